import Derived.Test.YtnlimcijgpaegaaSB
import Derived.Test.YtnlimcijgpaegaaSA

set_option linter.all false

namespace Go.Proofs.Ytnlimcijgpaegaa
open Go Go.Fw Bm
set_option maxRecDepth 20000
theorem fits_is (op:ByteArray) (l:List Rng):fitsB op l=(fitsR op l).isSome:=by
  unfold fitsB fitsR
  rcases El.ix_cases op with ⟨i,_,_,h1,h2⟩|⟨h1,h2⟩
  ·rw [h1,h2]
   simp only [Option.bind_some]
   show (decide (l.length=(El.psN i).length)&&fitA (El.psN i) l)=_
   cases (decide (l.length=(El.psN i).length)&&fitA (El.psN i) l)<;>rfl
  ·rw [h1,h2];rfl
theorem fitA_int:∀ {ps:List ByteArray} {l:List Rng},fitA ps l=true→l.length=ps.length→∀ r∈l,IntR r
  |[],[],_,_,r,hr=>by cases hr
  |[],_::_,_,h,_,_=>by cases h
  |_::_,[],_,h,_,_=>by cases h
  |p::ps,x::l,h,hl,r,hr=>by
   unfold fitA at h
   rw [List.zip_cons_cons,List.all_cons,Bool.and_eq_true,Bool.and_eq_true,decide_eq_true_eq,decide_eq_true_eq] at h
   obtain ⟨⟨h1,h2⟩,h3⟩:=h
   rcases List.mem_cons.1 hr with rfl|hr
   ·obtain ⟨h4,h5⟩:=h2
    have:fitR p=boolR∨fitR p=intsR:=by unfold fitR;split<;>simp
    rcases this with e|e<;>rw [e] at h4 h5<;>simp only [boolR,intsR] at h4 h5<;>exact ⟨by omega,h1,by omega⟩
   ·exact fitA_int h3 (by simpa using hl) r hr
def primV (op:ByteArray) (l:List Rng):AV:=match primR op l with
  |some r=> .tup [rgV r,.lit (.bool true)]
  |none=> .tup [rgV nilR,.lit (.bool false)]
theorem primV_none {op:ByteArray} {l:List Rng} (h:fitsR op l=none):primV op l= .tup [.agg [.lit (.int .i64 0),.lit (.int .i64 0)],.lit (.bool false)]:=by
  simp only [primV,primR,h];rfl
theorem primV_some {op:ByteArray} {l:List Rng} {i:Nat} (h:fitsR op l=some i):primV op l= .tup [rgV (rngV i l),.lit (.bool true)]:=by
  simp only [primV,primR,h];rfl
theorem fits_op {op:ByteArray} {l:List Rng} {i:Nat} (h:fitsR op l=some i):op=(El.rowsL.getD i default).op:=by
  obtain ⟨h1,_,_⟩:=fits_inv h
  rcases El.ix_cases op with ⟨j,_,e,h3,_⟩|⟨h3,_⟩
  ·rw [h1] at h3;cases h3;exact e
  ·rw [h1] at h3;cases h3
noncomputable def ecn27:ECon Try.prog where
  f:=27
  c:=fun args σ k=>match args with
   |[]=>k (.mp σ.length) (σ++[.map rangesM])
   |_=>False
  ok:=by
   intro args σ k h
   split at h
   ·exact ranges_ec h
   ·exact h.elim
  fk:=fk27
theorem ecn27_f:ecn27.f=27:=rfl
theorem ecn27_c {σ:List AObj} {k:AV→List AObj→Prop}:ecn27.c [] σ k=k (.mp σ.length) (σ++[.map rangesM]):=rfl
attribute [go_sem] ecn27_f ecn27_c
theorem keyT_s:keyT .string=true:=rfl
theorem zeroT79:(zeroT Try.prog 79).isSome=true:=by kernel_rfl
noncomputable def B7:Env:=envJ (P:=Try.prog) jkR zer (fun _=>false) (fun _=>false) [con26,con28,con62,con64,con65,con67,con68,con69,con70,con71,con72] [ecn27]
theorem B7_ok:EnvOk Try.prog B7:=envJOk zer_ok
theorem fnd_0:findA .string (.string ⟨#[97,100,100]⟩) rangesM=some (some (.fn (.func 62) [] [])):=by kernel_rfl
theorem fnd_1:findA .string (.string ⟨#[115,117,98]⟩) rangesM=some (some (.fn (.func 64) [] [])):=by kernel_rfl
theorem fnd_2:findA .string (.string ⟨#[109,117,108]⟩) rangesM=some (some (.fn (.func 65) [] [])):=by kernel_rfl
theorem fnd_3:findA .string (.string ⟨#[100,105,118]⟩) rangesM=some (none):=by kernel_rfl
theorem fnd_4:findA .string (.string ⟨#[109,111,100]⟩) rangesM=some (some (.fn (.func 69) [] [])):=by kernel_rfl
theorem fnd_5:findA .string (.string ⟨#[109,105,110]⟩) rangesM=some (some (.fn (.func 67) [] [])):=by kernel_rfl
theorem fnd_6:findA .string (.string ⟨#[109,97,120]⟩) rangesM=some (some (.fn (.func 68) [] [])):=by kernel_rfl
theorem fnd_7:findA .string (.string ⟨#[110,101,103]⟩) rangesM=some (none):=by kernel_rfl
theorem fnd_8:findA .string (.string ⟨#[97,98,115]⟩) rangesM=some (none):=by kernel_rfl
theorem fnd_9:findA .string (.string ⟨#[115,105,103,110]⟩) rangesM=some (some (.fn (.func 70) [] [])):=by kernel_rfl
theorem fnd_10:findA .string (.string ⟨#[108,116]⟩) rangesM=some (none):=by kernel_rfl
theorem fnd_11:findA .string (.string ⟨#[108,101]⟩) rangesM=some (none):=by kernel_rfl
theorem fnd_12:findA .string (.string ⟨#[103,116]⟩) rangesM=some (none):=by kernel_rfl
theorem fnd_13:findA .string (.string ⟨#[103,101]⟩) rangesM=some (none):=by kernel_rfl
theorem fnd_14:findA .string (.string ⟨#[101,113]⟩) rangesM=some (none):=by kernel_rfl
theorem fnd_15:findA .string (.string ⟨#[110,101]⟩) rangesM=some (none):=by kernel_rfl
theorem fnd_16:findA .string (.string ⟨#[97,110,100]⟩) rangesM=some (none):=by kernel_rfl
theorem fnd_17:findA .string (.string ⟨#[111,114]⟩) rangesM=some (none):=by kernel_rfl
theorem fnd_18:findA .string (.string ⟨#[120,111,114]⟩) rangesM=some (none):=by kernel_rfl
theorem fnd_19:findA .string (.string ⟨#[110,111,116]⟩) rangesM=some (none):=by kernel_rfl
theorem fnd_20:findA .string (.string ⟨#[115,101,108,101,99,116]⟩) rangesM=some (some (.fn (.func 72) [] [])):=by kernel_rfl
theorem fnd_21:findA .string (.string ⟨#[116,111,105,110,116]⟩) rangesM=some (some (.fn (.func 71) [] [])):=by kernel_rfl
set_option maxHeartbeats 8000000 in
theorem prim_pc {op:ByteArray} {l:List Rng} (hl:l.length≤1000000):PC Try.prog 10 [.lit (.string op),.sl false 2 (rgsV l)] (primV op l):=by
  have hb:=fits_is op l
  cases hF:fitsR op l with
  |none=>
   rw [hF] at hb
   rw [primV_none hF]
   have hb':fitsB op l=false:=hb
   refine pcR B7_ok (kp10) Try.func10 [.cell 4 29,.tmp 5] (h:=fun KF=>?_)
   unfold B7
   repeat' (first
    |(with_reducible first|refine nx ?_|refine t_seq fun K=>?_|refine t_br (fun hc=>?_) fun hc=>?_|refine t_bx ?_|apply And.intro|intro vr)
    |((with_reducible first|refine ny ?_|refine t_dwh (h:=fun K KL=>?_));intros;simp only [go_sem,kp10,geff,hb',Bool.not_false]))
   all_goals try exact nd
   all_goals (refine nl ?_;simp only [go_sem])
   exact LeA.refl _
  |some i=>
   rw [hF] at hb
   have hb':fitsB op l=true:=hb
   obtain ⟨_,h2,h3⟩:=fits_inv hF
   have hop:=fits_op hF
   have hI:=fitA_int h3 h2
   rw [primV_some hF]
   clear hb hF h3
   rcases rng_ix (row_lt (by assumption)) with rfl|rfl|rfl|rfl|rfl|rfl|rfl|rfl|rfl|rfl|rfl|rfl|rfl|rfl|rfl|rfl|rfl|rfl|rfl|rfl|rfl|rfl
   ·obtain rfl:op=⟨#[97,100,100]⟩:=hop
    obtain ⟨a,b,rfl⟩:=len2L (show l.length=2 from h2)
    have ia:=hI a (by simp)
    have ib:=hI b (by simp)
    refine pcR B7_ok (kp10) Try.func10 [.cell 4 29,.tmp 5] (h:=fun KF=>?_)
    unfold B7
    repeat' (first
     |(with_reducible first|refine nx ?_|refine t_seq fun K=>?_|refine t_br (fun hc=>?_) fun hc=>?_|refine t_bx ?_|apply And.intro|intro vr)
     |((with_reducible first|refine ny ?_|refine t_dwh (h:=fun K KL=>?_));intros;simp only [go_sem,kp10,geff,hb',fnd_0,und81,und9,keyT_s,zeroT79,Bool.not_true]))
    all_goals try exact nd
    all_goals (refine nl ?_;simp only [go_sem])
    exact LeA.refl _
   ·obtain rfl:op=⟨#[115,117,98]⟩:=hop
    obtain ⟨a,b,rfl⟩:=len2L (show l.length=2 from h2)
    have ia:=hI a (by simp)
    have ib:=hI b (by simp)
    refine pcR B7_ok (kp10) Try.func10 [.cell 4 29,.tmp 5] (h:=fun KF=>?_)
    unfold B7
    repeat' (first
     |(with_reducible first|refine nx ?_|refine t_seq fun K=>?_|refine t_br (fun hc=>?_) fun hc=>?_|refine t_bx ?_|apply And.intro|intro vr)
     |((with_reducible first|refine ny ?_|refine t_dwh (h:=fun K KL=>?_));intros;simp only [go_sem,kp10,geff,hb',fnd_1,und81,und9,keyT_s,zeroT79,Bool.not_true]))
    all_goals try exact nd
    all_goals (refine nl ?_;simp only [go_sem])
    exact LeA.refl _
   ·obtain rfl:op=⟨#[109,117,108]⟩:=hop
    obtain ⟨a,b,rfl⟩:=len2L (show l.length=2 from h2)
    have ia:=hI a (by simp)
    have ib:=hI b (by simp)
    refine pcR B7_ok (kp10) Try.func10 [.cell 4 29,.tmp 5] (h:=fun KF=>?_)
    unfold B7
    repeat' (first
     |(with_reducible first|refine nx ?_|refine t_seq fun K=>?_|refine t_br (fun hc=>?_) fun hc=>?_|refine t_bx ?_|apply And.intro|intro vr)
     |((with_reducible first|refine ny ?_|refine t_dwh (h:=fun K KL=>?_));intros;simp only [go_sem,kp10,geff,hb',fnd_2,und81,und9,keyT_s,zeroT79,Bool.not_true]))
    all_goals try exact nd
    all_goals (refine nl ?_;simp only [go_sem])
    exact LeA.refl _
   ·obtain rfl:op=⟨#[100,105,118]⟩:=hop
    obtain ⟨a,b,rfl⟩:=len2L (show l.length=2 from h2)
    have ia:=hI a (by simp)
    have ib:=hI b (by simp)
    have hw:rngV 3 [a,b]=wideR ⟨#[100,105,118]⟩:=rfl
    rw [hw]
    refine pcR B7_ok (kp10) Try.func10 [.cell 4 29,.tmp 5] (h:=fun KF=>?_)
    unfold B7
    repeat' (first
     |(with_reducible first|refine nx ?_|refine t_seq fun K=>?_|refine t_br (fun hc=>?_) fun hc=>?_|refine t_bx ?_|apply And.intro|intro vr)
     |((with_reducible first|refine ny ?_|refine t_dwh (h:=fun K KL=>?_));intros;simp only [go_sem,kp10,geff,hb',fnd_3,und81,und9,keyT_s,zeroT79,Bool.not_true]))
    all_goals try exact nd
    all_goals (refine nl ?_;simp only [go_sem])
    exact LeA.refl _
   ·obtain rfl:op=⟨#[109,111,100]⟩:=hop
    obtain ⟨a,b,rfl⟩:=len2L (show l.length=2 from h2)
    have ia:=hI a (by simp)
    have ib:=hI b (by simp)
    refine pcR B7_ok (kp10) Try.func10 [.cell 4 29,.tmp 5] (h:=fun KF=>?_)
    unfold B7
    repeat' (first
     |(with_reducible first|refine nx ?_|refine t_seq fun K=>?_|refine t_br (fun hc=>?_) fun hc=>?_|refine t_bx ?_|apply And.intro|intro vr)
     |((with_reducible first|refine ny ?_|refine t_dwh (h:=fun K KL=>?_));intros;simp only [go_sem,kp10,geff,hb',fnd_4,und81,und9,keyT_s,zeroT79,Bool.not_true]))
    all_goals try exact nd
    all_goals (refine nl ?_;simp only [go_sem])
    exact LeA.refl _
   ·obtain rfl:op=⟨#[109,105,110]⟩:=hop
    obtain ⟨a,b,rfl⟩:=len2L (show l.length=2 from h2)
    have ia:=hI a (by simp)
    have ib:=hI b (by simp)
    refine pcR B7_ok (kp10) Try.func10 [.cell 4 29,.tmp 5] (h:=fun KF=>?_)
    unfold B7
    repeat' (first
     |(with_reducible first|refine nx ?_|refine t_seq fun K=>?_|refine t_br (fun hc=>?_) fun hc=>?_|refine t_bx ?_|apply And.intro|intro vr)
     |((with_reducible first|refine ny ?_|refine t_dwh (h:=fun K KL=>?_));intros;simp only [go_sem,kp10,geff,hb',fnd_5,und81,und9,keyT_s,zeroT79,Bool.not_true]))
    all_goals try exact nd
    all_goals (refine nl ?_;simp only [go_sem])
    exact LeA.refl _
   ·obtain rfl:op=⟨#[109,97,120]⟩:=hop
    obtain ⟨a,b,rfl⟩:=len2L (show l.length=2 from h2)
    have ia:=hI a (by simp)
    have ib:=hI b (by simp)
    refine pcR B7_ok (kp10) Try.func10 [.cell 4 29,.tmp 5] (h:=fun KF=>?_)
    unfold B7
    repeat' (first
     |(with_reducible first|refine nx ?_|refine t_seq fun K=>?_|refine t_br (fun hc=>?_) fun hc=>?_|refine t_bx ?_|apply And.intro|intro vr)
     |((with_reducible first|refine ny ?_|refine t_dwh (h:=fun K KL=>?_));intros;simp only [go_sem,kp10,geff,hb',fnd_6,und81,und9,keyT_s,zeroT79,Bool.not_true]))
    all_goals try exact nd
    all_goals (refine nl ?_;simp only [go_sem])
    exact LeA.refl _
   ·obtain rfl:op=⟨#[110,101,103]⟩:=hop
    obtain ⟨a,rfl⟩:=len1L (show l.length=1 from h2)
    have ia:=hI a (by simp)
    have hw:rngV 7 [a]=wideR ⟨#[110,101,103]⟩:=rfl
    rw [hw]
    refine pcR B7_ok (kp10) Try.func10 [.cell 4 29,.tmp 5] (h:=fun KF=>?_)
    unfold B7
    repeat' (first
     |(with_reducible first|refine nx ?_|refine t_seq fun K=>?_|refine t_br (fun hc=>?_) fun hc=>?_|refine t_bx ?_|apply And.intro|intro vr)
     |((with_reducible first|refine ny ?_|refine t_dwh (h:=fun K KL=>?_));intros;simp only [go_sem,kp10,geff,hb',fnd_7,und81,und9,keyT_s,zeroT79,Bool.not_true]))
    all_goals try exact nd
    all_goals (refine nl ?_;simp only [go_sem])
    exact LeA.refl _
   ·obtain rfl:op=⟨#[97,98,115]⟩:=hop
    obtain ⟨a,rfl⟩:=len1L (show l.length=1 from h2)
    have ia:=hI a (by simp)
    have hw:rngV 8 [a]=wideR ⟨#[97,98,115]⟩:=rfl
    rw [hw]
    refine pcR B7_ok (kp10) Try.func10 [.cell 4 29,.tmp 5] (h:=fun KF=>?_)
    unfold B7
    repeat' (first
     |(with_reducible first|refine nx ?_|refine t_seq fun K=>?_|refine t_br (fun hc=>?_) fun hc=>?_|refine t_bx ?_|apply And.intro|intro vr)
     |((with_reducible first|refine ny ?_|refine t_dwh (h:=fun K KL=>?_));intros;simp only [go_sem,kp10,geff,hb',fnd_8,und81,und9,keyT_s,zeroT79,Bool.not_true]))
    all_goals try exact nd
    all_goals (refine nl ?_;simp only [go_sem])
    exact LeA.refl _
   ·obtain rfl:op=⟨#[115,105,103,110]⟩:=hop
    obtain ⟨a,rfl⟩:=len1L (show l.length=1 from h2)
    have ia:=hI a (by simp)
    refine pcR B7_ok (kp10) Try.func10 [.cell 4 29,.tmp 5] (h:=fun KF=>?_)
    unfold B7
    repeat' (first
     |(with_reducible first|refine nx ?_|refine t_seq fun K=>?_|refine t_br (fun hc=>?_) fun hc=>?_|refine t_bx ?_|apply And.intro|intro vr)
     |((with_reducible first|refine ny ?_|refine t_dwh (h:=fun K KL=>?_));intros;simp only [go_sem,kp10,geff,hb',fnd_9,und81,und9,keyT_s,zeroT79,Bool.not_true]))
    all_goals try exact nd
    all_goals (refine nl ?_;simp only [go_sem])
    exact LeA.refl _
   ·obtain rfl:op=⟨#[108,116]⟩:=hop
    obtain ⟨a,b,rfl⟩:=len2L (show l.length=2 from h2)
    have ia:=hI a (by simp)
    have ib:=hI b (by simp)
    have hw:rngV 10 [a,b]=wideR ⟨#[108,116]⟩:=rfl
    rw [hw]
    refine pcR B7_ok (kp10) Try.func10 [.cell 4 29,.tmp 5] (h:=fun KF=>?_)
    unfold B7
    repeat' (first
     |(with_reducible first|refine nx ?_|refine t_seq fun K=>?_|refine t_br (fun hc=>?_) fun hc=>?_|refine t_bx ?_|apply And.intro|intro vr)
     |((with_reducible first|refine ny ?_|refine t_dwh (h:=fun K KL=>?_));intros;simp only [go_sem,kp10,geff,hb',fnd_10,und81,und9,keyT_s,zeroT79,Bool.not_true]))
    all_goals try exact nd
    all_goals (refine nl ?_;simp only [go_sem])
    exact LeA.refl _
   ·obtain rfl:op=⟨#[108,101]⟩:=hop
    obtain ⟨a,b,rfl⟩:=len2L (show l.length=2 from h2)
    have ia:=hI a (by simp)
    have ib:=hI b (by simp)
    have hw:rngV 11 [a,b]=wideR ⟨#[108,101]⟩:=rfl
    rw [hw]
    refine pcR B7_ok (kp10) Try.func10 [.cell 4 29,.tmp 5] (h:=fun KF=>?_)
    unfold B7
    repeat' (first
     |(with_reducible first|refine nx ?_|refine t_seq fun K=>?_|refine t_br (fun hc=>?_) fun hc=>?_|refine t_bx ?_|apply And.intro|intro vr)
     |((with_reducible first|refine ny ?_|refine t_dwh (h:=fun K KL=>?_));intros;simp only [go_sem,kp10,geff,hb',fnd_11,und81,und9,keyT_s,zeroT79,Bool.not_true]))
    all_goals try exact nd
    all_goals (refine nl ?_;simp only [go_sem])
    exact LeA.refl _
   ·obtain rfl:op=⟨#[103,116]⟩:=hop
    obtain ⟨a,b,rfl⟩:=len2L (show l.length=2 from h2)
    have ia:=hI a (by simp)
    have ib:=hI b (by simp)
    have hw:rngV 12 [a,b]=wideR ⟨#[103,116]⟩:=rfl
    rw [hw]
    refine pcR B7_ok (kp10) Try.func10 [.cell 4 29,.tmp 5] (h:=fun KF=>?_)
    unfold B7
    repeat' (first
     |(with_reducible first|refine nx ?_|refine t_seq fun K=>?_|refine t_br (fun hc=>?_) fun hc=>?_|refine t_bx ?_|apply And.intro|intro vr)
     |((with_reducible first|refine ny ?_|refine t_dwh (h:=fun K KL=>?_));intros;simp only [go_sem,kp10,geff,hb',fnd_12,und81,und9,keyT_s,zeroT79,Bool.not_true]))
    all_goals try exact nd
    all_goals (refine nl ?_;simp only [go_sem])
    exact LeA.refl _
   ·obtain rfl:op=⟨#[103,101]⟩:=hop
    obtain ⟨a,b,rfl⟩:=len2L (show l.length=2 from h2)
    have ia:=hI a (by simp)
    have ib:=hI b (by simp)
    have hw:rngV 13 [a,b]=wideR ⟨#[103,101]⟩:=rfl
    rw [hw]
    refine pcR B7_ok (kp10) Try.func10 [.cell 4 29,.tmp 5] (h:=fun KF=>?_)
    unfold B7
    repeat' (first
     |(with_reducible first|refine nx ?_|refine t_seq fun K=>?_|refine t_br (fun hc=>?_) fun hc=>?_|refine t_bx ?_|apply And.intro|intro vr)
     |((with_reducible first|refine ny ?_|refine t_dwh (h:=fun K KL=>?_));intros;simp only [go_sem,kp10,geff,hb',fnd_13,und81,und9,keyT_s,zeroT79,Bool.not_true]))
    all_goals try exact nd
    all_goals (refine nl ?_;simp only [go_sem])
    exact LeA.refl _
   ·obtain rfl:op=⟨#[101,113]⟩:=hop
    obtain ⟨a,b,rfl⟩:=len2L (show l.length=2 from h2)
    have ia:=hI a (by simp)
    have ib:=hI b (by simp)
    have hw:rngV 14 [a,b]=wideR ⟨#[101,113]⟩:=rfl
    rw [hw]
    refine pcR B7_ok (kp10) Try.func10 [.cell 4 29,.tmp 5] (h:=fun KF=>?_)
    unfold B7
    repeat' (first
     |(with_reducible first|refine nx ?_|refine t_seq fun K=>?_|refine t_br (fun hc=>?_) fun hc=>?_|refine t_bx ?_|apply And.intro|intro vr)
     |((with_reducible first|refine ny ?_|refine t_dwh (h:=fun K KL=>?_));intros;simp only [go_sem,kp10,geff,hb',fnd_14,und81,und9,keyT_s,zeroT79,Bool.not_true]))
    all_goals try exact nd
    all_goals (refine nl ?_;simp only [go_sem])
    exact LeA.refl _
   ·obtain rfl:op=⟨#[110,101]⟩:=hop
    obtain ⟨a,b,rfl⟩:=len2L (show l.length=2 from h2)
    have ia:=hI a (by simp)
    have ib:=hI b (by simp)
    have hw:rngV 15 [a,b]=wideR ⟨#[110,101]⟩:=rfl
    rw [hw]
    refine pcR B7_ok (kp10) Try.func10 [.cell 4 29,.tmp 5] (h:=fun KF=>?_)
    unfold B7
    repeat' (first
     |(with_reducible first|refine nx ?_|refine t_seq fun K=>?_|refine t_br (fun hc=>?_) fun hc=>?_|refine t_bx ?_|apply And.intro|intro vr)
     |((with_reducible first|refine ny ?_|refine t_dwh (h:=fun K KL=>?_));intros;simp only [go_sem,kp10,geff,hb',fnd_15,und81,und9,keyT_s,zeroT79,Bool.not_true]))
    all_goals try exact nd
    all_goals (refine nl ?_;simp only [go_sem])
    exact LeA.refl _
   ·obtain rfl:op=⟨#[97,110,100]⟩:=hop
    obtain ⟨a,b,rfl⟩:=len2L (show l.length=2 from h2)
    have ia:=hI a (by simp)
    have ib:=hI b (by simp)
    have hw:rngV 16 [a,b]=wideR ⟨#[97,110,100]⟩:=rfl
    rw [hw]
    refine pcR B7_ok (kp10) Try.func10 [.cell 4 29,.tmp 5] (h:=fun KF=>?_)
    unfold B7
    repeat' (first
     |(with_reducible first|refine nx ?_|refine t_seq fun K=>?_|refine t_br (fun hc=>?_) fun hc=>?_|refine t_bx ?_|apply And.intro|intro vr)
     |((with_reducible first|refine ny ?_|refine t_dwh (h:=fun K KL=>?_));intros;simp only [go_sem,kp10,geff,hb',fnd_16,und81,und9,keyT_s,zeroT79,Bool.not_true]))
    all_goals try exact nd
    all_goals (refine nl ?_;simp only [go_sem])
    exact LeA.refl _
   ·obtain rfl:op=⟨#[111,114]⟩:=hop
    obtain ⟨a,b,rfl⟩:=len2L (show l.length=2 from h2)
    have ia:=hI a (by simp)
    have ib:=hI b (by simp)
    have hw:rngV 17 [a,b]=wideR ⟨#[111,114]⟩:=rfl
    rw [hw]
    refine pcR B7_ok (kp10) Try.func10 [.cell 4 29,.tmp 5] (h:=fun KF=>?_)
    unfold B7
    repeat' (first
     |(with_reducible first|refine nx ?_|refine t_seq fun K=>?_|refine t_br (fun hc=>?_) fun hc=>?_|refine t_bx ?_|apply And.intro|intro vr)
     |((with_reducible first|refine ny ?_|refine t_dwh (h:=fun K KL=>?_));intros;simp only [go_sem,kp10,geff,hb',fnd_17,und81,und9,keyT_s,zeroT79,Bool.not_true]))
    all_goals try exact nd
    all_goals (refine nl ?_;simp only [go_sem])
    exact LeA.refl _
   ·obtain rfl:op=⟨#[120,111,114]⟩:=hop
    obtain ⟨a,b,rfl⟩:=len2L (show l.length=2 from h2)
    have ia:=hI a (by simp)
    have ib:=hI b (by simp)
    have hw:rngV 18 [a,b]=wideR ⟨#[120,111,114]⟩:=rfl
    rw [hw]
    refine pcR B7_ok (kp10) Try.func10 [.cell 4 29,.tmp 5] (h:=fun KF=>?_)
    unfold B7
    repeat' (first
     |(with_reducible first|refine nx ?_|refine t_seq fun K=>?_|refine t_br (fun hc=>?_) fun hc=>?_|refine t_bx ?_|apply And.intro|intro vr)
     |((with_reducible first|refine ny ?_|refine t_dwh (h:=fun K KL=>?_));intros;simp only [go_sem,kp10,geff,hb',fnd_18,und81,und9,keyT_s,zeroT79,Bool.not_true]))
    all_goals try exact nd
    all_goals (refine nl ?_;simp only [go_sem])
    exact LeA.refl _
   ·obtain rfl:op=⟨#[110,111,116]⟩:=hop
    obtain ⟨a,rfl⟩:=len1L (show l.length=1 from h2)
    have ia:=hI a (by simp)
    have hw:rngV 19 [a]=wideR ⟨#[110,111,116]⟩:=rfl
    rw [hw]
    refine pcR B7_ok (kp10) Try.func10 [.cell 4 29,.tmp 5] (h:=fun KF=>?_)
    unfold B7
    repeat' (first
     |(with_reducible first|refine nx ?_|refine t_seq fun K=>?_|refine t_br (fun hc=>?_) fun hc=>?_|refine t_bx ?_|apply And.intro|intro vr)
     |((with_reducible first|refine ny ?_|refine t_dwh (h:=fun K KL=>?_));intros;simp only [go_sem,kp10,geff,hb',fnd_19,und81,und9,keyT_s,zeroT79,Bool.not_true]))
    all_goals try exact nd
    all_goals (refine nl ?_;simp only [go_sem])
    exact LeA.refl _
   ·obtain rfl:op=⟨#[115,101,108,101,99,116]⟩:=hop
    obtain ⟨a,b,c,rfl⟩:=len3L (show l.length=3 from h2)
    have ia:=hI a (by simp)
    have ib:=hI b (by simp)
    have ic:=hI c (by simp)
    refine pcR B7_ok (kp10) Try.func10 [.cell 4 29,.tmp 5] (h:=fun KF=>?_)
    unfold B7
    repeat' (first
     |(with_reducible first|refine nx ?_|refine t_seq fun K=>?_|refine t_br (fun hc=>?_) fun hc=>?_|refine t_bx ?_|apply And.intro|intro vr)
     |((with_reducible first|refine ny ?_|refine t_dwh (h:=fun K KL=>?_));intros;simp only [go_sem,kp10,geff,hb',fnd_20,und81,und9,keyT_s,zeroT79,Bool.not_true]))
    all_goals try exact nd
    all_goals (refine nl ?_;simp only [go_sem])
    exact LeA.refl _
   ·obtain rfl:op=⟨#[116,111,105,110,116]⟩:=hop
    obtain ⟨a,rfl⟩:=len1L (show l.length=1 from h2)
    have ia:=hI a (by simp)
    refine pcR B7_ok (kp10) Try.func10 [.cell 4 29,.tmp 5] (h:=fun KF=>?_)
    unfold B7
    repeat' (first
     |(with_reducible first|refine nx ?_|refine t_seq fun K=>?_|refine t_br (fun hc=>?_) fun hc=>?_|refine t_bx ?_|apply And.intro|intro vr)
     |((with_reducible first|refine ny ?_|refine t_dwh (h:=fun K KL=>?_));intros;simp only [go_sem,kp10,geff,hb',fnd_21,und81,und9,keyT_s,zeroT79,Bool.not_true]))
    all_goals try exact nd
    all_goals (refine nl ?_;simp only [go_sem])
    exact LeA.refl _
noncomputable def con10:PCon Try.prog where
  f:=10
  c:=fun
   |[.lit (.string p),xl]=>match rngsOf xl with|some l=>some (l.length≤1000000,primV p l)|_=>none
   |_=>none
  ok:=by
   intro args p r hc hp
   split at hc
   ·split at hc
    ·rename_i hl
     cases hc
     exact PC.weak (prim_pc hp) ⟨LeA.refl _,rngsOf_le hl,trivial⟩
    ·cases hc
   ·cases hc
  fk:=fk10
theorem con10_f:con10.f=10:=rfl
theorem con10_c {p:ByteArray} {xl:AV}:con10.c [.lit (.string p),xl]=match rngsOf xl with|some l=>some (l.length≤1000000,primV p l)|_=>none:=rfl
end Go.Proofs.Ytnlimcijgpaegaa

namespace Go.Proofs.Ytnlimcijgpaegaa
open Go Go.Fw Bm
set_option maxRecDepth 20000
theorem intsR_lo:intsR.lo= -2147483648:=rfl
theorem intsR_hi:intsR.hi=2147483647:=rfl
theorem machR_lo:machR.lo= -1099511627776:=rfl
theorem machR_hi:machR.hi=1099511627776:=rfl
theorem boolR_lo:boolR.lo=0:=rfl
theorem boolR_hi:boolR.hi=1:=rfl
theorem nilR_lo:nilR.lo=0:=rfl
theorem nilR_hi:nilR.hi=0:=rfl
attribute [go_sem] intsR_lo intsR_hi machR_lo machR_hi boolR_lo boolR_hi nilR_lo nilR_hi
end Go.Proofs.Ytnlimcijgpaegaa

namespace Go.Proofs.Ytnlimcijgpaegaa
open Go Go.Fw Bm
set_option maxRecDepth 20000
theorem rgsV_set (l:List Rng) (i:Nat) (a b:Int):(rgsV l).set i (.agg [.lit (.int .i64 a),.lit (.int .i64 b)])=rgsV (l.set i ⟨a,b⟩):=by simp [rgsV,rgV]
theorem rgsV_nil {l:List Rng} (h:rgsV l=[]):l=[]:=by cases l with
  |nil=>rfl
  |cons x l=>cases h
attribute [go_sem] rgsV_set
theorem rclone_pc {l:List Rng} (hl:l.length≤1000000):PC Try.prog 86 [.sl false 2 (rgsV l)] (.sl false 2 (rgsV l)):=by
  refine pcR B6_ok (kp86) Try.func86 [.tmp 2] (h:=fun KF=>?_)
  unfold B6
  repeat' (first
   |(with_reducible first|refine nx ?_|refine t_seq fun K=>?_|refine t_br (fun hc=>?_) fun hc=>?_|refine t_bx ?_|apply And.intro|intro vr)
   |((with_reducible first|refine ny ?_|refine t_dwh (h:=fun K KL=>?_));intros;simp only [go_sem,kp86,geff]))
  all_goals try exact nd
  ·skip
   all_goals (refine nl ?_;simp only [go_sem])
   rw [show rgsV l=[] from by assumption]
   exact LeA.nil false 2
  ·skip
   all_goals (refine nl ?_;simp only [go_sem])
   exact LeA.refl _
noncomputable def con86:PCon Try.prog where
  f:=86
  c:=fun
   |[xl]=>match rngsOf xl with|some l=>some (l.length≤1000000,.sl false 2 (rgsV l))|_=>none
   |_=>none
  ok:=by
   intro args p r hc hp
   split at hc
   ·split at hc
    ·rename_i hl
     cases hc
     exact PC.weak (rclone_pc hp) ⟨rngsOf_le hl,trivial⟩
    ·cases hc
   ·cases hc
  fk:=fk86
theorem con86_f:con86.f=86:=rfl
theorem con86_c {xl:AV}:con86.c [xl]=match rngsOf xl with|some l=>some (l.length≤1000000,.sl false 2 (rgsV l))|_=>none:=rfl
theorem rclone_ec {σ:List AObj} {l:List Rng} {k:AV→List AObj→Prop} (hl:l.length≤1000000) (hk:k (.arr σ.length 0) (σ++[.arr 29 2 (rgsV l) 0 false])):EC Try.prog 86 [.sl false 2 (rgsV l)] σ k:=by
  refine EC.nilArr 29 2 ?_
  refine ecR B6_ok (kp86) Try.func86 [.tmp 2] (h:=fun KF=>?_)
  unfold B6
  repeat' (first
   |(with_reducible first|refine nx ?_|refine t_seq fun K=>?_|refine t_br (fun hc=>?_) fun hc=>?_|refine t_bx ?_|apply And.intro|intro vr)
   |((with_reducible first|refine ny ?_|refine t_dwh (h:=fun K KL=>?_));intros;simp only [go_sem,kp86,geff]))
  all_goals try exact nd
  all_goals (refine nl ?_;simp only [go_sem])
  ·exact .inr (by simp_all)
  ·exact .inl hk
noncomputable def ecn86:ECon Try.prog where
  f:=86
  c:=fun args σ k=>match args with
   |[xl]=>match rngsOf xl with|some l=>l.length≤1000000∧k (.arr σ.length 0) (σ++[.arr 29 2 (rgsV l) 0 false])|_=>False
   |_=>False
  ok:=by
   intro args σ k h
   split at h
   ·split at h
    ·rename_i hl
     exact EC.weak (rclone_ec h.1 h.2) (LeRL.cons (rngsOf_leR hl) (LeRL.nil))
    ·exact h.elim
   ·exact h.elim
  fk:=fk86
theorem ecn86_f:ecn86.f=86:=rfl
theorem ecn86_c {xl:AV} {σ:List AObj} {k:AV→List AObj→Prop}:ecn86.c [xl] σ k=match rngsOf xl with|some l=>l.length≤1000000∧k (.arr σ.length 0) (σ++[.arr 29 2 (rgsV l) 0 false])|_=>False:=rfl
attribute [go_sem] con86_f con86_c ecn86_f ecn86_c
noncomputable def B9:Env:=envJ (P:=Try.prog) jkR zer (fun _=>false) (fun _=>false) [] [ecn86]
theorem B9_ok:EnvOk Try.prog B9:=envJOk zer_ok
theorem with_pc {l:List Rng} {i:Int} {r:Rng} (h:l.length≤1000000∧0≤i∧i<l.length):PC Try.prog 90 [.sl false 2 (rgsV l),.lit (.int .i64 i),rgV r] (.sl false 2 (rgsV (withR l i r))):=by
  obtain ⟨hl,h0,h1⟩:=h
  obtain ⟨r,r'⟩:=r
  obtain ⟨n,rfl⟩:∃ n:Nat,i=n:=⟨i.toNat,by omega⟩
  unfold withR
  simp only [rgV_mk]
  refine pcR B9_ok (kp90) Try.func90 [.tmp 6] (h:=fun KF=>?_)
  unfold B9
  repeat' (first
   |(with_reducible first|refine nx ?_|refine t_seq fun K=>?_|refine t_br (fun hc=>?_) fun hc=>?_|refine t_bx ?_|apply And.intro|intro vr)
   |((with_reducible first|refine ny ?_|refine t_dwh (h:=fun K KL=>?_));intros;simp only [go_sem,kp90,geff,Int.toNat_natCast]))
  all_goals try exact nd
  all_goals (refine nl ?_;simp only [go_sem])
  exact LeA.refl _
noncomputable def con90:PCon Try.prog where
  f:=90
  c:=fun
   |[xl,.lit (.int .i64 i),xr]=>match rngsOf xl,rngOf xr with|some l,some r=>some ((l.length≤1000000∧0≤i∧i<l.length),.sl false 2 (rgsV (withR l i r)))|_,_=>none
   |_=>none
  ok:=by
   intro args p r hc hp
   split at hc
   ·split at hc
    ·rename_i hl hr
     cases hc
     exact PC.weak (with_pc hp) ⟨rngsOf_le hl,LeA.refl _,rngOf_le hr,trivial⟩
    ·cases hc
   ·cases hc
  fk:=fk90
theorem con90_f:con90.f=90:=rfl
theorem con90_c {xl:AV} {i:Int} {xr:AV}:con90.c [xl,.lit (.int .i64 i),xr]=match rngsOf xl,rngOf xr with|some l,some r=>some ((l.length≤1000000∧0≤i∧i<l.length),.sl false 2 (rgsV (withR l i r)))|_,_=>none:=rfl
noncomputable def B10:Env:=envJ (P:=Try.prog) jkR zer (fun _=>false) (fun _=>false) [con60,con61,con84] []
theorem B10_ok:EnvOk Try.prog B10:=envJOk zer_ok
def wid3:List Rng:=[⟨0,1⟩,⟨-1,1⟩,⟨-2147483648,2147483647⟩]
theorem wid3_len:wid3.length=3:=rfl
def widF (r:Rng):List Rng→Rng
  |[]=>machR
  |x::l=>if r.within x then x else widF r l
theorem widF_eq (r:Rng):widF r wid3=widenR r:=rfl
set_option maxHeartbeats 4000000 in
theorem widened_pc {r:Rng}:PC Try.prog 143 [rgV r] (rgV (widenR r)):=by
  have h3:([.agg [.lit (.int .i64 0),.lit (.int .i64 1)],.agg [.lit (.int .i64 (-1)),.lit (.int .i64 1)],.agg [.lit (.int .i64 (-2147483648)),.lit (.int .i64 2147483647)]]:List AV)=rgsV wid3:=rfl
  rw [←widF_eq]
  generalize hR:widF r wid3=R
  obtain ⟨r,r'⟩:=r
  simp only [rgV_mk]
  refine pcR B10_ok (kp143) Try.func143 [.cell 2 29] (h:=fun KF=>?_)
  unfold B10
  repeat' (first
   |(with_reducible first|refine nx ?_|refine t_seq fun K=>?_|refine t_br (fun hc=>?_) fun hc=>?_|refine t_bx ?_|apply And.intro|intro vr)
   |((with_reducible first|refine ny ?_|refine t_dwh (h:=fun K KL=>?_));intros;simp only [go_sem,kp143,geff,h3]))
  all_goals try exact nd
  refine t_loopF (ι:={i:Nat // i≤3∧widF ⟨r,r'⟩ (wid3.drop i)=R}) (fun i=>[(10,.lit (.int .i64 i.1))]) (fun i=>[.box 29 [.lit (.int .i64 r),.lit (.int .i64 r')],.box 29 [.lit (.int .i64 0),.lit (.int .i64 0)]]) (fun i=>3 - i.1) ⟨0,by omega,hR⟩ ?_ ?_
  ·exact lf
  rintro ⟨i,hi,hF⟩ K0
  rcases Nat.lt_or_ge i 3 with hc|hc
  ·have g3:decide ((i:Int)<(wid3.length:Int))=true:=decide_eq_true (by rw [wid3_len];omega)
   rw [drop_getR (show i<wid3.length by rw [wid3_len];exact hc),widF] at hF
   have hwl:=wid3_len
   generalize hx:wid3.getD i nilR=x at hF
   obtain ⟨x,x'⟩:=x
   by_cases hw:Rng.within ⟨r,r'⟩ ⟨x,x'⟩
   ·rw [if_pos hw] at hF
    have hd:=decide_eq_true hw
    repeat' (first
     |(with_reducible first|refine nx ?_|refine t_seq fun K=>?_|refine t_br (fun hc=>?_) fun hc=>?_|refine t_bx ?_|apply And.intro|intro vr)
     |((with_reducible first|refine ny ?_|refine t_dwh (h:=fun K KL=>?_));intros;simp only [go_sem,kp143,geff,g3,hx,hd,Int.toNat_natCast,yes]))
    all_goals try exact nd
    all_goals (refine nl ?_;simp only [go_sem])
    exact LeA.of_eq (by rw [←hF])
   ·rw [if_neg hw] at hF
    have hd:=decide_eq_false hw
    repeat' (first
     |(with_reducible first|refine nx ?_|refine t_seq fun K=>?_|refine t_br (fun hc=>?_) fun hc=>?_|refine t_bx ?_|apply And.intro|intro vr)
     |((with_reducible first|refine ny ?_|refine t_dwh (h:=fun K KL=>?_));intros;simp only [go_sem,kp143,geff,g3,hx,hd,Int.toNat_natCast,yes]))
    all_goals try exact nd
    refine ⟨⟨i+1,by omega,hF⟩,by first|(simp only;omega)|omega,?_⟩
    try simp only [updL_nil,updL_cons,delF_top,delF_upd,Nat.reduceEqDiff,reduceIte]
    refine le_backM (by first|rfl|(simp only [go_sem];try rfl)) (by first|exact Nat.zero_le _|simp) (by first|rfl|simp [lowO,low_lit,low_sl,low_ref,low_arr,low_sub,low_mp]) ?_ ?_
    ·repeat' (first|exact low_top|(refine low_upd rfl ?_))
    repeat' (first|exact leF_top _|exact (fun _=>LeR.refl _)|(with_reducible refine leF_sl ?_ ?_)|(refine leF_upd ?_ ?_))
    all_goals (first|exact LeR.top _|exact LeR.refl _|(refine LeR.of_eq ?_;(try simp only [go_sem]);try rfl)|((try simp only [go_sem]);try rfl))
  ·have g3:decide ((i:Int)<(wid3.length:Int))=false:=decide_eq_false (by rw [wid3_len];omega)
   rw [List.drop_eq_nil_of_le (show wid3.length≤i by rw [wid3_len];omega),widF] at hF
   subst hF
   repeat' (first
    |(with_reducible first|refine nx ?_|refine t_seq fun K=>?_|refine t_br (fun hc=>?_) fun hc=>?_|refine t_bx ?_|apply And.intro|intro vr)
    |((with_reducible first|refine ny ?_|refine t_dwh (h:=fun K KL=>?_));intros;simp only [go_sem,kp143,geff,g3]))
   all_goals try exact nd
   all_goals (refine nl ?_;simp only [go_sem])
   exact LeA.refl _
noncomputable def con143:PCon Try.prog where
  f:=143
  c:=fun
   |[xr]=>match rngOf xr with|some r=>some (True,rgV (widenR r))|_=>none
   |_=>none
  ok:=by
   intro args p r hc hp
   split at hc
   ·split at hc
    ·rename_i hr
     cases hc
     exact PC.weak widened_pc ⟨rngOf_le hr,trivial⟩
    ·cases hc
   ·cases hc
  fk:=fk143
theorem con143_f:con143.f=143:=rfl
theorem con143_c {xr:AV}:con143.c [xr]=match rngOf xr with|some r=>some (True,rgV (widenR r))|_=>none:=rfl
attribute [go_sem] con90_f con90_c con143_f con143_c
theorem eq_dropR {s t:List Rng} {i:Nat} (hl:s.length=t.length) (h:i<s.length):decide (s.drop i=t.drop i)=(decide (s.getD i nilR=t.getD i nilR)&&decide (s.drop (i+1)=t.drop (i+1))):=by
  rw [drop_getR h,drop_getR (show i<t.length by omega)]
  rw [Bool.eq_iff_iff];simp
theorem dec_rng {a b c d:Int}:decide ((⟨a,b⟩:Rng)=⟨c,d⟩)=(a==c&&b==d):=by
  rw [Bool.eq_iff_iff];simp [Rng.mk.injEq]
set_option maxHeartbeats 4000000 in
theorem requal_pc {s t:List Rng} (h:s.length≤1000000∧s.length=t.length):PC Try.prog 120 [.sl false 2 (rgsV s),.sl false 2 (rgsV t)] (.lit (.bool (decide (s=t)))):=by
  obtain ⟨hs,hl⟩:=h
  generalize hR:decide (s=t)=R
  have h1:((s.length:Int) !=(t.length:Int))=false:=by simp [hl]
  refine pcR B6_ok (kp120) Try.func120 [.tmp 4] (h:=fun KF=>?_)
  unfold B6
  repeat' (first
   |(with_reducible first|refine nx ?_|refine t_seq fun K=>?_|refine t_br (fun hc=>?_) fun hc=>?_|refine t_bx ?_|apply And.intro|intro vr)
   |((with_reducible first|refine ny ?_|refine t_dwh (h:=fun K KL=>?_));intros;simp only [go_sem,kp120,geff,h1]))
  all_goals try exact nd
  refine t_loopF (ι:={i:Nat // i≤s.length∧decide (s.drop i=t.drop i)=R}) (fun i=>[(13,.lit (.int .i64 i.1))]) (fun i=>[]) (fun i=>s.length - i.1) ⟨0,by omega,hR⟩ ?_ ?_
  ·exact lf
  rintro ⟨i,hi,hF⟩ K0
  rcases Nat.lt_or_ge i s.length with hc|hc
  ·have g3:decide ((i:Int)<(s.length:Int))=true:=decide_eq_true (by omega)
   rw [eq_dropR hl hc] at hF
   generalize hx:s.getD i nilR=x at hF
   generalize hy:t.getD i nilR=y at hF
   obtain ⟨x,x'⟩:=x
   obtain ⟨y,y'⟩:=y
   rw [dec_rng] at hF
   cases hb:(x==y&&x'==y') with
   |true=>
    rw [hb,Bool.true_and] at hF
    repeat' (first
     |(with_reducible first|refine nx ?_|refine t_seq fun K=>?_|refine t_br (fun hc=>?_) fun hc=>?_|refine t_bx ?_|apply And.intro|intro vr)
     |((with_reducible first|refine ny ?_|refine t_dwh (h:=fun K KL=>?_));intros;simp only [go_sem,kp120,geff,g3,hx,hy,hb,Int.toNat_natCast,yes,Bool.not_true]))
    all_goals try exact nd
    exact ⟨⟨i+1,by omega,hF⟩,wf,lf⟩
   |false=>
    rw [hb,Bool.false_and] at hF
    repeat' (first
     |(with_reducible first|refine nx ?_|refine t_seq fun K=>?_|refine t_br (fun hc=>?_) fun hc=>?_|refine t_bx ?_|apply And.intro|intro vr)
     |((with_reducible first|refine ny ?_|refine t_dwh (h:=fun K KL=>?_));intros;simp only [go_sem,kp120,geff,g3,hx,hy,hb,Int.toNat_natCast,yes,Bool.not_false]))
    all_goals try exact nd
    all_goals (refine nl ?_;simp only [go_sem])
    exact LeA.of_eq (by rw [←hF])
  ·have g3:decide ((i:Int)<(s.length:Int))=false:=decide_eq_false (by omega)
   rw [List.drop_eq_nil_of_le hc,List.drop_eq_nil_of_le (show t.length≤i by omega)] at hF
   repeat' (first
    |(with_reducible first|refine nx ?_|refine t_seq fun K=>?_|refine t_br (fun hc=>?_) fun hc=>?_|refine t_bx ?_|apply And.intro|intro vr)
    |((with_reducible first|refine ny ?_|refine t_dwh (h:=fun K KL=>?_));intros;simp only [go_sem,kp120,geff,g3]))
   all_goals try exact nd
   all_goals (refine nl ?_;simp only [go_sem])
   exact LeA.of_eq (by rw [←hF];rfl)
noncomputable def con120:PCon Try.prog where
  f:=120
  c:=fun
   |[xs,xt]=>match rngsOf xs,rngsOf xt with|some s,some t=>some ((s.length≤1000000∧s.length=t.length),.lit (.bool (decide (s=t))))|_,_=>none
   |_=>none
  ok:=by
   intro args p r hc hp
   split at hc
   ·split at hc
    ·rename_i hs ht
     cases hc
     exact PC.weak (requal_pc hp) ⟨rngsOf_le hs,rngsOf_le ht,trivial⟩
    ·cases hc
   ·cases hc
  fk:=fk120
theorem con120_f:con120.f=120:=rfl
theorem con120_c {xs:AV} {xt:AV}:con120.c [xs,xt]=match rngsOf xs,rngsOf xt with|some s,some t=>some ((s.length≤1000000∧s.length=t.length),.lit (.bool (decide (s=t))))|_,_=>none:=rfl
noncomputable def B11:Env:=envJ (P:=Try.prog) jkR zer (fun _=>false) (fun _=>false) [con73] []
theorem B11_ok:EnvOk Try.prog B11:=envJOk zer_ok
theorem hullAt_ec {s t:List Rng} {i:Int} {ex:List AObj} {k:AV→List AObj→Prop} (h0:0≤i) (h1:i<s.length) (h2:i<t.length)
    (hk:k (rgV (hullR (gR s i) (gR t i))) (.box 26 [.sl false 2 (rgsV s)]:: .box 26 [.sl false 2 (rgsV t)]::ex)):
    EC Try.prog 142 [.lit (.int .i64 i),.ref 0 0,.ref 1 0] (.box 26 [.sl false 2 (rgsV s)]:: .box 26 [.sl false 2 (rgsV t)]::ex) k:=by
  refine ec_fin fun hbd=>?_
  obtain ⟨n,rfl⟩:∃ n:Nat,i=n:=⟨i.toNat,by omega⟩
  simp only [gR,Int.toNat_natCast] at hk
  refine ecR B11_ok (kp142) Try.func142 [.cell 4 29] (h:=fun KF=>?_)
  unfold B11
  repeat' (first
   |(with_reducible first|refine nx ?_|refine t_seq fun K=>?_|refine t_br (fun hc=>?_) fun hc=>?_|refine t_bx ?_|apply And.intro|intro vr)|exact kpd
   |((with_reducible first|refine ny ?_|refine t_kLF ?_ ?_|refine t_drawE (id:=1) (fun i=>i==0||i==1) [(0,1),(1,1),(2,1),(3,1),(4,1),(5,1),(6,1),(7,1),(8,1),(9,0)] (by kernel_rfl) fun K=>?_|refine t_dwh (h:=fun K KL=>?_));intros;simp only [go_sem,kp142,geff,Int.toNat_natCast,yes]))
  all_goals try exact nd
  all_goals (refine nl ?_;simp only [go_sem,finE])
  refine ⟨_,_,rfl,LeA.refl _,?_,Eq.mp (congrArg (k _) (by simp)) hk⟩
  simpa using hbd
end Go.Proofs.Ytnlimcijgpaegaa

namespace Go.Proofs.Ytnlimcijgpaegaa
open Go Go.Fw Bm
set_option maxRecDepth 20000
theorem mulBd2 {d a:Int} (hd: -1048576≤d∧d≤1048576) (ha: -1099511627776≤a∧a≤1099511627776): -1152921504606846976≤d*a∧d*a≤1152921504606846976:=by
  have h1:(d+1048576)*(a+1099511627776)≥0:=Int.mul_nonneg (by omega) (by omega)
  have h2:(1048576 - d)*(a+1099511627776)≥0:=Int.mul_nonneg (by omega) (by omega)
  have h3:(d+1048576)*(1099511627776 - a)≥0:=Int.mul_nonneg (by omega) (by omega)
  have h4:(1048576 - d)*(1099511627776 - a)≥0:=Int.mul_nonneg (by omega) (by omega)
  rw [Int.add_mul,Int.mul_add,Int.mul_add] at h1
  rw [Int.sub_mul,Int.mul_add,Int.mul_add] at h2
  rw [Int.add_mul,Int.mul_sub,Int.mul_sub] at h3
  rw [Int.sub_mul,Int.mul_sub,Int.mul_sub] at h4
  omega
theorem slK_l2 {b:Bool} {u v:Int}:slK .i64 (.sl b 1 [.lit (.int .i64 u),.lit (.int .i64 v)])=some [u,v]:=slK_sl (l:=[u,v])
noncomputable def C0:Env:=envJ (P:=Try.prog) jkR zer (fun _=>false) (fun _=>false) [con66] []
theorem C0_ok:EnvOk Try.prog C0:=envJOk zer_ok
structure SumOk (x:Ins) (s:List Rng):Prop where
  len:s.length≤1000000
  b:0≤x.b∧x.b<s.length
  c:0≤x.c∧x.c<s.length
  d: -1048576≤x.d∧x.d≤1048576
  rb:OkR (gR s x.b)
  rc:OkR (gR s x.c)
theorem okR_bd {r:Rng} (h:OkR r):(-1099511627776≤r.lo∧r.lo≤1099511627776)∧ -1099511627776≤r.hi∧r.hi≤1099511627776:=by
  obtain ⟨h1,h2,h3⟩:=h
  simp only [machR,maxC] at h2 h3
  omega
set_option maxHeartbeats 4000000 in
theorem sum_pc {x:Ins} {s:List Rng} (h:SumOk x s):PC Try.prog 83 [opV x,.sl false 2 (rgsV s)] (rgV (sumR x s)):=by
  obtain ⟨hl,hb,hc,hd,rb,rc⟩:=h
  obtain ⟨k,p,a,b,c,d⟩:=x
  simp only at hb hc hd rb rc
  have eS:sumR ⟨k,p,a,b,c,d⟩ s=⟨(gR s b).lo+mnL [d*(gR s c).lo,d*(gR s c).hi],(gR s b).hi+mxL [d*(gR s c).lo,d*(gR s c).hi]⟩:=rfl
  rw [eS]
  have gb:s.getD b.toNat nilR=gR s b:=rfl
  have gc:s.getD c.toNat nilR=gR s c:=rfl
  have bb:=okR_bd rb
  have bc:=okR_bd rc
  generalize gR s b=B at gb bb
  generalize gR s c=C at gc bc
  obtain ⟨B,B'⟩:=B
  obtain ⟨C,C'⟩:=C
  simp only at bb bc ⊢
  have m1:=mulBd2 hd bc.1
  have m2:=mulBd2 hd bc.2
  generalize hm:d*C=m at m1
  generalize hm':d*C'=m' at m2
  have n1:mnL [m,m']=minI m m':=rfl
  have n2:mxL [m,m']=maxI m m':=rfl
  have n3:=minI_le m m'
  have n4:=maxI_ge m m'
  simp only [opV]
  refine pcR C0_ok (kp83) Try.func83 [.cell 4 29] (h:=fun KF=>?_)
  unfold C0
  repeat' (first
   |(with_reducible first|refine nx ?_|refine t_seq fun K=>?_|refine t_br (fun hc=>?_) fun hc=>?_|refine t_bx ?_|apply And.intro|intro vr)
   |((with_reducible first|refine ny ?_);intros;simp only [go_sem,kp83,geff]))
  refine t_drawP ⟨upd (upd (upd (upd topF 6 (.ref 3 0)) 5 (.ref 2 0)) 4 (.ref 1 0)) 2 (.ref 0 0),[.box 73 [.lit (.int .i64 k),.lit (.string p),.lit (.int .i64 a),.lit (.int .i64 b),.lit (.int .i64 c),.lit (.int .i64 d)],.box 29 [.lit (.int .i64 0),.lit (.int .i64 0)],.box 29 [.lit (.int .i64 B),.lit (.int .i64 B')],.box 29 [.lit (.int .i64 C),.lit (.int .i64 C')]]⟩ (fun i=>i==0) [(0,1),(1,1),(2,1),(3,1),(4,1),(5,1),(6,1),(7,1),(8,1),(9,1)] [10,11] [(12,0),(13,0)] (by kernel_rfl) ?_ ?_
  ·skip
   repeat' (first
    |(with_reducible first|refine nx ?_|refine t_seq fun K=>?_|refine t_br (fun hc=>?_) fun hc=>?_|refine t_bx ?_|apply And.intro|intro vr)
    |((with_reducible first|refine ny ?_|refine t_dwh (h:=fun K KL=>?_));intros;simp only [go_sem,kp83,geff,slK_l2,hm,hm',n1,n2]))
   all_goals try exact nd
   all_goals (refine nl ?_;simp only [go_sem])
   exact LeA.refl _
  ·skip
   intro K
   simp only [pickO,pickG,List.getElem?_toArray,List.getElem?_cons_zero,List.getElem?_cons_succ,List.length_cons,List.length_nil,Nat.reduceAdd,lp_some]
   simp only [go_sem,pickO,pickG,geff,kp83,gb,gc]
   repeat' (first
    |(with_reducible first|refine nx ?_|refine t_seq fun K=>?_|refine t_br (fun hc=>?_) fun hc=>?_|refine t_bx ?_|apply And.intro|intro vr)|exact kpd
    |((with_reducible first|refine ny ?_|refine t_kLF ?_ ?_|refine t_kPE ?_ ?_|refine t_kPD ?_ ?_);intros;simp only [go_sem,kp83,geff,gb,gc]))
   all_goals try exact nd
   ·exact lg
   ·skip
    refine le_swap2 (τ:=[.box 73 [.lit (.int .i64 k),.lit (.string p),.lit (.int .i64 a),.lit (.int .i64 b),.lit (.int .i64 c),.lit (.int .i64 d)],.box 29 [.lit (.int .i64 0),.lit (.int .i64 0)]]) (by first|exact Nat.zero_le _|simp) (by first|assumption|exact bds_low (by first|rfl|simp [lowO,low_lit,low_sl,low_ref,low_arr,low_sub,low_mp])) rfl rfl ?_ ?_
    ·repeat' (first|exact flatF_top|(refine flatF_upd rfl ?_))
    simp only [renF_upd,renF_top,ren1,renA,renO,sw,List.map_cons,List.map_nil,List.length_cons,List.length_nil,Nat.reduceAdd,Nat.reduceEqDiff,reduceIte,List.cons_append,List.nil_append]
    exact lg
noncomputable def con83:PCon Try.prog where
  f:=83
  c:=fun
   |[xx,xs]=>match opOf xx,rngsOf xs with|some x,some s=>some (SumOk x s,rgV (sumR x s))|_,_=>none
   |_=>none
  ok:=by
   intro args p r hc hp
   split at hc
   ·split at hc
    ·rename_i hx hs
     cases hc
     exact PC.weak (sum_pc hp) ⟨opOf_le hx,rngsOf_le hs,trivial⟩
    ·cases hc
   ·cases hc
  fk:=fk83
theorem con83_f:con83.f=83:=rfl
theorem con83_c {xx:AV} {xs:AV}:con83.c [xx,xs]=match opOf xx,rngsOf xs with|some x,some s=>some (SumOk x s,rgV (sumR x s))|_,_=>none:=rfl
attribute [go_sem] con115_f con115_c con83_f con83_c
noncomputable def C1:Env:=envJ (P:=Try.prog) jkR zer (fun _=>false) (fun _=>false) [con115] []
theorem C1_ok:EnvOk Try.prog C1:=envJOk zer_ok
theorem rgsV_app (l:List Rng) (a b:Int):rgsV l++[.agg [.lit (.int .i64 a),.lit (.int .i64 b)]]=rgsV (l++[⟨a,b⟩]):=by simp [rgsV,rgV]
theorem take_map {M:List Int} {f:Int→Rng} {i:Nat} (h:i<M.length):(M.take i).map f++[f (M.getD i 0)]=(M.take (i+1)).map f:=by
  have e:M.take (i+1)=M.take i++[M.getD i 0]:=by
    rw [List.take_add_one,List.getElem?_eq_getElem h,List.getD_eq_getElem?_getD,List.getElem?_eq_getElem h];rfl
  rw [e,List.map_append];rfl
theorem reads_len (x:Ins):(readsS x).length≤3:=by obtain ⟨k,p,a,b,c,d⟩:=x;rw [reads_red,List.length_map];exact (redS_bd _).1
set_option maxHeartbeats 4000000 in
theorem picked_pc {x:Ins} {s:List Rng} (hl:s.length≤1000000) (hR:∀ n∈readsS x,0≤n∧n<s.length):PC Try.prog 85 [opV x,.sl false 2 (rgsV s)] (.sl false 2 (rgsV (pickedR x s))):=by
  have h3:=reads_len x
  unfold pickedR
  generalize hM:readsS x=M at hR h3
  obtain ⟨k,p,a,b,c,d⟩:=x
  simp only [opV]
  refine pcR C1_ok (kp85) Try.func85 [.tmp 4] (h:=fun KF=>?_)
  unfold C1
  repeat' (first
   |(with_reducible first|refine nx ?_|refine t_seq fun K=>?_|refine t_br (fun hc=>?_) fun hc=>?_|refine t_bx ?_|apply And.intro|intro vr)
   |((with_reducible first|refine ny ?_|refine t_dwh (h:=fun K KL=>?_));intros;simp only [go_sem,kp85,geff,hM]))
  all_goals try exact nd
  refine t_loopF (ι:={q:Nat×Nat // q.1≤M.length}) (fun i=>[(11,.lit (.int .i64 i.1.1)),(5,.arr 1 i.1.2)]) (fun i=>[.box 73 [.lit (.int .i64 k),.lit (.string p),.lit (.int .i64 a),.lit (.int .i64 b),.lit (.int .i64 c),.lit (.int .i64 d)],.arr 29 2 (rgsV ((M.take i.1.1).map (gR s))) i.1.2 false]) (fun i=>M.length - i.1.1) ⟨(0,0),by simp⟩ ?_ ?_
  ·refine (le_nil 5 29 2 rfl).trans ?_
   exact lf
  rintro ⟨⟨i,v⟩,hi⟩ K0
  simp only at hi
  rcases Nat.lt_or_ge i M.length with hc|hc
  ·have g3:decide ((i:Int)<(M.length:Int))=true:=decide_eq_true (by omega)
   have hm:=hR _ (mem_getD hc)
   have ht:=take_map (f:=gR s) hc
   have hln:(rgsV ((M.take i).map (gR s))).length=i:=by rw [rgsV_length,List.length_map,List.length_take];omega
   generalize hx:M.getD i 0=m at hm ht
   have gm:s.getD m.toNat nilR=gR s m:=rfl
   generalize gR s m=r at gm ht
   obtain ⟨r,r'⟩:=r
   repeat' (first
    |(with_reducible first|refine nx ?_|refine t_seq fun K=>?_|refine t_br (fun hc=>?_) fun hc=>?_|refine t_bx ?_|apply And.intro|intro vr)
    |((with_reducible first|refine ny ?_|refine t_dwh (h:=fun K KL=>?_));intros;simp only [go_sem,kp85,geff,g3,hx,gm,ht,hln,rgsV_app,ints_length,Int.toNat_natCast,yes]))
   all_goals try exact nd
   exact ⟨⟨(i+1,v+1),by simp only;omega⟩,wf,lf⟩
  ·have g3:decide ((i:Int)<(M.length:Int))=false:=decide_eq_false (by omega)
   have e:M.take i=M:=List.take_of_length_le hc
   repeat' (first
    |(with_reducible first|refine nx ?_|refine t_seq fun K=>?_|refine t_br (fun hc=>?_) fun hc=>?_|refine t_bx ?_|apply And.intro|intro vr)
    |((with_reducible first|refine ny ?_|refine t_dwh (h:=fun K KL=>?_));intros;simp only [go_sem,kp85,geff,g3,e,ints_length]))
   all_goals try exact nd
   all_goals (refine nl ?_;simp only [go_sem])
   exact LeA.refl _
theorem picked_pc2 {x:Ins} {s:List Rng} (h:s.length≤1000000∧∀ n∈readsS x,0≤n∧n<s.length):PC Try.prog 85 [opV x,.sl false 2 (rgsV s)] (.sl false 2 (rgsV (pickedR x s))):=picked_pc h.1 h.2
noncomputable def con85:PCon Try.prog where
  f:=85
  c:=fun
   |[xx,xs]=>match opOf xx,rngsOf xs with|some x,some s=>some ((s.length≤1000000∧∀ n∈readsS x,0≤n∧n<s.length),.sl false 2 (rgsV (pickedR x s)))|_,_=>none
   |_=>none
  ok:=by
   intro args p r hc hp
   split at hc
   ·split at hc
    ·rename_i hx hs
     cases hc
     exact PC.weak (picked_pc2 hp) ⟨opOf_le hx,rngsOf_le hs,trivial⟩
    ·cases hc
   ·cases hc
  fk:=fk85
theorem con85_f:con85.f=85:=rfl
theorem con85_c {xx:AV} {xs:AV}:con85.c [xx,xs]=match opOf xx,rngsOf xs with|some x,some s=>some ((s.length≤1000000∧∀ n∈readsS x,0≤n∧n<s.length),.sl false 2 (rgsV (pickedR x s)))|_,_=>none:=rfl
attribute [go_sem] con85_f con85_c
end Go.Proofs.Ytnlimcijgpaegaa

namespace Go.Proofs.Ytnlimcijgpaegaa
open Go Go.Fw Bm
set_option maxRecDepth 20000
noncomputable def ecn142:ECon Try.prog where
  f:=142
  c:=fun args σ k=>match args,σ with
   |[.lit (.int .i64 i),.ref 0 0,.ref 1 0],.box 26 [.sl false 2 x]:: .box 26 [.sl false 2 y]::ex=>match rngL x,rngL y with
    |some s,some t=>0≤i∧i<s.length∧i<t.length∧k (rgV (hullR (gR s i) (gR t i))) (.box 26 [.sl false 2 x]:: .box 26 [.sl false 2 y]::ex)
    |_,_=>False
   |_,_=>False
  ok:=by
   intro args σ k h
   split at h
   ·split at h
    ·rename_i hx hy
     rw [rngL_inv hx,rngL_inv hy] at h ⊢
     exact hullAt_ec h.1 h.2.1 h.2.2.1 h.2.2.2
    ·exact h.elim
   ·exact h.elim
  fk:=fk142
theorem ecn142_f:ecn142.f=142:=rfl
theorem ecn142_c {i:Int} {x y:List AV} {ex:List AObj} {k:AV→List AObj→Prop}:ecn142.c [.lit (.int .i64 i),.ref 0 0,.ref 1 0] (.box 26 [.sl false 2 x]:: .box 26 [.sl false 2 y]::ex) k=match rngL x,rngL y with
      |some s,some t=>0≤i∧i<s.length∧i<t.length∧k (rgV (hullR (gR s i) (gR t i))) (.box 26 [.sl false 2 x]:: .box 26 [.sl false 2 y]::ex)
      |_,_=>False:=rfl
attribute [go_sem] ecn142_f ecn142_c rngL_rgs
noncomputable def C2:Env:=envJ (P:=Try.prog) jkR zer (fun _=>false) (fun _=>false) [] [ecn142]
theorem C2_ok:EnvOk Try.prog C2:=envJOk zer_ok
theorem rz_rgs (n:Nat):List.replicate n (AV.agg [.lit (.int .i64 0),.lit (.int .i64 0)])=rgsV (List.replicate n nilR):=by simp [rgsV,rgV,nilR]
theorem set_zip {Z:List Rng} {i n:Nat} {x:Rng} (hZ:Z.length=n) (hi:i<n) (hx:Z.getD i nilR=x):(Z.take i++List.replicate (n - i) nilR).set i x=Z.take (i+1)++List.replicate (n - (i+1)) nilR:=by
  have hl:(Z.take i).length=i:=by rw [List.length_take];omega
  rw [List.set_append_right _ _ (by omega),hl,Nat.sub_self,show n - i=(n - (i+1))+1 by omega,List.replicate_succ,List.set_cons_zero,List.take_add_one,List.getElem?_eq_getElem (by omega)]
  have:Z[i]=x:=by rw [←hx,List.getD_eq_getElem?_getD,List.getElem?_eq_getElem (by omega)];rfl
  rw [this];simp
theorem set_mix {G H:List Rng} {i:Nat} {x:Rng} (hl:G.length=H.length) (hi:i<G.length) (hx:G.getD i nilR=x):(G.take i++H.drop i).set i x=G.take (i+1)++H.drop (i+1):=by
  have hlt:(G.take i).length=i:=by rw [List.length_take];omega
  rw [List.set_append_right _ _ (by omega),hlt,Nat.sub_self,List.drop_eq_getElem_cons (show i<H.length by omega),List.set_cons_zero,List.take_add_one,List.getElem?_eq_getElem (by omega)]
  have:G[i]=x:=by rw [←hx,List.getD_eq_getElem?_getD,List.getElem?_eq_getElem (by omega)];rfl
  rw [this];simp
theorem keep_mix {G H:List Rng} {i:Nat} (hl:G.length=H.length) (hi:i<G.length) (hx:G.getD i nilR=H.getD i nilR):G.take i++H.drop i=G.take (i+1)++H.drop (i+1):=by
  rw [List.drop_eq_getElem_cons (show i<H.length by omega),List.take_add_one,List.getElem?_eq_getElem (by omega)]
  have e1:G.getD i nilR=G[i]:=by rw [List.getD_eq_getElem?_getD,List.getElem?_eq_getElem (by omega)];rfl
  have e2:H.getD i nilR=H[i]:=by rw [List.getD_eq_getElem?_getD,List.getElem?_eq_getElem (by omega)];rfl
  rw [e1,e2] at hx
  rw [hx];simp
def orV:Option (List Rng)→AV
  |some l=> .sl false 2 (rgsV l)
  |none=> .lit (.slice none 0 0)
set_option maxHeartbeats 4000000 in
theorem hulls_pc {s t:List Rng} (hs:0<s.length∧s.length≤1000000) (hl:s.length=t.length):PC Try.prog 117 [.sl false 2 (rgsV s),.sl false 2 (rgsV t)] (.sl false 2 (rgsV (List.zipWith hullR s t))):=by
  have hsn:rgsV s≠[]:=fun h=>by have:=rgsV_nil h;subst this;exact absurd hs.1 (by simp)
  have htn:rgsV t≠[]:=fun h=>by have:=rgsV_nil h;subst this;simp only [List.length_nil] at hl;omega
  generalize hZ:List.zipWith hullR s t=Z
  have hZl:Z.length=s.length:=by rw [←hZ,List.length_zipWith];omega
  refine pcR C2_ok (kp117) Try.func117 [.tmp 4] (h:=fun KF=>?_)
  unfold C2
  repeat' (first
   |(with_reducible first|refine nx ?_|refine t_seq fun K=>?_|refine t_br (fun hc=>?_) fun hc=>?_|refine t_bx ?_|apply And.intro|intro vr)
   |((with_reducible first|refine ny ?_|refine t_dwh (h:=fun K KL=>?_));intros;simp only [go_sem,kp117,geff,rz_rgs,Int.toNat_natCast,List.length_replicate]))
  all_goals try exact absurd vr hsn
  all_goals try exact absurd vr htn
  all_goals try exact nd
  refine t_loopF (ι:={i:Nat // i≤s.length}) (fun i=>[(22,.lit (.int .i64 i.1))]) (fun i=>[.box 26 [.sl false 2 (rgsV s)],.box 26 [.sl false 2 (rgsV t)],.arr 29 2 (rgsV (Z.take i.1++List.replicate (s.length - i.1) nilR)) 0 false]) (fun i=>s.length - i.1) ⟨0,by omega⟩ ?_ ?_
  ·exact lf
  rintro ⟨i,hi⟩ K0
  have hln:(rgsV (Z.take i++List.replicate (s.length - i) nilR)).length=s.length:=by rw [rgsV_length,List.length_append,List.length_take,List.length_replicate];omega
  rcases Nat.lt_or_ge i s.length with hc|hc
  ·have g3:decide ((i:Int)<(s.length:Int))=true:=decide_eq_true (by omega)
   have hx:Z.getD i nilR=hullR (gR s i) (gR t i):=by rw [←hZ,getD_zip hc (by omega)];rfl
   have hst:=set_zip hZl hc hx
   generalize hh:hullR (gR s i) (gR t i)=H at hx hst
   obtain ⟨H,H'⟩:=H
   repeat' (first
    |(with_reducible first|refine nx ?_|refine t_seq fun K=>?_|refine t_br (fun hc=>?_) fun hc=>?_|refine t_bx ?_|apply And.intro|intro vr)
    |((with_reducible first|refine ny ?_|refine t_dwh (h:=fun K KL=>?_));intros;simp only [go_sem,kp117,geff,g3,hh,hst,hln,Int.toNat_natCast,yes]))
   all_goals try exact nd
   exact ⟨⟨i+1,by omega⟩,wf,lf⟩
  ·have g3:decide ((i:Int)<(s.length:Int))=false:=decide_eq_false (by omega)
   have e:Z.take i++List.replicate (s.length - i) nilR=Z:=by rw [List.take_of_length_le (by omega),show s.length - i=0 by omega];simp
   repeat' (first
    |(with_reducible first|refine nx ?_|refine t_seq fun K=>?_|refine t_br (fun hc=>?_) fun hc=>?_|refine t_bx ?_|apply And.intro|intro vr)
    |((with_reducible first|refine ny ?_|refine t_dwh (h:=fun K KL=>?_));intros;simp only [go_sem,kp117,geff,g3,e]))
   all_goals try exact nd
   all_goals (refine nl ?_;simp only [go_sem])
   exact LeA.refl _
theorem hullsL_pc {t:List Rng}:PC Try.prog 117 [.lit (.slice none 0 0),.sl false 2 (rgsV t)] (.sl false 2 (rgsV t)):=by
  refine pcR C2_ok (kp117) Try.func117 [.tmp 4] (h:=fun KF=>?_)
  unfold C2
  repeat' (first
   |(with_reducible first|refine nx ?_|refine t_seq fun K=>?_|refine t_br (fun hc=>?_) fun hc=>?_|refine t_bx ?_|apply And.intro|intro vr)
   |((with_reducible first|refine ny ?_|refine t_dwh (h:=fun K KL=>?_));intros;simp only [go_sem,kp117,geff]))
  all_goals try exact nd
  all_goals (refine nl ?_;simp only [go_sem])
  exact LeA.refl _
theorem hullsR_pc {s:List Rng} (hs:0<s.length):PC Try.prog 117 [.sl false 2 (rgsV s),.lit (.slice none 0 0)] (.sl false 2 (rgsV s)):=by
  have hsn:rgsV s≠[]:=fun h=>by have:=rgsV_nil h;subst this;exact absurd hs (by simp)
  refine pcR C2_ok (kp117) Try.func117 [.tmp 4] (h:=fun KF=>?_)
  unfold C2
  repeat' (first
   |(with_reducible first|refine nx ?_|refine t_seq fun K=>?_|refine t_br (fun hc=>?_) fun hc=>?_|refine t_bx ?_|apply And.intro|intro vr)
   |((with_reducible first|refine ny ?_|refine t_dwh (h:=fun K KL=>?_));intros;simp only [go_sem,kp117,geff]))
  all_goals try exact absurd vr hsn
  all_goals try exact nd
  all_goals (refine nl ?_;simp only [go_sem])
  exact LeA.refl _
noncomputable def con117:PCon Try.prog where
  f:=117
  c:=fun
   |[.sl _ 2 x,.sl _ 2 y]=>match rngL x,rngL y with
    |some s,some t=>some ((0<s.length∧s.length≤1000000)∧s.length=t.length,.sl false 2 (rgsV (List.zipWith hullR s t)))
    |_,_=>none
   |[.lit (.slice none 0 0),.sl _ 2 y]=>match rngL y with
    |some t=>some (True,.sl false 2 (rgsV t))
    |_=>none
   |[.sl _ 2 x,.lit (.slice none 0 0)]=>match rngL x with
    |some s=>some (0<s.length,.sl false 2 (rgsV s))
    |_=>none
   |_=>none
  ok:=by
   intro args p r hc hp
   split at hc
   ·split at hc
    ·rename_i hx hy
     cases hc
     rw [rngL_inv hx,rngL_inv hy]
     exact PC.weak (hulls_pc hp.1 hp.2) ⟨LeA.full _ _ _,LeA.full _ _ _,trivial⟩
    ·cases hc
   ·split at hc
    ·rename_i hy
     cases hc
     rw [rngL_inv hy]
     exact PC.weak hullsL_pc ⟨LeA.refl _,LeA.full _ _ _,trivial⟩
    ·cases hc
   ·split at hc
    ·rename_i hx
     cases hc
     rw [rngL_inv hx]
     exact PC.weak (hullsR_pc hp) ⟨LeA.full _ _ _,LeA.refl _,trivial⟩
    ·cases hc
   ·cases hc
  fk:=fk117
theorem con117_f:con117.f=117:=rfl
theorem con117_c {b1 b2:Bool} {x y:List AV}:con117.c [.sl b1 2 x,.sl b2 2 y]=match rngL x,rngL y with
      |some s,some t=>some ((0<s.length∧s.length≤1000000)∧s.length=t.length,.sl false 2 (rgsV (List.zipWith hullR s t)))
      |_,_=>none:=rfl
theorem con117_l {b2:Bool} {y:List AV}:con117.c [.lit (.slice none 0 0),.sl b2 2 y]=match rngL y with
      |some t=>some (True,.sl false 2 (rgsV t))
      |_=>none:=rfl
theorem con117_r {b1:Bool} {x:List AV}:con117.c [.sl b1 2 x,.lit (.slice none 0 0)]=match rngL x with
      |some s=>some (0<s.length,.sl false 2 (rgsV s))
      |_=>none:=rfl
attribute [go_sem] con117_f con117_c con117_l con117_r
noncomputable def C3:Env:=envJ (P:=Try.prog) jkR zer (fun _=>false) (fun _=>false) [con117,con143] [ecn86]
theorem C3_ok:EnvOk Try.prog C3:=envJOk zer_ok
theorem gr_keep {a b:Rng} (h:hullR a b=a):growR a b=a:=by unfold growR;rw [if_pos h]
theorem gr_new {a b:Rng} (h:hullR a b≠a):growR a b=widenR (hullR a b):=by unfold growR;rw [if_neg h]
set_option maxHeartbeats 8000000 in
theorem grown_pc {s t:List Rng} (hs:0<s.length∧s.length≤1000000) (hl:s.length=t.length):PC Try.prog 119 [.sl false 2 (rgsV s),.sl false 2 (rgsV t)] (.sl false 2 (rgsV (grownR s t))):=by
  generalize hG:grownR s t=G
  have hGl:G.length=s.length:=by rw [←hG,grownR,List.length_zipWith];omega
  have hZl:(List.zipWith hullR s t).length=s.length:=by rw [List.length_zipWith];omega
  have hHg:∀ i,i<s.length→(List.zipWith hullR s t).getD i nilR=hullR (s.getD i nilR) (t.getD i nilR):=fun i hi=>getD_zip hi (by omega)
  have hGg:∀ i,i<s.length→G.getD i nilR=growR (s.getD i nilR) (t.getD i nilR):=fun i hi=>by rw [←hG];exact getD_zip hi (by omega)
  generalize hZ:List.zipWith hullR s t=Z at hZl hHg
  have hst':s.length=Z.length:=hZl.symm
  refine pcR C3_ok (kp119) Try.func119 [.tmp 4] (h:=fun KF=>?_)
  unfold C3
  repeat' (first
   |(with_reducible first|refine nx ?_|refine t_seq fun K=>?_|refine t_br (fun hc=>?_) fun hc=>?_|refine t_bx ?_|apply And.intro|intro vr)
   |((with_reducible first|refine ny ?_|refine t_dwh (h:=fun K KL=>?_));intros;simp only [go_sem,kp119,geff,hZ,hZl]))
  all_goals try exact nd
  refine t_loopF (ι:={i:Nat // i≤s.length}) (fun i=>[(14,.lit (.int .i64 i.1))]) (fun i=>[.arr 29 2 (rgsV (G.take i.1++s.drop i.1)) 0 false]) (fun i=>s.length - i.1) ⟨0,by omega⟩ ?_ ?_
  ·exact lf
  rintro ⟨i,hi⟩ K0
  have hln:(rgsV (G.take i++s.drop i)).length=s.length:=by rw [rgsV_length,List.length_append,List.length_take,List.length_drop];omega
  rcases Nat.lt_or_ge i s.length with hc|hc
  ·have g3:decide ((i:Int)<(s.length:Int))=true:=decide_eq_true (by omega)
   have e1:=hHg i hc
   have e2:=hGg i hc
   have hst:∀ x,G.getD i nilR=x→(G.take i++s.drop i).set i x=G.take (i+1)++s.drop (i+1):=fun x hx=>set_mix (by omega) (by omega) hx
   have hkp:G.getD i nilR=s.getD i nilR→G.take i++s.drop i=G.take (i+1)++s.drop (i+1):=fun hx=>keep_mix (by omega) (by omega) hx
   generalize hh:hullR (s.getD i nilR) (t.getD i nilR)=H at e1
   by_cases hq:H=s.getD i nilR
   ·rw [gr_keep (by rw [hh];exact hq)] at e2
    have hk:=hkp e2
    generalize hy:s.getD i nilR=y at hq
    subst hq
    obtain ⟨H,H'⟩:=H
    repeat' (first
     |(with_reducible first|refine nx ?_|refine t_seq fun K=>?_|refine t_br (fun hc=>?_) fun hc=>?_|refine t_bx ?_|apply And.intro|intro vr)
     |((with_reducible first|refine ny ?_|refine t_dwh (h:=fun K KL=>?_));intros;simp only [go_sem,kp119,geff,g3,hZl,e1,hy,hln,Int.toNat_natCast,yes,beq_self_eq_true,Bool.and_self,Bool.not_true]))
    all_goals try exact nd
    rw [hk]
    refine ⟨⟨i+1,by omega⟩,by first|(simp only;omega)|omega,?_⟩
    try simp only [updL_nil,updL_cons,delF_top,delF_upd,Nat.reduceEqDiff,reduceIte]
    refine le_backM (by first|rfl|(simp only [go_sem];try rfl)) (by first|exact Nat.zero_le _|simp) (by first|rfl|simp [lowO,low_lit,low_sl,low_ref,low_arr,low_sub,low_mp]) ?_ ?_
    ·repeat' (first|exact low_top|(refine low_upd rfl ?_))
    repeat' (first|exact leF_top _|exact (fun _=>LeR.refl _)|(with_reducible refine leF_sl ?_ ?_)|(refine leF_upd ?_ ?_))
    all_goals (first|exact LeR.top _|exact LeR.refl _|(refine LeR.of_eq ?_;(try simp only [go_sem]);try rfl)|((try simp only [go_sem]);try rfl))
   ·rw [gr_new (by rw [hh];exact hq),hh] at e2
    have hk:=hst _ e2
    generalize hy:s.getD i nilR=y at hq
    generalize hw:widenR H=w at hk
    obtain ⟨H,H'⟩:=H
    obtain ⟨y,y'⟩:=y
    obtain ⟨w,w'⟩:=w
    have hb:(H==y&&H'==y')=false:=by rw [←dec_rng];exact decide_eq_false hq
    repeat' (first
     |(with_reducible first|refine nx ?_|refine t_seq fun K=>?_|refine t_br (fun hc=>?_) fun hc=>?_|refine t_bx ?_|apply And.intro|intro vr)
     |((with_reducible first|refine ny ?_|refine t_dwh (h:=fun K KL=>?_));intros;simp only [go_sem,kp119,geff,g3,hZl,e1,hy,hb,hw,hk,hln,Int.toNat_natCast,yes,Bool.not_false]))
    all_goals try exact nd
    refine ⟨⟨i+1,by omega⟩,by first|(simp only;omega)|omega,?_⟩
    try simp only [updL_nil,updL_cons,delF_top,delF_upd,Nat.reduceEqDiff,reduceIte]
    refine le_backM (by first|rfl|(simp only [go_sem];try rfl)) (by first|exact Nat.zero_le _|simp) (by first|rfl|simp [lowO,low_lit,low_sl,low_ref,low_arr,low_sub,low_mp]) ?_ ?_
    ·repeat' (first|exact low_top|(refine low_upd rfl ?_))
    repeat' (first|exact leF_top _|exact (fun _=>LeR.refl _)|(with_reducible refine leF_sl ?_ ?_)|(refine leF_upd ?_ ?_))
    all_goals (first|exact LeR.top _|exact LeR.refl _|(refine LeR.of_eq ?_;(try simp only [go_sem]);try rfl)|((try simp only [go_sem]);try rfl))
  ·have g3:decide ((i:Int)<(s.length:Int))=false:=decide_eq_false (by omega)
   have e:G.take i++s.drop i=G:=by rw [List.take_of_length_le (by omega),List.drop_eq_nil_of_le hc];simp
   repeat' (first
    |(with_reducible first|refine nx ?_|refine t_seq fun K=>?_|refine t_br (fun hc=>?_) fun hc=>?_|refine t_bx ?_|apply And.intro|intro vr)
    |((with_reducible first|refine ny ?_|refine t_dwh (h:=fun K KL=>?_));intros;simp only [go_sem,kp119,geff,g3,hZl,e]))
   all_goals try exact nd
   all_goals (refine nl ?_;simp only [go_sem])
   exact LeA.refl _
theorem grown_pc2 {s t:List Rng} (h:(0<s.length∧s.length≤1000000)∧s.length=t.length):PC Try.prog 119 [.sl false 2 (rgsV s),.sl false 2 (rgsV t)] (.sl false 2 (rgsV (grownR s t))):=grown_pc h.1 h.2
noncomputable def con119:PCon Try.prog where
  f:=119
  c:=fun
   |[xs,xt]=>match rngsOf xs,rngsOf xt with|some s,some t=>some (((0<s.length∧s.length≤1000000)∧s.length=t.length),.sl false 2 (rgsV (grownR s t)))|_,_=>none
   |_=>none
  ok:=by
   intro args p r hc hp
   split at hc
   ·split at hc
    ·rename_i hs ht
     cases hc
     exact PC.weak (grown_pc2 hp) ⟨rngsOf_le hs,rngsOf_le ht,trivial⟩
    ·cases hc
   ·cases hc
  fk:=fk119
theorem con119_f:con119.f=119:=rfl
theorem con119_c {xs:AV} {xt:AV}:con119.c [xs,xt]=match rngsOf xs,rngsOf xt with|some s,some t=>some (((0<s.length∧s.length≤1000000)∧s.length=t.length),.sl false 2 (rgsV (grownR s t)))|_,_=>none:=rfl
attribute [go_sem] con119_f con119_c
end Go.Proofs.Ytnlimcijgpaegaa

namespace Go.Proofs.Ytnlimcijgpaegaa
open Go Go.Fw Bm
set_option maxRecDepth 20000
attribute [go_sem] con10_f con10_c
noncomputable def C4:Env:=envJ (P:=Try.prog) jkR zer (fun _=>false) (fun _=>false) [con61,con84,con63,con83,con85,con10,con28] []
theorem C4_ok:EnvOk Try.prog C4:=envJOk zer_ok
structure ResOk (x:Ins) (s:List Rng):Prop where
  len:s.length≤1000000
  ok:OkS s.length s
  right:rightS x s.length=true
  wr:x.code=1∨x.code=2∨x.code=3∨x.code=4∨x.code=5∨x.code=6∨x.code=8∨x.code=14
theorem res_1 {p:ByteArray} {a b c d:Int} {s:List Rng}:resultR ⟨1,p,a,b,c,d⟩ s=⟨b,b⟩:=rfl
theorem res_2 {p:ByteArray} {a b c d:Int} {s:List Rng}:resultR ⟨2,p,a,b,c,d⟩ s=heldR (sumR ⟨2,p,a,b,c,d⟩ s) machR:=rfl
theorem res_3 {p:ByteArray} {a b c d:Int} {s:List Rng}:resultR ⟨3,p,a,b,c,d⟩ s=⟨minI (gR s b).lo (gR s c).lo,minI (gR s b).hi (gR s c).hi⟩:=rfl
theorem res_4 {p:ByteArray} {a b c d:Int} {s:List Rng}:resultR ⟨4,p,a,b,c,d⟩ s=⟨maxI (gR s b).lo (gR s c).lo,maxI (gR s b).hi (gR s c).hi⟩:=rfl
theorem res_5 {p:ByteArray} {a b c d:Int} {s:List Rng}:resultR ⟨5,p,a,b,c,d⟩ s=match primR p (pickedR ⟨5,p,a,b,c,d⟩ s) with
    |some r=>r
    |none=>wideR p:=rfl
theorem res_14 {p:ByteArray} {a b c d:Int} {s:List Rng}:resultR ⟨14,p,a,b,c,d⟩ s=heldR (gR s b) intsR:=rfl
theorem res_8 {p:ByteArray} {a b c d:Int} {s:List Rng}:resultR ⟨8,p,a,b,c,d⟩ s=nilR:=rfl
theorem res_6 {p:ByteArray} {a b c d:Int} {s:List Rng}:resultR ⟨6,p,a,b,c,d⟩ s=intsR:=rfl
theorem picked_len {x:Ins} {s:List Rng}:(pickedR x s).length≤1000000:=by have:=reads_len x;rw [pickedR,List.length_map];omega
set_option maxHeartbeats 8000000 in
theorem result_pc {x:Ins} {s:List Rng} (h:ResOk x s):PC Try.prog 91 [opV x,.sl false 2 (rgsV s)] (rgV (resultR x s)):=by
  obtain ⟨hl,hok,hr,hw⟩:=h
  have hx:=right_regs hr
  have hrd:∀ n∈readsS x,0≤n∧n<s.length:=fun n hn=>reads_reg hr hn
  have hpl:=picked_len (x:=x) (s:=s)
  obtain ⟨k,p,a,b,c,d⟩:=x
  have gb:s.getD b.toNat nilR=gR s b:=rfl
  have gc:s.getD c.toNat nilR=gR s c:=rfl
  have xb:=hx.b
  have xc:=hx.c
  have xd:=hx.k2
  simp only at xb xc xd hw
  have ob:=hok.at b
  have oc:=hok.at c
  rcases hw with rfl|rfl|rfl|rfl|rfl|rfl|rfl|rfl
  ·rw [res_1]
   simp only [opV]
   refine pcR C4_ok (kp91) Try.func91 [.cell 4 29] (h:=fun KF=>?_)
   unfold C4
   repeat' (first
    |(with_reducible first|refine nx ?_|refine t_seq fun K=>?_|refine t_br (fun hc=>?_) fun hc=>?_|refine t_bx ?_|apply And.intro|intro vr)|exact kpd
    |((with_reducible refine t_drawG (id:=11) (fun i=>i==0) 9 [(0,1),(1,1),(2,1),(3,1),(4,1),(5,1),(6,1),(7,1),(8,1),(9,3),(10,0),(11,1)] (by kernel_rfl) (by kernel_rfl) (by kernel_rfl) fun K=>?_);simp only [noA,List.filter_cons,List.filter_nil,Nat.reduceBEq,Bool.not_false,Bool.not_true,reduceIte,if_true,Bool.false_eq_true];simp only [pickO,List.getElem?_toArray,List.getElem?_cons_zero,List.getElem?_cons_succ,Nat.reduceAdd,Nat.reduceSub,fo_some];refine nh ?_;intro KL;simp only [go_sem,kp91,geff])
    |((with_reducible first|refine ny ?_|refine t_kLF ?_ ?_|refine t_drawE (id:=7) (fun i=>i==0) [(0,1),(1,1),(2,1),(3,1),(4,1),(5,1),(6,1),(7,1),(8,1),(9,1),(10,1),(11,1),(12,1),(13,1),(14,1),(15,1),(16,1),(17,1),(18,1),(19,1),(20,1),(21,1),(22,1),(23,1),(24,1),(25,1),(26,1),(27,0)] (by kernel_rfl) fun K=>?_|refine t_drawE (id:=9) (fun i=>i==0) [(0,1),(1,1),(2,1),(3,1),(4,1),(5,1),(6,1),(7,1),(8,1),(9,1),(10,1),(11,1),(12,1),(13,1),(14,1),(15,1),(16,1),(17,1),(18,1),(19,1),(20,1),(21,1),(22,1),(23,1),(24,1),(25,1),(26,1),(27,0)] (by kernel_rfl) fun K=>?_|refine t_drawE (id:=16) (fun i=>i==0) [(0,1),(1,1),(2,1),(3,1),(4,1),(5,1),(6,1),(7,0)] (by kernel_rfl) fun K=>?_|refine t_dwh (h:=fun K KL=>?_));intros;simp only [go_sem,kp91,geff]))
   all_goals try exact nd
   all_goals (refine nl ?_;simp only [go_sem])
   exact LeA.refl _
  ·have hS:SumOk ⟨2,p,a,b,c,d⟩ s:=⟨hl,xb (by omega),xc (by omega),xd rfl,ob,oc⟩
   rw [res_2]
   simp only [opV]
   refine pcR C4_ok (kp91) Try.func91 [.cell 4 29] (h:=fun KF=>?_)
   unfold C4
   repeat' (first
    |(with_reducible first|refine nx ?_|refine t_seq fun K=>?_|refine t_br (fun hc=>?_) fun hc=>?_|refine t_bx ?_|apply And.intro|intro vr)|exact kpd
    |((with_reducible refine t_drawG (id:=11) (fun i=>i==0) 9 [(0,1),(1,1),(2,1),(3,1),(4,1),(5,1),(6,1),(7,1),(8,1),(9,3),(10,0),(11,1)] (by kernel_rfl) (by kernel_rfl) (by kernel_rfl) fun K=>?_);simp only [noA,List.filter_cons,List.filter_nil,Nat.reduceBEq,Bool.not_false,Bool.not_true,reduceIte,if_true,Bool.false_eq_true];simp only [pickO,List.getElem?_toArray,List.getElem?_cons_zero,List.getElem?_cons_succ,Nat.reduceAdd,Nat.reduceSub,fo_some];refine nh ?_;intro KL;simp only [go_sem,kp91,geff])
    |((with_reducible first|refine ny ?_|refine t_kLF ?_ ?_|refine t_drawE (id:=7) (fun i=>i==0) [(0,1),(1,1),(2,1),(3,1),(4,1),(5,1),(6,1),(7,1),(8,1),(9,1),(10,1),(11,1),(12,1),(13,1),(14,1),(15,1),(16,1),(17,1),(18,1),(19,1),(20,1),(21,1),(22,1),(23,1),(24,1),(25,1),(26,1),(27,0)] (by kernel_rfl) fun K=>?_|refine t_drawE (id:=9) (fun i=>i==0) [(0,1),(1,1),(2,1),(3,1),(4,1),(5,1),(6,1),(7,1),(8,1),(9,1),(10,1),(11,1),(12,1),(13,1),(14,1),(15,1),(16,1),(17,1),(18,1),(19,1),(20,1),(21,1),(22,1),(23,1),(24,1),(25,1),(26,1),(27,0)] (by kernel_rfl) fun K=>?_|refine t_drawE (id:=16) (fun i=>i==0) [(0,1),(1,1),(2,1),(3,1),(4,1),(5,1),(6,1),(7,0)] (by kernel_rfl) fun K=>?_|refine t_dwh (h:=fun K KL=>?_));intros;simp only [go_sem,kp91,geff]))
   all_goals try exact nd
   all_goals (refine nl ?_;simp only [go_sem])
   exact LeA.refl _
  ·have yb:=xb (by omega)
   have yc:=xc (by omega)
   rw [res_3]
   clear xb xc xd hx ob oc hrd hpl hr hok
   generalize gR s b=B at gb
   generalize gR s c=C at gc
   obtain ⟨B,B'⟩:=B
   obtain ⟨C,C'⟩:=C
   simp only [opV]
   refine pcR C4_ok (kp91) Try.func91 [.cell 4 29] (h:=fun KF=>?_)
   unfold C4
   repeat' (first
    |(with_reducible first|refine nx ?_|refine t_seq fun K=>?_|refine t_br (fun hc=>?_) fun hc=>?_|refine t_bx ?_|apply And.intro|intro vr)|exact kpd
    |((with_reducible refine t_drawG (id:=11) (fun i=>i==0) 9 [(0,1),(1,1),(2,1),(3,1),(4,1),(5,1),(6,1),(7,1),(8,1),(9,3),(10,0),(11,1)] (by kernel_rfl) (by kernel_rfl) (by kernel_rfl) fun K=>?_);simp only [noA,List.filter_cons,List.filter_nil,Nat.reduceBEq,Bool.not_false,Bool.not_true,reduceIte,if_true,Bool.false_eq_true];simp only [pickO,List.getElem?_toArray,List.getElem?_cons_zero,List.getElem?_cons_succ,Nat.reduceAdd,Nat.reduceSub,fo_some];refine nh ?_;intro KL;simp only [go_sem,kp91,geff,gb,gc])
    |((with_reducible first|refine ny ?_|refine t_kLF ?_ ?_|refine t_drawE (id:=7) (fun i=>i==0) [(0,1),(1,1),(2,1),(3,1),(4,1),(5,1),(6,1),(7,1),(8,1),(9,1),(10,1),(11,1),(12,1),(13,1),(14,1),(15,1),(16,1),(17,1),(18,1),(19,1),(20,1),(21,1),(22,1),(23,1),(24,1),(25,1),(26,1),(27,0)] (by kernel_rfl) fun K=>?_|refine t_drawE (id:=9) (fun i=>i==0) [(0,1),(1,1),(2,1),(3,1),(4,1),(5,1),(6,1),(7,1),(8,1),(9,1),(10,1),(11,1),(12,1),(13,1),(14,1),(15,1),(16,1),(17,1),(18,1),(19,1),(20,1),(21,1),(22,1),(23,1),(24,1),(25,1),(26,1),(27,0)] (by kernel_rfl) fun K=>?_|refine t_drawE (id:=16) (fun i=>i==0) [(0,1),(1,1),(2,1),(3,1),(4,1),(5,1),(6,1),(7,0)] (by kernel_rfl) fun K=>?_|refine t_dwh (h:=fun K KL=>?_));intros;simp only [go_sem,kp91,geff,gb,gc]))
   all_goals try exact nd
   all_goals (refine nl ?_;simp only [go_sem])
   exact LeA.refl _
  ·have yb:=xb (by omega)
   have yc:=xc (by omega)
   rw [res_4]
   clear xb xc xd hx ob oc hrd hpl hr hok
   generalize gR s b=B at gb
   generalize gR s c=C at gc
   obtain ⟨B,B'⟩:=B
   obtain ⟨C,C'⟩:=C
   simp only [opV]
   refine pcR C4_ok (kp91) Try.func91 [.cell 4 29] (h:=fun KF=>?_)
   unfold C4
   repeat' (first
    |(with_reducible first|refine nx ?_|refine t_seq fun K=>?_|refine t_br (fun hc=>?_) fun hc=>?_|refine t_bx ?_|apply And.intro|intro vr)|exact kpd
    |((with_reducible refine t_drawG (id:=11) (fun i=>i==0) 9 [(0,1),(1,1),(2,1),(3,1),(4,1),(5,1),(6,1),(7,1),(8,1),(9,3),(10,0),(11,1)] (by kernel_rfl) (by kernel_rfl) (by kernel_rfl) fun K=>?_);simp only [noA,List.filter_cons,List.filter_nil,Nat.reduceBEq,Bool.not_false,Bool.not_true,reduceIte,if_true,Bool.false_eq_true];simp only [pickO,List.getElem?_toArray,List.getElem?_cons_zero,List.getElem?_cons_succ,Nat.reduceAdd,Nat.reduceSub,fo_some];refine nh ?_;intro KL;simp only [go_sem,kp91,geff,gb,gc])
    |((with_reducible first|refine ny ?_|refine t_kLF ?_ ?_|refine t_drawE (id:=7) (fun i=>i==0) [(0,1),(1,1),(2,1),(3,1),(4,1),(5,1),(6,1),(7,1),(8,1),(9,1),(10,1),(11,1),(12,1),(13,1),(14,1),(15,1),(16,1),(17,1),(18,1),(19,1),(20,1),(21,1),(22,1),(23,1),(24,1),(25,1),(26,1),(27,0)] (by kernel_rfl) fun K=>?_|refine t_drawE (id:=9) (fun i=>i==0) [(0,1),(1,1),(2,1),(3,1),(4,1),(5,1),(6,1),(7,1),(8,1),(9,1),(10,1),(11,1),(12,1),(13,1),(14,1),(15,1),(16,1),(17,1),(18,1),(19,1),(20,1),(21,1),(22,1),(23,1),(24,1),(25,1),(26,1),(27,0)] (by kernel_rfl) fun K=>?_|refine t_drawE (id:=16) (fun i=>i==0) [(0,1),(1,1),(2,1),(3,1),(4,1),(5,1),(6,1),(7,0)] (by kernel_rfl) fun K=>?_|refine t_dwh (h:=fun K KL=>?_));intros;simp only [go_sem,kp91,geff,gb,gc]))
   all_goals try exact nd
   all_goals (refine nl ?_;simp only [go_sem])
   exact LeA.refl _
  ·rw [res_5]
   cases hP:primR p (pickedR ⟨5,p,a,b,c,d⟩ s) with
   |none=>
    have hV:primV p (pickedR ⟨5,p,a,b,c,d⟩ s)= .tup [.agg [.lit (.int .i64 0),.lit (.int .i64 0)],.lit (.bool false)]:=by simp only [primV,hP];rfl
    simp only [opV]
    refine pcR C4_ok (kp91) Try.func91 [.cell 4 29] (h:=fun KF=>?_)
    unfold C4
    repeat' (first
     |(with_reducible first|refine nx ?_|refine t_seq fun K=>?_|refine t_br (fun hc=>?_) fun hc=>?_|refine t_bx ?_|apply And.intro|intro vr)|exact kpd
     |((with_reducible refine t_drawG (id:=11) (fun i=>i==0) 9 [(0,1),(1,1),(2,1),(3,1),(4,1),(5,1),(6,1),(7,1),(8,1),(9,3),(10,0),(11,1)] (by kernel_rfl) (by kernel_rfl) (by kernel_rfl) fun K=>?_);simp only [noA,List.filter_cons,List.filter_nil,Nat.reduceBEq,Bool.not_false,Bool.not_true,reduceIte,if_true,Bool.false_eq_true];simp only [pickO,List.getElem?_toArray,List.getElem?_cons_zero,List.getElem?_cons_succ,Nat.reduceAdd,Nat.reduceSub,fo_some];refine nh ?_;intro KL;simp only [go_sem,kp91,geff,hV,Bool.not_false])
     |((with_reducible first|refine ny ?_|refine t_kLF ?_ ?_|refine t_drawE (id:=7) (fun i=>i==0) [(0,1),(1,1),(2,1),(3,1),(4,1),(5,1),(6,1),(7,1),(8,1),(9,1),(10,1),(11,1),(12,1),(13,1),(14,1),(15,1),(16,1),(17,1),(18,1),(19,1),(20,1),(21,1),(22,1),(23,1),(24,1),(25,1),(26,1),(27,0)] (by kernel_rfl) fun K=>?_|refine t_drawE (id:=9) (fun i=>i==0) [(0,1),(1,1),(2,1),(3,1),(4,1),(5,1),(6,1),(7,1),(8,1),(9,1),(10,1),(11,1),(12,1),(13,1),(14,1),(15,1),(16,1),(17,1),(18,1),(19,1),(20,1),(21,1),(22,1),(23,1),(24,1),(25,1),(26,1),(27,0)] (by kernel_rfl) fun K=>?_|refine t_drawE (id:=16) (fun i=>i==0) [(0,1),(1,1),(2,1),(3,1),(4,1),(5,1),(6,1),(7,0)] (by kernel_rfl) fun K=>?_|refine t_dwh (h:=fun K KL=>?_));intros;simp only [go_sem,kp91,geff,hV,Bool.not_false]))
    all_goals try exact (hrd _ (by assumption)).1
    all_goals try exact (hrd _ (by assumption)).2
    all_goals try exact nd
    all_goals (refine nl ?_;simp only [go_sem])
    exact LeA.refl _
   |some r=>
    have hV:primV p (pickedR ⟨5,p,a,b,c,d⟩ s)= .tup [.agg [.lit (.int .i64 r.lo),.lit (.int .i64 r.hi)],.lit (.bool true)]:=by simp only [primV,hP];rfl
    simp only [opV]
    refine pcR C4_ok (kp91) Try.func91 [.cell 4 29] (h:=fun KF=>?_)
    unfold C4
    repeat' (first
     |(with_reducible first|refine nx ?_|refine t_seq fun K=>?_|refine t_br (fun hc=>?_) fun hc=>?_|refine t_bx ?_|apply And.intro|intro vr)|exact kpd
     |((with_reducible refine t_drawG (id:=11) (fun i=>i==0) 9 [(0,1),(1,1),(2,1),(3,1),(4,1),(5,1),(6,1),(7,1),(8,1),(9,3),(10,0),(11,1)] (by kernel_rfl) (by kernel_rfl) (by kernel_rfl) fun K=>?_);simp only [noA,List.filter_cons,List.filter_nil,Nat.reduceBEq,Bool.not_false,Bool.not_true,reduceIte,if_true,Bool.false_eq_true];simp only [pickO,List.getElem?_toArray,List.getElem?_cons_zero,List.getElem?_cons_succ,Nat.reduceAdd,Nat.reduceSub,fo_some];refine nh ?_;intro KL;simp only [go_sem,kp91,geff,hV,Bool.not_true])
     |((with_reducible first|refine ny ?_|refine t_kLF ?_ ?_|refine t_drawE (id:=7) (fun i=>i==0) [(0,1),(1,1),(2,1),(3,1),(4,1),(5,1),(6,1),(7,1),(8,1),(9,1),(10,1),(11,1),(12,1),(13,1),(14,1),(15,1),(16,1),(17,1),(18,1),(19,1),(20,1),(21,1),(22,1),(23,1),(24,1),(25,1),(26,1),(27,0)] (by kernel_rfl) fun K=>?_|refine t_drawE (id:=9) (fun i=>i==0) [(0,1),(1,1),(2,1),(3,1),(4,1),(5,1),(6,1),(7,1),(8,1),(9,1),(10,1),(11,1),(12,1),(13,1),(14,1),(15,1),(16,1),(17,1),(18,1),(19,1),(20,1),(21,1),(22,1),(23,1),(24,1),(25,1),(26,1),(27,0)] (by kernel_rfl) fun K=>?_|refine t_drawE (id:=16) (fun i=>i==0) [(0,1),(1,1),(2,1),(3,1),(4,1),(5,1),(6,1),(7,0)] (by kernel_rfl) fun K=>?_|refine t_dwh (h:=fun K KL=>?_));intros;simp only [go_sem,kp91,geff,hV,Bool.not_true]))
    all_goals try exact (hrd _ (by assumption)).1
    all_goals try exact (hrd _ (by assumption)).2
    all_goals try exact nd
    all_goals (refine nl ?_;simp only [go_sem])
    exact LeA.refl _
  ·rw [res_6]
   simp only [opV]
   refine pcR C4_ok (kp91) Try.func91 [.cell 4 29] (h:=fun KF=>?_)
   unfold C4
   repeat' (first
    |(with_reducible first|refine nx ?_|refine t_seq fun K=>?_|refine t_br (fun hc=>?_) fun hc=>?_|refine t_bx ?_|apply And.intro|intro vr)|exact kpd
    |((with_reducible refine t_drawG (id:=11) (fun i=>i==0) 9 [(0,1),(1,1),(2,1),(3,1),(4,1),(5,1),(6,1),(7,1),(8,1),(9,3),(10,0),(11,1)] (by kernel_rfl) (by kernel_rfl) (by kernel_rfl) fun K=>?_);simp only [noA,List.filter_cons,List.filter_nil,Nat.reduceBEq,Bool.not_false,Bool.not_true,reduceIte,if_true,Bool.false_eq_true];simp only [pickO,List.getElem?_toArray,List.getElem?_cons_zero,List.getElem?_cons_succ,Nat.reduceAdd,Nat.reduceSub,fo_some];refine nh ?_;intro KL;simp only [go_sem,kp91,geff])
    |((with_reducible first|refine ny ?_|refine t_kLF ?_ ?_|refine t_drawE (id:=7) (fun i=>i==0) [(0,1),(1,1),(2,1),(3,1),(4,1),(5,1),(6,1),(7,1),(8,1),(9,1),(10,1),(11,1),(12,1),(13,1),(14,1),(15,1),(16,1),(17,1),(18,1),(19,1),(20,1),(21,1),(22,1),(23,1),(24,1),(25,1),(26,1),(27,0)] (by kernel_rfl) fun K=>?_|refine t_drawE (id:=9) (fun i=>i==0) [(0,1),(1,1),(2,1),(3,1),(4,1),(5,1),(6,1),(7,1),(8,1),(9,1),(10,1),(11,1),(12,1),(13,1),(14,1),(15,1),(16,1),(17,1),(18,1),(19,1),(20,1),(21,1),(22,1),(23,1),(24,1),(25,1),(26,1),(27,0)] (by kernel_rfl) fun K=>?_|refine t_drawE (id:=16) (fun i=>i==0) [(0,1),(1,1),(2,1),(3,1),(4,1),(5,1),(6,1),(7,0)] (by kernel_rfl) fun K=>?_|refine t_dwh (h:=fun K KL=>?_));intros;simp only [go_sem,kp91,geff]))
   all_goals try exact nd
   all_goals (refine nl ?_;simp only [go_sem])
   exact LeA.refl _
  ·rw [res_8]
   simp only [opV]
   refine pcR C4_ok (kp91) Try.func91 [.cell 4 29] (h:=fun KF=>?_)
   unfold C4
   repeat' (first
    |(with_reducible first|refine nx ?_|refine t_seq fun K=>?_|refine t_br (fun hc=>?_) fun hc=>?_|refine t_bx ?_|apply And.intro|intro vr)|exact kpd
    |((with_reducible refine t_drawG (id:=11) (fun i=>i==0) 9 [(0,1),(1,1),(2,1),(3,1),(4,1),(5,1),(6,1),(7,1),(8,1),(9,3),(10,0),(11,1)] (by kernel_rfl) (by kernel_rfl) (by kernel_rfl) fun K=>?_);simp only [noA,List.filter_cons,List.filter_nil,Nat.reduceBEq,Bool.not_false,Bool.not_true,reduceIte,if_true,Bool.false_eq_true];simp only [pickO,List.getElem?_toArray,List.getElem?_cons_zero,List.getElem?_cons_succ,Nat.reduceAdd,Nat.reduceSub,fo_some];refine nh ?_;intro KL;simp only [go_sem,kp91,geff])
    |((with_reducible first|refine ny ?_|refine t_kLF ?_ ?_|refine t_drawE (id:=7) (fun i=>i==0) [(0,1),(1,1),(2,1),(3,1),(4,1),(5,1),(6,1),(7,1),(8,1),(9,1),(10,1),(11,1),(12,1),(13,1),(14,1),(15,1),(16,1),(17,1),(18,1),(19,1),(20,1),(21,1),(22,1),(23,1),(24,1),(25,1),(26,1),(27,0)] (by kernel_rfl) fun K=>?_|refine t_drawE (id:=9) (fun i=>i==0) [(0,1),(1,1),(2,1),(3,1),(4,1),(5,1),(6,1),(7,1),(8,1),(9,1),(10,1),(11,1),(12,1),(13,1),(14,1),(15,1),(16,1),(17,1),(18,1),(19,1),(20,1),(21,1),(22,1),(23,1),(24,1),(25,1),(26,1),(27,0)] (by kernel_rfl) fun K=>?_|refine t_drawE (id:=16) (fun i=>i==0) [(0,1),(1,1),(2,1),(3,1),(4,1),(5,1),(6,1),(7,0)] (by kernel_rfl) fun K=>?_|refine t_dwh (h:=fun K KL=>?_));intros;simp only [go_sem,kp91,geff]))
   all_goals try exact nd
   all_goals (refine nl ?_;simp only [go_sem])
   exact LeA.refl _
  ·have yb:=xb (by omega)
   rw [res_14]
   clear xb xc xd hx ob oc hrd hpl hr hok
   generalize gR s b=B at gb
   obtain ⟨B,B'⟩:=B
   simp only [opV]
   refine pcR C4_ok (kp91) Try.func91 [.cell 4 29] (h:=fun KF=>?_)
   unfold C4
   repeat' (first
    |(with_reducible first|refine nx ?_|refine t_seq fun K=>?_|refine t_br (fun hc=>?_) fun hc=>?_|refine t_bx ?_|apply And.intro|intro vr)|exact kpd
    |((with_reducible refine t_drawG (id:=11) (fun i=>i==0) 9 [(0,1),(1,1),(2,1),(3,1),(4,1),(5,1),(6,1),(7,1),(8,1),(9,3),(10,0),(11,1)] (by kernel_rfl) (by kernel_rfl) (by kernel_rfl) fun K=>?_);simp only [noA,List.filter_cons,List.filter_nil,Nat.reduceBEq,Bool.not_false,Bool.not_true,reduceIte,if_true,Bool.false_eq_true];simp only [pickO,List.getElem?_toArray,List.getElem?_cons_zero,List.getElem?_cons_succ,Nat.reduceAdd,Nat.reduceSub,fo_some];refine nh ?_;intro KL;simp only [go_sem,kp91,geff,gb])
    |((with_reducible first|refine ny ?_|refine t_kLF ?_ ?_|refine t_drawE (id:=7) (fun i=>i==0) [(0,1),(1,1),(2,1),(3,1),(4,1),(5,1),(6,1),(7,1),(8,1),(9,1),(10,1),(11,1),(12,1),(13,1),(14,1),(15,1),(16,1),(17,1),(18,1),(19,1),(20,1),(21,1),(22,1),(23,1),(24,1),(25,1),(26,1),(27,0)] (by kernel_rfl) fun K=>?_|refine t_drawE (id:=9) (fun i=>i==0) [(0,1),(1,1),(2,1),(3,1),(4,1),(5,1),(6,1),(7,1),(8,1),(9,1),(10,1),(11,1),(12,1),(13,1),(14,1),(15,1),(16,1),(17,1),(18,1),(19,1),(20,1),(21,1),(22,1),(23,1),(24,1),(25,1),(26,1),(27,0)] (by kernel_rfl) fun K=>?_|refine t_drawE (id:=16) (fun i=>i==0) [(0,1),(1,1),(2,1),(3,1),(4,1),(5,1),(6,1),(7,0)] (by kernel_rfl) fun K=>?_|refine t_dwh (h:=fun K KL=>?_));intros;simp only [go_sem,kp91,geff,gb]))
   all_goals try exact nd
   all_goals (refine nl ?_;simp only [go_sem])
   exact LeA.refl _
noncomputable def con91:PCon Try.prog where
  f:=91
  c:=fun
   |[xx,xs]=>match opOf xx,rngsOf xs with|some x,some s=>some (ResOk x s,rgV (resultR x s))|_,_=>none
   |_=>none
  ok:=by
   intro args p r hc hp
   split at hc
   ·split at hc
    ·rename_i hx hs
     cases hc
     exact PC.weak (result_pc hp) ⟨opOf_le hx,rngsOf_le hs,trivial⟩
    ·cases hc
   ·cases hc
  fk:=fk91
theorem con91_f:con91.f=91:=rfl
theorem con91_c {xx:AV} {xs:AV}:con91.c [xx,xs]=match opOf xx,rngsOf xs with|some x,some s=>some (ResOk x s,rgV (resultR x s))|_,_=>none:=rfl
attribute [go_sem] con91_f con91_c
end Go.Proofs.Ytnlimcijgpaegaa

namespace Go.Proofs.Ytnlimcijgpaegaa.Bm
open Go.Proofs.Ytnlimcijgpaegaa
open Go Go.Fw
section
variable {B:Prg} {mt:List Int}
theorem part_mono {f:Nat} (ih:∀ (tk:VTk) (s:List Rng) (w:W) (r:List Rng×W),vrun B mt f tk s w=some r→vrun B mt (f+1) tk s w=some r) {i to:Int} {s:List Rng} {r:Int} {x:Rng} {w:W} {o:Option (List Rng)×W}
    (h:partV (vrun B mt f) i to s r x w=some o):partV (vrun B mt (f+1)) i to s r x w=some o:=by
  unfold partV at h ⊢
  split at h
  ·rename_i hx;rw [if_pos hx];exact h
  ·rename_i hx
   rw [if_neg hx]
   split at h
   ·rename_i t w' hr
    rw [ih _ _ _ _ hr];exact h
   ·cases h
theorem vrun_mono:∀ (f:Nat) (tk:VTk) (s:List Rng) (w:W) (r:List Rng×W),vrun B mt f tk s w=some r→vrun B mt (f+1) tk s w=some r
  |0,_,_,_,_,h=>by cases h
  |f+1,.blk i to,s,w,r,h=>by
   rw [vrun] at h ⊢
   split at h
   ·rename_i hi
    rw [if_pos hi]
    simp only at h ⊢
    split at h
    ·rename_i hc
     rw [if_pos hc]
     split at h
     ·rename_i yes w1 h1
      rw [part_mono (vrun_mono f) h1]
      simp only
      split at h
      ·rename_i no w2 h2
       rw [part_mono (vrun_mono f) h2]
       simp only
       split at h
       ·rename_i t ht
        try rw [ht]
        exact vrun_mono f _ _ _ _ h
       ·cases h
      ·cases h
     ·cases h
    ·rename_i hc
     rw [if_neg hc]
     split at h
     ·rename_i hc2
      rw [if_pos hc2]
      split at h
      ·rename_i hv
       rw [if_pos hv]
       exact vrun_mono f _ _ _ _ h
      ·rename_i hv
       rw [if_neg hv]
       split at h
       ·rename_i t w1 h1
        rw [vrun_mono f _ _ _ _ h1]
        exact vrun_mono f _ _ _ _ h
       ·cases h
     ·rename_i hc2
      rw [if_neg hc2]
      exact vrun_mono f _ _ _ _ h
   ·rename_i hi
    rw [if_neg hi]
    exact h
  |f+1,.lop i v,head,w,r,h=>by
   rw [vrun] at h ⊢
   split at h
   ·rename_i t w1 h1
    rw [vrun_mono f _ _ _ _ h1]
    simp only
    split at h
    ·rename_i hg;rw [if_pos hg];exact h
    ·rename_i hg;rw [if_neg hg];exact vrun_mono f _ _ _ _ h
   ·cases h
theorem vrun_le {f g:Nat} (hfg:f≤g) {tk:VTk} {s:List Rng} {w:W} {r:List Rng×W} (h:vrun B mt f tk s w=some r):vrun B mt g tk s w=some r:=by
  induction hfg with
  |refl=>exact h
  |step _ ih=>exact vrun_mono _ _ _ _ _ ih
def VR (B:Prg) (mt:List Int) (tk:VTk) (s:List Rng) (w:W) (t:List Rng) (w':W):Prop:=∃ f,vrun B mt f tk s w=some (t,w')
def PV (B:Prg) (mt:List Int) (i to:Int) (s:List Rng) (r:Int) (x:Rng) (w:W) (o:Option (List Rng)) (w':W):Prop:=
  (x.lo>x.hi∧o=none∧w'={w with before:=wipe w.before i to})∨(¬ x.lo>x.hi∧∃ t,o=some t∧VR B mt (.blk i to) (withR s r x) w t w')
theorem PV.part {i to:Int} {s:List Rng} {r:Int} {x:Rng} {w:W} {o:Option (List Rng)} {w':W} (h:PV B mt i to s r x w o w'):∃ f,∀ g,f≤g→partV (vrun B mt g) i to s r x w=some (o,w'):=by
  rcases h with ⟨hx,rfl,rfl⟩|⟨hx,t,rfl,f,hf⟩
  ·exact ⟨0,fun g _=>by unfold partV;rw [if_pos hx]⟩
  ·exact ⟨f,fun g hg=>by unfold partV;rw [if_neg hx,vrun_le hg hf]⟩
variable {i to:Int} {s t:List Rng} {w w':W}
theorem vr_end (h: ¬ i<to):VR B mt (.blk i to) s w s w:=⟨1,by rw [vrun,if_neg h]⟩
theorem vr_plain (h:i<to) (h1:(B.op i).code≠11) (h2:(B.op i).code≠10) (k:VR B mt (.blk (i+1) to) (if wrtB (B.op i).code=true then withR s (B.op i).a (resultR (B.op i) s) else s) {w with before:=w.before.set i.toNat s} t w'):
    VR B mt (.blk i to) s w t w':=by
  obtain ⟨f,hf⟩:=k
  exact ⟨f+1,by rw [vrun,if_pos h];simp only;rw [if_neg h1,if_neg h2];exact hf⟩
theorem vr_if {yes no:Option (List Rng)} {w1 w2:W} {u:List Rng} (h:i<to) (h1:(B.op i).code=11)
    (ky:PV B mt (i+1) (gt mt i) s (B.op i).a ⟨maxI (gR s (B.op i).a).lo 0,(gR s (B.op i).a).hi⟩ {w with before:=w.before.set i.toNat s} yes w1)
    (kn:PV B mt (minI (gt mt i+1) (gt mt (gt mt i))) (gt mt (gt mt i)) s (B.op i).a ⟨(gR s (B.op i).a).lo,minI (gR s (B.op i).a).hi (-1)⟩ w1 no w2)
    (hu:hullsR yes no=some u) (k:VR B mt (.blk (gt mt (gt mt i)+1) to) u w2 t w'):VR B mt (.blk i to) s w t w':=by
  obtain ⟨f1,hf1⟩:=ky.part
  obtain ⟨f2,hf2⟩:=kn.part
  obtain ⟨f3,hf3⟩:=k
  refine ⟨max f1 (max f2 f3)+1,?_⟩
  rw [vrun,if_pos h]
  simp only
  rw [if_pos h1,hf1 _ (by omega)]
  simp only
  rw [hf2 _ (by omega)]
  simp only
  rw [hu]
  exact vrun_le (by omega) hf3
theorem vr_for0 (h:i<to) (h1:(B.op i).code=10) (hv:(gR s (B.op i).b).lo>(gR s (B.op i).c).hi - 1)
    (k:VR B mt (.blk (gt mt i+1) to) s {w with before:=wipe (w.before.set i.toNat s) (i+1) (gt mt i)} t w'):VR B mt (.blk i to) s w t w':=by
  obtain ⟨f,hf⟩:=k
  exact ⟨f+1,by rw [vrun,if_pos h];simp only;rw [if_neg (by omega),if_pos h1,if_pos hv];exact hf⟩
theorem vr_for {u:List Rng} {w1:W} (h:i<to) (h1:(B.op i).code=10) (hv: ¬ (gR s (B.op i).b).lo>(gR s (B.op i).c).hi - 1)
    (j:VR B mt (.lop i ⟨(gR s (B.op i).b).lo,(gR s (B.op i).c).hi - 1⟩) (grownR ((lookH w.heads i).getD s) s) {w with before:=w.before.set i.toNat s} u w1)
    (k:VR B mt (.blk (gt mt i+1) to) u w1 t w'):VR B mt (.blk i to) s w t w':=by
  obtain ⟨f1,hf1⟩:=j
  obtain ⟨f,hf⟩:=k
  refine ⟨max f1 f+1,?_⟩
  rw [vrun,if_pos h]
  simp only
  rw [if_neg (by omega),if_pos h1,if_neg hv,vrun_le (show f1≤max f1 f by omega) hf1]
  exact vrun_le (by omega) hf
theorem vr_lopE {v:Rng} {head:List Rng} {w1:W} (j:VR B mt (.blk (i+1) (gt mt i)) (withR head (B.op i).a v) {w with heads:=putH w.heads i head} t w1) (hg:grownR head t=head):VR B mt (.lop i v) head w head w1:=by
  obtain ⟨f,hf⟩:=j
  exact ⟨f+1,by rw [vrun,hf];simp only;rw [if_pos hg]⟩
theorem vr_lop {v:Rng} {head u:List Rng} {w1:W} (j:VR B mt (.blk (i+1) (gt mt i)) (withR head (B.op i).a v) {w with heads:=putH w.heads i head} u w1) (hg:grownR head u≠head)
    (k:VR B mt (.lop i v) (grownR head u) w1 t w'):VR B mt (.lop i v) head w t w':=by
  obtain ⟨f1,hf1⟩:=j
  obtain ⟨f,hf⟩:=k
  refine ⟨max f1 f+1,?_⟩
  rw [vrun,vrun_le (show f1≤max f1 f by omega) hf1]
  simp only
  rw [if_neg hg]
  exact vrun_le (by omega) hf
end
def rkR (r:Rng):Nat:=if r=machR then 0 else if r=intsR then 1 else if r=⟨-1,1⟩ then 2 else if r=boolR then 3 else 4
def rkS (l:List Rng):Nat:=(l.map rkR).sum
theorem grow_rk {a b:Rng} (ha:OkR a) (hb:OkR b):growR a b=a∨rkR (growR a b)<rkR a:=by
  unfold growR
  split
  ·exact .inl rfl
  ·rename_i h
   right
   have hm:=hull_mach ha.2 hb.2
   have hl:=hull_l a b
   have hne:hullR a b≠a:=h
   generalize hullR a b=H at hm hl hne
   obtain ⟨H,H'⟩:=H
   obtain ⟨a,a'⟩:=a
   obtain ⟨l1,l2⟩:=hl
   obtain ⟨m1,m2⟩:=hm
   simp only [machR,maxC] at l1 l2 m1 m2
   have hne': ¬ (H=a∧H'=a'):=fun e=>hne (by rw [e.1,e.2])
   have e1:rkR machR=0:=rfl
   have e2:rkR intsR=1:=rfl
   have e3:rkR ⟨-1,1⟩=2:=rfl
   have e4:rkR boolR=3:=rfl
   have d2:rkR ⟨-2147483648,2147483647⟩=1:=rfl
   have d4:rkR ⟨0,1⟩=3:=rfl
   have hC:maxC=1099511627776:=rfl
   by_cases c1:(⟨a,a'⟩:Rng)=machR
   ·exfalso;cases c1;omega
   by_cases c2:(⟨a,a'⟩:Rng)=intsR
   ·cases c2
    rw [d2]
    unfold widenR
    rw [if_neg (fun h=>by obtain ⟨h1,h2⟩:=h;simp only [boolR] at h1 h2;omega),if_neg (fun h=>by obtain ⟨h1,h2⟩:=h;simp only at h1 h2;omega),if_neg (fun h=>by obtain ⟨h1,h2⟩:=h;simp only [intsR] at h1 h2;omega)]
    rw [e1];omega
   by_cases c3:(⟨a,a'⟩:Rng)=⟨-1,1⟩
   ·cases c3
    rw [e3]
    unfold widenR
    rw [if_neg (fun h=>by obtain ⟨h1,h2⟩:=h;simp only [boolR] at h1 h2;omega),if_neg (fun h=>by obtain ⟨h1,h2⟩:=h;simp only at h1 h2;omega)]
    split
    ·rw [e2];omega
    ·rw [e1];omega
   by_cases c4:(⟨a,a'⟩:Rng)=boolR
   ·cases c4
    rw [d4]
    unfold widenR
    rw [if_neg (fun h=>by obtain ⟨h1,h2⟩:=h;simp only [boolR] at h1 h2;omega)]
    split
    ·rw [e3];omega
    ·split
     ·rw [e2];omega
     ·rw [e1];omega
   ·have:rkR ⟨a,a'⟩=4:=by unfold rkR;rw [if_neg c1,if_neg c2,if_neg c3,if_neg c4]
    rw [this]
    unfold widenR
    split
    ·rw [e4];omega
    ·split
     ·rw [e3];omega
     ·split
      ·rw [e2];omega
      ·rw [e1];omega
theorem grown_rk:∀ {n:Nat} {s t:List Rng},OkS n s→OkS n t→grownR s t=s∨rkS (grownR s t)<rkS s
  |0,[],[],_,_=> .inl rfl
  |0,_::_,_,h,_=>by have:=h.1;simp at this
  |0,[],_::_,_,h=>by have:=h.1;simp at this
  |n+1,[],_,h,_=>by have:=h.1;simp at this
  |n+1,_::_,[],_,h=>by have:=h.1;simp at this
  |n+1,a::s,b::t,h,k=>by
   have h':OkS n s:=⟨by have:=h.1;simpa using this,fun i hi=>by have:=h.2 (i+1) (by omega);simpa using this⟩
   have k':OkS n t:=⟨by have:=k.1;simpa using this,fun i hi=>by have:=k.2 (i+1) (by omega);simpa using this⟩
   have ha:OkR a:=by have:=h.2 0 (by omega);simpa using this
   have hb:OkR b:=by have:=k.2 0 (by omega);simpa using this
   have e:grownR (a::s) (b::t)=growR a b::grownR s t:=rfl
   rw [e]
   simp only [rkS,List.map_cons,List.sum_cons]
   rcases grow_rk ha hb with h1|h1<;>rcases grown_rk h' k' with h2|h2
   ·left;rw [h1,h2]
   ·right;simp only [rkS] at h2;rw [h1];omega
   ·right;rw [h2];omega
   ·right;simp only [rkS] at h2;omega
end Go.Proofs.Ytnlimcijgpaegaa.Bm

namespace Go.Proofs.Ytnlimcijgpaegaa
open Go Go.Fw Bm
set_option maxRecDepth 20000
def bfsV (l:List (List Rng)):List AV:=l.map fun s=> .sl false 2 (rgsV s)
def hdsV (l:List (Int×List Rng)):List (Value×AV):=l.map fun e=>(.int .i64 e.1,.sl false 2 (rgsV e.2))
def bxB (B:Prg):AObj:= .box 45 [.lit (.int .i64 B.regs),.lit (.int .i64 B.arena),.sl false 6 (opsV B.ops),.sl false 2 (plsV B.ins),.sl false 2 (plsV B.outs),.sl false 3 (arrs B.types)]
def wkO (B:Prg) (mt:List Int):AObj:= .box 106 [.lit (.int .i64 B.regs),.lit (.int .i64 B.arena),.sl false 6 (opsV B.ops),.sl false 2 (plsV B.ins),.sl false 2 (plsV B.outs),.sl false 3 (arrs B.types),.sl false 1 (ints .i64 mt),.arr 1 0,.mp 2]
def objs (B:Prg) (mt:List Int) (w:W) (ex:List AObj):List AObj:=bxB B:: .arr 26 1 (bfsV w.before) 0 false:: .map (hdsV w.heads)::wkO B mt::ex
section
variable {B:Prg} {mt:List Int} {w w':W} {ex:List AObj} {x y z:AObj}
theorem ob_len:(objs B mt w ex).length=ex.length+4:=rfl
theorem ob_0:(objs B mt w ex)[0]? =some (bxB B):=rfl
theorem ob_1:(objs B mt w ex)[1]? =some (.arr 26 1 (bfsV w.before) 0 false):=rfl
theorem ob_2:(objs B mt w ex)[2]? =some (.map (hdsV w.heads)):=rfl
theorem ob_3:(objs B mt w ex)[3]? =some (.box 106 [.lit (.int .i64 B.regs),.lit (.int .i64 B.arena),.sl false 6 (opsV B.ops),.sl false 2 (plsV B.ins),.sl false 2 (plsV B.outs),.sl false 3 (arrs B.types),.sl false 1 (ints .i64 mt),.arr 1 0,.mp 2]):=rfl
theorem ob_x {n:Nat}:(objs B mt w ex)[n+4]? =ex[n]? :=rfl
theorem ob_app {l:List AObj}:objs B mt w ex++l=objs B mt w (ex++l):=rfl
theorem ob_s1 {l:List (List Rng)}:(objs B mt w ex).set 1 (.arr 26 1 (bfsV l) 0 false)=objs B mt {w with before:=l} ex:=rfl
theorem ob_s2 {l:List (Int×List Rng)}:(objs B mt w ex).set 2 (.map (hdsV l))=objs B mt {w with heads:=l} ex:=rfl
theorem ob_sx {n:Nat}:(objs B mt w ex).set (n+4) y=objs B mt w (ex.set n y):=rfl
theorem ob_take {l:List AObj}:(objs B mt w (ex++l)).take (ex.length+4)=objs B mt w ex:=by
  show bxB B:: .arr 26 1 (bfsV w.before) 0 false:: .map (hdsV w.heads)::wkO B mt::(ex++l).take ex.length=_
  rw [List.take_left'];rfl;rfl
theorem ob_take0:(objs B mt w ex).take (ex.length+4)=objs B mt w ex:=by
  rw [←ob_len (B:=B) (mt:=mt) (w:=w),List.take_length]
theorem ex_20:(ex++[x,y])[ex.length]? =some x:=by simp
theorem ob_bds {n:Nat} (h:BdS n (objs B mt w ex)):BdS n (objs B mt w' ex):=h.same fun o t cs ho=>by
  rcases o with _|_|_|_|o
  ·exact ho
  ·cases ho
  ·cases ho
  ·exact ho
  ·exact ho
theorem kp_ob {D:Nat→Bool} {l m:List AObj} (h:∀ (o:Nat) (t:TypeId) (cs:List AV),l[o]? =some (AObj.box t cs)→m[o]? =some (AObj.box t cs)):Kp D (objs B mt w l) (objs B mt w' m):=fun o t cs _ ho=>by
  rcases o with _|_|_|_|o
  ·exact ho
  ·cases ho
  ·cases ho
  ·exact ho
  ·exact h o t cs ho
theorem bfsV_length (l:List (List Rng)):(bfsV l).length=l.length:=by simp [bfsV]
theorem bfsV_set (l:List (List Rng)) (i:Nat) (s:List Rng):(bfsV l).set i (.sl false 2 (rgsV s))=bfsV (l.set i s):=by simp [bfsV]
theorem le_bef {n0 j:Nat} {f:Nat→AV}:Le n0 ⟨f,(objs B mt w ex).set 1 (.arr 26 1 ((bfsV w.before).set j (.lit (.slice none 0 0))) 0 false)⟩ ⟨f,objs B mt {w with before:=w.before.set j []} ex⟩:=by
  have fl:∀ l:List (List Rng),flat (bfsV l)=bfsV l:=fun l=>by
    induction l with
    |nil=>rfl
    |cons a l ih=>show AV.cells _++flat (bfsV l)=_;rw [ih];rfl
  have fs:flat ((bfsV w.before).set j (.lit (.slice none 0 0)))=(bfsV w.before).set j (.lit (.slice none 0 0)):=by
    have:∀ l:List AV,(∀ x∈l,x.cells=[x])→flat l=l:=fun l=>by
      induction l with
      |nil=>intro _;rfl
      |cons a l ih=>intro h;show AV.cells a++flat l=_;rw [h a (by simp),ih (fun x hx=>h x (by simp [hx]))];rfl
    apply this
    intro x hx
    rcases List.mem_or_eq_of_mem_set hx with hx|rfl
    ·simp only [bfsV,List.mem_map] at hx
     obtain ⟨_,_,rfl⟩:=hx;rfl
    ·rfl
  refine Le.trans (le_arrE (o:=1) (ys:=bfsV (w.before.set j [])) (xs:=(bfsV w.before).set j (.lit (.slice none 0 0))) rfl ?_ ?_ ?_ ?_) (Le.refl _ _)
  ·simp [bfsV]
  ·intro y hy
   simp only [bfsV,List.mem_map] at hy
   obtain ⟨_,_,rfl⟩:=hy;rfl
  ·rw [fl,fs];simp [bfsV]
  ·intro i hi
   rw [fl,fs]
   rw [fs] at hi
   simp only [List.length_set,bfsV_length] at hi
   by_cases e:i=j
   ·subst e
    rw [List.getD_eq_getElem?_getD,List.getElem?_set_self (by rw [bfsV_length];exact hi),List.getD_eq_getElem?_getD]
    have:(bfsV (w.before.set i []))[i]? =some (.sl false 2 []):=by simp [bfsV,hi,rgsV]
    rw [this]
    exact LeA.nil _ _
   ·rw [List.getD_eq_getElem?_getD,List.getElem?_set_ne (fun h=>e h.symm),List.getD_eq_getElem?_getD]
    have:(bfsV (w.before.set j []))[i]? =(bfsV w.before)[i]? :=by simp [bfsV,List.getElem?_set_ne (fun h=>e h.symm)]
    rw [this]
    exact LeA.refl _
end
attribute [go_sem] ob_len ob_0 ob_1 ob_2 ob_3 ob_x ob_app ob_s1 ob_s2 ob_sx ob_take ob_take0 ex_20 bfsV_length bfsV_set
theorem wipe_0 (l:List (List Rng)) (i j:Int) (h:j≤i):wipe l i j=l:=by
  apply List.ext_getElem?
  intro n
  simp only [wipe,List.getElem?_mapIdx]
  cases l[n]? with
  |none=>rfl
  |some a=>simp only [Option.map_some];rw [if_neg (by omega)]
theorem wipe_s (l:List (List Rng)) (i:Int) (j:Nat) (h:i≤j):(wipe l i j).set j []=wipe l i ((j:Int)+1):=by
  apply List.ext_getElem?
  intro n
  rw [List.getElem?_set]
  by_cases e:j=n
  ·subst e
   rw [if_pos rfl]
   simp only [wipe,List.length_mapIdx,List.getElem?_mapIdx]
   split
   ·rename_i hl
    rw [List.getElem?_eq_getElem hl,Option.map_some,if_pos (by omega)]
   ·rename_i hl
    rw [List.getElem?_eq_none (by omega)];rfl
  ·rw [if_neg e]
   simp only [wipe,List.getElem?_mapIdx]
   cases l[n]? with
   |none=>rfl
   |some a=>
    simp only [Option.map_some]
    by_cases c:i≤n∧(n:Int)<j
    ·rw [if_pos c,if_pos (by omega)]
    ·rw [if_neg c,if_neg (by omega)]
noncomputable def D0:Env:=envJ (P:=Try.prog) jkR zer (fun _=>false) (fun _=>false) [] []
theorem D0_ok:EnvOk Try.prog D0:=envJOk zer_ok
set_option maxHeartbeats 4000000 in
theorem dead_ec {B:Prg} {mt:List Int} {w:W} {ex:List AObj} {i to:Int} {k:AV→List AObj→Prop} (h0:0≤i) (h1:to≤w.before.length) (hl:w.before.length≤1000000) (hi:i≤1000000)
    (hk:k (.tup []) (objs B mt {w with before:=wipe w.before i to} ex)):EC Try.prog 118 [.ref 3 0,.lit (.int .i64 i),.lit (.int .i64 to)] (objs B mt w ex) k:=by
  refine ec_fin fun hbd=>?_
  obtain ⟨n,rfl⟩:∃ n:Nat,i=n:=⟨i.toNat,by omega⟩
  refine ecR D0_ok (kp118) Try.func118 [] (h:=fun KF=>?_)
  unfold D0
  repeat' (first
   |(with_reducible first|refine nx ?_|refine t_seq fun K=>?_|refine t_br (fun hc=>?_) fun hc=>?_|refine t_bx ?_|apply And.intro|intro vr)
   |((with_reducible first|refine ny ?_|refine t_dwh (h:=fun K KL=>?_));intros;simp only [go_sem,kp118,geff]))
  all_goals try exact nd
  refine t_loopF (ι:={j:Nat // n≤j∧((j:Int)≤to∨j=n)}) (fun i=>[(6,.lit (.int .i64 i.1))]) (fun i=>objs B mt {w with before:=wipe w.before n i.1} ex) (fun i=>to.toNat - i.1) ⟨n,Nat.le_refl _,.inr rfl⟩ ?_ ?_
  ·simp only [wipe_0,Int.le_refl]
   exact lf
  rintro ⟨j,hj,hq⟩ K0
  have hwl:(wipe w.before n j).length=w.before.length:=wipe_length _ _ _
  rcases Int.lt_or_le (j:Int) to with hc|hc
  ·have g3:decide ((j:Int)<to)=true:=decide_eq_true hc
   repeat' (first
    |(with_reducible first|refine nx ?_|refine t_seq fun K=>?_|refine t_br (fun hc=>?_) fun hc=>?_|refine t_bx ?_|apply And.intro|intro vr)
    |((with_reducible first|refine ny ?_|refine t_dwh (h:=fun K KL=>?_));intros;simp only [go_sem,kp118,geff,g3,Int.toNat_natCast]))
   all_goals try exact nd
   have hws:(wipe w.before n j).set j []=wipe w.before n ((j+1:Nat):Int):=by rw [wipe_s _ _ _ (by omega)];rfl
   refine ⟨⟨j+1,by omega,.inl (by omega)⟩,by simp only;omega,?_⟩
   refine (le_bef (w:=⟨wipe w.before n j,w.heads⟩)).trans ?_
   simp only [hws]
   exact lg
  ·have g3:decide ((j:Int)<to)=false:=decide_eq_false (by omega)
   have hwe:wipe w.before n j=wipe w.before n to:=by
     rcases hq with hq|rfl
     ·rw [show (j:Int)=to by omega]
     ·rw [wipe_0 _ _ _ (Int.le_refl _),wipe_0 _ _ _ hc]
   repeat' (first
    |(with_reducible first|refine nx ?_|refine t_seq fun K=>?_|refine t_br (fun hc=>?_) fun hc=>?_|refine t_bx ?_|apply And.intro|intro vr)
    |((with_reducible first|refine ny ?_|refine t_dwh (h:=fun K KL=>?_));intros;simp only [go_sem,kp118,geff,g3,hwe]))
   all_goals try exact nd
   all_goals (refine nl ?_;simp only [go_sem,finE])
   exact ⟨_,_,rfl,LeA.refl _,ob_bds hbd,hk⟩
end Go.Proofs.Ytnlimcijgpaegaa

namespace Go.Proofs.Ytnlimcijgpaegaa
open Go Go.Fw Bm
set_option maxRecDepth 20000
structure PreW (B:Prg) (n:Nat) (w:W):Prop where
  len:w.before.length=B.ops.length
  hd:HOk n w
structure Wk (B:Prg) (mt:List Int) (n:Nat):Prop where
  nest:Nest B.ops mt
  rights:Rights B n
  len:B.ops.length≤1000000
  n:n≤1000000
  mtl:mt.length=B.ops.length
def BlkH (B:Prg) (mt:List Int) (n N:Nat):Prop:=∀ (i to:Int) (s:List Rng) (w:W) (ex:List AObj) (k:AV→List AObj→Prop),to - i≤N→Cl B mt i to→OkS n s→PreW B n w→
  (∀ t w',VR B mt (.blk i to) s w t w'→k (.sl false 2 (rgsV t)) (objs B mt w' ex))→EC Try.prog 46 [.ref 3 0,.lit (.int .i64 i),.lit (.int .i64 to),.sl false 2 (rgsV s)] (objs B mt w ex) k
noncomputable def ecnB {B:Prg} {mt:List Int} {n N:Nat} (h:BlkH B mt n N):ECon Try.prog where
  f:=46
  c:=fun args σ k=>∃ (i to:Int) (s:List Rng) (w:W) (ex:List AObj),args=[.ref 3 0,.lit (.int .i64 i),.lit (.int .i64 to),.sl false 2 (rgsV s)]∧σ=objs B mt w ex∧to - i≤N∧Cl B mt i to∧OkS n s∧PreW B n w∧
   ∀ t w',VR B mt (.blk i to) s w t w'→k (.sl false 2 (rgsV t)) (objs B mt w' ex)
  ok:=by
   rintro _ _ k ⟨i,to,s,w,ex,rfl,rfl,h1,h2,h3,h4,h5⟩
   exact h i to s w ex k h1 h2 h3 h4 h5
  fk:=fk46
theorem ecnB_f {B:Prg} {mt:List Int} {n N:Nat} (h:BlkH B mt n N):(ecnB h).f=46:=rfl
theorem ecnB_i {B:Prg} {mt:List Int} {n N:Nat} {h:BlkH B mt n N} {i to:Int} {s:List Rng} {w:W} {ex:List AObj} {k:AV→List AObj→Prop} (h1:to - i≤N) (h2:Cl B mt i to) (h3:OkS n s) (h4:PreW B n w)
    (h5:∀ t w',VR B mt (.blk i to) s w t w'→k (.sl false 2 (rgsV t)) (objs B mt w' ex)):(ecnB h).c [.ref 3 0,.lit (.int .i64 i),.lit (.int .i64 to),.sl false 2 (rgsV s)] (objs B mt w ex) k:=
  ⟨i,to,s,w,ex,rfl,rfl,h1,h2,h3,h4,h5⟩
noncomputable def ecn118 (B:Prg) (mt:List Int):ECon Try.prog where
  f:=118
  c:=fun args σ k=>∃ (i to:Int) (w:W) (ex:List AObj),args=[.ref 3 0,.lit (.int .i64 i),.lit (.int .i64 to)]∧σ=objs B mt w ex∧(0≤i∧to≤w.before.length∧w.before.length≤1000000∧i≤1000000)∧k (.tup []) (objs B mt {w with before:=wipe w.before i to} ex)
  ok:=by
   rintro _ _ k ⟨i,to,w,ex,rfl,rfl,⟨h1,h2,h3,h4⟩,h5⟩
   exact dead_ec h1 h2 h3 h4 h5
  fk:=fk118
theorem ecn118_f {B:Prg} {mt:List Int}:(ecn118 B mt).f=118:=rfl
theorem ecn118_i {B:Prg} {mt:List Int} {i to:Int} {w:W} {ex:List AObj} {k:AV→List AObj→Prop} (h:0≤i∧to≤w.before.length∧w.before.length≤1000000∧i≤1000000) (h5:k (.tup []) (objs B mt {w with before:=wipe w.before i to} ex)):
    (ecn118 B mt).c [.ref 3 0,.lit (.int .i64 i),.lit (.int .i64 to)] (objs B mt w ex) k:=⟨i,to,w,ex,rfl,rfl,h,h5⟩
attribute [go_sem] ecnB_f ecn118_f
noncomputable def D1 {B:Prg} {mt:List Int} {n N:Nat} (h:BlkH B mt n N):Env:=envJ (P:=Try.prog) jkR zer (fun _=>false) (fun _=>false) [con90] [ecn118 B mt,ecnB h]
theorem D1_ok {B:Prg} {mt:List Int} {n N:Nat} (h:BlkH B mt n N):EnvOk Try.prog (D1 h):=envJOk zer_ok
theorem PreW.wipe {B:Prg} {n:Nat} {w:W} (h:PreW B n w) (i to:Int):PreW B n {w with before:=wipe w.before i to}:=⟨by rw [wipe_length];exact h.len,h.hd⟩
theorem vr_ok {B:Prg} {mt:List Int} {n:Nat} (hK:Wk B mt n) {i to:Int} {s t:List Rng} {w w':W} (h:VR B mt (.blk i to) s w t w') (hc:Cl B mt i to) (hs:OkS n s) (hw:PreW B n w):OkS n t∧PreW B n w':=by
  obtain ⟨f,hf⟩:=h
  have h1:=vrun_ok hK.nest hK.rights f _ _ _ _ _ hf hc hs hw.hd (fun i v e=>by cases e)
  have h2:=vrun_wr hK.nest f (.blk i to) _ _ _ _ hc hf
  exact ⟨h1.1,⟨h2.1.trans hw.len,h1.2⟩⟩
theorem pv_ok {B:Prg} {mt:List Int} {n:Nat} (hK:Wk B mt n) {i to:Int} {s:List Rng} {o:Option (List Rng)} {r:Int} {x:Rng} {w w':W} (h:PV B mt i to s r x w o w') (hc:Cl B mt i to) (hs:OkS n s) (hx: ¬ x.lo>x.hi→OkR x) (hw:PreW B n w):
    (∀ l,o=some l→OkS n l)∧PreW B n w':=by
  rcases h with ⟨_,rfl,rfl⟩|⟨h0,t,rfl,hv⟩
  ·exact ⟨fun l h=>(by cases h),hw.wipe i to⟩
  ·obtain ⟨h1,h2⟩:=vr_ok hK hv hc (hs.with (hx h0)) hw
   exact ⟨fun l h=>(by cases h;exact h1),h2⟩
theorem part_ec {B:Prg} {mt:List Int} {n N:Nat} (hK:Wk B mt n) (hB:BlkH B mt n N) {i to r:Int} {s:List Rng} {x:Rng} {w:W} {ex:List AObj} {k:AV→List AObj→Prop} (h1:to - i≤N) (h2:Cl B mt i to) (h3:OkS n s) (h4:PreW B n w)
    (hr:0≤r∧r<n) (hx: ¬ x.lo>x.hi→OkR x) (hi:i≤1000000) (h5:∀ o w',PV B mt i to s r x w o w'→k (orV o) (objs B mt w' ex)):
    EC Try.prog 116 [.ref 3 0,.lit (.int .i64 i),.lit (.int .i64 to),.sl false 2 (rgsV s),.lit (.int .i64 r),rgV x] (objs B mt w ex) k:=by
  refine ec_fin fun hbd=>?_
  have hl:=h4.len
  have hL:=hK.len
  have hN:=hK.n
  have hsl:=h3.1
  have h20:=h2.1
  have h21:=h2.2.1
  obtain ⟨x,x'⟩:=x
  by_cases hc:x>x'
  ·have g1:decide (x>x')=true:=decide_eq_true hc
   simp only [rgV_mk]
   refine ecR (D1_ok hB) (kp116) Try.func116 [.tmp 12] (h:=fun KF=>?_)
   unfold D1
   repeat' (first
    |(with_reducible first|refine nx ?_|refine t_seq fun K=>?_|refine t_br (fun hc=>?_) fun hc=>?_|refine t_bx ?_|apply And.intro|intro vr)
    |((with_reducible first|refine ny ?_|refine t_dwh (h:=fun K KL=>?_));intros;simp only [go_sem,kp116,geff,g1]))
   all_goals try exact nd
   refine ecn118_i ⟨h20,by omega,by omega,hi⟩ ?_
   repeat' (first
    |(with_reducible first|refine nx ?_|refine t_seq fun K=>?_|refine t_br (fun hc=>?_) fun hc=>?_|refine t_bx ?_|apply And.intro|intro vr)
    |((with_reducible first|refine ny ?_|refine t_dwh (h:=fun K KL=>?_));intros;simp only [go_sem,kp116,geff]))
   all_goals try exact nd
   all_goals (refine nl ?_;simp only [go_sem,finE])
   exact ⟨_,_,rfl,LeA.refl _,ob_bds hbd,h5 none _ (.inl ⟨hc,rfl,rfl⟩)⟩
  ·have g1:decide (x>x')=false:=decide_eq_false hc
   simp only [rgV_mk]
   refine ecR (D1_ok hB) (kp116) Try.func116 [.tmp 12] (h:=fun KF=>?_)
   unfold D1
   repeat' (first
    |(with_reducible first|refine nx ?_|refine t_seq fun K=>?_|refine t_br (fun hc=>?_) fun hc=>?_|refine t_bx ?_|apply And.intro|intro vr)
    |((with_reducible first|refine ny ?_|refine t_dwh (h:=fun K KL=>?_));intros;simp only [go_sem,kp116,geff,g1]))
   all_goals try exact nd
   refine ecnB_i h1 h2 (h3.with (hx hc)) h4 fun t w' hv=>?_
   repeat' (first
    |(with_reducible first|refine nx ?_|refine t_seq fun K=>?_|refine t_br (fun hc=>?_) fun hc=>?_|refine t_bx ?_|apply And.intro|intro vr)
    |((with_reducible first|refine ny ?_|refine t_dwh (h:=fun K KL=>?_));intros;simp only [go_sem,kp116,geff]))
   all_goals try exact nd
   all_goals (refine nl ?_;simp only [go_sem,finE])
   exact ⟨_,_,rfl,LeA.refl _,ob_bds hbd,h5 (some t) _ (.inr ⟨hc,t,rfl,hv⟩)⟩
noncomputable def ecnP {B:Prg} {mt:List Int} {n N:Nat} (hK:Wk B mt n) (hB:BlkH B mt n N):ECon Try.prog where
  f:=116
  c:=fun args σ k=>∃ (i to r:Int) (s:List Rng) (x:Rng) (w:W) (ex:List AObj),args=[.ref 3 0,.lit (.int .i64 i),.lit (.int .i64 to),.sl false 2 (rgsV s),.lit (.int .i64 r),rgV x]∧σ=objs B mt w ex∧to - i≤N∧Cl B mt i to∧OkS n s∧PreW B n w∧
   (0≤r∧r<n)∧(¬ x.lo>x.hi→OkR x)∧i≤1000000∧∀ o w',PV B mt i to s r x w o w'→k (orV o) (objs B mt w' ex)
  ok:=by
   rintro _ _ k ⟨i,to,r,s,x,w,ex,rfl,rfl,h1,h2,h3,h4,h5,h6,h7,h8⟩
   exact part_ec hK hB h1 h2 h3 h4 h5 h6 h7 h8
  fk:=fk116
theorem ecnP_f {B:Prg} {mt:List Int} {n N:Nat} (hK:Wk B mt n) (hB:BlkH B mt n N):(ecnP hK hB).f=116:=rfl
theorem ecnP_i {B:Prg} {mt:List Int} {n N:Nat} {hK:Wk B mt n} {hB:BlkH B mt n N} {i to r:Int} {s:List Rng} (x:Rng) {w:W} {ex:List AObj} {k:AV→List AObj→Prop} (h1:to - i≤N) (h2:Cl B mt i to) (h3:OkS n s) (h4:PreW B n w)
    (h5:0≤r∧r<n) (h6: ¬ x.lo>x.hi→OkR x) (h7:i≤1000000) (h8:∀ o w',PV B mt i to s r x w o w'→k (orV o) (objs B mt w' ex)):
    (ecnP hK hB).c [.ref 3 0,.lit (.int .i64 i),.lit (.int .i64 to),.sl false 2 (rgsV s),.lit (.int .i64 r),.agg [.lit (.int .i64 x.lo),.lit (.int .i64 x.hi)]] (objs B mt w ex) k:=
  ⟨i,to,r,s,x,w,ex,rfl,rfl,h1,h2,h3,h4,h5,h6,h7,h8⟩
attribute [go_sem] ecnP_f
theorem kp_obs {B:Prg} {mt:List Int} {w w':W} {ex:List AObj} {D:Nat→Bool}:Kp D (objs B mt w ex) (objs B mt w' ex):=kp_ob fun _ _ _ h=>h
noncomputable def D2 {B:Prg} {mt:List Int} {n N:Nat} (hK:Wk B mt n) (hB:BlkH B mt n N):Env:=envJ (P:=Try.prog) jkR zer (fun _=>false) (fun _=>false) [con117] [ecnP hK hB]
theorem D2_ok {B:Prg} {mt:List Int} {n N:Nat} (hK:Wk B mt n) (hB:BlkH B mt n N):EnvOk Try.prog (D2 hK hB):=envJOk zer_ok
theorem orV_some {l:List Rng}:orV (some l)= .sl false 2 (rgsV l):=rfl
theorem orV_none:orV none= .lit (.slice none 0 0):=rfl
set_option maxHeartbeats 8000000 in
theorem branch_ec {B:Prg} {mt:List Int} {n N:Nat} (hK:Wk B mt n) (hB:BlkH B mt n N) {i to:Int} {s:List Rng} {w:W} {ex:List AObj} {k:AV→List AObj→Prop} (h1:to - i≤N+1) (h2:Cl B mt i to) (hi:i<to) (ho:(B.op i).code=11) (h3:OkS n s) (h4:PreW B n w)
    (h5:∀ yes no w1 w2 u,PV B mt (i+1) (gt mt i) s (B.op i).a ⟨maxI (gR s (B.op i).a).lo 0,(gR s (B.op i).a).hi⟩ w yes w1→
      PV B mt (minI (gt mt i+1) (gt mt (gt mt i))) (gt mt (gt mt i)) s (B.op i).a ⟨(gR s (B.op i).a).lo,minI (gR s (B.op i).a).hi (-1)⟩ w1 no w2→hullsR yes no=some u→k (.tup [.sl false 2 (rgsV u),.lit (.int .i64 (gt mt (gt mt i)))]) (objs B mt w2 ex)):
    EC Try.prog 87 [.ref 3 0,.lit (.int .i64 i),.sl false 2 (rgsV s)] (objs B mt w ex) k:=by
  refine ec_fin fun hbd=>?_
  have hL:=hK.len
  have hn:=hK.n
  have hml:=hK.mtl
  have h20:=h2.1
  have h21:=h2.2.1
  have hsl:=h3.1
  have hin:=hK.nest.inner h20 (by omega) (.inr (.inl ho))
  obtain ⟨e1,e2,e3,_,e5,_⟩:=hK.nest.end_ h2 hi ho
  have hreg:=(right_regs (hK.rights i h20 (by omega))).a (.inr ho)
  have hr:=h3.at (B.op i).a
  have hopd:B.ops.getD i.toNat nilI=B.op i:=rfl
  have gm:mt.getD i.toNat 0=gt mt i:=rfl
  have gf:mt.getD (gt mt i).toNat 0=gt mt (gt mt i):=rfl
  generalize gt mt (gt mt i)=f at*
  generalize gt mt i=m at*
  generalize B.op i=X at*
  obtain ⟨q,p,a,b,c,d⟩:=X
  simp only at ho hreg hr h5
  have gs:s.getD a.toNat nilR=gR s a:=rfl
  generalize gR s a=r at*
  obtain ⟨r,r'⟩:=r
  simp only at h5 hr
  have hmn:minI (m+1) f≤f∧0≤minI (m+1) f∧i+1≤minI (m+1) f:=by unfold minI;split<;>omega
  refine ecR (D2_ok hK hB) (kp87) Try.func87 [.tmp 6,.tmp 7] (h:=fun KF=>?_)
  unfold D2
  repeat' (first
   |(with_reducible first|refine nx ?_|refine t_seq fun K=>?_|refine t_br (fun hc=>?_) fun hc=>?_|refine t_bx ?_|apply And.intro|intro vr)|exact kp_obs|exact kpd
   |((with_reducible first|refine ny ?_|refine t_kLF ?_ ?_|refine t_drawE (id:=3) (fun _=>true) [(0,1),(1,1),(2,1),(3,1),(4,1),(5,1),(6,1),(7,1),(8,1),(9,1),(10,1),(11,1),(12,1),(13,1),(14,1),(15,1),(16,1),(17,1),(18,0),(19,1)] (by kernel_rfl) fun K=>?_|refine t_drawE (id:=5) (fun _=>true) [(0,1),(1,1),(2,1),(3,1),(4,1),(5,1),(6,1),(7,1),(8,1),(9,1),(10,1),(11,1),(12,1),(13,1),(14,1),(15,1),(16,1),(17,1),(18,1),(19,1),(20,0),(21,1)] (by kernel_rfl) fun K=>?_|refine t_dwh (h:=fun K KL=>?_));intros;simp only [go_sem,kp87,geff,hopd,gm,gf,gs,yes]))
  all_goals try exact nd
  refine ecnP_i ⟨maxI r 0,r'⟩ (by omega) hin h3 h4 hreg (fun h=>ok_yes hr h) (by omega) fun o1 w1 hy=>?_
  obtain ⟨y1,y2⟩:=pv_ok hK hy hin h3 (fun h=>ok_yes hr h) h4
  repeat' (first
   |(with_reducible first|refine nx ?_|refine t_seq fun K=>?_|refine t_br (fun hc=>?_) fun hc=>?_|refine t_bx ?_|apply And.intro|intro vr)|exact kp_obs|exact kpd
   |((with_reducible first|refine ny ?_|refine t_kLF ?_ ?_|refine t_drawE (id:=3) (fun _=>true) [(0,1),(1,1),(2,1),(3,1),(4,1),(5,1),(6,1),(7,1),(8,1),(9,1),(10,1),(11,1),(12,1),(13,1),(14,1),(15,1),(16,1),(17,1),(18,0),(19,1)] (by kernel_rfl) fun K=>?_|refine t_drawE (id:=5) (fun _=>true) [(0,1),(1,1),(2,1),(3,1),(4,1),(5,1),(6,1),(7,1),(8,1),(9,1),(10,1),(11,1),(12,1),(13,1),(14,1),(15,1),(16,1),(17,1),(18,1),(19,1),(20,0),(21,1)] (by kernel_rfl) fun K=>?_|refine t_dwh (h:=fun K KL=>?_));intros;simp only [go_sem,kp87,geff,hopd,gm,gf,gs,yes]))
  all_goals try exact nd
  refine ecnP_i ⟨r,minI r' (-1)⟩ (by omega) e5 h3 y2 hreg (fun h=>ok_no hr h) (by omega) fun o2 w2 hn=>?_
  obtain ⟨z1,z2⟩:=pv_ok hK hn e5 h3 (fun h=>ok_no hr h) y2
  cases o1 with
  |none=>
   cases o2 with
   |none=>
    exfalso
    rcases hy with ⟨q1,_,_⟩|⟨_,_,q2,_⟩
    ·rcases hn with ⟨q3,_,_⟩|⟨_,_,q4,_⟩
     ·obtain ⟨q5,_⟩:=hr
      simp only [maxI,minI] at q1 q3
      simp only at q5
      split at q1<;>split at q3<;>omega
     ·cases q4
    ·cases q2
   |some v=>
    simp only [orV_some,orV_none]
    repeat' (first
     |(with_reducible first|refine nx ?_|refine t_seq fun K=>?_|refine t_br (fun hc=>?_) fun hc=>?_|refine t_bx ?_|apply And.intro|intro vr)|exact kp_obs|exact kpd
     |((with_reducible first|refine ny ?_|refine t_kLF ?_ ?_|refine t_drawE (id:=3) (fun _=>true) [(0,1),(1,1),(2,1),(3,1),(4,1),(5,1),(6,1),(7,1),(8,1),(9,1),(10,1),(11,1),(12,1),(13,1),(14,1),(15,1),(16,1),(17,1),(18,0),(19,1)] (by kernel_rfl) fun K=>?_|refine t_drawE (id:=5) (fun _=>true) [(0,1),(1,1),(2,1),(3,1),(4,1),(5,1),(6,1),(7,1),(8,1),(9,1),(10,1),(11,1),(12,1),(13,1),(14,1),(15,1),(16,1),(17,1),(18,1),(19,1),(20,0),(21,1)] (by kernel_rfl) fun K=>?_|refine t_dwh (h:=fun K KL=>?_));intros;simp only [go_sem,kp87,geff,yes]))
    all_goals try exact nd
    all_goals (refine nl ?_;simp only [go_sem,finE])
    exact ⟨_,_,rfl,LeA.refl _,ob_bds hbd,h5 _ _ _ _ v hy hn rfl⟩
  |some u=>
   have u1:=(y1 u rfl).1
   cases o2 with
   |none=>
    simp only [orV_some,orV_none]
    repeat' (first
     |(with_reducible first|refine nx ?_|refine t_seq fun K=>?_|refine t_br (fun hc=>?_) fun hc=>?_|refine t_bx ?_|apply And.intro|intro vr)|exact kp_obs|exact kpd
     |((with_reducible first|refine ny ?_|refine t_kLF ?_ ?_|refine t_drawE (id:=3) (fun _=>true) [(0,1),(1,1),(2,1),(3,1),(4,1),(5,1),(6,1),(7,1),(8,1),(9,1),(10,1),(11,1),(12,1),(13,1),(14,1),(15,1),(16,1),(17,1),(18,0),(19,1)] (by kernel_rfl) fun K=>?_|refine t_drawE (id:=5) (fun _=>true) [(0,1),(1,1),(2,1),(3,1),(4,1),(5,1),(6,1),(7,1),(8,1),(9,1),(10,1),(11,1),(12,1),(13,1),(14,1),(15,1),(16,1),(17,1),(18,1),(19,1),(20,0),(21,1)] (by kernel_rfl) fun K=>?_|refine t_dwh (h:=fun K KL=>?_));intros;simp only [go_sem,kp87,geff,yes]))
    all_goals try exact nd
    all_goals (refine nl ?_;simp only [go_sem,finE])
    exact ⟨_,_,rfl,LeA.refl _,ob_bds hbd,h5 _ _ _ _ u hy hn rfl⟩
   |some v=>
    have v1:=(z1 v rfl).1
    simp only [orV_some]
    repeat' (first
     |(with_reducible first|refine nx ?_|refine t_seq fun K=>?_|refine t_br (fun hc=>?_) fun hc=>?_|refine t_bx ?_|apply And.intro|intro vr)|exact kp_obs|exact kpd
     |((with_reducible first|refine ny ?_|refine t_kLF ?_ ?_|refine t_drawE (id:=3) (fun _=>true) [(0,1),(1,1),(2,1),(3,1),(4,1),(5,1),(6,1),(7,1),(8,1),(9,1),(10,1),(11,1),(12,1),(13,1),(14,1),(15,1),(16,1),(17,1),(18,0),(19,1)] (by kernel_rfl) fun K=>?_|refine t_drawE (id:=5) (fun _=>true) [(0,1),(1,1),(2,1),(3,1),(4,1),(5,1),(6,1),(7,1),(8,1),(9,1),(10,1),(11,1),(12,1),(13,1),(14,1),(15,1),(16,1),(17,1),(18,1),(19,1),(20,0),(21,1)] (by kernel_rfl) fun K=>?_|refine t_dwh (h:=fun K KL=>?_));intros;simp only [go_sem,kp87,geff,yes]))
    all_goals try exact nd
    all_goals (refine nl ?_;simp only [go_sem,finE])
    exact ⟨_,_,rfl,LeA.refl _,ob_bds hbd,h5 _ _ _ _ (List.zipWith hullR u v) hy hn rfl⟩
end Go.Proofs.Ytnlimcijgpaegaa

namespace Go.Proofs.Ytnlimcijgpaegaa
open Go Go.Fw Bm
set_option maxRecDepth 20000
theorem kp_o1 {B:Prg} {mt:List Int} {w w':W} {ex:List AObj} {x y:AObj} {D:Nat→Bool}:Kp D (objs B mt w (ex++[x])) (objs B mt w' (ex++[x,y])):=kp_ob fun o t cs h=>by
  rw [show ex++[x,y]=(ex++[x])++[y] by simp]
  exact get_app_of h _
theorem kp_o2 {B:Prg} {mt:List Int} {w:W} {ex:List AObj} {x y z:AObj}:Kp (fun i=>i==ex.length+4) (objs B mt w (ex++[x,y])) (objs B mt w (ex++[x,z])):=fun o t cs hD ho=>by
  have e:o=ex.length+4:=by simpa using hD
  subst e
  rw [ob_x] at ho ⊢
  rw [ex_20] at ho ⊢
  exact ho
theorem find_hds (l:List (Int×List Rng)) (i:Int):findA (.int .i64) (.int .i64 i) (hdsV l)=some ((lookH l i).map fun s=> .sl false 2 (rgsV s)):=by
  induction l with
  |nil=>rfl
  |cons e l ih=>
   show findA (.int .i64) (.int .i64 i) ((.int .i64 e.1,.sl false 2 (rgsV e.2))::hdsV l)=_
   rw [findA]
   show (match (if IntKind.i64=IntKind.i64 then some (i==e.1) else none) with|some true=>_|some false=>_|none=>_)=_
   rw [if_pos rfl]
   by_cases h:i=e.1
   ·have hb:(i==e.1)=true:=by simpa using h
    rw [hb];simp only [lookH];rw [if_pos h];rfl
   ·have hb:(i==e.1)=false:=by simpa using h
    rw [hb];simp only [lookH];rw [if_neg h];exact ih
theorem put_hds (l:List (Int×List Rng)) (i:Int) (s:List Rng):putA (.int .i64) (.int .i64 i) (.sl false 2 (rgsV s)) (hdsV l)=some (hdsV (putH l i s)):=by
  induction l with
  |nil=>rfl
  |cons e l ih=>
   show putA (.int .i64) (.int .i64 i) (.sl false 2 (rgsV s)) ((.int .i64 e.1,.sl false 2 (rgsV e.2))::hdsV l)=_
   rw [putA]
   show (match (if IntKind.i64=IntKind.i64 then some (i==e.1) else none) with|some true=>_|some false=>_|none=>_)=_
   rw [if_pos rfl]
   by_cases h:i=e.1
   ·have hb:(i==e.1)=true:=by simpa using h
    rw [hb];simp only [putH];rw [if_pos h];rfl
   ·have hb:(i==e.1)=false:=by simpa using h
    rw [hb];simp only [putH];rw [if_neg h];simp only [ih];rfl
theorem und104:Try.prog.underlying 104=some (.map 3 26):=by kernel_rfl
theorem keyT_i:keyT (.int .i64)=true:=rfl
theorem zeroT26:(zeroT Try.prog 26).isSome=true:=by kernel_rfl
theorem hok_put {n:Nat} {w:W} {i:Int} {s:List Rng} (h:HOk n w) (hs:OkS n s):HOk n {w with heads:=putH w.heads i s}:=fun j l hl=>by
  rw [lookH_put] at hl
  split at hl
  ·cases hl;exact hs
  ·exact h j l hl
noncomputable def D3 {B:Prg} {mt:List Int} {n N:Nat} (hK:Wk B mt n) (hB:BlkH B mt n N):Env:=envJ (P:=Try.prog) jkR zer (fun _=>false) (fun _=>false) [con119,con90,con120] [ecn118 B mt,ecnB hB]
theorem D3_ok {B:Prg} {mt:List Int} {n N:Nat} (hK:Wk B mt n) (hB:BlkH B mt n N):EnvOk Try.prog (D3 hK hB):=envJOk zer_ok
attribute [go_sem] con120_f con120_c
structure Lp (B:Prg) (mt:List Int) (n:Nat) (i:Int) (v:Rng) (h0:List Rng) (w0:W) where
  head:List Rng
  w:W
  hs:OkS n head
  hw:PreW B n w
  hv:∀ u w1,VR B mt (.lop i v) head w u w1→VR B mt (.lop i v) h0 w0 u w1
set_option maxHeartbeats 8000000 in
theorem loop_ec {B:Prg} {mt:List Int} {n N:Nat} (hK:Wk B mt n) (hB:BlkH B mt n N) {i to:Int} {s:List Rng} {w:W} {ex:List AObj} {k:AV→List AObj→Prop} (h1:to - i≤N+1) (h2:Cl B mt i to) (hi:i<to) (ho:(B.op i).code=10) (h3:OkS n s) (h4:PreW B n w)
    (h5:(gR s (B.op i).b).lo>(gR s (B.op i).c).hi - 1→k (.sl false 2 (rgsV s)) (objs B mt {w with before:=wipe w.before (i+1) (gt mt i)} ex))
    (h6: ¬ (gR s (B.op i).b).lo>(gR s (B.op i).c).hi - 1→∀ u w1,VR B mt (.lop i ⟨(gR s (B.op i).b).lo,(gR s (B.op i).c).hi - 1⟩) (grownR ((lookH w.heads i).getD s) s) w u w1→k (.sl false 2 (rgsV u)) (objs B mt w1 ex)):
    EC Try.prog 88 [.ref 3 0,.lit (.int .i64 i),.sl false 2 (rgsV s)] (objs B mt w ex) k:=by
  refine ec_fin fun hbd=>?_
  have hL:=hK.len
  have hn:=hK.n
  have hml:=hK.mtl
  have h20:=h2.1
  have h21:=h2.2.1
  have hsl:=h3.1
  have hwl:=h4.len
  have hin:=hK.nest.inner h20 (by omega) (.inl ho)
  obtain ⟨e1,e2,_,_⟩:=hK.nest.at h20 (by omega) (.inl ho)
  have hmt:=h2.2.2 i (Int.le_refl _) hi (.inl ho)
  have hright:=right_regs (hK.rights i h20 (by omega))
  have hrb:=hright.b (by omega)
  have hrc:=hright.c (by omega)
  have hra:=hright.w (by rw [ho];rfl)
  have hb:=okR_bd (h3.at (B.op i).b)
  have hc:=okR_bd (h3.at (B.op i).c)
  have ob:=h3.at (B.op i).b
  have oc:=h3.at (B.op i).c
  have hX:(B.op i).a=(B.op i).a:=rfl
  have hopd:B.ops.getD i.toNat nilI=B.op i:=rfl
  have gm:mt.getD i.toNat 0=gt mt i:=rfl
  generalize hA:(B.op i).a=a at*
  have hA':∀ hd:List Rng,withR hd (B.op i).a=withR hd a:=fun hd=>by rw [hA]
  generalize hm:gt mt i=m at*
  have gb:s.getD (B.op i).b.toNat nilR=gR s (B.op i).b:=rfl
  have gc:s.getD (B.op i).c.toNat nilR=gR s (B.op i).c:=rfl
  generalize hXX:B.op i=X at*
  obtain ⟨q,p,a',b,c,d⟩:=X
  simp only at ho hrb hrc hA hb hc gb gc h5 h6 ob oc
  subst hA
  generalize gR s b=rb at*
  generalize gR s c=rc at*
  obtain ⟨rb,rb'⟩:=rb
  obtain ⟨rc,rc'⟩:=rc
  simp only at h5 h6 hb hc
  have n0:0<s.length:=by omega
  by_cases hv:rb>rc' - 1
  ·have g1:decide (rb>rc' - 1)=true:=decide_eq_true hv
   refine ecR (D3_ok hK hB) (kp88) Try.func88 [.tmp 6] (h:=fun KF=>?_)
   unfold D3
   repeat' (first
    |(with_reducible first|refine nx ?_|refine t_seq fun K=>?_|refine t_br (fun hc=>?_) fun hc=>?_|refine t_bx ?_|apply And.intro|intro vr)|exact kp_obs|exact kp_o1|exact kp_o2|exact kpd
    |((with_reducible refine t_drawG (id:=2) (fun i=>i==ex.length+4) 14 [(0,1),(1,1),(2,1),(3,1),(4,1),(5,1),(6,1),(7,1),(8,1),(9,1),(10,1),(11,1),(12,1),(13,1),(14,3),(15,0)] (by kernel_rfl) (by kernel_rfl) (by kernel_rfl) fun K=>?_);simp only [noA,List.filter_cons,List.filter_nil,Nat.reduceBEq,Bool.not_false,Bool.not_true,reduceIte,if_true,Bool.false_eq_true];simp only [pickO,List.getElem?_toArray,List.getElem?_cons_zero,List.getElem?_cons_succ,Nat.reduceAdd,Nat.reduceSub,fo_some];refine nh ?_;intro KL;simp only [go_sem,kp88,geff,hopd,gm,gb,gc,g1,yes])
    |((with_reducible first|refine ny ?_|refine t_kLF ?_ ?_|refine t_drawE (id:=11) (fun _=>true) [(0,1),(1,1),(2,1),(3,1),(4,1),(5,1),(6,1),(7,1),(8,1),(9,1),(10,1),(11,1),(12,1),(13,1),(14,1),(15,1),(16,0),(17,1),(18,1)] (by kernel_rfl) fun K=>?_|refine t_dwh (h:=fun K KL=>?_));intros;simp only [go_sem,kp88,geff,hopd,gm,gb,gc,g1,yes]))
   all_goals try exact nd
   refine ecn118_i ⟨by omega,by omega,by omega,by omega⟩ ?_
   repeat' (first
    |(with_reducible first|refine nx ?_|refine t_seq fun K=>?_|refine t_br (fun hc=>?_) fun hc=>?_|refine t_bx ?_|apply And.intro|intro vr)|exact kp_obs|exact kp_o1|exact kp_o2|exact kpd
    |((with_reducible refine t_drawG (id:=2) (fun i=>i==ex.length+4) 14 [(0,1),(1,1),(2,1),(3,1),(4,1),(5,1),(6,1),(7,1),(8,1),(9,1),(10,1),(11,1),(12,1),(13,1),(14,3),(15,0)] (by kernel_rfl) (by kernel_rfl) (by kernel_rfl) fun K=>?_);simp only [noA,List.filter_cons,List.filter_nil,Nat.reduceBEq,Bool.not_false,Bool.not_true,reduceIte,if_true,Bool.false_eq_true];simp only [pickO,List.getElem?_toArray,List.getElem?_cons_zero,List.getElem?_cons_succ,Nat.reduceAdd,Nat.reduceSub,fo_some];refine nh ?_;intro KL;simp only [go_sem,kp88,geff,yes])
    |((with_reducible first|refine ny ?_|refine t_kLF ?_ ?_|refine t_drawE (id:=11) (fun _=>true) [(0,1),(1,1),(2,1),(3,1),(4,1),(5,1),(6,1),(7,1),(8,1),(9,1),(10,1),(11,1),(12,1),(13,1),(14,1),(15,1),(16,0),(17,1),(18,1)] (by kernel_rfl) fun K=>?_|refine t_dwh (h:=fun K KL=>?_));intros;simp only [go_sem,kp88,geff,yes]))
   all_goals try exact nd
   all_goals (refine nl ?_;simp only [go_sem,finE])
   exact ⟨_,_,rfl,LeA.refl _,ob_bds hbd,h5 hv⟩
  ·have g1:decide (rb>rc' - 1)=false:=decide_eq_false hv
   have h6:=h6 hv
   have hvo:OkR ⟨rb,rc' - 1⟩:=by
     obtain ⟨k1,k2,k3⟩:=ob
     obtain ⟨k4,k5,k6⟩:=oc
     simp only [machR,maxC] at k2 k3 k5 k6
     refine ⟨by simp only;omega,?_,?_⟩<;>simp only [machR,maxC]<;>omega
   have hg0:OkS n (grownR ((lookH w.heads i).getD s) s):=by
     cases hq:lookH w.heads i with
     |none=>exact h3.grown h3
     |some l=>exact (h4.hd i l hq).grown h3
   have hgl:=hg0.1
   cases hq:lookH w.heads i with
   |none=>
    rw [hq] at h6 hg0 hgl
    simp only [Option.getD_none] at h6 hg0 hgl
    have hf:=find_hds w.heads i
    rw [hq] at hf
    simp only [Option.map_none] at hf
    refine ecR (D3_ok hK hB) (kp88) Try.func88 [.tmp 6] (h:=fun KF=>?_)
    unfold D3
    repeat' (first
     |(with_reducible first|refine nx ?_|refine t_seq fun K=>?_|refine t_br (fun hc=>?_) fun hc=>?_|refine t_bx ?_|apply And.intro|intro vr)|exact kp_obs|exact kp_o1|exact kp_o2|exact kpd
     |((with_reducible refine t_drawG (id:=2) (fun i=>i==ex.length+4) 14 [(0,1),(1,1),(2,1),(3,1),(4,1),(5,1),(6,1),(7,1),(8,1),(9,1),(10,1),(11,1),(12,1),(13,1),(14,3),(15,0)] (by kernel_rfl) (by kernel_rfl) (by kernel_rfl) fun K=>?_);simp only [noA,List.filter_cons,List.filter_nil,Nat.reduceBEq,Bool.not_false,Bool.not_true,reduceIte,if_true,Bool.false_eq_true];simp only [pickO,List.getElem?_toArray,List.getElem?_cons_zero,List.getElem?_cons_succ,Nat.reduceAdd,Nat.reduceSub,fo_some];refine nh ?_;intro KL;simp only [go_sem,kp88,geff,hopd,gm,gb,gc,g1,yes,und104,und3,keyT_i,zeroT26,hf,Bool.not_false,Bool.not_true])
     |((with_reducible first|refine ny ?_|refine t_kLF ?_ ?_|refine t_drawE (id:=11) (fun _=>true) [(0,1),(1,1),(2,1),(3,1),(4,1),(5,1),(6,1),(7,1),(8,1),(9,1),(10,1),(11,1),(12,1),(13,1),(14,1),(15,1),(16,0),(17,1),(18,1)] (by kernel_rfl) fun K=>?_|refine t_dwh (h:=fun K KL=>?_));intros;simp only [go_sem,kp88,geff,hopd,gm,gb,gc,g1,yes,und104,und3,keyT_i,zeroT26,hf,Bool.not_false,Bool.not_true]))
    all_goals try exact nd
    refine t_loopF (ι:=Lp B mt n i ⟨rb,rc' - 1⟩ (grownR s s) w) (fun q=>[(9,.sl false 2 (rgsV q.head))]) (fun q'=>objs B mt q'.w (ex++[.box 73 [.lit (.int .i64 q),.lit (.string p),.lit (.int .i64 a'),.lit (.int .i64 b),.lit (.int .i64 c),.lit (.int .i64 d)],.box 29 [.lit (.int .i64 rb),.lit (.int .i64 (rc' - 1))]])) (fun q=>rkS q.head) ⟨grownR s s,w,hg0,h4,fun u w1 h=>h⟩ ?_ ?_
    ·exact lf
    rintro ⟨head,w2,hs,hw,hvv⟩ K0
    have hfp:=put_hds w2.heads i head
    have hsl2:=hs.1
    repeat' (first
     |(with_reducible first|refine nx ?_|refine t_seq fun K=>?_|refine t_br (fun hc=>?_) fun hc=>?_|refine t_bx ?_|apply And.intro|intro vr)|exact kp_obs|exact kp_o1|exact kp_o2|exact kpd
     |((with_reducible refine t_drawG (id:=2) (fun i=>i==ex.length+4) 14 [(0,1),(1,1),(2,1),(3,1),(4,1),(5,1),(6,1),(7,1),(8,1),(9,1),(10,1),(11,1),(12,1),(13,1),(14,3),(15,0)] (by kernel_rfl) (by kernel_rfl) (by kernel_rfl) fun K=>?_);simp only [noA,List.filter_cons,List.filter_nil,Nat.reduceBEq,Bool.not_false,Bool.not_true,reduceIte,if_true,Bool.false_eq_true];simp only [pickO,List.getElem?_toArray,List.getElem?_cons_zero,List.getElem?_cons_succ,Nat.reduceAdd,Nat.reduceSub,fo_some];refine nh ?_;intro KL;simp only [go_sem,kp88,geff,gm,und104,und3,keyT_i,hfp,yes])
     |((with_reducible first|refine ny ?_|refine t_kLF ?_ ?_|refine t_drawE (id:=11) (fun _=>true) [(0,1),(1,1),(2,1),(3,1),(4,1),(5,1),(6,1),(7,1),(8,1),(9,1),(10,1),(11,1),(12,1),(13,1),(14,1),(15,1),(16,0),(17,1),(18,1)] (by kernel_rfl) fun K=>?_|refine t_dwh (h:=fun K KL=>?_));intros;simp only [go_sem,kp88,geff,gm,und104,und3,keyT_i,hfp,yes]))
    all_goals try exact nd
    refine ecnB_i (by omega) hin (hs.with hvo) ⟨hw.len,hok_put hw.hd hs⟩ fun t w3 hr=>?_
    obtain ⟨t1,t2⟩:=vr_ok hK hr hin (hs.with hvo) ⟨hw.len,hok_put hw.hd hs⟩
    have t1l:=t1.1
    have hrun:VR B mt (.blk (i+1) (gt mt i)) (withR head (B.op i).a ⟨rb,rc' - 1⟩) {w2 with heads:=putH w2.heads i head} t w3:=by rw [hXX,hm];exact hr
    have hgl2:=(hs.grown t1).1
    by_cases hq2:grownR head t=head
    ·have gd:=decide_eq_true hq2
     repeat' (first
      |(with_reducible first|refine nx ?_|refine t_seq fun K=>?_|refine t_br (fun hc=>?_) fun hc=>?_|refine t_bx ?_|apply And.intro|intro vr)|exact kp_obs|exact kp_o1|exact kp_o2|exact kpd
      |((with_reducible refine t_drawG (id:=2) (fun i=>i==ex.length+4) 14 [(0,1),(1,1),(2,1),(3,1),(4,1),(5,1),(6,1),(7,1),(8,1),(9,1),(10,1),(11,1),(12,1),(13,1),(14,3),(15,0)] (by kernel_rfl) (by kernel_rfl) (by kernel_rfl) fun K=>?_);simp only [noA,List.filter_cons,List.filter_nil,Nat.reduceBEq,Bool.not_false,Bool.not_true,reduceIte,if_true,Bool.false_eq_true];simp only [pickO,List.getElem?_toArray,List.getElem?_cons_zero,List.getElem?_cons_succ,Nat.reduceAdd,Nat.reduceSub,fo_some];refine nh ?_;intro KL;simp only [go_sem,kp88,geff,gd,yes])
      |((with_reducible first|refine ny ?_|refine t_kLF ?_ ?_|refine t_drawE (id:=11) (fun _=>true) [(0,1),(1,1),(2,1),(3,1),(4,1),(5,1),(6,1),(7,1),(8,1),(9,1),(10,1),(11,1),(12,1),(13,1),(14,1),(15,1),(16,0),(17,1),(18,1)] (by kernel_rfl) fun K=>?_|refine t_dwh (h:=fun K KL=>?_));intros;simp only [go_sem,kp88,geff,gd,yes]))
     all_goals try exact nd
     all_goals (refine nl ?_;simp only [go_sem,finE])
     exact ⟨_,_,rfl,LeA.refl _,ob_bds hbd,h6 head w3 (hvv _ _ (vr_lopE hrun hq2))⟩
    ·have gd:=decide_eq_false hq2
     repeat' (first
      |(with_reducible first|refine nx ?_|refine t_seq fun K=>?_|refine t_br (fun hc=>?_) fun hc=>?_|refine t_bx ?_|apply And.intro|intro vr)|exact kp_obs|exact kp_o1|exact kp_o2|exact kpd
      |((with_reducible refine t_drawG (id:=2) (fun i=>i==ex.length+4) 14 [(0,1),(1,1),(2,1),(3,1),(4,1),(5,1),(6,1),(7,1),(8,1),(9,1),(10,1),(11,1),(12,1),(13,1),(14,3),(15,0)] (by kernel_rfl) (by kernel_rfl) (by kernel_rfl) fun K=>?_);simp only [noA,List.filter_cons,List.filter_nil,Nat.reduceBEq,Bool.not_false,Bool.not_true,reduceIte,if_true,Bool.false_eq_true];simp only [pickO,List.getElem?_toArray,List.getElem?_cons_zero,List.getElem?_cons_succ,Nat.reduceAdd,Nat.reduceSub,fo_some];refine nh ?_;intro KL;simp only [go_sem,kp88,geff,gd,yes])
      |((with_reducible first|refine ny ?_|refine t_kLF ?_ ?_|refine t_drawE (id:=11) (fun _=>true) [(0,1),(1,1),(2,1),(3,1),(4,1),(5,1),(6,1),(7,1),(8,1),(9,1),(10,1),(11,1),(12,1),(13,1),(14,1),(15,1),(16,0),(17,1),(18,1)] (by kernel_rfl) fun K=>?_|refine t_dwh (h:=fun K KL=>?_));intros;simp only [go_sem,kp88,geff,gd,yes]))
     all_goals try exact nd
     refine ⟨⟨grownR head t,w3,hs.grown t1,t2,fun u w1 h=>hvv _ _ (vr_lop hrun hq2 h)⟩,(grown_rk hs t1).resolve_left hq2,?_⟩
     exact lf
   |some l=>
    have hll:=(h4.hd i l hq).1
    rw [hq] at h6 hg0 hgl
    simp only [Option.getD_some] at h6 hg0 hgl
    have hf:=find_hds w.heads i
    rw [hq] at hf
    simp only [Option.map_some] at hf
    refine ecR (D3_ok hK hB) (kp88) Try.func88 [.tmp 6] (h:=fun KF=>?_)
    unfold D3
    repeat' (first
     |(with_reducible first|refine nx ?_|refine t_seq fun K=>?_|refine t_br (fun hc=>?_) fun hc=>?_|refine t_bx ?_|apply And.intro|intro vr)|exact kp_obs|exact kp_o1|exact kp_o2|exact kpd
     |((with_reducible refine t_drawG (id:=2) (fun i=>i==ex.length+4) 14 [(0,1),(1,1),(2,1),(3,1),(4,1),(5,1),(6,1),(7,1),(8,1),(9,1),(10,1),(11,1),(12,1),(13,1),(14,3),(15,0)] (by kernel_rfl) (by kernel_rfl) (by kernel_rfl) fun K=>?_);simp only [noA,List.filter_cons,List.filter_nil,Nat.reduceBEq,Bool.not_false,Bool.not_true,reduceIte,if_true,Bool.false_eq_true];simp only [pickO,List.getElem?_toArray,List.getElem?_cons_zero,List.getElem?_cons_succ,Nat.reduceAdd,Nat.reduceSub,fo_some];refine nh ?_;intro KL;simp only [go_sem,kp88,geff,hopd,gm,gb,gc,g1,yes,und104,und3,keyT_i,zeroT26,hf,Bool.not_false,Bool.not_true])
     |((with_reducible first|refine ny ?_|refine t_kLF ?_ ?_|refine t_drawE (id:=11) (fun _=>true) [(0,1),(1,1),(2,1),(3,1),(4,1),(5,1),(6,1),(7,1),(8,1),(9,1),(10,1),(11,1),(12,1),(13,1),(14,1),(15,1),(16,0),(17,1),(18,1)] (by kernel_rfl) fun K=>?_|refine t_dwh (h:=fun K KL=>?_));intros;simp only [go_sem,kp88,geff,hopd,gm,gb,gc,g1,yes,und104,und3,keyT_i,zeroT26,hf,Bool.not_false,Bool.not_true]))
    all_goals try exact nd
    refine t_loopF (ι:=Lp B mt n i ⟨rb,rc' - 1⟩ (grownR l s) w) (fun q=>[(9,.sl false 2 (rgsV q.head))]) (fun q'=>objs B mt q'.w (ex++[.box 73 [.lit (.int .i64 q),.lit (.string p),.lit (.int .i64 a'),.lit (.int .i64 b),.lit (.int .i64 c),.lit (.int .i64 d)],.box 29 [.lit (.int .i64 rb),.lit (.int .i64 (rc' - 1))]])) (fun q=>rkS q.head) ⟨grownR l s,w,hg0,h4,fun u w1 h=>h⟩ ?_ ?_
    ·exact lf
    rintro ⟨head,w2,hs,hw,hvv⟩ K0
    have hfp:=put_hds w2.heads i head
    have hsl2:=hs.1
    repeat' (first
     |(with_reducible first|refine nx ?_|refine t_seq fun K=>?_|refine t_br (fun hc=>?_) fun hc=>?_|refine t_bx ?_|apply And.intro|intro vr)|exact kp_obs|exact kp_o1|exact kp_o2|exact kpd
     |((with_reducible refine t_drawG (id:=2) (fun i=>i==ex.length+4) 14 [(0,1),(1,1),(2,1),(3,1),(4,1),(5,1),(6,1),(7,1),(8,1),(9,1),(10,1),(11,1),(12,1),(13,1),(14,3),(15,0)] (by kernel_rfl) (by kernel_rfl) (by kernel_rfl) fun K=>?_);simp only [noA,List.filter_cons,List.filter_nil,Nat.reduceBEq,Bool.not_false,Bool.not_true,reduceIte,if_true,Bool.false_eq_true];simp only [pickO,List.getElem?_toArray,List.getElem?_cons_zero,List.getElem?_cons_succ,Nat.reduceAdd,Nat.reduceSub,fo_some];refine nh ?_;intro KL;simp only [go_sem,kp88,geff,gm,und104,und3,keyT_i,hfp,yes])
     |((with_reducible first|refine ny ?_|refine t_kLF ?_ ?_|refine t_drawE (id:=11) (fun _=>true) [(0,1),(1,1),(2,1),(3,1),(4,1),(5,1),(6,1),(7,1),(8,1),(9,1),(10,1),(11,1),(12,1),(13,1),(14,1),(15,1),(16,0),(17,1),(18,1)] (by kernel_rfl) fun K=>?_|refine t_dwh (h:=fun K KL=>?_));intros;simp only [go_sem,kp88,geff,gm,und104,und3,keyT_i,hfp,yes]))
    all_goals try exact nd
    refine ecnB_i (by omega) hin (hs.with hvo) ⟨hw.len,hok_put hw.hd hs⟩ fun t w3 hr=>?_
    obtain ⟨t1,t2⟩:=vr_ok hK hr hin (hs.with hvo) ⟨hw.len,hok_put hw.hd hs⟩
    have t1l:=t1.1
    have hrun:VR B mt (.blk (i+1) (gt mt i)) (withR head (B.op i).a ⟨rb,rc' - 1⟩) {w2 with heads:=putH w2.heads i head} t w3:=by rw [hXX,hm];exact hr
    have hgl2:=(hs.grown t1).1
    by_cases hq2:grownR head t=head
    ·have gd:=decide_eq_true hq2
     repeat' (first
      |(with_reducible first|refine nx ?_|refine t_seq fun K=>?_|refine t_br (fun hc=>?_) fun hc=>?_|refine t_bx ?_|apply And.intro|intro vr)|exact kp_obs|exact kp_o1|exact kp_o2|exact kpd
      |((with_reducible refine t_drawG (id:=2) (fun i=>i==ex.length+4) 14 [(0,1),(1,1),(2,1),(3,1),(4,1),(5,1),(6,1),(7,1),(8,1),(9,1),(10,1),(11,1),(12,1),(13,1),(14,3),(15,0)] (by kernel_rfl) (by kernel_rfl) (by kernel_rfl) fun K=>?_);simp only [noA,List.filter_cons,List.filter_nil,Nat.reduceBEq,Bool.not_false,Bool.not_true,reduceIte,if_true,Bool.false_eq_true];simp only [pickO,List.getElem?_toArray,List.getElem?_cons_zero,List.getElem?_cons_succ,Nat.reduceAdd,Nat.reduceSub,fo_some];refine nh ?_;intro KL;simp only [go_sem,kp88,geff,gd,yes])
      |((with_reducible first|refine ny ?_|refine t_kLF ?_ ?_|refine t_drawE (id:=11) (fun _=>true) [(0,1),(1,1),(2,1),(3,1),(4,1),(5,1),(6,1),(7,1),(8,1),(9,1),(10,1),(11,1),(12,1),(13,1),(14,1),(15,1),(16,0),(17,1),(18,1)] (by kernel_rfl) fun K=>?_|refine t_dwh (h:=fun K KL=>?_));intros;simp only [go_sem,kp88,geff,gd,yes]))
     all_goals try exact nd
     all_goals (refine nl ?_;simp only [go_sem,finE])
     exact ⟨_,_,rfl,LeA.refl _,ob_bds hbd,h6 head w3 (hvv _ _ (vr_lopE hrun hq2))⟩
    ·have gd:=decide_eq_false hq2
     repeat' (first
      |(with_reducible first|refine nx ?_|refine t_seq fun K=>?_|refine t_br (fun hc=>?_) fun hc=>?_|refine t_bx ?_|apply And.intro|intro vr)|exact kp_obs|exact kp_o1|exact kp_o2|exact kpd
      |((with_reducible refine t_drawG (id:=2) (fun i=>i==ex.length+4) 14 [(0,1),(1,1),(2,1),(3,1),(4,1),(5,1),(6,1),(7,1),(8,1),(9,1),(10,1),(11,1),(12,1),(13,1),(14,3),(15,0)] (by kernel_rfl) (by kernel_rfl) (by kernel_rfl) fun K=>?_);simp only [noA,List.filter_cons,List.filter_nil,Nat.reduceBEq,Bool.not_false,Bool.not_true,reduceIte,if_true,Bool.false_eq_true];simp only [pickO,List.getElem?_toArray,List.getElem?_cons_zero,List.getElem?_cons_succ,Nat.reduceAdd,Nat.reduceSub,fo_some];refine nh ?_;intro KL;simp only [go_sem,kp88,geff,gd,yes])
      |((with_reducible first|refine ny ?_|refine t_kLF ?_ ?_|refine t_drawE (id:=11) (fun _=>true) [(0,1),(1,1),(2,1),(3,1),(4,1),(5,1),(6,1),(7,1),(8,1),(9,1),(10,1),(11,1),(12,1),(13,1),(14,1),(15,1),(16,0),(17,1),(18,1)] (by kernel_rfl) fun K=>?_|refine t_dwh (h:=fun K KL=>?_));intros;simp only [go_sem,kp88,geff,gd,yes]))
     all_goals try exact nd
     refine ⟨⟨grownR head t,w3,hs.grown t1,t2,fun u w1 h=>hvv _ _ (vr_lop hrun hq2 h)⟩,(grown_rk hs t1).resolve_left hq2,?_⟩
     exact lf
noncomputable def ecnR {B:Prg} {mt:List Int} {n N:Nat} (hK:Wk B mt n) (hB:BlkH B mt n N):ECon Try.prog where
  f:=87
  c:=fun args σ k=>∃ (i to:Int) (s:List Rng) (w:W) (ex:List AObj),args=[.ref 3 0,.lit (.int .i64 i),.sl false 2 (rgsV s)]∧σ=objs B mt w ex∧to - i≤N+1∧Cl B mt i to∧i<to∧(B.op i).code=11∧OkS n s∧PreW B n w∧
   ∀ yes no w1 w2 u,PV B mt (i+1) (gt mt i) s (B.op i).a ⟨maxI (gR s (B.op i).a).lo 0,(gR s (B.op i).a).hi⟩ w yes w1→
     PV B mt (minI (gt mt i+1) (gt mt (gt mt i))) (gt mt (gt mt i)) s (B.op i).a ⟨(gR s (B.op i).a).lo,minI (gR s (B.op i).a).hi (-1)⟩ w1 no w2→hullsR yes no=some u→k (.tup [.sl false 2 (rgsV u),.lit (.int .i64 (gt mt (gt mt i)))]) (objs B mt w2 ex)
  ok:=by
   rintro _ _ k ⟨i,to,s,w,ex,rfl,rfl,h1,h2,h3,h4,h5,h6,h7⟩
   exact branch_ec hK hB h1 h2 h3 h4 h5 h6 h7
  fk:=fk87
theorem ecnR_f {B:Prg} {mt:List Int} {n N:Nat} (hK:Wk B mt n) (hB:BlkH B mt n N):(ecnR hK hB).f=87:=rfl
theorem ecnR_i {B:Prg} {mt:List Int} {n N:Nat} {hK:Wk B mt n} {hB:BlkH B mt n N} {i:Int} (to:Int) {s:List Rng} {w:W} {ex:List AObj} {k:AV→List AObj→Prop} (h1:to - i≤N+1) (h2:Cl B mt i to) (h3:i<to) (h4:(B.op i).code=11) (h5:OkS n s) (h6:PreW B n w)
    (h7:∀ yes no w1 w2 u,PV B mt (i+1) (gt mt i) s (B.op i).a ⟨maxI (gR s (B.op i).a).lo 0,(gR s (B.op i).a).hi⟩ w yes w1→
      PV B mt (minI (gt mt i+1) (gt mt (gt mt i))) (gt mt (gt mt i)) s (B.op i).a ⟨(gR s (B.op i).a).lo,minI (gR s (B.op i).a).hi (-1)⟩ w1 no w2→hullsR yes no=some u→k (.tup [.sl false 2 (rgsV u),.lit (.int .i64 (gt mt (gt mt i)))]) (objs B mt w2 ex)):
    (ecnR hK hB).c [.ref 3 0,.lit (.int .i64 i),.sl false 2 (rgsV s)] (objs B mt w ex) k:=⟨i,to,s,w,ex,rfl,rfl,h1,h2,h3,h4,h5,h6,h7⟩
noncomputable def ecnL {B:Prg} {mt:List Int} {n N:Nat} (hK:Wk B mt n) (hB:BlkH B mt n N):ECon Try.prog where
  f:=88
  c:=fun args σ k=>∃ (i to:Int) (s:List Rng) (w:W) (ex:List AObj),args=[.ref 3 0,.lit (.int .i64 i),.sl false 2 (rgsV s)]∧σ=objs B mt w ex∧to - i≤N+1∧Cl B mt i to∧i<to∧(B.op i).code=10∧OkS n s∧PreW B n w∧
   ((gR s (B.op i).b).lo>(gR s (B.op i).c).hi - 1→k (.sl false 2 (rgsV s)) (objs B mt {w with before:=wipe w.before (i+1) (gt mt i)} ex))∧
   (¬ (gR s (B.op i).b).lo>(gR s (B.op i).c).hi - 1→∀ u w1,VR B mt (.lop i ⟨(gR s (B.op i).b).lo,(gR s (B.op i).c).hi - 1⟩) (grownR ((lookH w.heads i).getD s) s) w u w1→k (.sl false 2 (rgsV u)) (objs B mt w1 ex))
  ok:=by
   rintro _ _ k ⟨i,to,s,w,ex,rfl,rfl,h1,h2,h3,h4,h5,h6,h7,h8⟩
   exact loop_ec hK hB h1 h2 h3 h4 h5 h6 h7 h8
  fk:=fk88
theorem ecnL_f {B:Prg} {mt:List Int} {n N:Nat} (hK:Wk B mt n) (hB:BlkH B mt n N):(ecnL hK hB).f=88:=rfl
theorem ecnL_i {B:Prg} {mt:List Int} {n N:Nat} {hK:Wk B mt n} {hB:BlkH B mt n N} {i:Int} (to:Int) {s:List Rng} {w:W} {ex:List AObj} {k:AV→List AObj→Prop} (h1:to - i≤N+1) (h2:Cl B mt i to) (h3:i<to) (h4:(B.op i).code=10) (h5:OkS n s) (h6:PreW B n w)
    (h7:(gR s (B.op i).b).lo>(gR s (B.op i).c).hi - 1→k (.sl false 2 (rgsV s)) (objs B mt {w with before:=wipe w.before (i+1) (gt mt i)} ex))
    (h8: ¬ (gR s (B.op i).b).lo>(gR s (B.op i).c).hi - 1→∀ u w1,VR B mt (.lop i ⟨(gR s (B.op i).b).lo,(gR s (B.op i).c).hi - 1⟩) (grownR ((lookH w.heads i).getD s) s) w u w1→k (.sl false 2 (rgsV u)) (objs B mt w1 ex)):
    (ecnL hK hB).c [.ref 3 0,.lit (.int .i64 i),.sl false 2 (rgsV s)] (objs B mt w ex) k:=⟨i,to,s,w,ex,rfl,rfl,h1,h2,h3,h4,h5,h6,h7,h8⟩
attribute [go_sem] ecnR_f ecnL_f
end Go.Proofs.Ytnlimcijgpaegaa

namespace Go.Proofs.Ytnlimcijgpaegaa
open Go Go.Fw Bm
set_option maxRecDepth 20000
attribute [go_sem] con89_f con89_c con91_f con91_c
noncomputable def D4 {B:Prg} {mt:List Int} {n N:Nat} (hK:Wk B mt n) (hB:BlkH B mt n N):Env:=envJ (P:=Try.prog) jkR zer (fun _=>false) (fun _=>false) [con86,con89,con90,con91] [ecnR hK hB,ecnL hK hB]
theorem D4_ok {B:Prg} {mt:List Int} {n N:Nat} (hK:Wk B mt n) (hB:BlkH B mt n N):EnvOk Try.prog (D4 hK hB):=envJOk zer_ok
structure Bk (B:Prg) (mt:List Int) (n:Nat) (i0 to:Int) (s0:List Rng) (w0:W) where
  i:Int
  s:List Rng
  w:W
  hi:i0≤i
  hu:i≤to∨i=i0
  hs:OkS n s
  hw:PreW B n w
  hv:∀ t w1,VR B mt (.blk i to) s w t w1→VR B mt (.blk i0 to) s0 w0 t w1
theorem kp_os {B:Prg} {mt:List Int} {w:W} {ex:List AObj} {y:AObj} {D:Nat→Bool} (h:∀ t cs,y≠ .box t cs:=by intro _ _ h;cases h):Kp D (objs B mt w ex) ((objs B mt w ex).set 1 y):=fun o t cs _ ho=>by
  rcases o with _|_|o
  ·exact ho
  ·cases ho
  ·exact ho
theorem lop_ok {B:Prg} {mt:List Int} {n:Nat} (hK:Wk B mt n) {i:Int} {v:Rng} {s t:List Rng} {w w':W} (h:VR B mt (.lop i v) s w t w') (hc:VTk.ok B mt (.lop i v)) (hs:OkS n s) (hw:PreW B n w) (hv:OkR v):OkS n t∧PreW B n w':=by
  obtain ⟨f,hf⟩:=h
  have h1:=vrun_ok hK.nest hK.rights f _ _ _ _ _ hf hc hs hw.hd (fun i' v' e=>by cases e;exact hv)
  have h2:=vrun_wr hK.nest f (.lop i v) _ _ _ _ hc hf
  exact ⟨h1.1,⟨h2.1.trans hw.len,h1.2⟩⟩
theorem le_obB {n0:Nat} {f g:Nat→AV} {B:Prg} {mt:List Int} {w:W} {ex m:List AObj} (hn:n0≤(objs B mt w ex).length) (hb:BdS (objs B mt w ex).length (objs B mt w ex)) (hg:∀ j,low1 (objs B mt w ex).length (g j)=true) (h:∀ j,LeR (f j) (g j)):Le n0 ⟨f,objs B mt w (ex++m)⟩ ⟨g,objs B mt w ex⟩:=
  le_backB (m:=m) (by rw [ob_app]) hn hb hg h
theorem lg_w {n0:Nat} {f:Nat→AV} {i o k:Nat} (h:∀ j,low1 n0 (f j)=true) (ho:o<n0):∀ j,low1 n0 (upd f i (.ref o k) j)=true:=low_upd (by simp [low1,low0,ho]) h
set_option maxHeartbeats 8000000 in
theorem block_step {B:Prg} {mt:List Int} {n N:Nat} (hK:Wk B mt n) (hB:BlkH B mt n N):BlkH B mt n (N+1):=by
  intro i0 to s0 w0 ex k h1 h2 h3 h4 h5
  refine ec_fin fun hbd=>?_
  have hL:=hK.len
  have hn:=hK.n
  have hml:=hK.mtl
  have h20:=h2.1
  have h21:=h2.2.1
  refine ecR (D4_ok hK hB) (kp46) Try.func46 [.tmp 8] (h:=fun KF=>?_)
  unfold D4
  repeat' (first
   |(with_reducible first|refine nx ?_|refine t_seq fun K=>?_|refine t_br (fun hc=>?_) fun hc=>?_|refine t_bx ?_|apply And.intro|intro vr)|exact kp_obs|exact kp_os|exact kpd
   |((with_reducible first|refine ny ?_|refine t_kLF ?_ ?_|refine t_drawE (id:=5) (fun _=>true) [(0,1),(1,1),(2,1),(3,1),(4,1),(5,1),(6,1),(7,2),(8,0)] (by kernel_rfl) fun K=>?_|refine t_dwh (h:=fun K KL=>?_));intros;simp only [go_sem,kp46,geff]))
  all_goals try exact nd
  refine t_loopF (ι:=Bk B mt n i0 to s0 w0) (fun q=>[(9,.lit (.int .i64 q.i)),(3,.sl false 2 (rgsV q.s))]) (fun q=>objs B mt q.w ex) (fun q=>(to - q.i).toNat) ⟨i0,s0,w0,Int.le_refl _,.inr rfl,h3,h4,fun _ _ h=>h⟩ ?_ ?_
  ·exact lf
  rintro ⟨i,s,w,hi,hu,hs,hw,hv⟩ K0
  have hsl:=hs.1
  have hwl:=hw.len
  rcases Int.lt_or_le i to with hc|hc
  ·have g3:decide (i<to)=true:=decide_eq_true hc
   have hcl:Cl B mt i to:=h2.next hi
   have hopd:B.ops.getD i.toNat nilI=B.op i:=rfl
   have hright:=hK.rights i (by omega) (by omega)
   have hw':PreW B n {w with before:=w.before.set i.toNat s}:=⟨by simp only [List.length_set];exact hw.len,hw.hd⟩
   have hX:(B.op i)=B.op i:=rfl
   generalize hXX:B.op i=X at hopd hright
   obtain ⟨q,p,a,b,c,d⟩:=X
   by_cases q11:q=11
   ·subst q11
    repeat' (first
     |(with_reducible first|refine nx ?_|refine t_seq fun K=>?_|refine t_br (fun hc=>?_) fun hc=>?_|refine t_bx ?_|apply And.intro|intro vr)|exact kp_obs|exact kp_os|exact kpd
     |((with_reducible first|refine ny ?_|refine t_kLF ?_ ?_|refine t_drawE (id:=5) (fun _=>true) [(0,1),(1,1),(2,1),(3,1),(4,1),(5,1),(6,1),(7,2),(8,0)] (by kernel_rfl) fun K=>?_|refine t_dwh (h:=fun K KL=>?_));intros;simp only [go_sem,kp46,geff,g3,hopd,yes]))
    all_goals try exact nd
    refine ecnR_i (N:=N) to (by omega) hcl hc (by rw [hXX]) hs hw' fun o1 o2 w1 w2 u hy hn hh=>?_
    obtain ⟨k1,k2,k3,_,k5,_⟩:=hK.nest.end_ hcl hc (by rw [hXX])
    have hin:=hK.nest.inner (show 0≤i by omega) (by omega) (.inr (.inl (by rw [hXX])))
    have hra:=hs.at (B.op i).a
    obtain ⟨y1,y2⟩:=pv_ok hK hy hin hs (fun h=>ok_yes hra h) hw'
    obtain ⟨z1,z2⟩:=pv_ok hK hn k5 hs (fun h=>ok_no hra h) y2
    have hu2:=hulls_ok hh y1 z1
    generalize hM:gt mt (gt mt i)=M at*
    repeat' (first
     |(with_reducible first|refine nx ?_|refine t_seq fun K=>?_|refine t_br (fun hc=>?_) fun hc=>?_|refine t_bx ?_|apply And.intro|intro vr)|exact kp_obs|exact kp_os|exact kpd
     |((with_reducible first|refine ny ?_|refine t_kLF ?_ ?_|refine t_drawE (id:=5) (fun _=>true) [(0,1),(1,1),(2,1),(3,1),(4,1),(5,1),(6,1),(7,2),(8,0)] (by kernel_rfl) fun K=>?_|refine t_dwh (h:=fun K KL=>?_));intros;simp only [go_sem,kp46,geff,yes]))
    all_goals try exact nd
    refine ⟨⟨M+1,u,w2,by omega,.inl (by omega),hu2,z2,fun t w3 h=>hv _ _ (vr_if hc (by rw [hXX]) hy (by rw [hM];exact hn) hh (by rw [hM];exact h))⟩,by simp only;omega,?_⟩
    try simp only [updL_nil,updL_cons,delF_top,delF_upd,Nat.reduceEqDiff,reduceIte]
    refine le_obB (m:=[.box 73 [.lit (.int .i64 11),.lit (.string p),.lit (.int .i64 a),.lit (.int .i64 b),.lit (.int .i64 c),.lit (.int .i64 d)]]) (Nat.le_refl _) (ob_bds hbd) ?_ ?_
    ·repeat' (first|exact low_top|(refine low_upd rfl ?_)|(refine lg_w ?_ (by rw [ob_len];omega)))
    repeat' (first|exact leF_top _|exact (fun _=>LeR.refl _)|(with_reducible refine leF_sl ?_ ?_)|(refine leF_upd ?_ ?_))
    all_goals (first|exact LeR.top _|exact LeR.refl _|(refine LeR.of_eq ?_;(try simp only [go_sem]);try rfl)|((try simp only [go_sem]);try rfl))
   ·by_cases q10:q=10
    ·subst q10
     repeat' (first
      |(with_reducible first|refine nx ?_|refine t_seq fun K=>?_|refine t_br (fun hc=>?_) fun hc=>?_|refine t_bx ?_|apply And.intro|intro vr)|exact kp_obs|exact kp_os|exact kpd
      |((with_reducible first|refine ny ?_|refine t_kLF ?_ ?_|refine t_drawE (id:=5) (fun _=>true) [(0,1),(1,1),(2,1),(3,1),(4,1),(5,1),(6,1),(7,2),(8,0)] (by kernel_rfl) fun K=>?_|refine t_dwh (h:=fun K KL=>?_));intros;simp only [go_sem,kp46,geff,g3,hopd,yes]))
     all_goals try exact nd
     have hin:=hK.nest.inner (show 0≤i by omega) (by omega) (.inl (by rw [hXX]))
     obtain ⟨k1,k2,_,_⟩:=hK.nest.at (show 0≤i by omega) (by omega) (.inl (by rw [hXX]))
     have k3:=hcl.2.2 i (Int.le_refl _) hc (.inl (by rw [hXX]))
     have gm:mt.getD i.toNat 0=gt mt i:=rfl
     have hrg:=right_regs hright
     have ob:=hs.at (B.op i).b
     have oc:=hs.at (B.op i).c
     refine ecnL_i (N:=N) to (by omega) hcl hc (by rw [hXX]) hs hw' (fun hq=>?_) fun hq u w1 hr=>?_
     ·generalize hM:gt mt i=M at*
      repeat' (first
       |(with_reducible first|refine nx ?_|refine t_seq fun K=>?_|refine t_br (fun hc=>?_) fun hc=>?_|refine t_bx ?_|apply And.intro|intro vr)|exact kp_obs|exact kp_os|exact kpd
       |((with_reducible first|refine ny ?_|refine t_kLF ?_ ?_|refine t_drawE (id:=5) (fun _=>true) [(0,1),(1,1),(2,1),(3,1),(4,1),(5,1),(6,1),(7,2),(8,0)] (by kernel_rfl) fun K=>?_|refine t_dwh (h:=fun K KL=>?_));intros;simp only [go_sem,kp46,geff,gm,yes]))
      all_goals try exact nd
      refine ⟨⟨M+1,s,{w with before:=wipe (w.before.set i.toNat s) (i+1) M},by omega,.inl (by omega),hs,hw'.wipe _ _,fun t w3 h=>hv _ _ (vr_for0 hc (by rw [hXX]) hq (by rw [hM];exact h))⟩,by simp only;omega,?_⟩
      try simp only [updL_nil,updL_cons,delF_top,delF_upd,Nat.reduceEqDiff,reduceIte]
      refine le_obB (m:=[.box 73 [.lit (.int .i64 10),.lit (.string p),.lit (.int .i64 a),.lit (.int .i64 b),.lit (.int .i64 c),.lit (.int .i64 d)]]) (Nat.le_refl _) (ob_bds hbd) ?_ ?_
      ·repeat' (first|exact low_top|(refine low_upd rfl ?_)|(refine lg_w ?_ (by rw [ob_len];omega)))
      repeat' (first|exact leF_top _|exact (fun _=>LeR.refl _)|(with_reducible refine leF_sl ?_ ?_)|(refine leF_upd ?_ ?_))
      all_goals (first|exact LeR.top _|exact LeR.refl _|(refine LeR.of_eq ?_;(try simp only [go_sem]);try rfl)|((try simp only [go_sem]);try rfl))
     ·have hvo:OkR ⟨(gR s (B.op i).b).lo,(gR s (B.op i).c).hi - 1⟩:=by
        obtain ⟨j1,j2,j3⟩:=ob
        obtain ⟨j4,j5,j6⟩:=oc
        simp only [machR,maxC] at j2 j3 j5 j6
        refine ⟨by simp only;omega,?_,?_⟩<;>simp only [machR,maxC]<;>omega
      have hg0:OkS n (grownR ((lookH w.heads i).getD s) s):=by
        cases hq:lookH w.heads i with
        |none=>exact hs.grown hs
        |some l=>exact (hw.hd i l hq).grown hs
      have hl0:=lop_ok hK hr ⟨by omega,by omega,by rw [hXX]⟩ hg0 hw' hvo
      generalize hM:gt mt i=M at*
      repeat' (first
       |(with_reducible first|refine nx ?_|refine t_seq fun K=>?_|refine t_br (fun hc=>?_) fun hc=>?_|refine t_bx ?_|apply And.intro|intro vr)|exact kp_obs|exact kp_os|exact kpd
       |((with_reducible first|refine ny ?_|refine t_kLF ?_ ?_|refine t_drawE (id:=5) (fun _=>true) [(0,1),(1,1),(2,1),(3,1),(4,1),(5,1),(6,1),(7,2),(8,0)] (by kernel_rfl) fun K=>?_|refine t_dwh (h:=fun K KL=>?_));intros;simp only [go_sem,kp46,geff,gm,yes]))
      all_goals try exact nd
      refine ⟨⟨M+1,u,w1,by omega,.inl (by omega),hl0.1,hl0.2,fun t w3 h=>hv _ _ (vr_for hc (by rw [hXX]) hq hr (by rw [hM];exact h))⟩,by simp only;omega,?_⟩
      try simp only [updL_nil,updL_cons,delF_top,delF_upd,Nat.reduceEqDiff,reduceIte]
      refine le_obB (m:=[.box 73 [.lit (.int .i64 10),.lit (.string p),.lit (.int .i64 a),.lit (.int .i64 b),.lit (.int .i64 c),.lit (.int .i64 d)]]) (Nat.le_refl _) (ob_bds hbd) ?_ ?_
      ·repeat' (first|exact low_top|(refine low_upd rfl ?_)|(refine lg_w ?_ (by rw [ob_len];omega)))
      repeat' (first|exact leF_top _|exact (fun _=>LeR.refl _)|(with_reducible refine leF_sl ?_ ?_)|(refine leF_upd ?_ ?_))
      all_goals (first|exact LeR.top _|exact LeR.refl _|(refine LeR.of_eq ?_;(try simp only [go_sem]);try rfl)|((try simp only [go_sem]);try rfl))
    ·have e1:(q==11)=false:=by simpa using q11
     have e2:(q==10)=false:=by simpa using q10
     have hrg:=right_regs hright
     have hcd:=hrg.code
     simp only at hcd
     have hres:=okR_result hs hrg
     have hwr:=hrg.w
     simp only at hwr
     cases hwB:wrtB q with
     |true=>
      have hro:ResOk ⟨q,p,a,b,c,d⟩ s:=⟨by omega,by rw [hsl];exact hs,by rw [hsl];exact hright,by simp [wrtB] at hwB;simp only;omega⟩
      have hwr:=hwr hwB
      repeat' (first
       |(with_reducible first|refine nx ?_|refine t_seq fun K=>?_|refine t_br (fun hc=>?_) fun hc=>?_|refine t_bx ?_|apply And.intro|intro vr)|exact kp_obs|exact kp_os|exact kpd
       |((with_reducible first|refine ny ?_|refine t_kLF ?_ ?_|refine t_drawE (id:=5) (fun _=>true) [(0,1),(1,1),(2,1),(3,1),(4,1),(5,1),(6,1),(7,2),(8,0)] (by kernel_rfl) fun K=>?_|refine t_dwh (h:=fun K KL=>?_));intros;simp only [go_sem,kp46,geff,g3,hopd,e1,e2,hwB,if_true,yes]))
      all_goals try exact nd
      refine ⟨⟨i+1,withR s a (resultR ⟨q,p,a,b,c,d⟩ s),{w with before:=w.before.set i.toNat s},by omega,.inl (by omega),hs.with hres,hw',fun t w3 h=>hv _ _ (vr_plain hc (by rw [hXX];exact q11) (by rw [hXX];exact q10) (by rw [hXX];simp only [hwB,if_true];exact h))⟩,by simp only;omega,?_⟩
      try simp only [updL_nil,updL_cons,delF_top,delF_upd,Nat.reduceEqDiff,reduceIte]
      refine le_obB (m:=[.box 73 [.lit (.int .i64 q),.lit (.string p),.lit (.int .i64 a),.lit (.int .i64 b),.lit (.int .i64 c),.lit (.int .i64 d)]]) (Nat.le_refl _) (ob_bds hbd) ?_ ?_
      ·repeat' (first|exact low_top|(refine low_upd rfl ?_)|(refine lg_w ?_ (by rw [ob_len];omega)))
      repeat' (first|exact leF_top _|exact (fun _=>LeR.refl _)|(with_reducible refine leF_sl ?_ ?_)|(refine leF_upd ?_ ?_))
      all_goals (first|exact LeR.top _|exact LeR.refl _|(refine LeR.of_eq ?_;(try simp only [go_sem]);try rfl)|((try simp only [go_sem]);try rfl))
     |false=>
      repeat' (first
       |(with_reducible first|refine nx ?_|refine t_seq fun K=>?_|refine t_br (fun hc=>?_) fun hc=>?_|refine t_bx ?_|apply And.intro|intro vr)|exact kp_obs|exact kp_os|exact kpd
       |((with_reducible first|refine ny ?_|refine t_kLF ?_ ?_|refine t_drawE (id:=5) (fun _=>true) [(0,1),(1,1),(2,1),(3,1),(4,1),(5,1),(6,1),(7,2),(8,0)] (by kernel_rfl) fun K=>?_|refine t_dwh (h:=fun K KL=>?_));intros;simp only [go_sem,kp46,geff,g3,hopd,e1,e2,hwB,Bool.false_eq_true,if_false,yes]))
      all_goals try exact nd
      refine ⟨⟨i+1,s,{w with before:=w.before.set i.toNat s},by omega,.inl (by omega),hs,hw',fun t w3 h=>hv _ _ (vr_plain hc (by rw [hXX];exact q11) (by rw [hXX];exact q10) (by rw [hXX];simp only [hwB,Bool.false_eq_true,if_false];exact h))⟩,by simp only;omega,?_⟩
      try simp only [updL_nil,updL_cons,delF_top,delF_upd,Nat.reduceEqDiff,reduceIte]
      refine le_obB (m:=[.box 73 [.lit (.int .i64 q),.lit (.string p),.lit (.int .i64 a),.lit (.int .i64 b),.lit (.int .i64 c),.lit (.int .i64 d)]]) (Nat.le_refl _) (ob_bds hbd) ?_ ?_
      ·repeat' (first|exact low_top|(refine low_upd rfl ?_)|(refine lg_w ?_ (by rw [ob_len];omega)))
      repeat' (first|exact leF_top _|exact (fun _=>LeR.refl _)|(with_reducible refine leF_sl ?_ ?_)|(refine leF_upd ?_ ?_))
      all_goals (first|exact LeR.top _|exact LeR.refl _|(refine LeR.of_eq ?_;(try simp only [go_sem]);try rfl)|((try simp only [go_sem]);try rfl))
  ·have g3:decide (i<to)=false:=decide_eq_false (by omega)
   repeat' (first
    |(with_reducible first|refine nx ?_|refine t_seq fun K=>?_|refine t_br (fun hc=>?_) fun hc=>?_|refine t_bx ?_|apply And.intro|intro vr)|exact kp_obs|exact kp_os|exact kpd
    |((with_reducible first|refine ny ?_|refine t_kLF ?_ ?_|refine t_drawE (id:=5) (fun _=>true) [(0,1),(1,1),(2,1),(3,1),(4,1),(5,1),(6,1),(7,2),(8,0)] (by kernel_rfl) fun K=>?_|refine t_dwh (h:=fun K KL=>?_));intros;simp only [go_sem,kp46,geff,g3]))
   all_goals try exact nd
   all_goals (refine nl ?_;simp only [go_sem,finE])
   exact ⟨_,_,rfl,LeA.refl _,ob_bds hbd,h5 _ _ (hv _ _ (vr_end (by omega)))⟩
end Go.Proofs.Ytnlimcijgpaegaa

namespace Go.Fw
open Go
variable {P:Program} {n0:Nat}
theorem le_swapM {τ m:List AObj} {x y:AObj} {f:Nat→AV} {S:AS} (hn:n0≤τ.length) (hτ:BdS τ.length τ) (hx:flatO x=true) (hy:flatO y=true) (hm:m.all flatO=true) (hf:∀ j,flat1 (f j)=true)
    (hs:Le n0 ⟨renF (sw τ.length) f,τ++(renO (sw τ.length) y::renO (sw τ.length) x::m.map (renO (sw τ.length)))⟩ S):Le n0 ⟨f,τ++(x::y::m)⟩ S:=by
  have hbig:∀ k,2≤k→sw τ.length (τ.length+k)=τ.length+k:=fun k hk=>by unfold sw;rw [if_neg (by omega),if_neg (by omega)]
  have h0:sw τ.length (τ.length+0)=τ.length+1:=by simp [sw]
  have h1:sw τ.length (τ.length+1)=τ.length+0:=by simp [sw]
  refine Le.trans (le_ren (l:=x::y::m) (l':=renO (sw τ.length) y::renO (sw τ.length) x::m.map (renO (sw τ.length))) (sw τ.length) (sw τ.length) hn hτ (by simp) ?_ ?_ ?_ ?_ fun j=>⟨hf j,rfl⟩) hs
  ·intro o ho;unfold sw;rw [if_neg (by omega),if_neg (by omega)];exact ⟨rfl,rfl⟩
  ·intro k hk
   rcases (show k=0∨k=1∨2≤k by omega) with rfl|rfl|h2
   ·rw [h0,h1];simp
   ·rw [h1,h0];simp
   ·rw [hbig k h2,hbig k h2];exact ⟨by omega,by omega,rfl⟩
  ·intro k hk
   rcases (show k=0∨k=1∨2≤k by omega) with rfl|rfl|h2
   ·rw [h0,h1];simp
   ·rw [h1,h0];simp
   ·rw [hbig k h2,hbig k h2];exact ⟨by omega,by omega,rfl⟩
  ·intro k hk
   rcases (show k=0∨k=1∨2≤k by omega) with rfl|rfl|h2
   ·rw [h0];simp [hx]
   ·rw [h1];simp [hy]
   ·rw [hbig k h2]
    obtain ⟨k,rfl⟩:∃ j,k=j+2:=⟨k - 2,by omega⟩
    simp only [List.length_cons] at hk
    have hkm:k<m.length:=by omega
    rw [show τ.length+(k+2) - τ.length=k+2 by omega]
    have e1:(x::y::m).getD (k+2) .gone=m[k]:=by simp [List.getD,hkm]
    rw [e1]
    refine ⟨List.all_eq_true.1 hm _ (List.getElem_mem hkm),?_⟩
    simp [hkm]
theorem EC.frz1 {f:FuncId} {pre post:List AV} {o ver e sz:Nat} {xs:List AV} {σ:List AObj} {k:AV→List AObj→Prop} (ho:σ[o]? =some (.arr e sz xs ver false))
    (hk:EC P f (pre++ .sl false sz xs::post) (σ.set o (.arr e sz xs ver true)) k):EC P f (pre++ .arr o ver::post) σ k:=by
  intro cx G w vs hr hl
  obtain ⟨G1,hG1,hr1⟩:=Rel.freezeO hr o
  have e1:Fw.freezeO σ o=σ.set o (.arr e sz xs ver true):=by unfold Fw.freezeO;rw [ho]
  rw [e1] at hr1
  refine (hk cx G1 w vs hr1 ⟨by rw [hl.1];simp,fun i hi=>?_⟩).mono ?_
  ·have hi':i<(pre++ .arr o ver::post).length:=by simpa using hi
   have hj:=(hl.2 i hi').mono hG1
   by_cases hip:i=pre.length
   ·subst hip
    have a1:(pre++AV.arr o ver::post).getD pre.length .top= .arr o ver:=by simp [List.getD]
    have a2:(pre++AV.sl false sz xs::post).getD pre.length .top= .sl false sz xs:=by simp [List.getD]
    rw [a1] at hj
    rw [a2]
    have hc:Fw.arrOf false (σ.set o (.arr e sz xs ver true)) o ver=some (.sl false sz xs):=by unfold Fw.arrOf;rw [get_set ho];simp
    have:=arrOf_sound (live:=false) hr1 hj hc
    exact .clo _ _ (by simpa using this)
   ·have a3:(pre++AV.sl false sz xs::post).getD i .top=(pre++AV.arr o ver::post).getD i .top:=by
      simp only [List.getD]
      congr 1
      by_cases h:i<pre.length
      ·rw [List.getElem?_append_left h,List.getElem?_append_left h]
      ·rw [List.getElem?_append_right (by omega),List.getElem?_append_right (by omega)]
       obtain ⟨q,hq⟩:∃ q,i - pre.length=q+1:=⟨i - pre.length - 1,by omega⟩
       rw [hq];rfl
    rw [a3];exact hj
  ·rintro en w' ⟨v,G',σ',x,h1,h2,h3⟩
   exact ⟨v,G',σ',x,h1,hG1.trans h2,h3⟩
end Go.Fw

namespace Go.Proofs.Ytnlimcijgpaegaa
open Go Go.Fw Bm
set_option maxRecDepth 20000
theorem blk_base {B:Prg} {mt:List Int} {n:Nat}:BlkH B mt n 0:=by
  intro i to s w ex k h1 h2 h3 h4 h5
  refine ec_fin fun hbd=>?_
  have h20:=h2.1
  refine ecR D0_ok (kp46) Try.func46 [.tmp 8] (h:=fun KF=>?_)
  unfold D0
  repeat' (first
   |(with_reducible first|refine nx ?_|refine t_seq fun K=>?_|refine t_br (fun hc=>?_) fun hc=>?_|refine t_bx ?_|apply And.intro|intro vr)
   |((with_reducible first|refine ny ?_|refine t_dwh (h:=fun K KL=>?_));intros;simp only [go_sem,kp46,geff]))
  all_goals try exact nd
  refine t_loopF (ι:=Unit) (fun _=>[(9,.lit (.int .i64 i)),(3,.sl false 2 (rgsV s))]) (fun _=>objs B mt w ex) (fun _=>0) () ?_ ?_
  ·exact lf
  rintro ⟨⟩ K0
  have g3:decide (i<to)=false:=decide_eq_false (by omega)
  repeat' (first
   |(with_reducible first|refine nx ?_|refine t_seq fun K=>?_|refine t_br (fun hc=>?_) fun hc=>?_|refine t_bx ?_|apply And.intro|intro vr)
   |((with_reducible first|refine ny ?_|refine t_dwh (h:=fun K KL=>?_));intros;simp only [go_sem,kp46,geff,g3]))
  all_goals try exact nd
  all_goals (refine nl ?_;simp only [go_sem,finE])
  exact ⟨_,_,rfl,LeA.refl _,ob_bds hbd,h5 _ _ (vr_end (by omega))⟩
theorem blk_all {B:Prg} {mt:List Int} {n:Nat} (hK:Wk B mt n):∀ N,BlkH B mt n N
  |0=>blk_base
  |N+1=>block_step hK (blk_all hK N)
theorem vr_det {B:Prg} {mt:List Int} {tk:VTk} {s t t':List Rng} {w w' w'':W} (h:VR B mt tk s w t w') (k:VR B mt tk s w t' w''):t=t'∧w'=w'':=by
  obtain ⟨f,hf⟩:=h
  obtain ⟨g,hg⟩:=k
  have h1:=vrun_le (Nat.le_max_left f g) hf
  have h2:=vrun_le (Nat.le_max_right f g) hg
  rw [h1] at h2
  cases h2
  exact ⟨rfl,rfl⟩
def beg (B:Prg):List Rng:=List.replicate B.regs.toNat nilR
def w0 (B:Prg):W:=⟨List.replicate B.ops.length [],[]⟩
def EndV (B:Prg) (mt:List Int):Prop:=∃ p:List Rng×W,VR B mt (.blk 0 B.ops.length) (beg B) (w0 B) p.1 p.2
noncomputable def endV (B:Prg) (mt:List Int):W:= @dite _ (EndV B mt) (Classical.propDecidable _) (fun h=>h.choose.2) (fun _=>⟨[],[]⟩)
theorem endV_eq {B:Prg} {mt:List Int} {t:List Rng} {w:W} (h:VR B mt (.blk 0 B.ops.length) (beg B) (w0 B) t w):endV B mt=w:=by
  have hE:EndV B mt:=⟨(t,w),h⟩
  unfold endV
  rw [dif_pos hE]
  exact (vr_det hE.choose_spec h).2
def wipeU (ops:List Ins) (l:List (List Rng)) (j:Nat):List (List Rng):=l.mapIdx fun q s=>if q<j∧(cd ops q=12∨cd ops q=13) then [] else s
theorem wipeU_0 {ops:List Ins} {l:List (List Rng)}:wipeU ops l 0=l:=by
  apply List.ext_getElem?
  intro n
  simp only [wipeU,List.getElem?_mapIdx]
  cases l[n]? with
  |none=>rfl
  |some a=>simp only [Option.map_some];rw [if_neg (by omega)]
theorem wipeU_len {ops:List Ins} {l:List (List Rng)} {j:Nat}:(wipeU ops l j).length=l.length:=by simp [wipeU]
theorem wipeU_y {ops:List Ins} {l:List (List Rng)} {j:Nat} (h:cd ops j=12∨cd ops j=13):(wipeU ops l j).set j []=wipeU ops l (j+1):=by
  apply List.ext_getElem?
  intro n
  rw [List.getElem?_set]
  by_cases e:j=n
  ·subst e
   rw [if_pos rfl,wipeU_len]
   simp only [wipeU,List.getElem?_mapIdx]
   split
   ·rename_i hl
    rw [List.getElem?_eq_getElem hl,Option.map_some,if_pos ⟨by omega,h⟩]
   ·rename_i hl
    rw [List.getElem?_eq_none (by omega)];rfl
  ·rw [if_neg e]
   simp only [wipeU,List.getElem?_mapIdx]
   cases l[n]? with
   |none=>rfl
   |some a=>
    simp only [Option.map_some]
    by_cases c:n<j
    ·simp only [c,show n<j+1 by omega]
    ·simp only [c,show ¬ n<j+1 by omega]
theorem wipeU_n {ops:List Ins} {l:List (List Rng)} {j:Nat} (h: ¬ (cd ops j=12∨cd ops j=13)):wipeU ops l j=wipeU ops l (j+1):=by
  apply List.ext_getElem?
  intro n
  simp only [wipeU,List.getElem?_mapIdx]
  cases l[n]? with
  |none=>rfl
  |some a=>
   simp only [Option.map_some]
   by_cases e:j=n
   ·subst e;rw [if_neg (by omega),if_neg (fun k=>h k.2)]
   ·by_cases c:n<j
    ·simp only [c,show n<j+1 by omega]
    ·simp only [c,show ¬ n<j+1 by omega]
noncomputable def beforeL (B:Prg):List (List Rng):=if validS B=true then (match matchS B.ops with
  |some mt=>wipeU B.ops (endV B mt).before B.ops.length
  |none=>[]) else []
theorem okS_beg (B:Prg):OkS B.regs.toNat (beg B):=⟨by simp [beg],fun i hi=>by
  have:(beg B).getD i nilR=nilR:=by simp [beg,List.getD,hi]
  rw [this];exact okR_nil⟩
theorem valid_inv {B:Prg} (h:validS B=true):(0≤B.regs∧B.regs≤200)∧(0≤B.arena∧B.arena≤1048576)∧(∃ mt,matchS B.ops=some mt)∧Rights B B.regs.toNat∧B.types.length=B.ins.length+B.outs.length∧typesOk B.arena B.types (B.ins++B.outs)=true:=by
  rw [valid_eq,Bool.and_eq_true,Bool.not_eq_true'] at h
  obtain ⟨h1,h2⟩:=h
  simp only [headB,formedB,Bool.or_eq_false_iff,decide_eq_false_iff_not,bne_eq_false_iff_eq,Bool.not_eq_false',Bool.and_eq_true] at h1
  obtain ⟨⟨⟨⟨⟨k1,k2⟩,k3⟩,k4⟩,k5,k6⟩,k7⟩:=h1
  refine ⟨⟨by omega,by omega⟩,⟨by omega,by omega⟩,?_,?_,by omega,h2⟩
  ·cases hm:matchS B.ops with
   |none=>rw [hm] at k6;cases k6
   |some mt=>exact ⟨mt,rfl⟩
  ·intro i i0 i1
   rw [List.all_eq_true] at k5
   have hmem:B.op i∈B.ops:=by
     unfold Prg.op
     rw [List.getD_eq_getElem?_getD,List.getElem?_eq_getElem (by omega)]
     exact List.getElem_mem _
   have:=k5 _ hmem
   rw [show ((B.regs.toNat:Nat):Int)=B.regs by omega]
   exact this
theorem wk_of {B:Prg} {mt:List Int} (h:validS B=true) (hm:matchS B.ops=some mt) (hl:B.ops.length≤1000000):Wk B mt B.regs.toNat:=by
  obtain ⟨h1,_,_,h3,_⟩:=valid_inv h
  have hn:=match_nest hm
  exact ⟨hn,h3,hl,by omega,hn.len⟩
noncomputable def ecnW:ECon Try.prog where
  f:=46
  c:=fun args σ k=>∃ (B:Prg) (mt:List Int) (ver:Nat),args=[.ref 3 0,.lit (.int .i64 0),.lit (.int .i64 B.ops.length),.arr 4 ver]∧σ=objs B mt (w0 B) [.arr 29 2 (rgsV (beg B)) ver false]∧Wk B mt B.regs.toNat∧
   ∀ t w',VR B mt (.blk 0 B.ops.length) (beg B) (w0 B) t w'→k (.sl false 2 (rgsV t)) (objs B mt w' [.arr 29 2 (rgsV (beg B)) ver true])
  ok:=by
   rintro _ _ k ⟨B,mt,ver,rfl,rfl,hK,h5⟩
   refine EC.frz1 (pre:=[.ref 3 0,.lit (.int .i64 0),.lit (.int .i64 B.ops.length)]) (post:=[]) (e:=29) (sz:=2) (xs:=rgsV (beg B)) rfl ?_
   exact blk_all hK B.ops.length 0 B.ops.length (beg B) (w0 B) [.arr 29 2 (rgsV (beg B)) ver true] k (by omega) ⟨Int.le_refl _,Int.le_refl _,fun j j0 j1 j2=>(hK.nest.at j0 j1 j2).2.1⟩ (okS_beg B)
     ⟨by simp [w0],fun i l hl=>by cases hl⟩ h5
  fk:=fk46
theorem ecnW_f:ecnW.f=46:=rfl
theorem ecnW_i {B:Prg} {mt:List Int} {ver:Nat} {k:AV→List AObj→Prop} (hK:Wk B mt B.regs.toNat) (h5:∀ t w',VR B mt (.blk 0 B.ops.length) (beg B) (w0 B) t w'→k (.sl false 2 (rgsV t)) (objs B mt w' [.arr 29 2 (rgsV (beg B)) ver true])):
    ecnW.c [.ref 3 0,.lit (.int .i64 0),.lit (.int .i64 B.ops.length),.arr 4 ver] (objs B mt (w0 B) [.arr 29 2 (rgsV (beg B)) ver false]) k:=⟨B,mt,ver,rfl,rfl,hK,h5⟩
theorem bvalid_pc2 {B:Prg} (h:OkB B∧B.ins.length≤100000∧B.outs.length≤100000):PC Try.prog 42 [bcV B] (.lit (.bool (validS B))):=bvalid_pc h.1 h.2
noncomputable def con42:PCon Try.prog where
  f:=42
  c:=fun
   |[xB]=>match bcOf xB with|some B=>some ((OkB B∧B.ins.length≤100000∧B.outs.length≤100000),.lit (.bool (validS B)))|_=>none
   |_=>none
  ok:=by
   intro args p r hc hp
   split at hc
   ·split at hc
    ·rename_i hB
     cases hc
     exact PC.weak (bvalid_pc2 hp) ⟨bcOf_le hB,trivial⟩
    ·cases hc
   ·cases hc
  fk:=fk42
theorem con42_f:con42.f=42:=rfl
theorem con42_c {xB:AV}:con42.c [xB]=match bcOf xB with|some B=>some ((OkB B∧B.ins.length≤100000∧B.outs.length≤100000),.lit (.bool (validS B)))|_=>none:=rfl
attribute [go_sem] ecnW_f con42_f con42_c
noncomputable def D5:Env:=envJ (P:=Try.prog) jkR zer (fun _=>false) (fun _=>false) [con42,con45] [ecnW]
theorem D5_ok:EnvOk Try.prog D5:=envJOk zer_ok
theorem rz_beg (B:Prg):List.replicate B.regs.toNat (AV.agg [.lit (.int .i64 0),.lit (.int .i64 0)])=rgsV (beg B):=rz_rgs _
theorem bcOf_B {B:Prg}:bcOf (.agg [.lit (.int .i64 B.regs),.lit (.int .i64 B.arena),.sl false 6 (opsV B.ops),.sl false 2 (plsV B.ins),.sl false 2 (plsV B.outs),.sl false 3 (arrs B.types)])=some B:=bcOf_mk
theorem le_bef0 {n0:Nat} {f:Nat→AV} {σ:List AObj} {n:Nat} (h:σ[1]? =some (.arr 26 1 (List.replicate n (.sl true 2 [])) 0 false)):Le n0 ⟨f,σ⟩ ⟨f,σ.set 1 (.arr 26 1 (bfsV (List.replicate n [])) 0 false)⟩:=by
  have e2:bfsV (List.replicate n [])=List.replicate n (.sl false 2 []):=by simp [bfsV,rgsV]
  have e3:∀ b n,flat (List.replicate n (AV.sl b 2 []))=List.replicate n (.sl b 2 []):=fun b n=>by
    induction n with
    |zero=>rfl
    |succ n ih=>show AV.cells _++flat _=_;rw [ih];rfl
  refine le_arrE h ?_ ?_ ?_ ?_
  ·rw [e2];simp
  ·intro y hy
   rw [e2] at hy
   obtain rfl:=(List.mem_replicate.1 hy).2
   rfl
  ·rw [e2,e3,e3];simp
  ·intro i hi
   rw [e2,e3,e3]
   rw [e3] at hi
   simp only [List.length_replicate] at hi
   have a1:∀ b,(List.replicate n (AV.sl b 2 [])).getD i .top= .sl b 2 []:=fun b=>by simp [List.getD,hi]
   rw [a1,a1]
   exact LeA.full _ _ _
theorem kp_oz {B:Prg} {mt:List Int} {w w':W} {e sz ver:Nat} {xs:List AV} {fz fz':Bool} {D:Nat→Bool}:Kp D (objs B mt w [.arr e sz xs ver fz]) (objs B mt w' [.arr e sz xs ver fz']):=kp_ob fun o t cs h=>by
  rcases o with _|o
  ·cases h
  ·cases h
theorem kp_on {B:Prg} {mt:List Int} {w w':W} {m:List AObj} {D:Nat→Bool}:Kp D (objs B mt w []) (objs B mt w' m):=kp_ob fun o t cs h=>by cases h
theorem ob_bd1 {B:Prg} {mt:List Int} {w:W} {e sz ver:Nat} {xs:List AV} {fz:Bool}:BdS (objs B mt w [.arr e sz xs ver fz]).length (objs B mt w [.arr e sz xs ver fz]):=bds_low (by
  simp [objs,bxB,wkO,lowO,low1,low0])
set_option maxHeartbeats 8000000 in
theorem before_pc {B:Prg} (h:OkB B) (hi:B.ins.length≤100000∧B.outs.length≤100000):PC Try.prog 19 [bcV B] (.sl false 1 (bfsV (beforeL B))):=by
  have hh:OkB B∧B.ins.length≤100000∧B.outs.length≤100000:=⟨h,hi⟩
  have hO:=h.ops
  obtain ⟨hi1,hi2⟩:=hi
  cases hv:validS B with
  |false=>
   have e:beforeL B=[]:=by unfold beforeL;rw [hv];rfl
   rw [e]
   simp only [bcV]
   refine pcR D5_ok (kp19) Try.func19 [.tmp 2] (h:=fun KF=>?_)
   unfold D5
   repeat' (first
    |(with_reducible first|refine nx ?_|refine t_seq fun K=>?_|refine t_br (fun hc=>?_) fun hc=>?_|refine t_bx ?_|apply And.intro|intro vr)|exact kp_oz|exact kp_on|exact kpd
    |((with_reducible first|refine ny ?_|refine t_kLF ?_ ?_|refine t_drawE (id:=5) (fun _=>true) [(0,1),(1,1),(2,1),(3,1),(4,1),(5,1),(6,0),(7,0)] (by kernel_rfl) fun K=>?_|refine t_dwh (h:=fun K KL=>?_));intros;simp only [go_sem,kp19,geff,bcOf_B,hv,Bool.not_false]))
   all_goals try exact nd
   all_goals (refine nl ?_;simp only [go_sem])
   exact LeA.nil _ _
  |true=>
   obtain ⟨v1,v2,⟨mt,hm⟩,_,_,_⟩:=valid_inv hv
   have hK:=wk_of hv hm hO
   have e:beforeL B=wipeU B.ops (endV B mt).before B.ops.length:=by unfold beforeL;rw [hv,hm];rfl
   have hmv:matchV B.ops= .tup [.sl false 1 (ints .i64 mt),.lit (.bool true)]:=by unfold matchV;rw [hm]
   generalize beforeL B=R at e
   simp only [bcV]
   refine pcR D5_ok (kp19) Try.func19 [.tmp 2] (h:=fun KF=>?_)
   unfold D5
   repeat' (first
    |(with_reducible first|refine nx ?_|refine t_seq fun K=>?_|refine t_br (fun hc=>?_) fun hc=>?_|refine t_bx ?_|apply And.intro|intro vr)|exact kp_oz|exact kp_on|exact kpd
    |((with_reducible first|refine ny ?_|refine t_kLF ?_ ?_|refine t_drawE (id:=5) (fun _=>true) [(0,1),(1,1),(2,1),(3,1),(4,1),(5,1),(6,0),(7,0)] (by kernel_rfl) fun K=>?_);intros;simp only [go_sem,kp19,geff,bcOf_B,hv,hmv,Bool.not_true]))
   all_goals try exact nd
   refine t_drawP ⟨upd (upd topF 5 (.ref 3 0)) 1 (.ref 0 0),objs B mt (w0 B) []⟩ (fun i=>i==0) [(0,1),(1,1),(2,1),(3,1),(4,1)] [5,6] [(7,1),(8,0),(9,1)] (by kernel_rfl) ?_ ?_
   rotate_left
   ·skip
    intro K
    simp only [pickO,pickG,List.getElem?_toArray,List.getElem?_cons_zero,List.getElem?_cons_succ,List.length_cons,List.length_nil,Nat.reduceAdd,lp_some]
    simp only [go_sem,pickO,pickG,geff,kp19]
    repeat' (first
     |(with_reducible first|refine nx ?_|refine t_seq fun K=>?_|refine t_br (fun hc=>?_) fun hc=>?_|refine t_bx ?_|apply And.intro|intro vr)|exact kp_oz|exact kp_on|exact kpd
     |((with_reducible first|refine ny ?_|refine t_kLF ?_ ?_|refine t_kPE ?_ ?_|refine t_kPD ?_ ?_|refine t_drawE (id:=5) (fun _=>true) [(0,1),(1,1),(2,1),(3,1),(4,1),(5,1),(6,0),(7,0)] (by kernel_rfl) fun K=>?_);intros;simp only [go_sem,kp19,geff]))
    all_goals try exact Int.le_refl _
    all_goals try exact nd
    ·refine (le_bef0 (n:=B.ops.length) rfl).trans ?_
     exact lg
    ·refine le_swapM (τ:=[_]) (m:=[_]) (Nat.zero_le _) (bds_low (by simp [lowO,low_lit,low_sl])) rfl rfl rfl ?_ ?_
     ·repeat' (first|exact flatF_top|(refine flatF_upd rfl ?_))
     simp only [renF_upd,renF_top,ren1,renA,renO,sw,List.map_cons,List.map_nil,List.length_cons,List.length_nil,Nat.reduceAdd,Nat.reduceEqDiff,reduceIte,List.cons_append,List.nil_append]
     refine (le_bef0 (n:=B.ops.length) rfl).trans ?_
     exact lg
   repeat' (first
    |(with_reducible first|refine nx ?_|refine t_seq fun K=>?_|refine t_br (fun hc=>?_) fun hc=>?_|refine t_bx ?_|apply And.intro|intro vr)|exact kp_oz|exact kp_on|exact kpd
    |((with_reducible first|refine ny ?_|refine t_kLF ?_ ?_|refine t_drawE (id:=5) (fun _=>true) [(0,1),(1,1),(2,1),(3,1),(4,1),(5,1),(6,0),(7,0)] (by kernel_rfl) fun K=>?_|refine t_dwh (h:=fun K KL=>?_));intros;simp only [go_sem,kp19,geff,bcOf_B,bxB,rz_beg,List.nil_append,List.length_nil,Nat.zero_add]))
   all_goals try exact Int.le_refl _
   all_goals try exact nd
   refine ecnW_i hK fun t w' hr=>?_
   have he:=endV_eq hr
   have hcl:Cl B mt 0 B.ops.length:=⟨Int.le_refl _,Int.le_refl _,fun j j0 j1 j2=>(hK.nest.at j0 j1 j2).2.1⟩
   obtain ⟨_,hw⟩:=vr_ok hK hr hcl (okS_beg B) ⟨by simp [w0],fun i l hl=>(by cases hl)⟩
   have hwl:=hw.len
   rw [he] at e
   repeat' (first
    |(with_reducible first|refine nx ?_|refine t_seq fun K=>?_|refine t_br (fun hc=>?_) fun hc=>?_|refine t_bx ?_|apply And.intro|intro vr)|exact kp_oz|exact kp_on|exact kpd
    |((with_reducible first|refine ny ?_|refine t_kLF ?_ ?_|refine t_drawE (id:=5) (fun _=>true) [(0,1),(1,1),(2,1),(3,1),(4,1),(5,1),(6,0),(7,0)] (by kernel_rfl) fun K=>?_|refine t_dwh (h:=fun K KL=>?_));intros;simp only [go_sem,kp19,geff,bxB]))
   all_goals try exact nd
   refine t_loopF (ι:={j:Nat // j≤B.ops.length}) (fun i=>[(37,.lit (.int .i64 i.1))]) (fun i=>objs B mt ⟨wipeU B.ops w'.before i.1,w'.heads⟩ [.arr 29 2 (rgsV (beg B)) 0 true]) (fun i=>B.ops.length - i.1) ⟨0,by omega⟩ ?_ ?_
   ·simp only [wipeU_0]
    exact lf
   rintro ⟨j,hj⟩ K0
   have hwu:(wipeU B.ops w'.before j).length=B.ops.length:=by rw [wipeU_len,hwl]
   rcases Nat.lt_or_ge j B.ops.length with hc|hc
   ·have g3:decide ((j:Int)<(B.ops.length:Int))=true:=decide_eq_true (by omega)
    have hcd:cd B.ops j=(B.ops.getD j nilI).code:=rfl
    generalize hx:B.ops.getD j nilI=x at hcd
    obtain ⟨q,p,a,b,c,d⟩:=x
    simp only at hcd
    by_cases hq:q=12∨q=13
    ·have hw2:=wipeU_y (ops:=B.ops) (l:=w'.before) (j:=j) (by rw [hcd];exact hq)
     have gq:(q==12||q==13)=true:=by simpa using hq
     repeat' (first
      |(with_reducible first|refine nx ?_|refine t_seq fun K=>?_|refine t_br (fun hc=>?_) fun hc=>?_|refine t_bx ?_|apply And.intro|intro vr)|exact kp_oz|exact kp_on|exact kpd
      |((with_reducible first|refine ny ?_|refine t_kLF ?_ ?_|refine t_drawE (id:=5) (fun _=>true) [(0,1),(1,1),(2,1),(3,1),(4,1),(5,1),(6,0),(7,0)] (by kernel_rfl) fun K=>?_|refine t_dwh (h:=fun K KL=>?_));intros;simp only [go_sem,kp19,geff,g3,hx,gq,Int.toNat_natCast,yes]))
     all_goals try exact nd
     refine ⟨⟨j+1,by omega⟩,by simp only;omega,?_⟩
     refine (le_bef (w:=⟨wipeU B.ops w'.before j,w'.heads⟩)).trans ?_
     simp only [hw2]
     try simp only [updL_nil,updL_cons,delF_top,delF_upd,Nat.reduceEqDiff,reduceIte]
     refine le_obB (m:=[.box 73 [.lit (.int .i64 q),.lit (.string p),.lit (.int .i64 a),.lit (.int .i64 b),.lit (.int .i64 c),.lit (.int .i64 d)]]) (ex:=[.arr 29 2 (rgsV (beg B)) 0 true]) (Nat.zero_le _) ob_bd1 ?_ ?_
     ·repeat' (first|exact low_top|(refine low_upd rfl ?_)|(refine lg_w ?_ (by rw [ob_len];omega)))
     repeat' (first|exact leF_top _|exact (fun _=>LeR.refl _)|(with_reducible refine leF_sl ?_ ?_)|(refine leF_upd ?_ ?_))
     all_goals (first|exact LeR.top _|exact LeR.refl _|(refine LeR.of_eq ?_;(try simp only [go_sem]);try rfl)|((try simp only [go_sem]);try rfl))
    ·have hw2:=wipeU_n (ops:=B.ops) (l:=w'.before) (j:=j) (by rw [hcd];exact hq)
     have gq:(q==12||q==13)=false:=by simpa using hq
     repeat' (first
      |(with_reducible first|refine nx ?_|refine t_seq fun K=>?_|refine t_br (fun hc=>?_) fun hc=>?_|refine t_bx ?_|apply And.intro|intro vr)|exact kp_oz|exact kp_on|exact kpd
      |((with_reducible first|refine ny ?_|refine t_kLF ?_ ?_|refine t_drawE (id:=5) (fun _=>true) [(0,1),(1,1),(2,1),(3,1),(4,1),(5,1),(6,0),(7,0)] (by kernel_rfl) fun K=>?_|refine t_dwh (h:=fun K KL=>?_));intros;simp only [go_sem,kp19,geff,g3,hx,gq,Int.toNat_natCast,yes]))
     all_goals try exact nd
     refine ⟨⟨j+1,by omega⟩,by simp only;omega,?_⟩
     rw [hw2]
     try simp only [updL_nil,updL_cons,delF_top,delF_upd,Nat.reduceEqDiff,reduceIte]
     refine le_obB (m:=[.box 73 [.lit (.int .i64 q),.lit (.string p),.lit (.int .i64 a),.lit (.int .i64 b),.lit (.int .i64 c),.lit (.int .i64 d)]]) (ex:=[.arr 29 2 (rgsV (beg B)) 0 true]) (Nat.zero_le _) ob_bd1 ?_ ?_
     ·repeat' (first|exact low_top|(refine low_upd rfl ?_)|(refine lg_w ?_ (by rw [ob_len];omega)))
     repeat' (first|exact leF_top _|exact (fun _=>LeR.refl _)|(with_reducible refine leF_sl ?_ ?_)|(refine leF_upd ?_ ?_))
     all_goals (first|exact LeR.top _|exact LeR.refl _|(refine LeR.of_eq ?_;(try simp only [go_sem]);try rfl)|((try simp only [go_sem]);try rfl))
   ·have g3:decide ((j:Int)<(B.ops.length:Int))=false:=decide_eq_false (by omega)
    obtain rfl:j=B.ops.length:=by omega
    repeat' (first
     |(with_reducible first|refine nx ?_|refine t_seq fun K=>?_|refine t_br (fun hc=>?_) fun hc=>?_|refine t_bx ?_|apply And.intro|intro vr)|exact kp_oz|exact kp_on|exact kpd
     |((with_reducible first|refine ny ?_|refine t_kLF ?_ ?_|refine t_drawE (id:=5) (fun _=>true) [(0,1),(1,1),(2,1),(3,1),(4,1),(5,1),(6,0),(7,0)] (by kernel_rfl) fun K=>?_|refine t_dwh (h:=fun K KL=>?_));intros;simp only [go_sem,kp19,geff,g3]))
    all_goals try exact nd
    all_goals (refine nl ?_;simp only [go_sem])
    exact ⟨_,rfl,LeA.of_eq (by rw [e])⟩
theorem before_pc2 {B:Prg} (h:OkB B∧B.ins.length≤100000∧B.outs.length≤100000):PC Try.prog 19 [bcV B] (.sl false 1 (bfsV (beforeL B))):=before_pc h.1 h.2
noncomputable def con19:PCon Try.prog where
  f:=19
  c:=fun
   |[xB]=>match bcOf xB with|some B=>some ((OkB B∧B.ins.length≤100000∧B.outs.length≤100000),.sl false 1 (bfsV (beforeL B)))|_=>none
   |_=>none
  ok:=by
   intro args p r hc hp
   split at hc
   ·split at hc
    ·rename_i hB
     cases hc
     exact PC.weak (before_pc2 hp) ⟨bcOf_le hB,trivial⟩
    ·cases hc
   ·cases hc
  fk:=fk19
theorem con19_f:con19.f=19:=rfl
theorem con19_c {xB:AV}:con19.c [xB]=match bcOf xB with|some B=>some ((OkB B∧B.ins.length≤100000∧B.outs.length≤100000),.sl false 1 (bfsV (beforeL B)))|_=>none:=rfl
attribute [go_sem] con19_f con19_c
end Go.Proofs.Ytnlimcijgpaegaa

namespace Go.Proofs.Ytnlimcijgpaegaa.Bm
open Go.Proofs.Ytnlimcijgpaegaa
open Go Go.Fw
variable {B:Prg} {mt:List Int}
def Ent (n:Nat) (l:List (List Rng)):Prop:=∀ j:Nat,l.getD j []=[]∨OkS n (l.getD j [])
theorem Ent.wipe {n:Nat} {l:List (List Rng)} (h:Ent n l) (i to:Int):Ent n (wipe l i to):=fun j=>by
  rw [wipe_getD]
  split
  ·exact .inl rfl
  ·exact h j
theorem Ent.set {n:Nat} {l:List (List Rng)} (h:Ent n l) (i:Nat) {s:List Rng} (hs:OkS n s):Ent n (l.set i s):=fun j=>by
  rw [List.getD_eq_getElem?_getD,List.getElem?_set]
  split
  ·split
   ·exact .inr hs
   ·exact .inl rfl
  ·have:=h j
   rwa [List.getD_eq_getElem?_getD] at this
theorem vrun_ent (hN:Nest B.ops mt) {n:Nat} (hR:Rights B n):∀ (f:Nat) (tk:VTk) (s:List Rng) (w:W) (t:List Rng) (w':W),vrun B mt f tk s w=some (t,w')→tk.ok B mt→OkS n s→HOk n w→(∀ i v,tk= .lop i v→OkR v)→Ent n w.before→Ent n w'.before
  |0,_,_,_,_,_,h,_,_,_,_,_=>by simp [vrun] at h
  |f+1,.blk i to,s,w,t,w',h,hk,hs,hw,_,he=>by
   have hk':Cl B mt i to:=hk
   by_cases hi:i<to
   ·have hlt:i<B.ops.length:=by have:=hk'.2.1;omega
    have he1:Ent n (w.before.set i.toNat s):=he.set _ hs
    rcases step1_of h hi with ⟨yes,no,w1,w2,t1,hc,h1,h2,h3,h4⟩|⟨hc,hv,h1⟩|⟨t1,w1,hc,hv,h1,h2⟩|⟨_,_,h3⟩
    ·obtain ⟨k1,k2,k3,_,k5,_⟩:=hN.end_ hk' hi hc
     have hin:=hN.inner hk'.1 hlt (.inr (.inl hc))
     have e1:(∀ l,yes=some l→OkS n l)∧HOk n w1∧Ent n w1.before:=by
       rcases part_inv h1 with ⟨_,rfl,rfl⟩|⟨hx,u,rfl,hr⟩
       ·exact ⟨(by intro l h;cases h),hw,he1.wipe _ _⟩
       ·have hx1:=hs.with (i:=(B.op i).a) (ok_yes (hs.at _) hx)
        obtain ⟨q1,q2⟩:=vrun_ok hN hR f (.blk (i+1) (gt mt i)) _ _ _ _ hr hin hx1 hw (by intro i v h;cases h)
        exact ⟨(by intro l h;cases h;exact q1),q2,vrun_ent hN hR f (.blk (i+1) (gt mt i)) _ _ _ _ hr hin hx1 hw (by intro i v h;cases h) he1⟩
     have e2:(∀ l,no=some l→OkS n l)∧HOk n w2∧Ent n w2.before:=by
       rcases part_inv h2 with ⟨_,rfl,rfl⟩|⟨hx,u,rfl,hr⟩
       ·exact ⟨(by intro l h;cases h),e1.2.1,e1.2.2.wipe _ _⟩
       ·have hx1:=hs.with (i:=(B.op i).a) (ok_no (hs.at _) hx)
        obtain ⟨q1,q2⟩:=vrun_ok hN hR f (.blk _ _) _ _ _ _ hr k5 hx1 e1.2.1 (by intro i v h;cases h)
        exact ⟨(by intro l h;cases h;exact q1),q2,vrun_ent hN hR f (.blk _ _) _ _ _ _ hr k5 hx1 e1.2.1 (by intro i v h;cases h) e1.2.2⟩
     exact vrun_ent hN hR f (.blk _ _) _ _ _ _ h4 (hk'.next (by omega)) (hulls_ok h3 e1.1 e2.1) e2.2.1 (by intro i v h;cases h) e2.2.2
    ·obtain ⟨k1,_,_,_⟩:=hN.at hk'.1 hlt (.inl hc)
     exact vrun_ent hN hR f (.blk _ _) _ _ _ _ h1 (hk'.next (by omega)) hs hw (by intro i v h;cases h) (he1.wipe _ _)
    ·obtain ⟨k1,_,_,_⟩:=hN.at hk'.1 hlt (.inl hc)
     have hh:OkS n ((lookH w.heads i).getD s):=by
       cases e:lookH w.heads i with
       |none=>exact hs
       |some l=>exact hw i l e
     have hb:=hs.at (B.op i).b
     have hcc:=hs.at (B.op i).c
     have hvv:∀ (j:Int) (v:Rng),VTk.lop i ⟨(gR s (B.op i).b).lo,(gR s (B.op i).c).hi - 1⟩= .lop j v→OkR v:=by
       intro j v hj
       cases hj
       obtain ⟨b1,b2,b3⟩:=hb
       obtain ⟨c1,c2,c3⟩:=hcc
       refine ⟨?_,?_,?_⟩<;>simp only [machR,maxC] at* <;>omega
     obtain ⟨q1,q2⟩:=vrun_ok hN hR f (.lop i _) _ _ _ _ h1 ⟨hk'.1,hlt,hc⟩ (hh.grown hs) hw hvv
     have q3:=vrun_ent hN hR f (.lop i _) _ _ _ _ h1 ⟨hk'.1,hlt,hc⟩ (hh.grown hs) hw hvv he1
     exact vrun_ent hN hR f (.blk _ _) _ _ _ _ h2 (hk'.next (by omega)) q1 q2 (by intro i v h;cases h) q3
    ·refine vrun_ent hN hR f (.blk _ _) _ _ _ _ h3 (hk'.next (by omega)) ?_ hw (by intro i v h;cases h) he1
     split
     ·exact hs.with (okR_result hs (right_regs (hR i hk'.1 hlt)))
     ·exact hs
   ·simp only [vrun] at h
    rw [if_neg hi] at h
    cases h
    exact he
  |f+1,.lop i v,s,w,t,w',h,hk,hs,hw,hv,he=>by
   obtain ⟨h0,h1,hc⟩:=hk
   have hin:=hN.inner h0 h1 (.inl hc)
   simp only [vrun] at h
   split at h
   ·rename_i t1 w1 hr
    have hp:HOk n {w with heads:=putH w.heads i s}:=by
      intro j l hj
      simp only [lookH_put] at hj
      split at hj
      ·cases hj;exact hs
      ·exact hw j l hj
    obtain ⟨q1,q2⟩:=vrun_ok hN hR f (.blk (i+1) (gt mt i)) _ _ _ _ hr hin (hs.with (hv i v rfl)) hp (by intro i v h;cases h)
    have q3:=vrun_ent hN hR f (.blk (i+1) (gt mt i)) _ _ _ _ hr hin (hs.with (hv i v rfl)) hp (by intro i v h;cases h) he
    split at h
    ·cases h;exact q3
    ·exact vrun_ent hN hR f (.lop i v) _ _ _ _ h ⟨h0,h1,hc⟩ (hs.grown q1) q2 hv q3
   ·cases h
end Go.Proofs.Ytnlimcijgpaegaa.Bm

namespace Go.Proofs.Ytnlimcijgpaegaa
open Go Go.Fw Bm
set_option maxRecDepth 20000
noncomputable def F0:Env:=envJ (P:=Try.prog) jkR zer (fun _=>false) (fun _=>false) [con83,con84,con60,con61,con85,con26] []
theorem F0_ok:EnvOk Try.prog F0:=envJOk zer_ok
structure FailOk (x:Ins) (s:List Rng) (a:Int):Prop where
  len:s.length≤1000000
  ok:OkS s.length s
  right:rightS x s.length=true
  ar:0≤a∧a≤1048576
set_option maxHeartbeats 8000000 in
theorem fails_pc {x:Ins} {s:List Rng} {ar:Int} (h:FailOk x s ar):PC Try.prog 43 [opV x,.sl false 2 (rgsV s),.lit (.int .i64 ar)] (.lit (.bool (failR x s ar))):=by
  obtain ⟨hl,hok,hr,ha1,ha2⟩:=h
  have hx:=right_regs hr
  have hrd:∀ n∈readsS x,0≤n∧n<s.length:=fun n hn=>reads_reg hr hn
  have hpl:=picked_len (x:=x) (s:=s)
  have hfi:=fits_is x.prim (pickedR x s)
  obtain ⟨k,p,a,b,c,d⟩:=x
  have gb:s.getD b.toNat nilR=gR s b:=rfl
  have ga:s.getD a.toNat nilR=gR s a:=rfl
  have xb:=hx.b
  have xc:=hx.c
  have xd:=hx.k2
  have xa:=hx.a
  simp only at xb xc xd xa hfi
  have ob:=hok.at b
  have oc:=hok.at c
  by_cases k2:k=2
  ·subst k2
   have hS:SumOk ⟨2,p,a,b,c,d⟩ s:=⟨hl,xb (by omega),xc (by omega),xd rfl,ob,oc⟩
   have e:failR ⟨2,p,a,b,c,d⟩ s ar= !decide ((sumR ⟨2,p,a,b,c,d⟩ s).within machR):=rfl
   rw [e]
   generalize hq:sumR ⟨2,p,a,b,c,d⟩ s=q
   obtain ⟨q,q'⟩:=q
   simp only [opV]
   refine pcR F0_ok (kp43) Try.func43 [.tmp 6] (h:=fun KF=>?_)
   unfold F0
   repeat' (first
    |(with_reducible first|refine nx ?_|refine t_seq fun K=>?_|refine t_br (fun hc=>?_) fun hc=>?_|refine t_bx ?_|apply And.intro|intro vr)
    |((with_reducible first|refine ny ?_|refine t_dwh (h:=fun K KL=>?_));intros;simp only [go_sem,kp43,geff,hq]))
   all_goals try exact nd
   all_goals (refine nl ?_;simp only [go_sem])
   exact LeA.refl _
  by_cases k5:k=5
  ·subst k5
   have e:failR ⟨5,p,a,b,c,d⟩ s ar= !fitsB p (pickedR ⟨5,p,a,b,c,d⟩ s):=by
     rw [hfi]
     show (fitsR p (pickedR ⟨5,p,a,b,c,d⟩ s)).isNone=_
     cases fitsR p (pickedR ⟨5,p,a,b,c,d⟩ s)<;>rfl
   rw [e]
   simp only [opV]
   refine pcR F0_ok (kp43) Try.func43 [.tmp 6] (h:=fun KF=>?_)
   unfold F0
   repeat' (first
    |(with_reducible first|refine nx ?_|refine t_seq fun K=>?_|refine t_br (fun hc=>?_) fun hc=>?_|refine t_bx ?_|apply And.intro|intro vr)
    |((with_reducible first|refine ny ?_|refine t_dwh (h:=fun K KL=>?_));intros;simp only [go_sem,kp43,geff]))
   all_goals try exact (hrd _ (by assumption)).1
   all_goals try exact (hrd _ (by assumption)).2
   all_goals try exact nd
   all_goals (refine nl ?_;simp only [go_sem])
   exact LeA.refl _
  by_cases k6:k=6
  ·subst k6
   have yb:=xb (by omega)
   have e:failR ⟨6,p,a,b,c,d⟩ s ar= !decide ((gR s b).within ⟨0,ar - 1⟩):=rfl
   rw [e]
   clear xb xc xd hx ob oc hrd hpl hr hok hfi
   generalize gR s b=q at gb
   obtain ⟨q,q'⟩:=q
   simp only [opV]
   refine pcR F0_ok (kp43) Try.func43 [.tmp 6] (h:=fun KF=>?_)
   unfold F0
   repeat' (first
    |(with_reducible first|refine nx ?_|refine t_seq fun K=>?_|refine t_br (fun hc=>?_) fun hc=>?_|refine t_bx ?_|apply And.intro|intro vr)
    |((with_reducible first|refine ny ?_|refine t_dwh (h:=fun K KL=>?_));intros;simp only [go_sem,kp43,geff,gb]))
   all_goals try exact nd
   all_goals (refine nl ?_;simp only [go_sem])
   exact LeA.refl _
  by_cases k7:k=7
  ·subst k7
   have yb:=xb (by omega)
   have ya:=xa (by omega)
   have e:failR ⟨7,p,a,b,c,d⟩ s ar=(!decide ((gR s a).within ⟨0,ar - 1⟩)|| !decide ((gR s b).within intsR)):=rfl
   rw [e]
   clear xb xc xd hx ob oc hrd hpl hr hok hfi
   generalize gR s b=q at gb
   generalize gR s a=r at ga
   obtain ⟨q,q'⟩:=q
   obtain ⟨r,r'⟩:=r
   simp only [opV]
   refine pcR F0_ok (kp43) Try.func43 [.tmp 6] (h:=fun KF=>?_)
   unfold F0
   repeat' (first
    |(with_reducible first|refine nx ?_|refine t_seq fun K=>?_|refine t_br (fun hc=>?_) fun hc=>?_|refine t_bx ?_|apply And.intro|intro vr)
    |((with_reducible first|refine ny ?_|refine t_dwh (h:=fun K KL=>?_));intros;simp only [go_sem,kp43,geff,ga,gb]))
   all_goals try exact nd
   all_goals (refine nl ?_;simp only [go_sem])
   exact LeA.refl _
  ·have e:failR ⟨k,p,a,b,c,d⟩ s ar=false:=by unfold failR;rw [if_neg k2,if_neg k5,if_neg k6,if_neg k7]
   have e2:(k==2)=false:=by simpa using k2
   have e5:(k==5)=false:=by simpa using k5
   have e6:(k==6)=false:=by simpa using k6
   have e7:(k==7)=false:=by simpa using k7
   rw [e]
   clear xb xc xd hx ob oc hrd hpl hr hok hfi
   simp only [opV]
   refine pcR F0_ok (kp43) Try.func43 [.tmp 6] (h:=fun KF=>?_)
   unfold F0
   repeat' (first
    |(with_reducible first|refine nx ?_|refine t_seq fun K=>?_|refine t_br (fun hc=>?_) fun hc=>?_|refine t_bx ?_|apply And.intro|intro vr)
    |((with_reducible first|refine ny ?_|refine t_dwh (h:=fun K KL=>?_));intros;simp only [go_sem,kp43,geff,e2,e5,e6,e7]))
   all_goals try exact nd
   all_goals (refine nl ?_;simp only [go_sem])
   exact LeA.refl _
noncomputable def con43:PCon Try.prog where
  f:=43
  c:=fun
   |[xx,xs,.lit (.int .i64 a)]=>match opOf xx,rngsOf xs with|some x,some s=>some (FailOk x s a,.lit (.bool (failR x s a)))|_,_=>none
   |_=>none
  ok:=by
   intro args p r hc hp
   split at hc
   ·split at hc
    ·rename_i hx hs
     cases hc
     exact PC.weak (fails_pc hp) ⟨opOf_le hx,rngsOf_le hs,LeA.refl _,trivial⟩
    ·cases hc
   ·cases hc
  fk:=fk43
theorem con43_f:con43.f=43:=rfl
theorem con43_c {xx:AV} {xs:AV} {a:Int}:con43.c [xx,xs,.lit (.int .i64 a)]=match opOf xx,rngsOf xs with|some x,some s=>some (FailOk x s a,.lit (.bool (failR x s a)))|_,_=>none:=rfl
attribute [go_sem] con43_f con43_c
def verG (B:Prg):List (List Rng)→Nat→Int×Int
  |[],_=>(B.ops.length,0)
  |s::l,i=>if s≠[]∧failR (B.ops.getD i nilI) s B.arena=true then (i,22) else verG B l (i+1)
noncomputable def verS (B:Prg):Int×Int:=if validS B=true then verG B (beforeL B) 0 else (0,1)
def erV (p:Int×Int):AV:= .tup [.lit (.int .i64 p.1),.lit (.int .i64 p.2)]
end Go.Proofs.Ytnlimcijgpaegaa

namespace Go.Proofs.Ytnlimcijgpaegaa
open Go Go.Fw Bm
set_option maxRecDepth 20000
theorem endV_inv {B:Prg} {mt:List Int} (hv:validS B=true) (hm:matchS B.ops=some mt) (hl:B.ops.length≤1000000):Ent B.regs.toNat (endV B mt).before∧((endV B mt).before=[]∨(endV B mt).before.length=B.ops.length):=by
  have hK:=wk_of hv hm hl
  have hcl:Cl B mt 0 B.ops.length:=⟨Int.le_refl _,Int.le_refl _,fun j j0 j1 j2=>(hK.nest.at j0 j1 j2).2.1⟩
  have hw0:PreW B B.regs.toNat (w0 B):=⟨by simp [w0],fun i l hl=>(by cases hl)⟩
  by_cases hE:EndV B mt
  ·obtain ⟨⟨t,w⟩,hr⟩:=hE
   rw [endV_eq hr]
   refine ⟨?_,.inr (vr_ok hK hr hcl (okS_beg B) hw0).2.len⟩
   obtain ⟨f,hf⟩:=hr
   refine vrun_ent hK.nest hK.rights f (.blk 0 B.ops.length) _ _ _ _ hf hcl (okS_beg B) hw0.hd (fun i v e=>by cases e) (fun j=>?_)
   left
   show (List.replicate B.ops.length ([]:List Rng)).getD j []=[]
   simp only [List.getD_eq_getElem?_getD,List.getElem?_replicate]
   split<;>rfl
  ·have:endV B mt=⟨[],[]⟩:=by unfold endV;rw [dif_neg hE]
   rw [this]
   exact ⟨fun j=> .inl (by simp),.inl rfl⟩
theorem wipeU_ent {n:Nat} {ops:List Ins} {l:List (List Rng)} {j:Nat} (h:Ent n l):Ent n (wipeU ops l j):=fun i=>by
  have e:(wipeU ops l j).getD i []=if i<j∧(cd ops i=12∨cd ops i=13) then [] else l.getD i []:=by
    simp only [wipeU,List.getD_eq_getElem?_getD,List.getElem?_mapIdx]
    cases l[i]? with
    |none=>simp
    |some a=>simp only [Option.map_some,Option.getD_some]
  rw [e]
  split
  ·exact .inl rfl
  ·exact h i
theorem before_inv {B:Prg} (hv:validS B=true) (hl:B.ops.length≤1000000):Ent B.regs.toNat (beforeL B)∧((beforeL B)=[]∨(beforeL B).length=B.ops.length):=by
  obtain ⟨_,_,⟨mt,hm⟩,_⟩:=valid_inv hv
  have e:beforeL B=wipeU B.ops (endV B mt).before B.ops.length:=by unfold beforeL;rw [hv,hm];rfl
  obtain ⟨h1,h2⟩:=endV_inv hv hm hl
  rw [e]
  refine ⟨wipeU_ent h1,?_⟩
  rcases h2 with h2|h2
  ·left;rw [h2];rfl
  ·right;rw [wipeU_len,h2]
theorem bfsV_at {l:List (List Rng)} {i:Nat} (h:i<l.length) (z:AV):(bfsV l).getD i z= .sl false 2 (rgsV (l.getD i [])):=by
  simp [bfsV,List.getD,h]
theorem drop_getL {l:List (List Rng)} {i:Nat} (h:i<l.length):l.drop i=l.getD i []::l.drop (i+1):=drop_getD _ h
noncomputable def F1:Env:=envJ (P:=Try.prog) jkR zer (fun _=>false) (fun _=>false) [con42,con19,con43] []
theorem F1_ok:EnvOk Try.prog F1:=envJOk zer_ok
set_option maxHeartbeats 8000000 in
theorem verify_pc {B:Prg} (h:OkB B∧B.ins.length≤100000∧B.outs.length≤100000):PC Try.prog 15 [bcV B] (erV (verS B)):=by
  obtain ⟨h,hi1,hi2⟩:=h
  have hO:=h.ops
  cases hv:validS B with
  |false=>
   have e:verS B=(0,1):=by unfold verS;rw [hv];rfl
   rw [e]
   simp only [bcV]
   refine pcR F1_ok (kp15) Try.func15 [.tmp 2,.tmp 3] (h:=fun KF=>?_)
   unfold F1
   repeat' (first
    |(with_reducible first|refine nx ?_|refine t_seq fun K=>?_|refine t_br (fun hc=>?_) fun hc=>?_|refine t_bx ?_|apply And.intro|intro vr)
    |((with_reducible first|refine ny ?_|refine t_dwh (h:=fun K KL=>?_));intros;simp only [go_sem,kp15,geff,bcOf_B,hv,Bool.not_false]))
   all_goals try exact nd
   all_goals (refine nl ?_;simp only [go_sem])
   exact LeA.refl _
  |true=>
   obtain ⟨v1,v2,_,hR,_,_⟩:=valid_inv hv
   obtain ⟨hE,hL⟩:=before_inv hv hO
   have e:verS B=verG B (beforeL B) 0:=by unfold verS;rw [hv];rfl
   rw [e]
   have hlen:(beforeL B).length≤B.ops.length:=by rcases hL with h|h<;>rw [h]<;>simp
   generalize hG:verG B (beforeL B) 0=G
   generalize hLe:beforeL B=L at hE hlen hG
   simp only [bcV]
   refine pcR F1_ok (kp15) Try.func15 [.tmp 2,.tmp 3] (h:=fun KF=>?_)
   unfold F1
   repeat' (first
    |(with_reducible first|refine nx ?_|refine t_seq fun K=>?_|refine t_br (fun hc=>?_) fun hc=>?_|refine t_bx ?_|apply And.intro|intro vr)
    |((with_reducible first|refine ny ?_|refine t_dwh (h:=fun K KL=>?_));intros;simp only [go_sem,kp15,geff,bcOf_B,hv,hLe,Bool.not_true]))
   all_goals try exact nd
   refine t_loopF (ι:={i:Nat // i≤L.length∧verG B (L.drop i) i=G}) (fun i=>[(12,.lit (.int .i64 i.1))]) (fun i=>[.box 45 [.lit (.int .i64 B.regs),.lit (.int .i64 B.arena),.sl false 6 (opsV B.ops),.sl false 2 (plsV B.ins),.sl false 2 (plsV B.outs),.sl false 3 (arrs B.types)]]) (fun i=>L.length - i.1) ⟨0,by omega,hG⟩ ?_ ?_
   ·exact lf
   rintro ⟨i,hi,hF⟩ K0
   rcases Nat.lt_or_ge i L.length with hc|hc
   ·have g3:decide ((i:Int)<(L.length:Int))=true:=decide_eq_true (by omega)
    have hat:=bfsV_at hc
    have hEi:=hE i
    rw [drop_getL hc,verG] at hF
    generalize hs:L.getD i []=s at hat hEi hF
    have hri:=hR i (by omega) (by omega)
    have hopi:B.ops.getD i nilI=B.op (i:Int):=rfl
    generalize hx:B.ops.getD i nilI=x at hF hopi
    rw [←hopi] at hri
    obtain ⟨q,p,a,b,c,d⟩:=x
    rcases hEi with rfl|hEi
    ·rw [if_neg (fun h=>h.1 rfl)] at hF
     have g0:decide ((((rgsV []).length:Nat):Int)>0)=false:=rfl
     have g0':decide ((0:Int)>0)=false:=rfl
     repeat' (first
      |(with_reducible first|refine nx ?_|refine t_seq fun K=>?_|refine t_br (fun hc=>?_) fun hc=>?_|refine t_bx ?_|apply And.intro|intro vr)
      |((with_reducible first|refine ny ?_|refine t_dwh (h:=fun K KL=>?_));intros;simp only [go_sem,kp15,geff,g3,hat,hx,g0,g0',rgsV_length,List.length_nil,Int.toNat_natCast,Int.natCast_zero,yes]))
     all_goals try exact nd
     exact ⟨⟨i+1,by omega,hF⟩,wf,lf⟩
    ·have hsl:=hEi.1
     by_cases hn:s=[]
     ·subst hn
      rw [if_neg (fun h=>h.1 rfl)] at hF
      have g0:decide ((((rgsV []).length:Nat):Int)>0)=false:=rfl
      have g0':decide ((0:Int)>0)=false:=rfl
      repeat' (first
       |(with_reducible first|refine nx ?_|refine t_seq fun K=>?_|refine t_br (fun hc=>?_) fun hc=>?_|refine t_bx ?_|apply And.intro|intro vr)
       |((with_reducible first|refine ny ?_|refine t_dwh (h:=fun K KL=>?_));intros;simp only [go_sem,kp15,geff,g3,hat,hx,g0,g0',rgsV_length,List.length_nil,Int.toNat_natCast,Int.natCast_zero,yes]))
      all_goals try exact nd
      exact ⟨⟨i+1,by omega,hF⟩,wf,lf⟩
     ·have hpos:0<s.length:=List.length_pos_iff.2 hn
      have g0:decide ((s.length:Int)>0)=true:=decide_eq_true (by omega)
      have hfo:FailOk ⟨q,p,a,b,c,d⟩ s B.arena:=⟨by omega,by rw [hsl];exact hEi,by rw [hsl];exact hri,v2⟩
      cases hf:failR ⟨q,p,a,b,c,d⟩ s B.arena with
      |true=>
       rw [if_pos ⟨hn,hf⟩] at hF
       subst hF
       repeat' (first
        |(with_reducible first|refine nx ?_|refine t_seq fun K=>?_|refine t_br (fun hc=>?_) fun hc=>?_|refine t_bx ?_|apply And.intro|intro vr)
        |((with_reducible first|refine ny ?_|refine t_dwh (h:=fun K KL=>?_));intros;simp only [go_sem,kp15,geff,g3,hat,hx,g0,hf,Int.toNat_natCast,yes]))
       all_goals try exact nd
       all_goals (refine nl ?_;simp only [go_sem])
       exact LeA.refl _
      |false=>
       rw [if_neg (fun h=>by rw [hf] at h;cases h.2)] at hF
       repeat' (first
        |(with_reducible first|refine nx ?_|refine t_seq fun K=>?_|refine t_br (fun hc=>?_) fun hc=>?_|refine t_bx ?_|apply And.intro|intro vr)
        |((with_reducible first|refine ny ?_|refine t_dwh (h:=fun K KL=>?_));intros;simp only [go_sem,kp15,geff,g3,hat,hx,g0,hf,Int.toNat_natCast,yes]))
       all_goals try exact nd
       exact ⟨⟨i+1,by omega,hF⟩,wf,lf⟩
   ·have g3:decide ((i:Int)<(L.length:Int))=false:=decide_eq_false (by omega)
    rw [List.drop_eq_nil_of_le hc,verG] at hF
    subst hF
    repeat' (first
     |(with_reducible first|refine nx ?_|refine t_seq fun K=>?_|refine t_br (fun hc=>?_) fun hc=>?_|refine t_bx ?_|apply And.intro|intro vr)
     |((with_reducible first|refine ny ?_|refine t_dwh (h:=fun K KL=>?_));intros;simp only [go_sem,kp15,geff,g3]))
    all_goals try exact nd
    all_goals (refine nl ?_;simp only [go_sem])
    exact LeA.refl _
noncomputable def con15:PCon Try.prog where
  f:=15
  c:=fun
   |[xB]=>match bcOf xB with|some B=>some ((OkB B∧B.ins.length≤100000∧B.outs.length≤100000),erV (verS B))|_=>none
   |_=>none
  ok:=by
   intro args p r hc hp
   split at hc
   ·split at hc
    ·rename_i hB
     cases hc
     exact PC.weak (verify_pc hp) ⟨bcOf_le hB,trivial⟩
    ·cases hc
   ·cases hc
  fk:=fk15
theorem con15_f:con15.f=15:=rfl
theorem con15_c {xB:AV}:con15.c [xB]=match bcOf xB with|some B=>some ((OkB B∧B.ins.length≤100000∧B.outs.length≤100000),erV (verS B))|_=>none:=rfl
theorem erV_def {p:Int×Int}:erV p= .tup [.lit (.int .i64 p.1),.lit (.int .i64 p.2)]:=rfl
attribute [go_sem] con15_f con15_c erV_def
end Go.Proofs.Ytnlimcijgpaegaa

namespace Go.Proofs.Ytnlimcijgpaegaa
open Go Go.Fw Bm
set_option maxRecDepth 20000
noncomputable def W0:Env:=envJ (P:=Try.prog) jkR zer (fun _=>false) (fun _=>false) [con122] []
theorem W0_ok:EnvOk Try.prog W0:=envJOk zer_ok
theorem stopped_pc {b1 b2 b3 b4:Bool} {R A V S:List AV} {c1 c2 c3 c4 l a:Int} {f o:Bool}:
    PC Try.prog 47 [.agg [.sl b1 1 R,.sl b2 1 A,.lit (.int .i64 c1),.lit (.int .i64 c2),.lit (.int .i64 c3),.lit (.int .i64 c4),.sl b3 1 V,.lit (.int .i64 l),.lit (.bool f),.sl b4 1 S,.lit (.bool o),.lit (.int .i64 a)]]
     (.lit (.bool (decide (l≤0)||f||o))):=by
  refine pcR W0_ok (kp47) Try.func47 [.tmp 2] (h:=fun KF=>?_)
  unfold W0
  repeat' (first
   |(with_reducible first|refine nx ?_|refine t_seq fun K=>?_|refine t_br (fun hc=>?_) fun hc=>?_|refine t_bx ?_|apply And.intro|intro vr)
   |((with_reducible first|refine ny ?_|refine t_dwh (h:=fun K KL=>?_));intros;simp only [go_sem,kp47,geff]))
  all_goals try exact nd
  all_goals (refine nl ?_;simp only [go_sem])
  exact LeA.of_eq (by simp_all)
theorem registers_pc {x:Ins}:PC Try.prog 92 [opV x] (.sl false 1 (ints .i64 (readsS x))):=by
  have e:opV x=opV ⟨x.code,x.prim,x.a,x.b,x.c,x.d⟩:=rfl
  generalize hR:readsS x=R
  obtain ⟨k,p,a,b,c,d⟩:=x
  simp only [opV_mk]
  refine pcR W0_ok (kp92) Try.func92 [.tmp 2] (h:=fun KF=>?_)
  unfold W0
  repeat' (first
   |(with_reducible first|refine nx ?_|refine t_seq fun K=>?_|refine t_br (fun hc=>?_) fun hc=>?_|refine t_bx ?_|apply And.intro|intro vr)
   |((with_reducible first|refine ny ?_|refine t_dwh (h:=fun K KL=>?_));intros;simp only [go_sem,kp92,geff,hR]))
  all_goals try exact nd
  all_goals (refine nl ?_;simp only [go_sem])
  exact LeA.refl _
noncomputable def con92:PCon Try.prog where
  f:=92
  c:=fun
   |[xx]=>match opOf xx with|some x=>some (True,.sl false 1 (ints .i64 (readsS x)))|_=>none
   |_=>none
  ok:=by
   intro args p r hc hp
   split at hc
   ·split at hc
    ·rename_i hx
     cases hc
     exact PC.weak registers_pc ⟨opOf_le hx,trivial⟩
    ·cases hc
   ·cases hc
  fk:=fk92
theorem con92_f:con92.f=92:=rfl
theorem con92_c {xx:AV}:con92.c [xx]=match opOf xx with|some x=>some (True,.sl false 1 (ints .i64 (readsS x)))|_=>none:=rfl
theorem inR_at {R:List Int} {r:List Rng} (hl:R.length=r.length):inR R r=true ↔ ∀ i,i<R.length→(r.getD i nilR).lo≤R.getD i 0∧R.getD i 0≤(r.getD i nilR).hi:=by
  unfold inR
  rw [Bool.and_eq_true,decide_eq_true_eq,List.all_eq_true]
  constructor
  ·rintro ⟨_,h⟩ i hi
   have hi':i<r.length:=by omega
   have:=h (R[i],r[i]) (by
     rw [List.mem_iff_getElem]
     exact ⟨i,by rw [List.length_zip];omega,by rw [List.getElem_zip]⟩)
   simp only [decide_eq_true_eq] at this
   rw [List.getD_eq_getElem?_getD,List.getD_eq_getElem?_getD,List.getElem?_eq_getElem hi,List.getElem?_eq_getElem hi']
   exact this
  ·intro h
   refine ⟨hl,fun p hp=>?_⟩
   rw [List.mem_iff_getElem] at hp
   obtain ⟨i,hi,rfl⟩:=hp
   rw [List.length_zip] at hi
   have h1:i<R.length:=by omega
   have h2:i<r.length:=by omega
   have:=h i h1
   rw [List.getD_eq_getElem?_getD,List.getD_eq_getElem?_getD,List.getElem?_eq_getElem h1,List.getElem?_eq_getElem h2] at this
   rw [List.getElem_zip]
   simpa using this
set_option maxHeartbeats 4000000 in
theorem inside_pc {b1 b2:Bool} {R:List Int} {r:List Rng} (h:R.length≤1000000∧r.length≤1000000):PC Try.prog 48 [.sl b1 1 (ints .i64 R),.sl b2 2 (rgsV r)] (.lit (.bool (inR R r))):=by
  obtain ⟨h1,h2⟩:=h
  by_cases hl:R.length=r.length
  ·have g1:((R.length:Int) !=r.length)=false:=by rw [bne_eq_false_iff_eq];omega
   generalize hw:inR R r=w
   have hat:=inR_at hl
   rw [hw] at hat
   refine pcR W0_ok (kp48) Try.func48 [.tmp 4] (h:=fun KF=>?_)
   unfold W0
   repeat' (first
    |(with_reducible first|refine nx ?_|refine t_seq fun K=>?_|refine t_br (fun hc=>?_) fun hc=>?_|refine t_bx ?_|apply And.intro|intro vr)
    |((with_reducible first|refine ny ?_|refine t_dwh (h:=fun K KL=>?_));intros;simp only [go_sem,kp48,geff,g1]))
   all_goals try exact nd
   refine t_loopF (ι:={i:Nat // i≤R.length∧∀ j,j<i→(r.getD j nilR).lo≤R.getD j 0∧R.getD j 0≤(r.getD j nilR).hi}) (fun i=>[(5,.lit (.int .i64 i.1))]) (fun i=>[]) (fun i=>R.length - i.1) ⟨0,by omega,fun j hj=>absurd hj (by omega)⟩ ?_ ?_
   ·exact lf
   rintro ⟨i,hi,hq⟩ K0
   rcases Nat.lt_or_ge i R.length with hc|hc
   ·have g3:decide ((i:Int)<R.length)=true:=decide_eq_true (by omega)
    generalize hx:r.getD i nilR=x
    obtain ⟨x,x'⟩:=x
    generalize hy:R.getD i 0=y
    by_cases g5:(decide (y<x)||decide (y>x'))=true
    ·skip
     repeat' (first
      |(with_reducible first|refine nx ?_|refine t_seq fun K=>?_|refine t_br (fun hc=>?_) fun hc=>?_|refine t_bx ?_|apply And.intro|intro vr)
      |((with_reducible first|refine ny ?_|refine t_dwh (h:=fun K KL=>?_));intros;simp only [go_sem,kp48,geff,g3,hx,hy,g5,Int.toNat_natCast]))
     all_goals try exact nd
     all_goals (refine nl ?_;simp only [go_sem])
     refine LeA.of_eq ?_
     cases w with
     |false=>rfl
     |true=>
      have:=(hat.1 rfl) i hc
      rw [hx,hy] at this
      simp only [Bool.or_eq_true,decide_eq_true_eq] at g5 this
      omega
    ·have g6:=Bool.eq_false_iff.2 g5
     repeat' (first
      |(with_reducible first|refine nx ?_|refine t_seq fun K=>?_|refine t_br (fun hc=>?_) fun hc=>?_|refine t_bx ?_|apply And.intro|intro vr)
      |((with_reducible first|refine ny ?_|refine t_dwh (h:=fun K KL=>?_));intros;simp only [go_sem,kp48,geff,g3,hx,hy,g6,Int.toNat_natCast]))
     all_goals try exact nd
     have hq':∀ j,j<i+1→(r.getD j nilR).lo≤R.getD j 0∧R.getD j 0≤(r.getD j nilR).hi:=by
       intro j hj
       rcases Nat.lt_or_ge j i with hji|hji
       ·exact hq j hji
       ·have:j=i:=by omega
        subst this
        rw [hx,hy]
        simp only [Bool.or_eq_true,decide_eq_true_eq,not_or] at g5
        exact ⟨by show x≤y;omega,by show y≤x';omega⟩
     exact ⟨⟨i+1,by omega,hq'⟩,wf,lf⟩
   ·have g3:decide ((i:Int)<R.length)=false:=decide_eq_false (by omega)
    repeat' (first
     |(with_reducible first|refine nx ?_|refine t_seq fun K=>?_|refine t_br (fun hc=>?_) fun hc=>?_|refine t_bx ?_|apply And.intro|intro vr)
     |((with_reducible first|refine ny ?_|refine t_dwh (h:=fun K KL=>?_));intros;simp only [go_sem,kp48,geff,g3]))
    all_goals try exact nd
    all_goals (refine nl ?_;simp only [go_sem])
    refine LeA.of_eq ?_
    rw [hat.2 fun j hj=>hq j (by omega)]
  ·have g1:((R.length:Int) !=r.length)=true:=by rw [bne_iff_ne];omega
   have e:inR R r=false:=by
     unfold inR
     rw [decide_eq_false hl];rfl
   rw [e]
   refine pcR W0_ok (kp48) Try.func48 [.tmp 4] (h:=fun KF=>?_)
   unfold W0
   repeat' (first
    |(with_reducible first|refine nx ?_|refine t_seq fun K=>?_|refine t_br (fun hc=>?_) fun hc=>?_|refine t_bx ?_|apply And.intro|intro vr)
    |((with_reducible first|refine ny ?_|refine t_dwh (h:=fun K KL=>?_));intros;simp only [go_sem,kp48,geff,g1]))
   all_goals try exact nd
   all_goals (refine nl ?_;simp only [go_sem])
   exact LeA.refl _
noncomputable def con48:PCon Try.prog where
  f:=48
  c:=fun
   |[xR,xr]=>match slK .i64 xR,rngsOf xr with|some R,some r=>some ((R.length≤1000000∧r.length≤1000000),.lit (.bool (inR R r)))|_,_=>none
   |_=>none
  ok:=by
   intro args p r hc hp
   split at hc
   ·split at hc
    ·rename_i hR hr
     cases hc
     exact PC.weak (inside_pc hp) ⟨slK_le hR,rngsOf_le hr,trivial⟩
    ·cases hc
   ·cases hc
  fk:=fk48
theorem con48_f:con48.f=48:=rfl
theorem con48_c {xR:AV} {xr:AV}:con48.c [xR,xr]=match slK .i64 xR,rngsOf xr with|some R,some r=>some ((R.length≤1000000∧r.length≤1000000),.lit (.bool (inR R r)))|_,_=>none:=rfl
set_option maxHeartbeats 4000000 in
theorem endS_pc {B:Prg} {mt:List Int} {i:Int} (h:0≤i∧i<mt.length∧mt.length≤1000000∧B.ops.length≤1000000∧0≤gt mt i∧gt mt i<mt.length∧gt mt i<B.ops.length):PC Try.prog 49 [bcV B,.sl false 1 (ints .i64 mt),.lit (.int .i64 i)] (.lit (.int .i64 (endS B mt i))):=by
  obtain ⟨h0,h1,h2,h3,h4,h5,h6⟩:=h
  have gm:mt.getD i.toNat 0=gt mt i:=rfl
  have gf:mt.getD (gt mt i).toNat 0=gt mt (gt mt i):=rfl
  have go:B.ops.getD (gt mt i).toNat nilI=B.op (gt mt i):=rfl
  unfold endS
  generalize gt mt (gt mt i)=f at*
  generalize gt mt i=m at*
  generalize B.op m=X at*
  obtain ⟨r,a,o,ii,u,t⟩:=B
  obtain ⟨k,p,a,b,c,d⟩:=X
  simp only [bcV_mk] at*
  cases hc:decide (k=12) with
  |true=>
   rw [if_pos (of_decide_eq_true hc)]
   refine pcR W0_ok (kp49) Try.func49 [.tmp 6] (h:=fun KF=>?_)
   unfold W0
   repeat' (first
    |(with_reducible first|refine nx ?_|refine t_seq fun K=>?_|refine t_br (fun hc=>?_) fun hc=>?_|refine t_bx ?_|apply And.intro|intro vr)
    |((with_reducible first|refine ny ?_|refine t_dwh (h:=fun K KL=>?_));intros;simp only [go_sem,kp49,geff,gm,gf,go,hc]))
   all_goals try exact nd
   all_goals (refine nl ?_;simp only [go_sem])
   exact LeA.refl _
  |false=>
   rw [if_neg (of_decide_eq_false hc)]
   refine pcR W0_ok (kp49) Try.func49 [.tmp 6] (h:=fun KF=>?_)
   unfold W0
   repeat' (first
    |(with_reducible first|refine nx ?_|refine t_seq fun K=>?_|refine t_br (fun hc=>?_) fun hc=>?_|refine t_bx ?_|apply And.intro|intro vr)
    |((with_reducible first|refine ny ?_|refine t_dwh (h:=fun K KL=>?_));intros;simp only [go_sem,kp49,geff,gm,gf,go,hc]))
   all_goals try exact nd
   all_goals (refine nl ?_;simp only [go_sem])
   exact LeA.refl _
end Go.Proofs.Ytnlimcijgpaegaa

namespace Go.Proofs.Ytnlimcijgpaegaa
open Go Go.Fw Bm
set_option maxRecDepth 20000
def noteK (l:List Int) (n:Int):Nat:=(l.takeWhile fun m=>decide (m<n)).length
theorem noteK_le (l:List Int) (n:Int):noteK l n≤l.length:=(List.takeWhile_prefix _).length_le
theorem noteK_at {n:Int}:∀ {l:List Int} {i:Nat},i≤noteK l n→((i<l.length∧l.getD i 0<n) ↔ i<noteK l n)
  |[],i,_=>by simp [noteK]
  |a::l,i,h=>by
   unfold noteK at h ⊢
   by_cases c:a<n
   ·rw [List.takeWhile_cons_of_pos (by simpa using c)] at h ⊢
    cases i with
    |zero=>simp [c]
    |succ i=>
     have:=noteK_at (n:=n) (l:=l) (i:=i) (by unfold noteK;simpa using h)
     unfold noteK at this
     simpa using this
   ·rw [List.takeWhile_cons_of_neg (by simpa using c)] at h ⊢
    have:i=0:=by simpa using h
    subst this
    simp [c]
set_option maxHeartbeats 4000000 in
theorem note_pc {l:List Int} {n:Int} (h:l.length≤1000000):PC Try.prog 93 [.sl false 1 (ints .i64 l),.lit (.int .i64 n)] (.sl false 1 (ints .i64 (noteS l n))):=by
  have hkl:=noteK_le l n
  have e:noteS l n=if noteK l n<l.length∧l.getD (noteK l n) 0=n then l else l.take (noteK l n)++[n]++l.drop (noteK l n):=rfl
  rw [e]
  have hat:=fun {i:Nat} (hi:i≤noteK l n)=>noteK_at hi
  generalize noteK l n=m at*
  generalize hE:(if m<l.length∧l.getD m 0=n then l else l.take m++[n]++l.drop m)=E
  refine pcR W0_ok (kp93) Try.func93 [.tmp 4] (h:=fun KF=>?_)
  unfold W0
  repeat' (first
   |(with_reducible first|refine nx ?_|refine t_seq fun K=>?_|refine t_br (fun hc=>?_) fun hc=>?_|refine t_bx ?_|apply And.intro|intro vr)|exact kpd
   |((with_reducible first|refine ny ?_|refine t_kLF ?_ ?_|refine t_drawE (id:=6) (fun _=>true) [(0,1),(1,1),(2,1),(3,1),(5,1),(6,1),(8,1),(9,1),(10,1),(4,0),(7,0),(11,0),(12,1)] (by kernel_rfl) fun K=>?_|refine t_dwh (h:=fun K KL=>?_));intros;simp only [go_sem,kp93,geff]))
  all_goals try exact nd
  refine t_loopF (ι:={i:Nat // i≤m}) (fun i=>[(5,.lit (.int .i64 i.1))]) (fun i=>[]) (fun i=>m - i.1) ⟨0,Nat.zero_le _⟩ ?_ ?_
  ·exact lf
  rintro ⟨i,hi⟩ K0
  have hati:=hat hi
  by_cases hc:i<m
  ·have g1:decide ((i:Int)<l.length)=true:=decide_eq_true (by omega)
   have g2:decide (l.getD i 0<n)=true:=decide_eq_true (hati.2 hc).2
   repeat' (first
    |(with_reducible first|refine nx ?_|refine t_seq fun K=>?_|refine t_br (fun hc=>?_) fun hc=>?_|refine t_bx ?_|apply And.intro|intro vr)|exact kpd
    |((with_reducible first|refine ny ?_|refine t_kLF ?_ ?_|refine t_drawE (id:=6) (fun _=>true) [(0,1),(1,1),(2,1),(3,1),(5,1),(6,1),(8,1),(9,1),(10,1),(4,0),(7,0),(11,0),(12,1)] (by kernel_rfl) fun K=>?_|refine t_dwh (h:=fun K KL=>?_));intros;simp only [go_sem,kp93,geff,g1,g2,Int.toNat_natCast]))
   all_goals try exact nd
   exact ⟨⟨i+1,by omega⟩,wf,lf⟩
  ·have hiK:i=m:=by omega
   subst hiK
   by_cases hc2:i<l.length
   ·have g1:decide ((i:Int)<l.length)=true:=decide_eq_true (by omega)
    have hge: ¬ l.getD i 0<n:=fun q=>hc (hati.1 ⟨hc2,q⟩)
    have g2:decide (l.getD i 0<n)=false:=decide_eq_false hge
    by_cases hc3:l.getD i 0=n
    ·have g4:decide (l.getD i 0=n)=true:=decide_eq_true hc3
     have hE':E=l:=by rw [←hE,if_pos ⟨hc2,hc3⟩]
     repeat' (first
      |(with_reducible first|refine nx ?_|refine t_seq fun K=>?_|refine t_br (fun hc=>?_) fun hc=>?_|refine t_bx ?_|apply And.intro|intro vr)|exact kpd
      |((with_reducible first|refine ny ?_|refine t_kLF ?_ ?_|refine t_drawE (id:=6) (fun _=>true) [(0,1),(1,1),(2,1),(3,1),(5,1),(6,1),(8,1),(9,1),(10,1),(4,0),(7,0),(11,0),(12,1)] (by kernel_rfl) fun K=>?_|refine t_dwh (h:=fun K KL=>?_));intros;simp only [go_sem,kp93,geff,g1,g2,g4,Int.toNat_natCast]))
     all_goals try exact nd
     all_goals (refine nl ?_;simp only [go_sem])
     exact LeA.of_eq (by rw [hE'])
    ·have g4:decide (l.getD i 0=n)=false:=decide_eq_false hc3
     have hE':E=l.take i++[n]++l.drop i:=by rw [←hE,if_neg (fun q=>hc3 q.2)]
     have ht:(l.take i).length=i:=by rw [List.length_take];omega
     have hd:(l.drop i).length=l.length - i:=List.length_drop
     repeat' (first
      |(with_reducible first|refine nx ?_|refine t_seq fun K=>?_|refine t_br (fun hc=>?_) fun hc=>?_|refine t_bx ?_|apply And.intro|intro vr)|exact kpd
      |((with_reducible first|refine ny ?_|refine t_kLF ?_ ?_|refine t_drawE (id:=6) (fun _=>true) [(0,1),(1,1),(2,1),(3,1),(5,1),(6,1),(8,1),(9,1),(10,1),(4,0),(7,0),(11,0),(12,1)] (by kernel_rfl) fun K=>?_|refine t_dwh (h:=fun K KL=>?_));intros;simp only [go_sem,kp93,geff,g1,g2,g4,ht,hd,List.take_length,Int.toNat_natCast]))
     all_goals try exact nd
     all_goals (refine nl ?_;simp only [go_sem])
     exact LeA.of_eq (by rw [hE'])
   ·have g1:decide ((i:Int)<l.length)=false:=decide_eq_false (by omega)
    have hE':E=l.take i++[n]++l.drop i:=by rw [←hE,if_neg (fun q=>hc2 q.1)]
    have ht:(l.take i).length=i:=by rw [List.length_take];omega
    have hd:(l.drop i).length=l.length - i:=List.length_drop
    repeat' (first
     |(with_reducible first|refine nx ?_|refine t_seq fun K=>?_|refine t_br (fun hc=>?_) fun hc=>?_|refine t_bx ?_|apply And.intro|intro vr)|exact kpd
     |((with_reducible first|refine ny ?_|refine t_kLF ?_ ?_|refine t_drawE (id:=6) (fun _=>true) [(0,1),(1,1),(2,1),(3,1),(5,1),(6,1),(8,1),(9,1),(10,1),(4,0),(7,0),(11,0),(12,1)] (by kernel_rfl) fun K=>?_|refine t_dwh (h:=fun K KL=>?_));intros;simp only [go_sem,kp93,geff,g1,ht,hd,List.take_length,Int.toNat_natCast]))
    all_goals try exact nd
    all_goals (refine nl ?_;simp only [go_sem])
    exact LeA.of_eq (by rw [hE'])
noncomputable def con93:PCon Try.prog where
  f:=93
  c:=fun
   |[xl,.lit (.int .i64 n)]=>match slK .i64 xl with|some l=>some (l.length≤1000000,.sl false 1 (ints .i64 (noteS l n)))|_=>none
   |_=>none
  ok:=by
   intro args p r hc hp
   split at hc
   ·split at hc
    ·rename_i hl
     cases hc
     exact PC.weak (note_pc hp) ⟨slK_le hl,LeA.refl _,trivial⟩
    ·cases hc
   ·cases hc
  fk:=fk93
theorem con93_f:con93.f=93:=rfl
theorem con93_c {xl:AV} {n:Int}:con93.c [xl,.lit (.int .i64 n)]=match slK .i64 xl with|some l=>some (l.length≤1000000,.sl false 1 (ints .i64 (noteS l n)))|_=>none:=rfl
end Go.Proofs.Ytnlimcijgpaegaa

namespace Go.Proofs.Ytnlimcijgpaegaa.Bm
open Go.Proofs.Ytnlimcijgpaegaa
open Go Go.Fw
structure Gd (n A:Nat) (c:Int) (s:St):Prop where
  regs:s.regs.length=n
  arena:s.arena.length=A
  rv:∀ r∈s.regs, -maxC≤r∧r≤maxC
  words:Words s
  pos:0≤s.reads∧0≤s.writes∧0≤s.ops∧0≤s.peak∧0≤s.left
  sum:s.reads+s.writes+s.ops+s.viol.length+s.left≤c
  peak:s.peak≤A
variable {n A:Nat} {c:Int} {s:St} {x:Ins} {B:Prg} {mt:List Int} {seen:List (List Rng)}
theorem Gd.gt (h:Gd n A c s) (i:Int): -maxC≤Bm.gt s.regs i∧Bm.gt s.regs i≤maxC:=by
  unfold Bm.gt
  rw [List.getD_eq_getElem?_getD]
  cases e:s.regs[i.toNat]? with
  |none=>exact ⟨by simp [maxC],by simp [maxC]⟩
  |some r=>exact h.rv r (List.mem_of_getElem? e)
theorem Gd.word (h:Gd n A c s) (i:Int): -2147483648≤Bm.gt s.arena i∧Bm.gt s.arena i≤2147483647:=by
  unfold Bm.gt
  rw [List.getD_eq_getElem?_getD]
  cases e:s.arena[i.toNat]? with
  |none=>exact ⟨by simp,by simp⟩
  |some r=>
   have:=h.words r (List.mem_of_getElem? e)
   have e2:vld sInt r=decide (-2147483648≤r∧r≤2147483647):=rfl
   rw [e2] at this
   exact of_decide_eq_true this
theorem Gd.put (h:Gd n A c s) {i v:Int} (hv: -maxC≤v∧v≤maxC):Gd n A c (s.put i v):=by
  obtain ⟨h1,h2,h3,h4,h5,h6,h7⟩:=h
  refine ⟨by simp only [St.put,List.length_set];exact h1,h2,fun r hr=>?_,h4,h5,h6,h7⟩
  rcases List.mem_or_eq_of_mem_set hr with hr|rfl
  ·exact h3 r hr
  ·exact hv
theorem Gd.le (h:Gd n A (c - 1) s):Gd n A c s:=⟨h.regs,h.arena,h.rv,h.words,h.pos,by have:=h.sum;omega,h.peak⟩
theorem noteS_length (l:List Int) (k:Int):(noteS l k).length≤l.length+1:=by
  unfold noteS
  simp only
  split
  ·omega
  ·simp only [List.length_append,List.length_take,List.length_drop,List.length_singleton];omega
theorem w32_in (k:Int): -2147483648≤El.w32 k∧El.w32 k≤2147483647:=by
  have:=El.w32_el k
  unfold El.el at this;omega
theorem Gd.fail (h:Gd n A (c - 1) s):Gd n A c {s with failed:=true}:=⟨h.regs,h.arena,h.rv,h.words,h.pos,h.le.sum,h.peak⟩
theorem wide_cases (op:ByteArray):wideR op=boolR∨wideR op=intsR:=by
  unfold wideR
  split
  ·split
   ·exact .inl rfl
   ·exact .inr rfl
  ·exact .inr rfl
theorem Gd.simple (h:Gd n A (c - 1) s) (hx:Regs x n):Gd n A c (simpleS x s):=by
  have hs:=h.sum
  have hp:=h.pos
  have hg:=h.gt
  have mc:maxC=1099511627776:=rfl
  unfold simpleS
  rcases hx.code with e|e|e|e|e|e|e|e|e|e|e|e|e|e|e
  ·rw [if_pos e]
   exact (h.le).put (hx.k1 e)
  ·rw [if_neg (by omega),if_pos e]
   split
   ·rename_i hm
    exact (h.le).put (by simpa [inMc] using hm)
   ·exact h.fail
  ·rw [if_neg (by omega),if_neg (by omega),if_pos e]
   refine (h.le).put ?_
   have h1:=hg x.b;have h2:=hg x.c
   unfold minI;split<;>assumption
  ·rw [if_neg (by omega),if_neg (by omega),if_neg (by omega),if_pos e]
   refine (h.le).put ?_
   have h1:=hg x.b;have h2:=hg x.c
   unfold maxI;split<;>assumption
  ·rw [if_neg (by omega),if_neg (by omega),if_neg (by omega),if_neg (by omega),if_pos e]
   split
   ·exact h.fail
   ·rename_i k hk
    have hw:=apply_wide hk
    have hb: -maxC≤k∧k≤maxC:=by
      rcases wide_cases x.prim with q|q<;>(rw [q] at hw;simp only [Rng.has,intsR,boolR] at hw;omega)
    have:=(h.put (i:=x.a) hb)
    exact ⟨this.regs,this.arena,this.rv,this.words,⟨hp.1,hp.2.1,by simp only [St.put];omega,hp.2.2.2⟩,by simp only [St.put];omega,this.peak⟩
  ·rw [if_neg (by omega),if_neg (by omega),if_neg (by omega),if_neg (by omega),if_neg (by omega),if_pos e]
   split
   ·have hw:=h.word (Bm.gt s.regs x.b)
    have:=h.put (i:=x.a) (v:=Bm.gt s.arena (Bm.gt s.regs x.b)) (by omega)
    exact ⟨this.regs,this.arena,this.rv,this.words,⟨by simp only [St.put];omega,hp.2⟩,by simp only [St.put];omega,this.peak⟩
   ·exact h.fail
  ·rw [if_neg (by omega),if_neg (by omega),if_neg (by omega),if_neg (by omega),if_neg (by omega),if_neg (by omega),if_pos e]
   split
   ·rename_i hc
    have hA:=h.arena
    have hpk:=h.peak
    refine ⟨h.regs,by simp only [List.length_set];exact hA,h.rv,fun k hk=>?_,⟨hp.1,by simp only;omega,hp.2.2.1,?_,hp.2.2.2.2⟩,by simp only;omega,?_⟩
    ·rcases List.mem_or_eq_of_mem_set hk with hk|rfl
     ·exact h.words k hk
     ·exact hc.2
    ·simp only [maxI];split<;>omega
    ·simp only [maxI];split<;>omega
   ·exact h.fail
  ·rw [if_neg (by omega),if_neg (by omega),if_neg (by omega),if_neg (by omega),if_neg (by omega),if_neg (by omega),if_neg (by omega),if_neg (by omega),if_neg (by omega),if_pos e]
   have:=h.put (i:=x.a) (v:=0) (by omega)
   exact ⟨this.regs,this.arena,this.rv,this.words,⟨by simp only [St.put];omega,hp.2⟩,by simp only [St.put];omega,this.peak⟩
  ·rw [if_neg (by omega),if_neg (by omega),if_neg (by omega),if_neg (by omega),if_neg (by omega),if_neg (by omega),if_neg (by omega),if_neg (by omega),if_neg (by omega),if_neg (by omega),if_pos e]
   split
   ·have:=noteS_length s.viol x.a
    exact ⟨h.regs,h.arena,h.rv,h.words,h.pos,by simp only;omega,h.peak⟩
   ·exact h.le
  all_goals try (rw [if_neg (by omega),if_neg (by omega),if_neg (by omega),if_neg (by omega),if_neg (by omega),if_neg (by omega),if_neg (by omega),if_neg (by omega),if_neg (by omega),if_neg (by omega),if_neg (by omega)];exact h.le)
  ·rw [if_neg (by omega),if_neg (by omega),if_neg (by omega),if_neg (by omega),if_neg (by omega),if_neg (by omega),if_neg (by omega),if_pos e]
   have:=w32_in (Bm.gt s.regs x.b)
   exact (h.le).put (by omega)
  ·rw [if_neg (by omega),if_neg (by omega),if_neg (by omega),if_neg (by omega),if_neg (by omega),if_neg (by omega),if_neg (by omega),if_neg (by omega),if_pos e]
   exact ⟨h.regs,h.arena,h.rv,h.words,⟨hp.1,by simp only;omega,hp.2.2⟩,by simp only;omega,h.peak⟩
theorem Gd.tick (h:Gd n A c s) (hs:stpS s=false) (i:Int):Gd n A (c - 1) (Bm.tick (look seen i s)):=by
  obtain ⟨o,ho⟩:=look_eq (seen:=seen) i s
  rw [ho]
  obtain ⟨h1,h2,h3,h4,h5,h6,h7⟩:=h
  have hl: ¬ s.left≤0:=by
    simp only [stpS,Bool.or_eq_false_iff,decide_eq_false_iff_not] at hs
    exact hs.1.1
  exact ⟨h1,h2,h3,h4,⟨h5.1,h5.2.1,h5.2.2.1,h5.2.2.2.1,by simp only [Bm.tick];omega⟩,by simp only [Bm.tick];omega,h7⟩
theorem Gd.turn (h:Gd n A c s) (hs:stpS s=false) {i v:Int} (hv: -maxC≤v∧v≤maxC):Gd n A c ((Bm.tick s).put i v):=by
  have hl: ¬ s.left≤0:=by
    simp only [stpS,Bool.or_eq_false_iff,decide_eq_false_iff_not] at hs
    exact hs.1.1
  obtain ⟨h1,h2,h3,h4,h5,h6,h7⟩:=h
  have:Gd n A c (Bm.tick s):=⟨h1,h2,h3,h4,⟨h5.1,h5.2.1,h5.2.2.1,h5.2.2.2.1,by simp only [Bm.tick];omega⟩,by simp only [Bm.tick];omega,h7⟩
  exact this.put hv
end Go.Proofs.Ytnlimcijgpaegaa.Bm

namespace Go.Fw
open Go
variable {P:Program} {σ:List AObj}
def finK (n:Nat) (x:AV) (σ:List AObj) (k:AV→List AObj→Prop):Prop:=
  ∃ r,LeR x r∧Bd n r∧BdS n (σ.take n)∧k r (σ.take n)
theorem ec_finK {f:FuncId} {args:List AV} {k:AV→List AObj→Prop} (h:BdS σ.length σ→EC P f args σ fun x σ'=>finK σ.length x σ' k):EC P f args σ k:=by
  intro cx G w vs hr hl
  refine (h hr.bds cx G w vs hr hl).mono ?_
  rintro e w' ⟨v,G',σ',x,rfl,hle,hr',hx,r,hLe,hbx,hbd,hk⟩
  have hlen:σ.length≤σ'.length:=by rw [←hr.n,←hr'.n];exact hle.n
  have h0:cx.G0.n≤σ.length:=by rw [←hr.n];exact hr.le0.n
  have hn:σ.length≤G'.n:=by rw [hr'.n];exact hlen
  exact ⟨v,{G' with n:=σ.length},_,r,rfl,⟨hle.C,by rw [hr.n];exact Nat.le_refl _,hle.ver,hle.b,hle.p⟩,hr'.trunc hlen h0 hbd,hbx G' v hn (hLe _ _ hx),hk⟩
end Go.Fw

namespace Go.Proofs.Ytnlimcijgpaegaa
open Go Go.Fw Bm
set_option maxRecDepth 20000
def stV (p:Nat) (s:St) (S:List (List Rng)):AV:= .agg [.arr p 0,.arr (p+1) 0,.lit (.int .i64 s.reads),.lit (.int .i64 s.writes),.lit (.int .i64 s.ops),.lit (.int .i64 s.peak),.sl false 1 (ints .i64 s.viol),.lit (.int .i64 s.left),.lit (.bool s.failed),.sl false 1 (bfsV S),.lit (.bool s.out),.lit (.int .i64 s.at_)]
theorem stV_mk {p:Nat} {R A V:List Int} {rd wr op pk l a:Int} {f o:Bool} {S:List (List Rng)}:stV p ⟨R,A,rd,wr,op,pk,V,l,f,a,o⟩ S=
    .agg [.arr p 0,.arr (p+1) 0,.lit (.int .i64 rd),.lit (.int .i64 wr),.lit (.int .i64 op),.lit (.int .i64 pk),.sl false 1 (ints .i64 V),.lit (.int .i64 l),.lit (.bool f),.sl false 1 (bfsV S),.lit (.bool o),.lit (.int .i64 a)]:=rfl
def mob (pre:List AObj) (R A:List Int) (ex:List AObj):List AObj:=pre++(.arr 3 1 (ints .i64 R) 0 false:: .arr 3 1 (ints .i64 A) 0 false::ex)
section
variable {pre ex:List AObj} {R A R' A':List Int} {x y z u:AObj}
theorem mob_len:(mob pre R A ex).length=pre.length+(ex.length+2):=by simp [mob]
theorem mob_0:(mob pre R A ex)[pre.length]? =some (.arr 3 1 (ints .i64 R) 0 false):=by simp [mob]
theorem mob_1:(mob pre R A ex)[pre.length+1]? =some (.arr 3 1 (ints .i64 A) 0 false):=by simp [mob]
theorem mob_x {n:Nat}:(mob pre R A ex)[pre.length+(n+2)]? =ex[n]? :=by
  unfold mob
  rw [List.getElem?_append_right (by omega),show pre.length+(n+2) - pre.length=n+2 by omega];rfl
theorem mob_app {l:List AObj}:mob pre R A ex++l=mob pre R A (ex++l):=by simp [mob]
theorem mob_s0:(mob pre R A ex).set pre.length (.arr 3 1 (ints .i64 R') 0 false)=mob pre R' A ex:=by simp [mob]
theorem mob_s1:(mob pre R A ex).set (pre.length+1) (.arr 3 1 (ints .i64 A') 0 false)=mob pre R A' ex:=by simp [mob]
theorem mob_sx {n:Nat}:(mob pre R A ex).set (pre.length+(n+2)) y=mob pre R A (ex.set n y):=by
  unfold mob
  rw [List.set_append_right _ _ (by omega),show pre.length+(n+2) - pre.length=n+2 by omega];rfl
theorem mob_take {l:List AObj}:(mob pre R A (ex++l)).take (pre.length+(ex.length+2))=mob pre R A ex:=by
  rw [←mob_app,←mob_len (R:=R) (A:=A),List.take_left'];rfl
theorem mob_bds {n:Nat} (h:BdS n (mob pre R A ex)):BdS n (mob pre R' A' ex):=h.same fun o t cs ho=>by
  rcases Nat.lt_or_ge o pre.length with c|c
  ·simp only [mob,List.getElem?_append_left c] at ho ⊢;exact ho
  ·simp only [mob,List.getElem?_append_right c] at ho ⊢
   rcases hq:o - pre.length with _|_|q
   ·rw [hq] at ho;cases ho
   ·rw [hq] at ho;cases ho
   ·rw [hq] at ho;exact ho
theorem kp_mob {D:Nat→Bool} {l m:List AObj} (h:∀ (o:Nat) (t:TypeId) (cs:List AV),l[o]? =some (AObj.box t cs)→m[o]? =some (AObj.box t cs)):Kp D (mob pre R A l) (mob pre R' A' m):=fun o t cs _ ho=>by
  rcases Nat.lt_or_ge o pre.length with c|c
  ·simp only [mob,List.getElem?_append_left c] at ho ⊢;exact ho
  ·simp only [mob,List.getElem?_append_right c] at ho ⊢
   rcases hq:o - pre.length with _|_|q
   ·rw [hq] at ho;cases ho
   ·rw [hq] at ho;cases ho
   ·rw [hq] at ho;exact h q t cs ho
end
attribute [go_sem] mob_len mob_0 mob_1 mob_x mob_app mob_s0 mob_s1 mob_sx mob_take
theorem stV_bd {n p:Nat} {s:St} {S:List (List Rng)} (h:p+1<n):Bd n (stV p s S):=by
  refine Bd.agg fun i hi=>?_
  simp only [List.length_cons,List.length_nil] at hi
  have:i=0∨i=1∨i=2∨i=3∨i=4∨i=5∨i=6∨i=7∨i=8∨i=9∨i=10∨i=11:=by omega
  rcases this with rfl|rfl|rfl|rfl|rfl|rfl|rfl|rfl|rfl|rfl|rfl|rfl
  ·exact Bd.arr (by omega)
  ·exact Bd.arr h
  ·exact Bd.lit _ _
  ·exact Bd.lit _ _
  ·exact Bd.lit _ _
  ·exact Bd.lit _ _
  ·exact Bd.sl _ _ _ _
  ·exact Bd.lit _ _
  ·exact Bd.lit _ _
  ·exact Bd.sl _ _ _ _
  ·exact Bd.lit _ _
  ·exact Bd.lit _ _
end Go.Proofs.Ytnlimcijgpaegaa

namespace Go.Proofs.Ytnlimcijgpaegaa
open Go Go.Fw Bm
set_option maxRecDepth 20000
theorem kp_mobs {pre ex:List AObj} {R A R' A':List Int} {D:Nat→Bool}:Kp D (mob pre R A ex) (mob pre R' A' ex):=kp_mob fun _ _ _ h=>h
theorem kp_mob4 {pre ex:List AObj} {R A R' A':List Int} {D:Nat→Bool} {x y z:AObj} {e1 e2 s1 s2 v1 v2:Nat} {l1 l2:List AV} {b1 b2:Bool}:Kp D (mob pre R A (ex++[x,y,z,.arr e1 s1 l1 v1 b1])) (mob pre R' A' (ex++[x,y,z,.arr e2 s2 l2 v2 b2])):=kp_mob fun o t cs h=>by
  rcases Nat.lt_or_ge o ex.length with c|c
  ·rw [List.getElem?_append_left c] at h ⊢;exact h
  ·rw [List.getElem?_append_right c] at h ⊢
   rcases hq:o - ex.length with _|_|_|_|q
   ·rw [hq] at h;exact h
   ·rw [hq] at h;exact h
   ·rw [hq] at h;exact h
   ·rw [hq] at h;cases h
   ·rw [hq] at h;cases h
noncomputable def W3:Env:=envJ (P:=Try.prog) jkR zer (fun _=>false) (fun _=>false) [con92,con93,El.con12,con35,El.con44] []
theorem W3_ok:EnvOk Try.prog W3:=envJOk zer_ok
attribute [go_sem] con92_f con92_c con93_f con93_c El.con12_f El.con12_c con35_f con35_c El.con44_f El.con44_c
theorem take_mapI {M:List Int} {f:Int→Int} {i:Nat} (h:i<M.length):(M.take i).map f++[f (M.getD i 0)]=(M.take (i+1)).map f:=by
  have e:M.take (i+1)=M.take i++[M.getD i 0]:=by
    rw [List.take_add_one,List.getElem?_eq_getElem h,List.getD_eq_getElem?_getD,List.getElem?_eq_getElem h];rfl
  rw [e,List.map_append];rfl
theorem mul_in {d v:Int} (hd: -1048576≤d∧d≤1048576) (hv: -1099511627776≤v∧v≤1099511627776): -1152921504606846976≤d*v∧d*v≤1152921504606846976:=by
  have h1:=Int.natAbs_mul d v
  have h2:d.natAbs*v.natAbs≤1048576*1099511627776:=Nat.mul_le_mul (by omega) (by omega)
  omega
set_option maxHeartbeats 8000000 in
theorem simple_ec {n m:Nat} {c:Int} {x:Ins} {s:St} {S:List (List Rng)} {pre ex:List AObj} {k:AV→List AObj→Prop} (hx:Regs x n) (h:Gd n m c s) (hc:c≤1000000) (hn:n≤1000000) (hm:m≤1048576)
    (hrd:∀ r∈readsS x,0≤r∧r<n)
    (hk:k (stV pre.length (simpleS x s) S) (mob pre (simpleS x s).regs (simpleS x s).arena ex)):EC Try.prog 50 [opV x,stV pre.length s S] (mob pre s.regs s.arena ex) k:=by
  refine ec_finK fun hbd=>?_
  rw [mob_len] at hbd
  obtain ⟨q,p,a,b,cc,d⟩:=x
  obtain ⟨R,A,rd,wr,op,pk,V,l,f,at_,o⟩:=s
  have hw:=hx.w
  have xb:=hx.b
  have xc:=hx.c
  have xa:=hx.a
  have x2:=hx.k2
  have hl:=h.regs
  have hA:=h.arena
  have hp:=h.pos
  have hs:=h.sum
  have hpk:=h.peak
  have vb:=h.gt b
  have vc:=h.gt cc
  have va:=h.gt a
  have gb:R.getD b.toNat 0=gt R b:=rfl
  have gc:R.getD cc.toNat 0=gt R cc:=rfl
  have ga:R.getD a.toNat 0=gt R a:=rfl
  have mc:maxC=1099511627776:=rfl
  have ma:maxA=1048576:=rfl
  simp only at hw xb xc xa hl hA hp hs hpk vb vc va x2
  simp only [opV_mk,stV_mk]
  rcases hx.code with e|e|e|e|e|e|e|e|e|e|e|e|e|e|e<;>simp only at e<;>subst e
  ·have g:=hw rfl
   refine ecR W3_ok (kp50) Try.func50 [.cell 4 56] (h:=fun KF=>?_)
   unfold W3
   repeat' (first
    |(with_reducible first|refine nx ?_|refine t_seq fun K=>?_|refine t_br (fun hc=>?_) fun hc=>?_|refine t_bx ?_|apply And.intro|intro vr)|exact kp_mobs|exact kp_mob4|exact kpd
    |((with_reducible first|refine ny ?_|refine t_kLF ?_ ?_|refine t_drawE (id:=11) (fun _=>true) [(0,1),(1,1),(2,1),(3,1),(4,1),(5,1),(6,1),(7,1),(8,2),(9,2),(10,1),(11,1),(12,1),(13,1),(14,2),(15,2),(16,1),(17,2),(18,0)] (by kernel_rfl) fun K=>?_|refine t_drawE (id:=13) (fun _=>true) [(0,1),(1,1),(2,1),(3,1),(4,1),(5,1),(6,1),(7,1),(8,2),(9,2),(10,1),(11,1),(12,1),(13,1),(14,2),(15,2),(16,1),(17,2),(18,0)] (by kernel_rfl) fun K=>?_|refine t_drawE (id:=20) (fun _=>true) [(0,1),(1,1),(2,1),(3,1),(4,1),(5,1),(6,1),(7,2),(8,2),(9,1),(10,0),(11,1)] (by kernel_rfl) fun K=>?_|refine t_drawE (id:=32) (fun _=>true) [(0,1),(1,1),(2,1),(3,1),(4,1),(5,1),(6,1),(7,2),(8,2),(9,2),(10,0)] (by kernel_rfl) fun K=>?_|refine t_drawE (id:=43) (fun _=>true) [(0,1),(1,1),(2,1),(3,1),(4,1),(5,1),(6,1),(7,1),(8,2),(9,2),(10,1),(11,2),(12,0)] (by kernel_rfl) fun K=>?_|refine t_dwh (h:=fun K KL=>?_));intros;simp only [go_sem,kp50,geff,yes]))
   all_goals try exact nd
   all_goals (refine nl ?_;simp only [go_sem,finK])
   refine ⟨_,?_,?_,mob_bds hbd,hk⟩
   ·exact LeR.refl _
   ·exact stV_bd (by omega)
  ·have g:=hw rfl
   have hb:=xb (by omega)
   have hcc:=xc (by omega)
   have hd:=x2 rfl
   have e:simpleS ⟨2,p,a,b,cc,d⟩ ⟨R,A,rd,wr,op,pk,V,l,f,at_,o⟩=if inMc (gt R b+d*gt R cc)=true then ⟨R.set a.toNat (gt R b+d*gt R cc),A,rd,wr,op,pk,V,l,f,at_,o⟩ else ⟨R,A,rd,wr,op,pk,V,l,true,at_,o⟩:=rfl
   rw [e] at hk
   generalize gt R b=u at*
   generalize gt R cc=v at*
   have hdv: -1152921504606846976≤d*v∧d*v≤1152921504606846976:=mul_in (by omega) (by omega)
   generalize hdw:d*v=w at*
   cases hq:inMc (u+w) with
   |true=>
    rw [if_pos hq] at hk
    have hq2: -maxC≤u+w∧u+w≤maxC:=by simpa [inMc] using hq
    have g1:decide (u+w< -1099511627776)=false:=decide_eq_false (by omega)
    have g2:decide (u+w>1099511627776)=false:=decide_eq_false (by omega)
    refine ecR W3_ok (kp50) Try.func50 [.cell 4 56] (h:=fun KF=>?_)
    unfold W3
    repeat' (first
     |(with_reducible first|refine nx ?_|refine t_seq fun K=>?_|refine t_br (fun hc=>?_) fun hc=>?_|refine t_bx ?_|apply And.intro|intro vr)|exact kp_mobs|exact kp_mob4|exact kpd
     |((with_reducible first|refine ny ?_|refine t_kLF ?_ ?_|refine t_drawE (id:=11) (fun _=>true) [(0,1),(1,1),(2,1),(3,1),(4,1),(5,1),(6,1),(7,1),(8,2),(9,2),(10,1),(11,1),(12,1),(13,1),(14,2),(15,2),(16,1),(17,2),(18,0)] (by kernel_rfl) fun K=>?_|refine t_drawE (id:=13) (fun _=>true) [(0,1),(1,1),(2,1),(3,1),(4,1),(5,1),(6,1),(7,1),(8,2),(9,2),(10,1),(11,1),(12,1),(13,1),(14,2),(15,2),(16,1),(17,2),(18,0)] (by kernel_rfl) fun K=>?_|refine t_drawE (id:=20) (fun _=>true) [(0,1),(1,1),(2,1),(3,1),(4,1),(5,1),(6,1),(7,2),(8,2),(9,1),(10,0),(11,1)] (by kernel_rfl) fun K=>?_|refine t_drawE (id:=32) (fun _=>true) [(0,1),(1,1),(2,1),(3,1),(4,1),(5,1),(6,1),(7,2),(8,2),(9,2),(10,0)] (by kernel_rfl) fun K=>?_|refine t_drawE (id:=43) (fun _=>true) [(0,1),(1,1),(2,1),(3,1),(4,1),(5,1),(6,1),(7,1),(8,2),(9,2),(10,1),(11,2),(12,0)] (by kernel_rfl) fun K=>?_|refine t_dwh (h:=fun K KL=>?_));intros;simp only [go_sem,kp50,geff,yes,gb,gc,hdw,g1,g2]))
    all_goals try exact nd
    all_goals (refine nl ?_;simp only [go_sem,finK])
    refine ⟨_,?_,?_,mob_bds hbd,hk⟩
    ·exact LeR.refl _
    ·exact stV_bd (by omega)
   |false=>
    rw [if_neg (by rw [hq];decide)] at hk
    have hq2: ¬ (-maxC≤u+w∧u+w≤maxC):=by simpa [inMc] using hq
    cases g1:decide (u+w< -1099511627776) with
    |true=>
     refine ecR W3_ok (kp50) Try.func50 [.cell 4 56] (h:=fun KF=>?_)
     unfold W3
     repeat' (first
      |(with_reducible first|refine nx ?_|refine t_seq fun K=>?_|refine t_br (fun hc=>?_) fun hc=>?_|refine t_bx ?_|apply And.intro|intro vr)|exact kp_mobs|exact kp_mob4|exact kpd
      |((with_reducible first|refine ny ?_|refine t_kLF ?_ ?_|refine t_drawE (id:=11) (fun _=>true) [(0,1),(1,1),(2,1),(3,1),(4,1),(5,1),(6,1),(7,1),(8,2),(9,2),(10,1),(11,1),(12,1),(13,1),(14,2),(15,2),(16,1),(17,2),(18,0)] (by kernel_rfl) fun K=>?_|refine t_drawE (id:=13) (fun _=>true) [(0,1),(1,1),(2,1),(3,1),(4,1),(5,1),(6,1),(7,1),(8,2),(9,2),(10,1),(11,1),(12,1),(13,1),(14,2),(15,2),(16,1),(17,2),(18,0)] (by kernel_rfl) fun K=>?_|refine t_drawE (id:=20) (fun _=>true) [(0,1),(1,1),(2,1),(3,1),(4,1),(5,1),(6,1),(7,2),(8,2),(9,1),(10,0),(11,1)] (by kernel_rfl) fun K=>?_|refine t_drawE (id:=32) (fun _=>true) [(0,1),(1,1),(2,1),(3,1),(4,1),(5,1),(6,1),(7,2),(8,2),(9,2),(10,0)] (by kernel_rfl) fun K=>?_|refine t_drawE (id:=43) (fun _=>true) [(0,1),(1,1),(2,1),(3,1),(4,1),(5,1),(6,1),(7,1),(8,2),(9,2),(10,1),(11,2),(12,0)] (by kernel_rfl) fun K=>?_|refine t_dwh (h:=fun K KL=>?_));intros;simp only [go_sem,kp50,geff,yes,gb,gc,hdw,g1]))
     all_goals try exact nd
     all_goals (refine nl ?_;simp only [go_sem,finK])
     refine ⟨_,?_,?_,mob_bds hbd,hk⟩
     ·exact LeR.refl _
     ·exact stV_bd (by omega)
    |false=>
     have g1':=of_decide_eq_false g1
     have g2:decide (u+w>1099511627776)=true:=decide_eq_true (by omega)
     refine ecR W3_ok (kp50) Try.func50 [.cell 4 56] (h:=fun KF=>?_)
     unfold W3
     repeat' (first
      |(with_reducible first|refine nx ?_|refine t_seq fun K=>?_|refine t_br (fun hc=>?_) fun hc=>?_|refine t_bx ?_|apply And.intro|intro vr)|exact kp_mobs|exact kp_mob4|exact kpd
      |((with_reducible first|refine ny ?_|refine t_kLF ?_ ?_|refine t_drawE (id:=11) (fun _=>true) [(0,1),(1,1),(2,1),(3,1),(4,1),(5,1),(6,1),(7,1),(8,2),(9,2),(10,1),(11,1),(12,1),(13,1),(14,2),(15,2),(16,1),(17,2),(18,0)] (by kernel_rfl) fun K=>?_|refine t_drawE (id:=13) (fun _=>true) [(0,1),(1,1),(2,1),(3,1),(4,1),(5,1),(6,1),(7,1),(8,2),(9,2),(10,1),(11,1),(12,1),(13,1),(14,2),(15,2),(16,1),(17,2),(18,0)] (by kernel_rfl) fun K=>?_|refine t_drawE (id:=20) (fun _=>true) [(0,1),(1,1),(2,1),(3,1),(4,1),(5,1),(6,1),(7,2),(8,2),(9,1),(10,0),(11,1)] (by kernel_rfl) fun K=>?_|refine t_drawE (id:=32) (fun _=>true) [(0,1),(1,1),(2,1),(3,1),(4,1),(5,1),(6,1),(7,2),(8,2),(9,2),(10,0)] (by kernel_rfl) fun K=>?_|refine t_drawE (id:=43) (fun _=>true) [(0,1),(1,1),(2,1),(3,1),(4,1),(5,1),(6,1),(7,1),(8,2),(9,2),(10,1),(11,2),(12,0)] (by kernel_rfl) fun K=>?_|refine t_dwh (h:=fun K KL=>?_));intros;simp only [go_sem,kp50,geff,yes,gb,gc,hdw,g1,g2]))
     all_goals try exact nd
     all_goals (refine nl ?_;simp only [go_sem,finK])
     refine ⟨_,?_,?_,mob_bds hbd,hk⟩
     ·exact LeR.refl _
     ·exact stV_bd (by omega)
  ·have g:=hw rfl
   have hb:=xb (by omega)
   have hcc:=xc (by omega)
   refine ecR W3_ok (kp50) Try.func50 [.cell 4 56] (h:=fun KF=>?_)
   unfold W3
   repeat' (first
    |(with_reducible first|refine nx ?_|refine t_seq fun K=>?_|refine t_br (fun hc=>?_) fun hc=>?_|refine t_bx ?_|apply And.intro|intro vr)|exact kp_mobs|exact kp_mob4|exact kpd
    |((with_reducible first|refine ny ?_|refine t_kLF ?_ ?_|refine t_drawE (id:=11) (fun _=>true) [(0,1),(1,1),(2,1),(3,1),(4,1),(5,1),(6,1),(7,1),(8,2),(9,2),(10,1),(11,1),(12,1),(13,1),(14,2),(15,2),(16,1),(17,2),(18,0)] (by kernel_rfl) fun K=>?_|refine t_drawE (id:=13) (fun _=>true) [(0,1),(1,1),(2,1),(3,1),(4,1),(5,1),(6,1),(7,1),(8,2),(9,2),(10,1),(11,1),(12,1),(13,1),(14,2),(15,2),(16,1),(17,2),(18,0)] (by kernel_rfl) fun K=>?_|refine t_drawE (id:=20) (fun _=>true) [(0,1),(1,1),(2,1),(3,1),(4,1),(5,1),(6,1),(7,2),(8,2),(9,1),(10,0),(11,1)] (by kernel_rfl) fun K=>?_|refine t_drawE (id:=32) (fun _=>true) [(0,1),(1,1),(2,1),(3,1),(4,1),(5,1),(6,1),(7,2),(8,2),(9,2),(10,0)] (by kernel_rfl) fun K=>?_|refine t_drawE (id:=43) (fun _=>true) [(0,1),(1,1),(2,1),(3,1),(4,1),(5,1),(6,1),(7,1),(8,2),(9,2),(10,1),(11,2),(12,0)] (by kernel_rfl) fun K=>?_|refine t_dwh (h:=fun K KL=>?_));intros;simp only [go_sem,kp50,geff,yes,gb,gc]))
   all_goals try exact nd
   all_goals (refine nl ?_;simp only [go_sem,finK])
   refine ⟨_,?_,?_,mob_bds hbd,hk⟩
   ·exact LeR.refl _
   ·exact stV_bd (by omega)
  ·have g:=hw rfl
   have hb:=xb (by omega)
   have hcc:=xc (by omega)
   refine ecR W3_ok (kp50) Try.func50 [.cell 4 56] (h:=fun KF=>?_)
   unfold W3
   repeat' (first
    |(with_reducible first|refine nx ?_|refine t_seq fun K=>?_|refine t_br (fun hc=>?_) fun hc=>?_|refine t_bx ?_|apply And.intro|intro vr)|exact kp_mobs|exact kp_mob4|exact kpd
    |((with_reducible first|refine ny ?_|refine t_kLF ?_ ?_|refine t_drawE (id:=11) (fun _=>true) [(0,1),(1,1),(2,1),(3,1),(4,1),(5,1),(6,1),(7,1),(8,2),(9,2),(10,1),(11,1),(12,1),(13,1),(14,2),(15,2),(16,1),(17,2),(18,0)] (by kernel_rfl) fun K=>?_|refine t_drawE (id:=13) (fun _=>true) [(0,1),(1,1),(2,1),(3,1),(4,1),(5,1),(6,1),(7,1),(8,2),(9,2),(10,1),(11,1),(12,1),(13,1),(14,2),(15,2),(16,1),(17,2),(18,0)] (by kernel_rfl) fun K=>?_|refine t_drawE (id:=20) (fun _=>true) [(0,1),(1,1),(2,1),(3,1),(4,1),(5,1),(6,1),(7,2),(8,2),(9,1),(10,0),(11,1)] (by kernel_rfl) fun K=>?_|refine t_drawE (id:=32) (fun _=>true) [(0,1),(1,1),(2,1),(3,1),(4,1),(5,1),(6,1),(7,2),(8,2),(9,2),(10,0)] (by kernel_rfl) fun K=>?_|refine t_drawE (id:=43) (fun _=>true) [(0,1),(1,1),(2,1),(3,1),(4,1),(5,1),(6,1),(7,1),(8,2),(9,2),(10,1),(11,2),(12,0)] (by kernel_rfl) fun K=>?_|refine t_dwh (h:=fun K KL=>?_));intros;simp only [go_sem,kp50,geff,yes,gb,gc]))
   all_goals try exact nd
   all_goals (refine nl ?_;simp only [go_sem,finK])
   refine ⟨_,?_,?_,mob_bds hbd,hk⟩
   ·exact LeR.refl _
   ·exact stV_bd (by omega)
  ·have g:=hw rfl
   have e:simpleS ⟨5,p,a,b,cc,d⟩ ⟨R,A,rd,wr,op,pk,V,l,f,at_,o⟩=match El.applyS p ((readsS ⟨5,p,a,b,cc,d⟩).map (gt R)) with|none=>⟨R,A,rd,wr,op,pk,V,l,true,at_,o⟩|some y=>⟨R.set a.toNat y,A,rd,wr,op+1,pk,V,l,f,at_,o⟩:=rfl
   rw [e] at hk
   have h3:=reads_len ⟨5,p,a,b,cc,d⟩
   generalize hM:readsS ⟨5,p,a,b,cc,d⟩=M at hk hrd h3
   have av0:El.applyV none= .tup [.lit (.int .i64 0),.lit (.bool false)]:=rfl
   have av1:∀ y,El.applyV (some y)= .tup [.lit (.int .i64 y),.lit (.bool true)]:=fun _=>rfl
   generalize hap:El.applyS p (M.map (gt R))=Y at hk
   refine ecR W3_ok (kp50) Try.func50 [.cell 4 56] (h:=fun KF=>?_)
   unfold W3
   repeat' (first
    |(with_reducible first|refine nx ?_|refine t_seq fun K=>?_|refine t_br (fun hc=>?_) fun hc=>?_|refine t_bx ?_|apply And.intro|intro vr)|exact kp_mobs|exact kp_mob4|exact kpd
    |((with_reducible first|refine ny ?_|refine t_kLF ?_ ?_|refine t_drawE (id:=11) (fun _=>true) [(0,1),(1,1),(2,1),(3,1),(4,1),(5,1),(6,1),(7,1),(8,2),(9,2),(10,1),(11,1),(12,1),(13,1),(14,2),(15,2),(16,1),(17,2),(18,0)] (by kernel_rfl) fun K=>?_|refine t_drawE (id:=13) (fun _=>true) [(0,1),(1,1),(2,1),(3,1),(4,1),(5,1),(6,1),(7,1),(8,2),(9,2),(10,1),(11,1),(12,1),(13,1),(14,2),(15,2),(16,1),(17,2),(18,0)] (by kernel_rfl) fun K=>?_|refine t_drawE (id:=20) (fun _=>true) [(0,1),(1,1),(2,1),(3,1),(4,1),(5,1),(6,1),(7,2),(8,2),(9,1),(10,0),(11,1)] (by kernel_rfl) fun K=>?_|refine t_drawE (id:=32) (fun _=>true) [(0,1),(1,1),(2,1),(3,1),(4,1),(5,1),(6,1),(7,2),(8,2),(9,2),(10,0)] (by kernel_rfl) fun K=>?_|refine t_drawE (id:=43) (fun _=>true) [(0,1),(1,1),(2,1),(3,1),(4,1),(5,1),(6,1),(7,1),(8,2),(9,2),(10,1),(11,2),(12,0)] (by kernel_rfl) fun K=>?_|refine t_dwh (h:=fun K KL=>?_));intros;simp only [go_sem,kp50,geff,yes,hM]))
   all_goals try exact nd
   refine t_loopF (ι:={q:Nat×Nat // q.1≤M.length}) (fun i=>[(8,.lit (.int .i64 i.1.1)),(6,.arr (pre.length+(ex.length+5)) i.1.2)]) (fun i=>mob pre R A (ex++[.box 73 [.lit (.int .i64 5),.lit (.string p),.lit (.int .i64 a),.lit (.int .i64 b),.lit (.int .i64 cc),.lit (.int .i64 d)],.box 56 [.arr pre.length 0,.arr (pre.length+1) 0,.lit (.int .i64 rd),.lit (.int .i64 wr),.lit (.int .i64 op),.lit (.int .i64 pk),.sl false 1 (ints .i64 V),.lit (.int .i64 l),.lit (.bool f),.sl false 1 (bfsV S),.lit (.bool o),.lit (.int .i64 at_)],.box 56 [.sl true 1 [],.sl true 1 [],.lit (.int .i64 0),.lit (.int .i64 0),.lit (.int .i64 0),.lit (.int .i64 0),.sl true 1 [],.lit (.int .i64 0),.lit (.bool false),.sl true 1 [],.lit (.bool false),.lit (.int .i64 0)],.arr 3 1 (ints .i64 ((M.take i.1.1).map (gt R))) i.1.2 false])) (fun i=>M.length - i.1.1) ⟨(0,0),by simp⟩ ?_ ?_
   ·refine (le_nil 6 3 1 rfl).trans ?_
    exact lf
   rintro ⟨⟨i,v⟩,hi⟩ K0
   simp only at hi
   rcases Nat.lt_or_ge i M.length with hc'|hc'
   ·have g3:decide ((i:Int)<(M.length:Int))=true:=decide_eq_true (by omega)
    have hmm:=hrd _ (mem_getD hc')
    have ht:=take_mapI (f:=gt R) hc'
    have hln:((M.take i).map (gt R)).length=i:=by rw [List.length_map,List.length_take];omega
    generalize hxx:M.getD i 0=z at hmm ht
    have gz:R.getD z.toNat 0=gt R z:=rfl
    repeat' (first
     |(with_reducible first|refine nx ?_|refine t_seq fun K=>?_|refine t_br (fun hc=>?_) fun hc=>?_|refine t_bx ?_|apply And.intro|intro vr)|exact kp_mobs|exact kp_mob4|exact kpd
     |((with_reducible first|refine ny ?_|refine t_kLF ?_ ?_|refine t_drawE (id:=11) (fun _=>true) [(0,1),(1,1),(2,1),(3,1),(4,1),(5,1),(6,1),(7,1),(8,2),(9,2),(10,1),(11,1),(12,1),(13,1),(14,2),(15,2),(16,1),(17,2),(18,0)] (by kernel_rfl) fun K=>?_|refine t_drawE (id:=13) (fun _=>true) [(0,1),(1,1),(2,1),(3,1),(4,1),(5,1),(6,1),(7,1),(8,2),(9,2),(10,1),(11,1),(12,1),(13,1),(14,2),(15,2),(16,1),(17,2),(18,0)] (by kernel_rfl) fun K=>?_|refine t_drawE (id:=20) (fun _=>true) [(0,1),(1,1),(2,1),(3,1),(4,1),(5,1),(6,1),(7,2),(8,2),(9,1),(10,0),(11,1)] (by kernel_rfl) fun K=>?_|refine t_drawE (id:=32) (fun _=>true) [(0,1),(1,1),(2,1),(3,1),(4,1),(5,1),(6,1),(7,2),(8,2),(9,2),(10,0)] (by kernel_rfl) fun K=>?_|refine t_drawE (id:=43) (fun _=>true) [(0,1),(1,1),(2,1),(3,1),(4,1),(5,1),(6,1),(7,1),(8,2),(9,2),(10,1),(11,2),(12,0)] (by kernel_rfl) fun K=>?_|refine t_dwh (h:=fun K KL=>?_));intros;simp only [go_sem,kp50,geff,g3,hxx,gz,ht,hln,ints_length,Int.toNat_natCast,yes]))
    all_goals try exact nd
    exact ⟨⟨(i+1,v+1),by simp only;omega⟩,wf,lf⟩
   ·have g3:decide ((i:Int)<(M.length:Int))=false:=decide_eq_false (by omega)
    have eM:M.take i=M:=List.take_of_length_le hc'
    cases Y with
    |none=>
     repeat' (first
      |(with_reducible first|refine nx ?_|refine t_seq fun K=>?_|refine t_br (fun hc=>?_) fun hc=>?_|refine t_bx ?_|apply And.intro|intro vr)|exact kp_mobs|exact kp_mob4|exact kpd
      |((with_reducible first|refine ny ?_|refine t_kLF ?_ ?_|refine t_drawE (id:=11) (fun _=>true) [(0,1),(1,1),(2,1),(3,1),(4,1),(5,1),(6,1),(7,1),(8,2),(9,2),(10,1),(11,1),(12,1),(13,1),(14,2),(15,2),(16,1),(17,2),(18,0)] (by kernel_rfl) fun K=>?_|refine t_drawE (id:=13) (fun _=>true) [(0,1),(1,1),(2,1),(3,1),(4,1),(5,1),(6,1),(7,1),(8,2),(9,2),(10,1),(11,1),(12,1),(13,1),(14,2),(15,2),(16,1),(17,2),(18,0)] (by kernel_rfl) fun K=>?_|refine t_drawE (id:=20) (fun _=>true) [(0,1),(1,1),(2,1),(3,1),(4,1),(5,1),(6,1),(7,2),(8,2),(9,1),(10,0),(11,1)] (by kernel_rfl) fun K=>?_|refine t_drawE (id:=32) (fun _=>true) [(0,1),(1,1),(2,1),(3,1),(4,1),(5,1),(6,1),(7,2),(8,2),(9,2),(10,0)] (by kernel_rfl) fun K=>?_|refine t_drawE (id:=43) (fun _=>true) [(0,1),(1,1),(2,1),(3,1),(4,1),(5,1),(6,1),(7,1),(8,2),(9,2),(10,1),(11,2),(12,0)] (by kernel_rfl) fun K=>?_|refine t_dwh (h:=fun K KL=>?_));intros;simp only [go_sem,kp50,geff,g3,eM,hap,av0,slK_sl,Option.map_some,yes]))
     all_goals try exact nd
     all_goals (refine nl ?_;simp only [go_sem,finK])
     refine ⟨_,?_,?_,mob_bds hbd,hk⟩
     ·exact LeR.refl _
     ·exact stV_bd (by omega)
    |some y=>
     repeat' (first
      |(with_reducible first|refine nx ?_|refine t_seq fun K=>?_|refine t_br (fun hc=>?_) fun hc=>?_|refine t_bx ?_|apply And.intro|intro vr)|exact kp_mobs|exact kp_mob4|exact kpd
      |((with_reducible first|refine ny ?_|refine t_kLF ?_ ?_|refine t_drawE (id:=11) (fun _=>true) [(0,1),(1,1),(2,1),(3,1),(4,1),(5,1),(6,1),(7,1),(8,2),(9,2),(10,1),(11,1),(12,1),(13,1),(14,2),(15,2),(16,1),(17,2),(18,0)] (by kernel_rfl) fun K=>?_|refine t_drawE (id:=13) (fun _=>true) [(0,1),(1,1),(2,1),(3,1),(4,1),(5,1),(6,1),(7,1),(8,2),(9,2),(10,1),(11,1),(12,1),(13,1),(14,2),(15,2),(16,1),(17,2),(18,0)] (by kernel_rfl) fun K=>?_|refine t_drawE (id:=20) (fun _=>true) [(0,1),(1,1),(2,1),(3,1),(4,1),(5,1),(6,1),(7,2),(8,2),(9,1),(10,0),(11,1)] (by kernel_rfl) fun K=>?_|refine t_drawE (id:=32) (fun _=>true) [(0,1),(1,1),(2,1),(3,1),(4,1),(5,1),(6,1),(7,2),(8,2),(9,2),(10,0)] (by kernel_rfl) fun K=>?_|refine t_drawE (id:=43) (fun _=>true) [(0,1),(1,1),(2,1),(3,1),(4,1),(5,1),(6,1),(7,1),(8,2),(9,2),(10,1),(11,2),(12,0)] (by kernel_rfl) fun K=>?_|refine t_dwh (h:=fun K KL=>?_));intros;simp only [go_sem,kp50,geff,g3,eM,hap,av1,slK_sl,Option.map_some,yes]))
     all_goals try exact nd
     all_goals (refine nl ?_;simp only [go_sem,finK])
     refine ⟨_,?_,?_,mob_bds hbd,hk⟩
     ·exact LeR.refl _
     ·exact stV_bd (by omega)
  ·have g:=hw rfl
   have hb:=xb (by omega)
   have e:simpleS ⟨6,p,a,b,cc,d⟩ ⟨R,A,rd,wr,op,pk,V,l,f,at_,o⟩=if 0≤gt R b∧gt R b<A.length then ⟨R.set a.toNat (gt A (gt R b)),A,rd+1,wr,op,pk,V,l,f,at_,o⟩ else ⟨R,A,rd,wr,op,pk,V,l,true,at_,o⟩:=rfl
   rw [e] at hk
   have gA:A.getD (gt R b).toNat 0=gt A (gt R b):=rfl
   generalize gt R b=u at*
   cases g1:decide (u<0) with
   |true=>
    have g1':=of_decide_eq_true g1
    rw [if_neg (by omega)] at hk
    refine ecR W3_ok (kp50) Try.func50 [.cell 4 56] (h:=fun KF=>?_)
    unfold W3
    repeat' (first
     |(with_reducible first|refine nx ?_|refine t_seq fun K=>?_|refine t_br (fun hc=>?_) fun hc=>?_|refine t_bx ?_|apply And.intro|intro vr)|exact kp_mobs|exact kp_mob4|exact kpd
     |((with_reducible first|refine ny ?_|refine t_kLF ?_ ?_|refine t_drawE (id:=11) (fun _=>true) [(0,1),(1,1),(2,1),(3,1),(4,1),(5,1),(6,1),(7,1),(8,2),(9,2),(10,1),(11,1),(12,1),(13,1),(14,2),(15,2),(16,1),(17,2),(18,0)] (by kernel_rfl) fun K=>?_|refine t_drawE (id:=13) (fun _=>true) [(0,1),(1,1),(2,1),(3,1),(4,1),(5,1),(6,1),(7,1),(8,2),(9,2),(10,1),(11,1),(12,1),(13,1),(14,2),(15,2),(16,1),(17,2),(18,0)] (by kernel_rfl) fun K=>?_|refine t_drawE (id:=20) (fun _=>true) [(0,1),(1,1),(2,1),(3,1),(4,1),(5,1),(6,1),(7,2),(8,2),(9,1),(10,0),(11,1)] (by kernel_rfl) fun K=>?_|refine t_drawE (id:=32) (fun _=>true) [(0,1),(1,1),(2,1),(3,1),(4,1),(5,1),(6,1),(7,2),(8,2),(9,2),(10,0)] (by kernel_rfl) fun K=>?_|refine t_drawE (id:=43) (fun _=>true) [(0,1),(1,1),(2,1),(3,1),(4,1),(5,1),(6,1),(7,1),(8,2),(9,2),(10,1),(11,2),(12,0)] (by kernel_rfl) fun K=>?_|refine t_dwh (h:=fun K KL=>?_));intros;simp only [go_sem,kp50,geff,yes,gb,g1]))
    all_goals try exact nd
    all_goals (refine nl ?_;simp only [go_sem,finK])
    refine ⟨_,?_,?_,mob_bds hbd,hk⟩
    ·exact LeR.refl _
    ·exact stV_bd (by omega)
   |false=>
    have g1':=of_decide_eq_false g1
    cases g2:decide (u≥A.length) with
    |true=>
     have g2':=of_decide_eq_true g2
     rw [if_neg (by omega)] at hk
     refine ecR W3_ok (kp50) Try.func50 [.cell 4 56] (h:=fun KF=>?_)
     unfold W3
     repeat' (first
      |(with_reducible first|refine nx ?_|refine t_seq fun K=>?_|refine t_br (fun hc=>?_) fun hc=>?_|refine t_bx ?_|apply And.intro|intro vr)|exact kp_mobs|exact kp_mob4|exact kpd
      |((with_reducible first|refine ny ?_|refine t_kLF ?_ ?_|refine t_drawE (id:=11) (fun _=>true) [(0,1),(1,1),(2,1),(3,1),(4,1),(5,1),(6,1),(7,1),(8,2),(9,2),(10,1),(11,1),(12,1),(13,1),(14,2),(15,2),(16,1),(17,2),(18,0)] (by kernel_rfl) fun K=>?_|refine t_drawE (id:=13) (fun _=>true) [(0,1),(1,1),(2,1),(3,1),(4,1),(5,1),(6,1),(7,1),(8,2),(9,2),(10,1),(11,1),(12,1),(13,1),(14,2),(15,2),(16,1),(17,2),(18,0)] (by kernel_rfl) fun K=>?_|refine t_drawE (id:=20) (fun _=>true) [(0,1),(1,1),(2,1),(3,1),(4,1),(5,1),(6,1),(7,2),(8,2),(9,1),(10,0),(11,1)] (by kernel_rfl) fun K=>?_|refine t_drawE (id:=32) (fun _=>true) [(0,1),(1,1),(2,1),(3,1),(4,1),(5,1),(6,1),(7,2),(8,2),(9,2),(10,0)] (by kernel_rfl) fun K=>?_|refine t_drawE (id:=43) (fun _=>true) [(0,1),(1,1),(2,1),(3,1),(4,1),(5,1),(6,1),(7,1),(8,2),(9,2),(10,1),(11,2),(12,0)] (by kernel_rfl) fun K=>?_|refine t_dwh (h:=fun K KL=>?_));intros;simp only [go_sem,kp50,geff,yes,gb,g1,g2]))
     all_goals try exact nd
     all_goals (refine nl ?_;simp only [go_sem,finK])
     refine ⟨_,?_,?_,mob_bds hbd,hk⟩
     ·exact LeR.refl _
     ·exact stV_bd (by omega)
    |false=>
     have g2':=of_decide_eq_false g2
     rw [if_pos (by omega)] at hk
     refine ecR W3_ok (kp50) Try.func50 [.cell 4 56] (h:=fun KF=>?_)
     unfold W3
     repeat' (first
      |(with_reducible first|refine nx ?_|refine t_seq fun K=>?_|refine t_br (fun hc=>?_) fun hc=>?_|refine t_bx ?_|apply And.intro|intro vr)|exact kp_mobs|exact kp_mob4|exact kpd
      |((with_reducible first|refine ny ?_|refine t_kLF ?_ ?_|refine t_drawE (id:=11) (fun _=>true) [(0,1),(1,1),(2,1),(3,1),(4,1),(5,1),(6,1),(7,1),(8,2),(9,2),(10,1),(11,1),(12,1),(13,1),(14,2),(15,2),(16,1),(17,2),(18,0)] (by kernel_rfl) fun K=>?_|refine t_drawE (id:=13) (fun _=>true) [(0,1),(1,1),(2,1),(3,1),(4,1),(5,1),(6,1),(7,1),(8,2),(9,2),(10,1),(11,1),(12,1),(13,1),(14,2),(15,2),(16,1),(17,2),(18,0)] (by kernel_rfl) fun K=>?_|refine t_drawE (id:=20) (fun _=>true) [(0,1),(1,1),(2,1),(3,1),(4,1),(5,1),(6,1),(7,2),(8,2),(9,1),(10,0),(11,1)] (by kernel_rfl) fun K=>?_|refine t_drawE (id:=32) (fun _=>true) [(0,1),(1,1),(2,1),(3,1),(4,1),(5,1),(6,1),(7,2),(8,2),(9,2),(10,0)] (by kernel_rfl) fun K=>?_|refine t_drawE (id:=43) (fun _=>true) [(0,1),(1,1),(2,1),(3,1),(4,1),(5,1),(6,1),(7,1),(8,2),(9,2),(10,1),(11,2),(12,0)] (by kernel_rfl) fun K=>?_|refine t_dwh (h:=fun K KL=>?_));intros;simp only [go_sem,kp50,geff,yes,gb,g1,g2,gA]))
     all_goals try exact nd
     all_goals (refine nl ?_;simp only [go_sem,finK])
     refine ⟨_,?_,?_,mob_bds hbd,hk⟩
     ·exact LeR.refl _
     ·exact stV_bd (by omega)
  ·have ha:=xa (by omega)
   have hb:=xb (by omega)
   have e:simpleS ⟨7,p,a,b,cc,d⟩ ⟨R,A,rd,wr,op,pk,V,l,f,at_,o⟩=if (0≤gt R a∧gt R a<A.length)∧vld sInt (gt R b)=true then ⟨R,A.set (gt R a).toNat (gt R b),rd,wr+1,op,maxI pk (gt R a+1),V,l,f,at_,o⟩ else ⟨R,A,rd,wr,op,pk,V,l,true,at_,o⟩:=rfl
   rw [e] at hk
   have hvl:vld ⟨#[105,110,116]⟩ (gt R b)=vld sInt (gt R b):=rfl
   generalize gt R a=u at*
   generalize gt R b=v at*
   cases g1:decide (u<0) with
   |true=>
    have g1':=of_decide_eq_true g1
    rw [if_neg (fun q=>by omega)] at hk
    refine ecR W3_ok (kp50) Try.func50 [.cell 4 56] (h:=fun KF=>?_)
    unfold W3
    repeat' (first
     |(with_reducible first|refine nx ?_|refine t_seq fun K=>?_|refine t_br (fun hc=>?_) fun hc=>?_|refine t_bx ?_|apply And.intro|intro vr)|exact kp_mobs|exact kp_mob4|exact kpd
     |((with_reducible first|refine ny ?_|refine t_kLF ?_ ?_|refine t_drawE (id:=11) (fun _=>true) [(0,1),(1,1),(2,1),(3,1),(4,1),(5,1),(6,1),(7,1),(8,2),(9,2),(10,1),(11,1),(12,1),(13,1),(14,2),(15,2),(16,1),(17,2),(18,0)] (by kernel_rfl) fun K=>?_|refine t_drawE (id:=13) (fun _=>true) [(0,1),(1,1),(2,1),(3,1),(4,1),(5,1),(6,1),(7,1),(8,2),(9,2),(10,1),(11,1),(12,1),(13,1),(14,2),(15,2),(16,1),(17,2),(18,0)] (by kernel_rfl) fun K=>?_|refine t_drawE (id:=20) (fun _=>true) [(0,1),(1,1),(2,1),(3,1),(4,1),(5,1),(6,1),(7,2),(8,2),(9,1),(10,0),(11,1)] (by kernel_rfl) fun K=>?_|refine t_drawE (id:=32) (fun _=>true) [(0,1),(1,1),(2,1),(3,1),(4,1),(5,1),(6,1),(7,2),(8,2),(9,2),(10,0)] (by kernel_rfl) fun K=>?_|refine t_drawE (id:=43) (fun _=>true) [(0,1),(1,1),(2,1),(3,1),(4,1),(5,1),(6,1),(7,1),(8,2),(9,2),(10,1),(11,2),(12,0)] (by kernel_rfl) fun K=>?_|refine t_dwh (h:=fun K KL=>?_));intros;simp only [go_sem,kp50,geff,yes,ga,gb,g1]))
    all_goals try exact nd
    all_goals (refine nl ?_;simp only [go_sem,finK])
    refine ⟨_,?_,?_,mob_bds hbd,hk⟩
    ·exact LeR.refl _
    ·exact stV_bd (by omega)
   |false=>
    have g1':=of_decide_eq_false g1
    cases g2:decide (u≥A.length) with
    |true=>
     have g2':=of_decide_eq_true g2
     rw [if_neg (fun q=>by omega)] at hk
     refine ecR W3_ok (kp50) Try.func50 [.cell 4 56] (h:=fun KF=>?_)
     unfold W3
     repeat' (first
      |(with_reducible first|refine nx ?_|refine t_seq fun K=>?_|refine t_br (fun hc=>?_) fun hc=>?_|refine t_bx ?_|apply And.intro|intro vr)|exact kp_mobs|exact kp_mob4|exact kpd
      |((with_reducible first|refine ny ?_|refine t_kLF ?_ ?_|refine t_drawE (id:=11) (fun _=>true) [(0,1),(1,1),(2,1),(3,1),(4,1),(5,1),(6,1),(7,1),(8,2),(9,2),(10,1),(11,1),(12,1),(13,1),(14,2),(15,2),(16,1),(17,2),(18,0)] (by kernel_rfl) fun K=>?_|refine t_drawE (id:=13) (fun _=>true) [(0,1),(1,1),(2,1),(3,1),(4,1),(5,1),(6,1),(7,1),(8,2),(9,2),(10,1),(11,1),(12,1),(13,1),(14,2),(15,2),(16,1),(17,2),(18,0)] (by kernel_rfl) fun K=>?_|refine t_drawE (id:=20) (fun _=>true) [(0,1),(1,1),(2,1),(3,1),(4,1),(5,1),(6,1),(7,2),(8,2),(9,1),(10,0),(11,1)] (by kernel_rfl) fun K=>?_|refine t_drawE (id:=32) (fun _=>true) [(0,1),(1,1),(2,1),(3,1),(4,1),(5,1),(6,1),(7,2),(8,2),(9,2),(10,0)] (by kernel_rfl) fun K=>?_|refine t_drawE (id:=43) (fun _=>true) [(0,1),(1,1),(2,1),(3,1),(4,1),(5,1),(6,1),(7,1),(8,2),(9,2),(10,1),(11,2),(12,0)] (by kernel_rfl) fun K=>?_|refine t_dwh (h:=fun K KL=>?_));intros;simp only [go_sem,kp50,geff,yes,ga,gb,g1,g2]))
     all_goals try exact nd
     all_goals (refine nl ?_;simp only [go_sem,finK])
     refine ⟨_,?_,?_,mob_bds hbd,hk⟩
     ·exact LeR.refl _
     ·exact stV_bd (by omega)
    |false=>
     have g2':=of_decide_eq_false g2
     cases hv:vld sInt v with
     |false=>
      rw [if_neg (fun q=>by rw [hv] at q;cases q.2)] at hk
      refine ecR W3_ok (kp50) Try.func50 [.cell 4 56] (h:=fun KF=>?_)
      unfold W3
      repeat' (first
       |(with_reducible first|refine nx ?_|refine t_seq fun K=>?_|refine t_br (fun hc=>?_) fun hc=>?_|refine t_bx ?_|apply And.intro|intro vr)|exact kp_mobs|exact kp_mob4|exact kpd
       |((with_reducible first|refine ny ?_|refine t_kLF ?_ ?_|refine t_drawE (id:=11) (fun _=>true) [(0,1),(1,1),(2,1),(3,1),(4,1),(5,1),(6,1),(7,1),(8,2),(9,2),(10,1),(11,1),(12,1),(13,1),(14,2),(15,2),(16,1),(17,2),(18,0)] (by kernel_rfl) fun K=>?_|refine t_drawE (id:=13) (fun _=>true) [(0,1),(1,1),(2,1),(3,1),(4,1),(5,1),(6,1),(7,1),(8,2),(9,2),(10,1),(11,1),(12,1),(13,1),(14,2),(15,2),(16,1),(17,2),(18,0)] (by kernel_rfl) fun K=>?_|refine t_drawE (id:=20) (fun _=>true) [(0,1),(1,1),(2,1),(3,1),(4,1),(5,1),(6,1),(7,2),(8,2),(9,1),(10,0),(11,1)] (by kernel_rfl) fun K=>?_|refine t_drawE (id:=32) (fun _=>true) [(0,1),(1,1),(2,1),(3,1),(4,1),(5,1),(6,1),(7,2),(8,2),(9,2),(10,0)] (by kernel_rfl) fun K=>?_|refine t_drawE (id:=43) (fun _=>true) [(0,1),(1,1),(2,1),(3,1),(4,1),(5,1),(6,1),(7,1),(8,2),(9,2),(10,1),(11,2),(12,0)] (by kernel_rfl) fun K=>?_|refine t_dwh (h:=fun K KL=>?_));intros;simp only [go_sem,kp50,geff,yes,ga,gb,g1,g2,hvl,hv]))
      all_goals try exact nd
      all_goals (refine nl ?_;simp only [go_sem,finK])
      refine ⟨_,?_,?_,mob_bds hbd,hk⟩
      ·exact LeR.refl _
      ·exact stV_bd (by omega)
     |true=>
      rw [if_pos ⟨by omega,hv⟩] at hk
      refine ecR W3_ok (kp50) Try.func50 [.cell 4 56] (h:=fun KF=>?_)
      unfold W3
      repeat' (first
       |(with_reducible first|refine nx ?_|refine t_seq fun K=>?_|refine t_br (fun hc=>?_) fun hc=>?_|refine t_bx ?_|apply And.intro|intro vr)|exact kp_mobs|exact kp_mob4|exact kpd
       |((with_reducible first|refine ny ?_|refine t_kLF ?_ ?_|refine t_drawE (id:=11) (fun _=>true) [(0,1),(1,1),(2,1),(3,1),(4,1),(5,1),(6,1),(7,1),(8,2),(9,2),(10,1),(11,1),(12,1),(13,1),(14,2),(15,2),(16,1),(17,2),(18,0)] (by kernel_rfl) fun K=>?_|refine t_drawE (id:=13) (fun _=>true) [(0,1),(1,1),(2,1),(3,1),(4,1),(5,1),(6,1),(7,1),(8,2),(9,2),(10,1),(11,1),(12,1),(13,1),(14,2),(15,2),(16,1),(17,2),(18,0)] (by kernel_rfl) fun K=>?_|refine t_drawE (id:=20) (fun _=>true) [(0,1),(1,1),(2,1),(3,1),(4,1),(5,1),(6,1),(7,2),(8,2),(9,1),(10,0),(11,1)] (by kernel_rfl) fun K=>?_|refine t_drawE (id:=32) (fun _=>true) [(0,1),(1,1),(2,1),(3,1),(4,1),(5,1),(6,1),(7,2),(8,2),(9,2),(10,0)] (by kernel_rfl) fun K=>?_|refine t_drawE (id:=43) (fun _=>true) [(0,1),(1,1),(2,1),(3,1),(4,1),(5,1),(6,1),(7,1),(8,2),(9,2),(10,1),(11,2),(12,0)] (by kernel_rfl) fun K=>?_|refine t_dwh (h:=fun K KL=>?_));intros;simp only [go_sem,kp50,geff,yes,ga,gb,g1,g2,hvl,hv]))
      all_goals try exact nd
      all_goals (refine nl ?_;simp only [go_sem,finK])
      refine ⟨_,?_,?_,mob_bds hbd,hk⟩
      ·exact LeR.refl _
      ·exact stV_bd (by omega)
  ·have g:=hw rfl
   refine ecR W3_ok (kp50) Try.func50 [.cell 4 56] (h:=fun KF=>?_)
   unfold W3
   repeat' (first
    |(with_reducible first|refine nx ?_|refine t_seq fun K=>?_|refine t_br (fun hc=>?_) fun hc=>?_|refine t_bx ?_|apply And.intro|intro vr)|exact kp_mobs|exact kp_mob4|exact kpd
    |((with_reducible first|refine ny ?_|refine t_kLF ?_ ?_|refine t_drawE (id:=11) (fun _=>true) [(0,1),(1,1),(2,1),(3,1),(4,1),(5,1),(6,1),(7,1),(8,2),(9,2),(10,1),(11,1),(12,1),(13,1),(14,2),(15,2),(16,1),(17,2),(18,0)] (by kernel_rfl) fun K=>?_|refine t_drawE (id:=13) (fun _=>true) [(0,1),(1,1),(2,1),(3,1),(4,1),(5,1),(6,1),(7,1),(8,2),(9,2),(10,1),(11,1),(12,1),(13,1),(14,2),(15,2),(16,1),(17,2),(18,0)] (by kernel_rfl) fun K=>?_|refine t_drawE (id:=20) (fun _=>true) [(0,1),(1,1),(2,1),(3,1),(4,1),(5,1),(6,1),(7,2),(8,2),(9,1),(10,0),(11,1)] (by kernel_rfl) fun K=>?_|refine t_drawE (id:=32) (fun _=>true) [(0,1),(1,1),(2,1),(3,1),(4,1),(5,1),(6,1),(7,2),(8,2),(9,2),(10,0)] (by kernel_rfl) fun K=>?_|refine t_drawE (id:=43) (fun _=>true) [(0,1),(1,1),(2,1),(3,1),(4,1),(5,1),(6,1),(7,1),(8,2),(9,2),(10,1),(11,2),(12,0)] (by kernel_rfl) fun K=>?_|refine t_dwh (h:=fun K KL=>?_));intros;simp only [go_sem,kp50,geff,yes]))
   all_goals try exact nd
   all_goals (refine nl ?_;simp only [go_sem,finK])
   refine ⟨_,?_,?_,mob_bds hbd,hk⟩
   ·exact LeR.refl _
   ·exact stV_bd (by omega)
  ·have hb:=xb (by omega)
   have e:simpleS ⟨9,p,a,b,cc,d⟩ ⟨R,A,rd,wr,op,pk,V,l,f,at_,o⟩=if gt R b=0 then ⟨R,A,rd,wr,op,pk,noteS V a,l,f,at_,o⟩ else ⟨R,A,rd,wr,op,pk,V,l,f,at_,o⟩:=rfl
   rw [e] at hk
   generalize gt R b=u at*
   cases g1:decide (u=0) with
   |true=>
    rw [if_pos (of_decide_eq_true g1)] at hk
    refine ecR W3_ok (kp50) Try.func50 [.cell 4 56] (h:=fun KF=>?_)
    unfold W3
    repeat' (first
     |(with_reducible first|refine nx ?_|refine t_seq fun K=>?_|refine t_br (fun hc=>?_) fun hc=>?_|refine t_bx ?_|apply And.intro|intro vr)|exact kp_mobs|exact kp_mob4|exact kpd
     |((with_reducible first|refine ny ?_|refine t_kLF ?_ ?_|refine t_drawE (id:=11) (fun _=>true) [(0,1),(1,1),(2,1),(3,1),(4,1),(5,1),(6,1),(7,1),(8,2),(9,2),(10,1),(11,1),(12,1),(13,1),(14,2),(15,2),(16,1),(17,2),(18,0)] (by kernel_rfl) fun K=>?_|refine t_drawE (id:=13) (fun _=>true) [(0,1),(1,1),(2,1),(3,1),(4,1),(5,1),(6,1),(7,1),(8,2),(9,2),(10,1),(11,1),(12,1),(13,1),(14,2),(15,2),(16,1),(17,2),(18,0)] (by kernel_rfl) fun K=>?_|refine t_drawE (id:=20) (fun _=>true) [(0,1),(1,1),(2,1),(3,1),(4,1),(5,1),(6,1),(7,2),(8,2),(9,1),(10,0),(11,1)] (by kernel_rfl) fun K=>?_|refine t_drawE (id:=32) (fun _=>true) [(0,1),(1,1),(2,1),(3,1),(4,1),(5,1),(6,1),(7,2),(8,2),(9,2),(10,0)] (by kernel_rfl) fun K=>?_|refine t_drawE (id:=43) (fun _=>true) [(0,1),(1,1),(2,1),(3,1),(4,1),(5,1),(6,1),(7,1),(8,2),(9,2),(10,1),(11,2),(12,0)] (by kernel_rfl) fun K=>?_|refine t_dwh (h:=fun K KL=>?_));intros;simp only [go_sem,kp50,geff,yes,gb,g1]))
    all_goals try exact nd
    all_goals (refine nl ?_;simp only [go_sem,finK])
    refine ⟨_,?_,?_,mob_bds hbd,hk⟩
    ·exact LeR.refl _
    ·exact stV_bd (by omega)
   |false=>
    rw [if_neg (of_decide_eq_false g1)] at hk
    refine ecR W3_ok (kp50) Try.func50 [.cell 4 56] (h:=fun KF=>?_)
    unfold W3
    repeat' (first
     |(with_reducible first|refine nx ?_|refine t_seq fun K=>?_|refine t_br (fun hc=>?_) fun hc=>?_|refine t_bx ?_|apply And.intro|intro vr)|exact kp_mobs|exact kp_mob4|exact kpd
     |((with_reducible first|refine ny ?_|refine t_kLF ?_ ?_|refine t_drawE (id:=11) (fun _=>true) [(0,1),(1,1),(2,1),(3,1),(4,1),(5,1),(6,1),(7,1),(8,2),(9,2),(10,1),(11,1),(12,1),(13,1),(14,2),(15,2),(16,1),(17,2),(18,0)] (by kernel_rfl) fun K=>?_|refine t_drawE (id:=13) (fun _=>true) [(0,1),(1,1),(2,1),(3,1),(4,1),(5,1),(6,1),(7,1),(8,2),(9,2),(10,1),(11,1),(12,1),(13,1),(14,2),(15,2),(16,1),(17,2),(18,0)] (by kernel_rfl) fun K=>?_|refine t_drawE (id:=20) (fun _=>true) [(0,1),(1,1),(2,1),(3,1),(4,1),(5,1),(6,1),(7,2),(8,2),(9,1),(10,0),(11,1)] (by kernel_rfl) fun K=>?_|refine t_drawE (id:=32) (fun _=>true) [(0,1),(1,1),(2,1),(3,1),(4,1),(5,1),(6,1),(7,2),(8,2),(9,2),(10,0)] (by kernel_rfl) fun K=>?_|refine t_drawE (id:=43) (fun _=>true) [(0,1),(1,1),(2,1),(3,1),(4,1),(5,1),(6,1),(7,1),(8,2),(9,2),(10,1),(11,2),(12,0)] (by kernel_rfl) fun K=>?_|refine t_dwh (h:=fun K KL=>?_));intros;simp only [go_sem,kp50,geff,yes,gb,g1]))
    all_goals try exact nd
    all_goals (refine nl ?_;simp only [go_sem,finK])
    refine ⟨_,?_,?_,mob_bds hbd,hk⟩
    ·exact LeR.refl _
    ·exact stV_bd (by omega)
  ·skip
   refine ecR W3_ok (kp50) Try.func50 [.cell 4 56] (h:=fun KF=>?_)
   unfold W3
   repeat' (first
    |(with_reducible first|refine nx ?_|refine t_seq fun K=>?_|refine t_br (fun hc=>?_) fun hc=>?_|refine t_bx ?_|apply And.intro|intro vr)|exact kp_mobs|exact kp_mob4|exact kpd
    |((with_reducible first|refine ny ?_|refine t_kLF ?_ ?_|refine t_drawE (id:=11) (fun _=>true) [(0,1),(1,1),(2,1),(3,1),(4,1),(5,1),(6,1),(7,1),(8,2),(9,2),(10,1),(11,1),(12,1),(13,1),(14,2),(15,2),(16,1),(17,2),(18,0)] (by kernel_rfl) fun K=>?_|refine t_drawE (id:=13) (fun _=>true) [(0,1),(1,1),(2,1),(3,1),(4,1),(5,1),(6,1),(7,1),(8,2),(9,2),(10,1),(11,1),(12,1),(13,1),(14,2),(15,2),(16,1),(17,2),(18,0)] (by kernel_rfl) fun K=>?_|refine t_drawE (id:=20) (fun _=>true) [(0,1),(1,1),(2,1),(3,1),(4,1),(5,1),(6,1),(7,2),(8,2),(9,1),(10,0),(11,1)] (by kernel_rfl) fun K=>?_|refine t_drawE (id:=32) (fun _=>true) [(0,1),(1,1),(2,1),(3,1),(4,1),(5,1),(6,1),(7,2),(8,2),(9,2),(10,0)] (by kernel_rfl) fun K=>?_|refine t_drawE (id:=43) (fun _=>true) [(0,1),(1,1),(2,1),(3,1),(4,1),(5,1),(6,1),(7,1),(8,2),(9,2),(10,1),(11,2),(12,0)] (by kernel_rfl) fun K=>?_|refine t_dwh (h:=fun K KL=>?_));intros;simp only [go_sem,kp50,geff,yes]))
   all_goals try exact nd
   all_goals (refine nl ?_;simp only [go_sem,finK])
   refine ⟨_,?_,?_,mob_bds hbd,hk⟩
   ·exact LeR.refl _
   ·exact stV_bd (by omega)
  ·skip
   refine ecR W3_ok (kp50) Try.func50 [.cell 4 56] (h:=fun KF=>?_)
   unfold W3
   repeat' (first
    |(with_reducible first|refine nx ?_|refine t_seq fun K=>?_|refine t_br (fun hc=>?_) fun hc=>?_|refine t_bx ?_|apply And.intro|intro vr)|exact kp_mobs|exact kp_mob4|exact kpd
    |((with_reducible first|refine ny ?_|refine t_kLF ?_ ?_|refine t_drawE (id:=11) (fun _=>true) [(0,1),(1,1),(2,1),(3,1),(4,1),(5,1),(6,1),(7,1),(8,2),(9,2),(10,1),(11,1),(12,1),(13,1),(14,2),(15,2),(16,1),(17,2),(18,0)] (by kernel_rfl) fun K=>?_|refine t_drawE (id:=13) (fun _=>true) [(0,1),(1,1),(2,1),(3,1),(4,1),(5,1),(6,1),(7,1),(8,2),(9,2),(10,1),(11,1),(12,1),(13,1),(14,2),(15,2),(16,1),(17,2),(18,0)] (by kernel_rfl) fun K=>?_|refine t_drawE (id:=20) (fun _=>true) [(0,1),(1,1),(2,1),(3,1),(4,1),(5,1),(6,1),(7,2),(8,2),(9,1),(10,0),(11,1)] (by kernel_rfl) fun K=>?_|refine t_drawE (id:=32) (fun _=>true) [(0,1),(1,1),(2,1),(3,1),(4,1),(5,1),(6,1),(7,2),(8,2),(9,2),(10,0)] (by kernel_rfl) fun K=>?_|refine t_drawE (id:=43) (fun _=>true) [(0,1),(1,1),(2,1),(3,1),(4,1),(5,1),(6,1),(7,1),(8,2),(9,2),(10,1),(11,2),(12,0)] (by kernel_rfl) fun K=>?_|refine t_dwh (h:=fun K KL=>?_));intros;simp only [go_sem,kp50,geff,yes]))
   all_goals try exact nd
   all_goals (refine nl ?_;simp only [go_sem,finK])
   refine ⟨_,?_,?_,mob_bds hbd,hk⟩
   ·exact LeR.refl _
   ·exact stV_bd (by omega)
  ·skip
   refine ecR W3_ok (kp50) Try.func50 [.cell 4 56] (h:=fun KF=>?_)
   unfold W3
   repeat' (first
    |(with_reducible first|refine nx ?_|refine t_seq fun K=>?_|refine t_br (fun hc=>?_) fun hc=>?_|refine t_bx ?_|apply And.intro|intro vr)|exact kp_mobs|exact kp_mob4|exact kpd
    |((with_reducible first|refine ny ?_|refine t_kLF ?_ ?_|refine t_drawE (id:=11) (fun _=>true) [(0,1),(1,1),(2,1),(3,1),(4,1),(5,1),(6,1),(7,1),(8,2),(9,2),(10,1),(11,1),(12,1),(13,1),(14,2),(15,2),(16,1),(17,2),(18,0)] (by kernel_rfl) fun K=>?_|refine t_drawE (id:=13) (fun _=>true) [(0,1),(1,1),(2,1),(3,1),(4,1),(5,1),(6,1),(7,1),(8,2),(9,2),(10,1),(11,1),(12,1),(13,1),(14,2),(15,2),(16,1),(17,2),(18,0)] (by kernel_rfl) fun K=>?_|refine t_drawE (id:=20) (fun _=>true) [(0,1),(1,1),(2,1),(3,1),(4,1),(5,1),(6,1),(7,2),(8,2),(9,1),(10,0),(11,1)] (by kernel_rfl) fun K=>?_|refine t_drawE (id:=32) (fun _=>true) [(0,1),(1,1),(2,1),(3,1),(4,1),(5,1),(6,1),(7,2),(8,2),(9,2),(10,0)] (by kernel_rfl) fun K=>?_|refine t_drawE (id:=43) (fun _=>true) [(0,1),(1,1),(2,1),(3,1),(4,1),(5,1),(6,1),(7,1),(8,2),(9,2),(10,1),(11,2),(12,0)] (by kernel_rfl) fun K=>?_|refine t_dwh (h:=fun K KL=>?_));intros;simp only [go_sem,kp50,geff,yes]))
   all_goals try exact nd
   all_goals (refine nl ?_;simp only [go_sem,finK])
   refine ⟨_,?_,?_,mob_bds hbd,hk⟩
   ·exact LeR.refl _
   ·exact stV_bd (by omega)
  ·skip
   refine ecR W3_ok (kp50) Try.func50 [.cell 4 56] (h:=fun KF=>?_)
   unfold W3
   repeat' (first
    |(with_reducible first|refine nx ?_|refine t_seq fun K=>?_|refine t_br (fun hc=>?_) fun hc=>?_|refine t_bx ?_|apply And.intro|intro vr)|exact kp_mobs|exact kp_mob4|exact kpd
    |((with_reducible first|refine ny ?_|refine t_kLF ?_ ?_|refine t_drawE (id:=11) (fun _=>true) [(0,1),(1,1),(2,1),(3,1),(4,1),(5,1),(6,1),(7,1),(8,2),(9,2),(10,1),(11,1),(12,1),(13,1),(14,2),(15,2),(16,1),(17,2),(18,0)] (by kernel_rfl) fun K=>?_|refine t_drawE (id:=13) (fun _=>true) [(0,1),(1,1),(2,1),(3,1),(4,1),(5,1),(6,1),(7,1),(8,2),(9,2),(10,1),(11,1),(12,1),(13,1),(14,2),(15,2),(16,1),(17,2),(18,0)] (by kernel_rfl) fun K=>?_|refine t_drawE (id:=20) (fun _=>true) [(0,1),(1,1),(2,1),(3,1),(4,1),(5,1),(6,1),(7,2),(8,2),(9,1),(10,0),(11,1)] (by kernel_rfl) fun K=>?_|refine t_drawE (id:=32) (fun _=>true) [(0,1),(1,1),(2,1),(3,1),(4,1),(5,1),(6,1),(7,2),(8,2),(9,2),(10,0)] (by kernel_rfl) fun K=>?_|refine t_drawE (id:=43) (fun _=>true) [(0,1),(1,1),(2,1),(3,1),(4,1),(5,1),(6,1),(7,1),(8,2),(9,2),(10,1),(11,2),(12,0)] (by kernel_rfl) fun K=>?_|refine t_dwh (h:=fun K KL=>?_));intros;simp only [go_sem,kp50,geff,yes]))
   all_goals try exact nd
   all_goals (refine nl ?_;simp only [go_sem,finK])
   refine ⟨_,?_,?_,mob_bds hbd,hk⟩
   ·exact LeR.refl _
   ·exact stV_bd (by omega)
  ·have g:=hw rfl
   have hb:=xb (by omega)
   refine ecR W3_ok (kp50) Try.func50 [.cell 4 56] (h:=fun KF=>?_)
   unfold W3
   repeat' (first
    |(with_reducible first|refine nx ?_|refine t_seq fun K=>?_|refine t_br (fun hc=>?_) fun hc=>?_|refine t_bx ?_|apply And.intro|intro vr)|exact kp_mobs|exact kp_mob4|exact kpd
    |((with_reducible first|refine ny ?_|refine t_kLF ?_ ?_|refine t_drawE (id:=11) (fun _=>true) [(0,1),(1,1),(2,1),(3,1),(4,1),(5,1),(6,1),(7,1),(8,2),(9,2),(10,1),(11,1),(12,1),(13,1),(14,2),(15,2),(16,1),(17,2),(18,0)] (by kernel_rfl) fun K=>?_|refine t_drawE (id:=13) (fun _=>true) [(0,1),(1,1),(2,1),(3,1),(4,1),(5,1),(6,1),(7,1),(8,2),(9,2),(10,1),(11,1),(12,1),(13,1),(14,2),(15,2),(16,1),(17,2),(18,0)] (by kernel_rfl) fun K=>?_|refine t_drawE (id:=20) (fun _=>true) [(0,1),(1,1),(2,1),(3,1),(4,1),(5,1),(6,1),(7,2),(8,2),(9,1),(10,0),(11,1)] (by kernel_rfl) fun K=>?_|refine t_drawE (id:=32) (fun _=>true) [(0,1),(1,1),(2,1),(3,1),(4,1),(5,1),(6,1),(7,2),(8,2),(9,2),(10,0)] (by kernel_rfl) fun K=>?_|refine t_drawE (id:=43) (fun _=>true) [(0,1),(1,1),(2,1),(3,1),(4,1),(5,1),(6,1),(7,1),(8,2),(9,2),(10,1),(11,2),(12,0)] (by kernel_rfl) fun K=>?_|refine t_dwh (h:=fun K KL=>?_));intros;simp only [go_sem,kp50,geff,yes,gb]))
   all_goals try exact nd
   all_goals (refine nl ?_;simp only [go_sem,finK])
   refine ⟨_,?_,?_,mob_bds hbd,hk⟩
   ·exact LeR.refl _
   ·exact stV_bd (by omega)
  ·skip
   refine ecR W3_ok (kp50) Try.func50 [.cell 4 56] (h:=fun KF=>?_)
   unfold W3
   repeat' (first
    |(with_reducible first|refine nx ?_|refine t_seq fun K=>?_|refine t_br (fun hc=>?_) fun hc=>?_|refine t_bx ?_|apply And.intro|intro vr)|exact kp_mobs|exact kp_mob4|exact kpd
    |((with_reducible first|refine ny ?_|refine t_kLF ?_ ?_|refine t_drawE (id:=11) (fun _=>true) [(0,1),(1,1),(2,1),(3,1),(4,1),(5,1),(6,1),(7,1),(8,2),(9,2),(10,1),(11,1),(12,1),(13,1),(14,2),(15,2),(16,1),(17,2),(18,0)] (by kernel_rfl) fun K=>?_|refine t_drawE (id:=13) (fun _=>true) [(0,1),(1,1),(2,1),(3,1),(4,1),(5,1),(6,1),(7,1),(8,2),(9,2),(10,1),(11,1),(12,1),(13,1),(14,2),(15,2),(16,1),(17,2),(18,0)] (by kernel_rfl) fun K=>?_|refine t_drawE (id:=20) (fun _=>true) [(0,1),(1,1),(2,1),(3,1),(4,1),(5,1),(6,1),(7,2),(8,2),(9,1),(10,0),(11,1)] (by kernel_rfl) fun K=>?_|refine t_drawE (id:=32) (fun _=>true) [(0,1),(1,1),(2,1),(3,1),(4,1),(5,1),(6,1),(7,2),(8,2),(9,2),(10,0)] (by kernel_rfl) fun K=>?_|refine t_drawE (id:=43) (fun _=>true) [(0,1),(1,1),(2,1),(3,1),(4,1),(5,1),(6,1),(7,1),(8,2),(9,2),(10,1),(11,2),(12,0)] (by kernel_rfl) fun K=>?_|refine t_dwh (h:=fun K KL=>?_));intros;simp only [go_sem,kp50,geff,yes]))
   all_goals try exact nd
   all_goals (refine nl ?_;simp only [go_sem,finK])
   refine ⟨_,?_,?_,mob_bds hbd,hk⟩
   ·exact LeR.refl _
   ·exact stV_bd (by omega)
end Go.Proofs.Ytnlimcijgpaegaa

namespace Go.Proofs.Ytnlimcijgpaegaa.Mx
open Go.Proofs.Ytnlimcijgpaegaa
open Go Go.Fw Bm
set_option maxRecDepth 20000
structure Sn (B:Prg) (S:List (List Rng)):Prop where
  len:0<S.length→S.length=B.ops.length
  bd:∀ l∈S,l.length≤1000000
def BlkX (B:Prg) (mt:List Int) (S:List (List Rng)) (n m:Nat) (cb:Int) (N:Nat):Prop:=∀ (i to:Int) (s:St) (pre ex:List AObj) (k:AV→List AObj→Prop),to - i≤N→Cl B mt i to→Gd n m cb s→
  (∀ s',Runs B mt S (.blk i to) s s'→Gd n m cb s'→k (stV pre.length s' S) (mob pre s'.regs s'.arena ex))→EC Try.prog 20 [bcV B,.sl false 1 (ints .i64 mt),.lit (.int .i64 i),.lit (.int .i64 to),stV pre.length s S] (mob pre s.regs s.arena ex) k
noncomputable def ecnX {B:Prg} {mt:List Int} {S:List (List Rng)} {n m:Nat} {cb:Int} {N:Nat} (h:BlkX B mt S n m cb N):ECon Try.prog where
  f:=20
  c:=fun args σ k=>∃ (i to:Int) (s:St) (pre ex:List AObj),args=[bcV B,.sl false 1 (ints .i64 mt),.lit (.int .i64 i),.lit (.int .i64 to),stV pre.length s S]∧σ=mob pre s.regs s.arena ex∧to - i≤N∧Cl B mt i to∧Gd n m cb s∧
   ∀ s',Runs B mt S (.blk i to) s s'→Gd n m cb s'→k (stV pre.length s' S) (mob pre s'.regs s'.arena ex)
  ok:=by
   rintro _ _ k ⟨i,to,s,pre,ex,rfl,rfl,h1,h2,h3,h4⟩
   exact h i to s pre ex k h1 h2 h3 h4
  fk:=fk20
theorem ecnX_f {B:Prg} {mt:List Int} {S:List (List Rng)} {n m:Nat} {cb:Int} {N:Nat} (h:BlkX B mt S n m cb N):(ecnX h).f=20:=rfl
theorem ecnX_i {B:Prg} {mt:List Int} {S:List (List Rng)} {n m:Nat} {cb:Int} {N:Nat} {h:BlkX B mt S n m cb N} (s:St) {i to:Int} {pre ex:List AObj} {σ:List AObj} {args:List AV} {k:AV→List AObj→Prop} (ha:args=[bcV B,.sl false 1 (ints .i64 mt),.lit (.int .i64 i),.lit (.int .i64 to),stV pre.length s S]) (hσ:σ=mob pre s.regs s.arena ex)
    (h1:to - i≤N) (h2:Cl B mt i to) (h3:Gd n m cb s) (h4:∀ s',Runs B mt S (.blk i to) s s'→Gd n m cb s'→k (stV pre.length s' S) (mob pre s'.regs s'.arena ex)):(ecnX h).c args σ k:=
  ⟨i,to,s,pre,ex,ha,hσ,h1,h2,h3,h4⟩
noncomputable def ecnS (n m:Nat) (S:List (List Rng)):ECon Try.prog where
  f:=50
  c:=fun args σ k=>∃ (x:Ins) (s:St) (cb:Int) (pre ex:List AObj),args=[opV x,stV pre.length s S]∧σ=mob pre s.regs s.arena ex∧Regs x n∧Gd n m cb s∧cb≤1000000∧n≤1000000∧m≤1048576∧(∀ r∈readsS x,0≤r∧r<n)∧
   k (stV pre.length (simpleS x s) S) (mob pre (simpleS x s).regs (simpleS x s).arena ex)
  ok:=by
   rintro _ _ k ⟨x,s,cb,pre,ex,rfl,rfl,h1,h2,h3,h4,h5,h6,h7⟩
   exact simple_ec h1 h2 h3 h4 h5 h6 h7
  fk:=fk50
theorem ecnS_f {n m:Nat} {S:List (List Rng)}:(ecnS n m S).f=50:=rfl
theorem ecnS_i {n m:Nat} {S:List (List Rng)} (x:Ins) (s:St) (cb:Int) (s2:St) (hs2:simpleS x s=s2) {pre ex:List AObj} {σ:List AObj} {args:List AV} {k:AV→List AObj→Prop} (ha:args=[opV x,stV pre.length s S]) (hσ:σ=mob pre s.regs s.arena ex) (h1:Regs x n) (h2:Gd n m cb s) (h3:cb≤1000000) (h4:n≤1000000) (h5:m≤1048576)
    (h6:∀ r∈readsS x,0≤r∧r<n) (h7:k (stV pre.length s2 S) (mob pre s2.regs s2.arena ex)):(ecnS n m S).c args σ k:=by
  subst hs2
  exact ⟨x,s,cb,pre,ex,ha,hσ,h1,h2,h3,h4,h5,h6,h7⟩
attribute [go_sem] ecnX_f ecnS_f
noncomputable def con47:PCon Try.prog where
  f:=47
  c:=fun
   |[.agg [.sl _ 1 _,.sl _ 1 _,.lit (.int .i64 _),.lit (.int .i64 _),.lit (.int .i64 _),.lit (.int .i64 _),.sl _ 1 _,.lit (.int .i64 l),.lit (.bool f),.sl _ 1 _,.lit (.bool o),.lit (.int .i64 _)]]=>some (True,.lit (.bool (decide (l≤0)||f||o)))
   |_=>none
  ok:=by
   intro args p r hc hp
   split at hc
   ·cases hc;exact stopped_pc
   ·cases hc
  fk:=fk47
theorem con47_f:con47.f=47:=rfl
theorem con47_c {b1 b2 b3 b4:Bool} {R A V S:List AV} {c1 c2 c3 c4 l a:Int} {f o:Bool}:con47.c [.agg [.sl b1 1 R,.sl b2 1 A,.lit (.int .i64 c1),.lit (.int .i64 c2),.lit (.int .i64 c3),.lit (.int .i64 c4),.sl b3 1 V,.lit (.int .i64 l),.lit (.bool f),.sl b4 1 S,.lit (.bool o),.lit (.int .i64 a)]]=
    some (True,.lit (.bool (decide (l≤0)||f||o))):=rfl
noncomputable def con49:PCon Try.prog where
  f:=49
  c:=fun
   |[xB,xmt,.lit (.int .i64 i)]=>match bcOf xB,slK .i64 xmt with|some B,some mt=>some ((0≤i∧i<mt.length∧mt.length≤1000000∧B.ops.length≤1000000∧0≤gt mt i∧gt mt i<mt.length∧gt mt i<B.ops.length),.lit (.int .i64 (endS B mt i)))|_,_=>none
   |_=>none
  ok:=by
   intro args p r hc hp
   split at hc
   ·split at hc
    ·rename_i hB hmt
     cases hc
     exact PC.weak (endS_pc hp) ⟨bcOf_le hB,slK_le hmt,LeA.refl _,trivial⟩
    ·cases hc
   ·cases hc
  fk:=fk49
theorem con49_f:con49.f=49:=rfl
theorem con49_c {xB:AV} {xmt:AV} {i:Int}:con49.c [xB,xmt,.lit (.int .i64 i)]=match bcOf xB,slK .i64 xmt with|some B,some mt=>some ((0≤i∧i<mt.length∧mt.length≤1000000∧B.ops.length≤1000000∧0≤gt mt i∧gt mt i<mt.length∧gt mt i<B.ops.length),.lit (.int .i64 (endS B mt i)))|_,_=>none:=rfl
attribute [go_sem] con47_f con47_c con48_f con48_c con49_f con49_c
theorem BdS.app {n n':Nat} {σ l:List AObj} (h:BdS n σ) (hn:n≤n') (hl:l.all (lowO n')=true):BdS n' (σ++l):=fun o t cs ho=>by
  rcases Nat.lt_or_ge o σ.length with c|c
  ·rw [List.getElem?_append_left c] at ho
   intro i hi G v hG hr
   have:=h o t cs ho i hi G v (by omega) hr
   exact this.mono ⟨CLe.refl _,hn,fun _ _=>Nat.le_refl _,fun _ _ _=>rfl,fun _ _ _=>rfl⟩
  ·rw [List.getElem?_append_right c] at ho
   exact bds_low hl (o - σ.length) t cs ho
end Go.Proofs.Ytnlimcijgpaegaa.Mx
