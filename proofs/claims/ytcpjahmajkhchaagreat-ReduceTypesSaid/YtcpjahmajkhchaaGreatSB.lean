import Derived.Test.YtcpjahmajkhchaaGreatSA
import Derived.Test.YtcpjahmajkhchaaGreatFwB
import Derived.Lib.AppendZeros
import Derived.Lib.Walk
import Derived.Lib.Slices
import Derived.RangeFuncKeeps
import Derived.RangeFuncBound
import Derived.RangeFuncFrom

set_option linter.all false

namespace Go.Proofs.YtcpjahmajkhchaaGreat.El
open Go.Proofs.YtcpjahmajkhchaaGreat
open Go Go.Fw
set_option maxRecDepth 20000
noncomputable def E6:Env:=envOf (P:=Tryz.prog) zer (fun _=>false) (fun _=>false) [con37,con86,con87] []
theorem E6_ok:EnvOk Tryz.prog E6:=envOk zer_ok
set_option maxHeartbeats 1000000 in
theorem v27_7 {a:Int} (h0:el a):PC Tryz.prog 66 [.lit (.string (⟨#[110,101,103]⟩:ByteArray)),.lit (.int .i64 a)] (.lit (.int .i64 (vS 7 [a]))):=by
  unfold el at h0
  refine pcO E6_ok (fun _=>[0,1,4,5,6,11,14,19,28]) Tryz.func66 (h:=fun KF=>?_)
  unfold E6
  repeat' (first
   |(with_reducible first|refine nx ?_|refine t_seq fun K=>?_|refine t_br (fun hc=>?_) fun hc=>?_|refine t_bx ?_|apply And.intro|intro vr)
   |((with_reducible first|refine ny ?_|refine t_dwh (h:=fun K KL=>?_));intros;simp only [go_sem,geff,con37_f,con86_f,con87_f,con37_c,con86_c,con87_c]))
  all_goals try exact om
  refine end_ret rfl ?_
  simp only [fin,go_sem,vS]
  exact LeA.refl _
set_option maxHeartbeats 1000000 in
theorem v27_8 {a:Int} (h0:el a):PC Tryz.prog 66 [.lit (.string (⟨#[97,98,115]⟩:ByteArray)),.lit (.int .i64 a)] (.lit (.int .i64 (vS 8 [a]))):=by
  simp only [vS]
  by_cases hb:a<0
  ·have g1:decide (a<0)=true:=decide_eq_true hb
   have e:maxI a (0 - a)=0 - a:=by unfold maxI;split<;>omega
   rw [e]
   unfold el at h0
   refine pcO E6_ok (fun _=>[0,1,4,5,6,11,14,19,28]) Tryz.func66 (h:=fun KF=>?_)
   unfold E6
   repeat' (first
    |(with_reducible first|refine nx ?_|refine t_seq fun K=>?_|refine t_br (fun hc=>?_) fun hc=>?_|refine t_bx ?_|apply And.intro|intro vr)
    |((with_reducible first|refine ny ?_|refine t_dwh (h:=fun K KL=>?_));intros;simp only [go_sem,geff,con37_f,con86_f,con87_f,con37_c,con86_c,con87_c,g1]))
   all_goals try exact om
   refine end_ret rfl ?_
   simp only [fin,go_sem,vS]
   exact LeA.refl _
  ·have g1:decide (a<0)=false:=decide_eq_false hb
   have e:maxI a (0 - a)=a:=by unfold maxI;split<;>omega
   rw [e,w32_id h0]
   refine pcO E6_ok (fun _=>[0,1,4,5,6,11,14,19,28]) Tryz.func66 (h:=fun KF=>?_)
   unfold E6
   repeat' (first
    |(with_reducible first|refine nx ?_|refine t_seq fun K=>?_|refine t_br (fun hc=>?_) fun hc=>?_|refine t_bx ?_|apply And.intro|intro vr)
    |((with_reducible first|refine ny ?_|refine t_dwh (h:=fun K KL=>?_));intros;simp only [go_sem,geff,con37_f,con86_f,con87_f,con37_c,con86_c,con87_c,g1]))
   all_goals try exact om
   refine end_ret rfl ?_
   simp only [fin,go_sem,vS]
   exact LeA.refl _
set_option maxHeartbeats 1000000 in
theorem v27_9 {a:Int} (h0:el a):PC Tryz.prog 66 [.lit (.string (⟨#[115,105,103,110]⟩:ByteArray)),.lit (.int .i64 a)] (.lit (.int .i64 (vS 9 [a]))):=by
  have h0': -1≤tru (decide (a>0)) - tru (decide (a<0))∧tru (decide (a>0)) - tru (decide (a<0))≤1:=by unfold tru;split<;>split<;>omega
  have e:tru (decide (a>0)) - tru (decide (a<0))=sgn a:=by unfold tru sgn;simp only [decide_eq_true_eq];split<;>split<;>omega
  refine pcO E6_ok (fun _=>[0,1,4,5,6,11,14,19,28]) Tryz.func66 (h:=fun KF=>?_)
  unfold E6
  repeat' (first
   |(with_reducible first|refine nx ?_|refine t_seq fun K=>?_|refine t_br (fun hc=>?_) fun hc=>?_|refine t_bx ?_|apply And.intro|intro vr)
   |((with_reducible first|refine ny ?_|refine t_dwh (h:=fun K KL=>?_));intros;simp only [go_sem,geff,con37_f,con86_f,con87_f,con37_c,con86_c,con87_c]))
  all_goals try exact om
  refine end_ret rfl ?_
  simp only [fin,go_sem,vS,e]
  exact LeA.refl _
set_option maxHeartbeats 1000000 in
theorem v27_19 {a:Int} (h0:a=0∨a=1):PC Tryz.prog 66 [.lit (.string (⟨#[110,111,116]⟩:ByteArray)),.lit (.int .i64 a)] (.lit (.int .i64 (vS 19 [a]))):=by
  have h0': -1≤a∧a≤1:=by omega
  refine pcO E6_ok (fun _=>[0,1,4,5,6,11,14,19,28]) Tryz.func66 (h:=fun KF=>?_)
  unfold E6
  repeat' (first
   |(with_reducible first|refine nx ?_|refine t_seq fun K=>?_|refine t_br (fun hc=>?_) fun hc=>?_|refine t_bx ?_|apply And.intro|intro vr)
   |((with_reducible first|refine ny ?_|refine t_dwh (h:=fun K KL=>?_));intros;simp only [go_sem,geff,con37_f,con86_f,con87_f,con37_c,con86_c,con87_c]))
  all_goals try exact om
  refine end_ret rfl ?_
  simp only [fin,go_sem,vS]
  exact LeA.refl _
set_option maxHeartbeats 1000000 in
theorem v27_21 {a:Int} (h0:a=0∨a=1):PC Tryz.prog 66 [.lit (.string (⟨#[116,111,105,110,116]⟩:ByteArray)),.lit (.int .i64 a)] (.lit (.int .i64 (vS 21 [a]))):=by
  refine pcO E6_ok (fun _=>[0,1,4,5,6,11,14,19,28]) Tryz.func66 (h:=fun KF=>?_)
  unfold E6
  repeat' (first
   |(with_reducible first|refine nx ?_|refine t_seq fun K=>?_|refine t_br (fun hc=>?_) fun hc=>?_|refine t_bx ?_|apply And.intro|intro vr)
   |((with_reducible first|refine ny ?_|refine t_dwh (h:=fun K KL=>?_));intros;simp only [go_sem,geff,con37_f,con86_f,con87_f,con37_c,con86_c,con87_c]))
  all_goals try exact om
  refine end_ret rfl ?_
  simp only [fin,go_sem,vS]
  exact LeA.refl _
set_option maxHeartbeats 1000000 in
theorem v28_0 {a b:Int} (h0:el a) (h1:el b):PC Tryz.prog 67 [.lit (.string (⟨#[97,100,100]⟩:ByteArray)),.lit (.int .i64 a),.lit (.int .i64 b)] (.lit (.int .i64 (vS 0 [a,b]))):=by
  unfold el at h0 h1
  refine pcO E6_ok (fun _=>[0,1,2,6,7,8,14,20,26,32,35,43,48,53,59,65,71,77,83,90]) Tryz.func67 (h:=fun KF=>?_)
  unfold E6
  repeat' (first
   |(with_reducible first|refine nx ?_|refine t_seq fun K=>?_|refine t_br (fun hc=>?_) fun hc=>?_|refine t_bx ?_|apply And.intro|intro vr)
   |((with_reducible first|refine ny ?_|refine t_dwh (h:=fun K KL=>?_));intros;simp only [go_sem,geff,con37_f,con86_f,con87_f,con37_c,con86_c,con87_c]))
  all_goals try exact om
  refine end_ret rfl ?_
  simp only [fin,go_sem,vS]
  exact LeA.refl _
set_option maxHeartbeats 1000000 in
theorem v28_1 {a b:Int} (h0:el a) (h1:el b):PC Tryz.prog 67 [.lit (.string (⟨#[115,117,98]⟩:ByteArray)),.lit (.int .i64 a),.lit (.int .i64 b)] (.lit (.int .i64 (vS 1 [a,b]))):=by
  unfold el at h0 h1
  refine pcO E6_ok (fun _=>[0,1,2,6,7,8,14,20,26,32,35,43,48,53,59,65,71,77,83,90]) Tryz.func67 (h:=fun KF=>?_)
  unfold E6
  repeat' (first
   |(with_reducible first|refine nx ?_|refine t_seq fun K=>?_|refine t_br (fun hc=>?_) fun hc=>?_|refine t_bx ?_|apply And.intro|intro vr)
   |((with_reducible first|refine ny ?_|refine t_dwh (h:=fun K KL=>?_));intros;simp only [go_sem,geff,con37_f,con86_f,con87_f,con37_c,con86_c,con87_c]))
  all_goals try exact om
  refine end_ret rfl ?_
  simp only [fin,go_sem,vS]
  exact LeA.refl _
set_option maxHeartbeats 1000000 in
theorem v28_2 {a b:Int} (h0:el a) (h1:el b):PC Tryz.prog 67 [.lit (.string (⟨#[109,117,108]⟩:ByteArray)),.lit (.int .i64 a),.lit (.int .i64 b)] (.lit (.int .i64 (vS 2 [a,b]))):=by
  have hm:=mul_bd h0 h1
  refine pcO E6_ok (fun _=>[0,1,2,6,7,8,14,20,26,32,35,43,48,53,59,65,71,77,83,90]) Tryz.func67 (h:=fun KF=>?_)
  unfold E6
  repeat' (first
   |(with_reducible first|refine nx ?_|refine t_seq fun K=>?_|refine t_br (fun hc=>?_) fun hc=>?_|refine t_bx ?_|apply And.intro|intro vr)
   |((with_reducible first|refine ny ?_|refine t_dwh (h:=fun K KL=>?_));intros;simp only [go_sem,geff,con37_f,con86_f,con87_f,con37_c,con86_c,con87_c]))
  all_goals try exact om
  refine end_ret rfl ?_
  simp only [fin,go_sem,vS]
  exact LeA.refl _
set_option maxHeartbeats 1000000 in
theorem v28_3 {a b:Int} (h0:el a) (h1:el b):PC Tryz.prog 67 [.lit (.string (⟨#[100,105,118]⟩:ByteArray)),.lit (.int .i64 a),.lit (.int .i64 b)] (.lit (.int .i64 (vS 3 [a,b]))):=by
  refine pcO E6_ok (fun _=>[0,1,2,6,7,8,14,20,26,32,35,43,48,53,59,65,71,77,83,90]) Tryz.func67 (h:=fun KF=>?_)
  unfold E6
  repeat' (first
   |(with_reducible first|refine nx ?_|refine t_seq fun K=>?_|refine t_br (fun hc=>?_) fun hc=>?_|refine t_bx ?_|apply And.intro|intro vr)
   |((with_reducible first|refine ny ?_|refine t_dwh (h:=fun K KL=>?_));intros;simp only [go_sem,geff,con37_f,con86_f,con87_f,con37_c,con86_c,con87_c,eq_true h0]))
  all_goals try exact om
  refine end_ret rfl ?_
  simp only [fin,go_sem,vS]
  exact LeA.refl _
set_option maxHeartbeats 1000000 in
theorem v28_4 {a b:Int} (h0:el a) (h1:el b):PC Tryz.prog 67 [.lit (.string (⟨#[109,111,100]⟩:ByteArray)),.lit (.int .i64 a),.lit (.int .i64 b)] (.lit (.int .i64 (vS 4 [a,b]))):=by
  simp only [vS]
  by_cases hb:b=0
  ·have g1:(b==0)=true:=by rw [beq_iff_eq];exact hb
   rw [if_pos hb]
   refine pcO E6_ok (fun _=>[0,1,2,6,7,8,14,20,26,32,35,43,48,53,59,65,71,77,83,90]) Tryz.func67 (h:=fun KF=>?_)
   unfold E6
   repeat' (first
    |(with_reducible first|refine nx ?_|refine t_seq fun K=>?_|refine t_br (fun hc=>?_) fun hc=>?_|refine t_bx ?_|apply And.intro|intro vr)
    |((with_reducible first|refine ny ?_|refine t_dwh (h:=fun K KL=>?_));intros;simp only [go_sem,geff,con37_f,con86_f,con87_f,con37_c,con86_c,con87_c,g1]))
   all_goals try exact om
   refine end_ret rfl ?_
   simp only [fin,go_sem,vS]
   exact LeA.refl _
  ·have g1:(b==0)=false:=by rw [beq_eq_false_iff_ne];exact hb
   rw [if_neg hb]
   have hm:=bflo_bd h0 h1 hb
   have hl:=flo_bd (b:=b) h0
   have h0':=h0
   have h1':=h1
   unfold el at h0' h1'
   refine pcO E6_ok (fun _=>[0,1,2,6,7,8,14,20,26,32,35,43,48,53,59,65,71,77,83,90]) Tryz.func67 (h:=fun KF=>?_)
   unfold E6
   repeat' (first
    |(with_reducible first|refine nx ?_|refine t_seq fun K=>?_|refine t_br (fun hc=>?_) fun hc=>?_|refine t_bx ?_|apply And.intro|intro vr)
    |((with_reducible first|refine ny ?_|refine t_dwh (h:=fun K KL=>?_));intros;simp only [go_sem,geff,con37_f,con86_f,con87_f,con37_c,con86_c,con87_c,g1,eq_true h0]))
   all_goals try exact om
   refine end_ret rfl ?_
   simp only [fin,go_sem,vS]
   exact LeA.refl _
set_option maxHeartbeats 1000000 in
theorem v28_5 {a b:Int} (h0:el a) (h1:el b):PC Tryz.prog 67 [.lit (.string (⟨#[109,105,110]⟩:ByteArray)),.lit (.int .i64 a),.lit (.int .i64 b)] (.lit (.int .i64 (vS 5 [a,b]))):=by
  refine pcO E6_ok (fun _=>[0,1,2,6,7,8,14,20,26,32,35,43,48,53,59,65,71,77,83,90]) Tryz.func67 (h:=fun KF=>?_)
  unfold E6
  repeat' (first
   |(with_reducible first|refine nx ?_|refine t_seq fun K=>?_|refine t_br (fun hc=>?_) fun hc=>?_|refine t_bx ?_|apply And.intro|intro vr)
   |((with_reducible first|refine ny ?_|refine t_dwh (h:=fun K KL=>?_));intros;simp only [go_sem,geff,con37_f,con86_f,con87_f,con37_c,con86_c,con87_c]))
  all_goals try exact om
  refine end_ret rfl ?_
  simp only [fin,go_sem,vS]
  exact LeA.refl _
set_option maxHeartbeats 1000000 in
theorem v28_6 {a b:Int} (h0:el a) (h1:el b):PC Tryz.prog 67 [.lit (.string (⟨#[109,97,120]⟩:ByteArray)),.lit (.int .i64 a),.lit (.int .i64 b)] (.lit (.int .i64 (vS 6 [a,b]))):=by
  refine pcO E6_ok (fun _=>[0,1,2,6,7,8,14,20,26,32,35,43,48,53,59,65,71,77,83,90]) Tryz.func67 (h:=fun KF=>?_)
  unfold E6
  repeat' (first
   |(with_reducible first|refine nx ?_|refine t_seq fun K=>?_|refine t_br (fun hc=>?_) fun hc=>?_|refine t_bx ?_|apply And.intro|intro vr)
   |((with_reducible first|refine ny ?_|refine t_dwh (h:=fun K KL=>?_));intros;simp only [go_sem,geff,con37_f,con86_f,con87_f,con37_c,con86_c,con87_c]))
  all_goals try exact om
  refine end_ret rfl ?_
  simp only [fin,go_sem,vS]
  exact LeA.refl _
set_option maxHeartbeats 1000000 in
theorem v28_10 {a b:Int} (h0:el a) (h1:el b):PC Tryz.prog 67 [.lit (.string (⟨#[108,116]⟩:ByteArray)),.lit (.int .i64 a),.lit (.int .i64 b)] (.lit (.int .i64 (vS 10 [a,b]))):=by
  refine pcO E6_ok (fun _=>[0,1,2,6,7,8,14,20,26,32,35,43,48,53,59,65,71,77,83,90]) Tryz.func67 (h:=fun KF=>?_)
  unfold E6
  repeat' (first
   |(with_reducible first|refine nx ?_|refine t_seq fun K=>?_|refine t_br (fun hc=>?_) fun hc=>?_|refine t_bx ?_|apply And.intro|intro vr)
   |((with_reducible first|refine ny ?_|refine t_dwh (h:=fun K KL=>?_));intros;simp only [go_sem,geff,con37_f,con86_f,con87_f,con37_c,con86_c,con87_c]))
  all_goals try exact om
  refine end_ret rfl ?_
  simp only [fin,go_sem,vS]
  exact LeA.refl _
set_option maxHeartbeats 1000000 in
theorem v28_11 {a b:Int} (h0:el a) (h1:el b):PC Tryz.prog 67 [.lit (.string (⟨#[108,101]⟩:ByteArray)),.lit (.int .i64 a),.lit (.int .i64 b)] (.lit (.int .i64 (vS 11 [a,b]))):=by
  refine pcO E6_ok (fun _=>[0,1,2,6,7,8,14,20,26,32,35,43,48,53,59,65,71,77,83,90]) Tryz.func67 (h:=fun KF=>?_)
  unfold E6
  repeat' (first
   |(with_reducible first|refine nx ?_|refine t_seq fun K=>?_|refine t_br (fun hc=>?_) fun hc=>?_|refine t_bx ?_|apply And.intro|intro vr)
   |((with_reducible first|refine ny ?_|refine t_dwh (h:=fun K KL=>?_));intros;simp only [go_sem,geff,con37_f,con86_f,con87_f,con37_c,con86_c,con87_c]))
  all_goals try exact om
  refine end_ret rfl ?_
  simp only [fin,go_sem,vS]
  exact LeA.refl _
set_option maxHeartbeats 1000000 in
theorem v28_12 {a b:Int} (h0:el a) (h1:el b):PC Tryz.prog 67 [.lit (.string (⟨#[103,116]⟩:ByteArray)),.lit (.int .i64 a),.lit (.int .i64 b)] (.lit (.int .i64 (vS 12 [a,b]))):=by
  refine pcO E6_ok (fun _=>[0,1,2,6,7,8,14,20,26,32,35,43,48,53,59,65,71,77,83,90]) Tryz.func67 (h:=fun KF=>?_)
  unfold E6
  repeat' (first
   |(with_reducible first|refine nx ?_|refine t_seq fun K=>?_|refine t_br (fun hc=>?_) fun hc=>?_|refine t_bx ?_|apply And.intro|intro vr)
   |((with_reducible first|refine ny ?_|refine t_dwh (h:=fun K KL=>?_));intros;simp only [go_sem,geff,con37_f,con86_f,con87_f,con37_c,con86_c,con87_c]))
  all_goals try exact om
  refine end_ret rfl ?_
  simp only [fin,go_sem,vS]
  exact LeA.refl _
set_option maxHeartbeats 1000000 in
theorem v28_13 {a b:Int} (h0:el a) (h1:el b):PC Tryz.prog 67 [.lit (.string (⟨#[103,101]⟩:ByteArray)),.lit (.int .i64 a),.lit (.int .i64 b)] (.lit (.int .i64 (vS 13 [a,b]))):=by
  refine pcO E6_ok (fun _=>[0,1,2,6,7,8,14,20,26,32,35,43,48,53,59,65,71,77,83,90]) Tryz.func67 (h:=fun KF=>?_)
  unfold E6
  repeat' (first
   |(with_reducible first|refine nx ?_|refine t_seq fun K=>?_|refine t_br (fun hc=>?_) fun hc=>?_|refine t_bx ?_|apply And.intro|intro vr)
   |((with_reducible first|refine ny ?_|refine t_dwh (h:=fun K KL=>?_));intros;simp only [go_sem,geff,con37_f,con86_f,con87_f,con37_c,con86_c,con87_c]))
  all_goals try exact om
  refine end_ret rfl ?_
  simp only [fin,go_sem,vS]
  exact LeA.refl _
set_option maxHeartbeats 1000000 in
theorem v28_14 {a b:Int} (h0:el a) (h1:el b):PC Tryz.prog 67 [.lit (.string (⟨#[101,113]⟩:ByteArray)),.lit (.int .i64 a),.lit (.int .i64 b)] (.lit (.int .i64 (vS 14 [a,b]))):=by
  refine pcO E6_ok (fun _=>[0,1,2,6,7,8,14,20,26,32,35,43,48,53,59,65,71,77,83,90]) Tryz.func67 (h:=fun KF=>?_)
  unfold E6
  repeat' (first
   |(with_reducible first|refine nx ?_|refine t_seq fun K=>?_|refine t_br (fun hc=>?_) fun hc=>?_|refine t_bx ?_|apply And.intro|intro vr)
   |((with_reducible first|refine ny ?_|refine t_dwh (h:=fun K KL=>?_));intros;simp only [go_sem,geff,con37_f,con86_f,con87_f,con37_c,con86_c,con87_c]))
  all_goals try exact om
  refine end_ret rfl ?_
  simp only [fin,go_sem,vS]
  exact LeA.refl _
set_option maxHeartbeats 1000000 in
theorem v28_15 {a b:Int} (h0:el a) (h1:el b):PC Tryz.prog 67 [.lit (.string (⟨#[110,101]⟩:ByteArray)),.lit (.int .i64 a),.lit (.int .i64 b)] (.lit (.int .i64 (vS 15 [a,b]))):=by
  refine pcO E6_ok (fun _=>[0,1,2,6,7,8,14,20,26,32,35,43,48,53,59,65,71,77,83,90]) Tryz.func67 (h:=fun KF=>?_)
  unfold E6
  repeat' (first
   |(with_reducible first|refine nx ?_|refine t_seq fun K=>?_|refine t_br (fun hc=>?_) fun hc=>?_|refine t_bx ?_|apply And.intro|intro vr)
   |((with_reducible first|refine ny ?_|refine t_dwh (h:=fun K KL=>?_));intros;simp only [go_sem,geff,con37_f,con86_f,con87_f,con37_c,con86_c,con87_c]))
  all_goals try exact om
  refine end_ret rfl ?_
  simp only [fin,go_sem,vS]
  exact LeA.refl _
set_option maxHeartbeats 1000000 in
theorem v28_16 {a b:Int} (h0:a=0∨a=1) (h1:b=0∨b=1):PC Tryz.prog 67 [.lit (.string (⟨#[97,110,100]⟩:ByteArray)),.lit (.int .i64 a),.lit (.int .i64 b)] (.lit (.int .i64 (vS 16 [a,b]))):=by
  rcases h0 with rfl|rfl<;>rcases h1 with rfl|rfl
  ·skip
   refine pcO E6_ok (fun _=>[0,1,2,6,7,8,14,20,26,32,35,43,48,53,59,65,71,77,83,90]) Tryz.func67 (h:=fun KF=>?_)
   unfold E6
   repeat' (first
    |(with_reducible first|refine nx ?_|refine t_seq fun K=>?_|refine t_br (fun hc=>?_) fun hc=>?_|refine t_bx ?_|apply And.intro|intro vr)
    |((with_reducible first|refine ny ?_|refine t_dwh (h:=fun K KL=>?_));intros;simp only [go_sem,geff,con37_f,con86_f,con87_f,con37_c,con86_c,con87_c]))
   all_goals try exact om
   refine end_ret rfl ?_
   simp only [fin,go_sem,vS]
   exact LeA.refl _
  ·skip
   refine pcO E6_ok (fun _=>[0,1,2,6,7,8,14,20,26,32,35,43,48,53,59,65,71,77,83,90]) Tryz.func67 (h:=fun KF=>?_)
   unfold E6
   repeat' (first
    |(with_reducible first|refine nx ?_|refine t_seq fun K=>?_|refine t_br (fun hc=>?_) fun hc=>?_|refine t_bx ?_|apply And.intro|intro vr)
    |((with_reducible first|refine ny ?_|refine t_dwh (h:=fun K KL=>?_));intros;simp only [go_sem,geff,con37_f,con86_f,con87_f,con37_c,con86_c,con87_c]))
   all_goals try exact om
   refine end_ret rfl ?_
   simp only [fin,go_sem,vS]
   exact LeA.refl _
  ·skip
   refine pcO E6_ok (fun _=>[0,1,2,6,7,8,14,20,26,32,35,43,48,53,59,65,71,77,83,90]) Tryz.func67 (h:=fun KF=>?_)
   unfold E6
   repeat' (first
    |(with_reducible first|refine nx ?_|refine t_seq fun K=>?_|refine t_br (fun hc=>?_) fun hc=>?_|refine t_bx ?_|apply And.intro|intro vr)
    |((with_reducible first|refine ny ?_|refine t_dwh (h:=fun K KL=>?_));intros;simp only [go_sem,geff,con37_f,con86_f,con87_f,con37_c,con86_c,con87_c]))
   all_goals try exact om
   refine end_ret rfl ?_
   simp only [fin,go_sem,vS]
   exact LeA.refl _
  ·skip
   refine pcO E6_ok (fun _=>[0,1,2,6,7,8,14,20,26,32,35,43,48,53,59,65,71,77,83,90]) Tryz.func67 (h:=fun KF=>?_)
   unfold E6
   repeat' (first
    |(with_reducible first|refine nx ?_|refine t_seq fun K=>?_|refine t_br (fun hc=>?_) fun hc=>?_|refine t_bx ?_|apply And.intro|intro vr)
    |((with_reducible first|refine ny ?_|refine t_dwh (h:=fun K KL=>?_));intros;simp only [go_sem,geff,con37_f,con86_f,con87_f,con37_c,con86_c,con87_c]))
   all_goals try exact om
   refine end_ret rfl ?_
   simp only [fin,go_sem,vS]
   exact LeA.refl _
set_option maxHeartbeats 1000000 in
theorem v28_17 {a b:Int} (h0:a=0∨a=1) (h1:b=0∨b=1):PC Tryz.prog 67 [.lit (.string (⟨#[111,114]⟩:ByteArray)),.lit (.int .i64 a),.lit (.int .i64 b)] (.lit (.int .i64 (vS 17 [a,b]))):=by
  rcases h0 with rfl|rfl<;>rcases h1 with rfl|rfl
  ·skip
   refine pcO E6_ok (fun _=>[0,1,2,6,7,8,14,20,26,32,35,43,48,53,59,65,71,77,83,90]) Tryz.func67 (h:=fun KF=>?_)
   unfold E6
   repeat' (first
    |(with_reducible first|refine nx ?_|refine t_seq fun K=>?_|refine t_br (fun hc=>?_) fun hc=>?_|refine t_bx ?_|apply And.intro|intro vr)
    |((with_reducible first|refine ny ?_|refine t_dwh (h:=fun K KL=>?_));intros;simp only [go_sem,geff,con37_f,con86_f,con87_f,con37_c,con86_c,con87_c]))
   all_goals try exact om
   refine end_ret rfl ?_
   simp only [fin,go_sem,vS]
   exact LeA.refl _
  ·skip
   refine pcO E6_ok (fun _=>[0,1,2,6,7,8,14,20,26,32,35,43,48,53,59,65,71,77,83,90]) Tryz.func67 (h:=fun KF=>?_)
   unfold E6
   repeat' (first
    |(with_reducible first|refine nx ?_|refine t_seq fun K=>?_|refine t_br (fun hc=>?_) fun hc=>?_|refine t_bx ?_|apply And.intro|intro vr)
    |((with_reducible first|refine ny ?_|refine t_dwh (h:=fun K KL=>?_));intros;simp only [go_sem,geff,con37_f,con86_f,con87_f,con37_c,con86_c,con87_c]))
   all_goals try exact om
   refine end_ret rfl ?_
   simp only [fin,go_sem,vS]
   exact LeA.refl _
  ·skip
   refine pcO E6_ok (fun _=>[0,1,2,6,7,8,14,20,26,32,35,43,48,53,59,65,71,77,83,90]) Tryz.func67 (h:=fun KF=>?_)
   unfold E6
   repeat' (first
    |(with_reducible first|refine nx ?_|refine t_seq fun K=>?_|refine t_br (fun hc=>?_) fun hc=>?_|refine t_bx ?_|apply And.intro|intro vr)
    |((with_reducible first|refine ny ?_|refine t_dwh (h:=fun K KL=>?_));intros;simp only [go_sem,geff,con37_f,con86_f,con87_f,con37_c,con86_c,con87_c]))
   all_goals try exact om
   refine end_ret rfl ?_
   simp only [fin,go_sem,vS]
   exact LeA.refl _
  ·skip
   refine pcO E6_ok (fun _=>[0,1,2,6,7,8,14,20,26,32,35,43,48,53,59,65,71,77,83,90]) Tryz.func67 (h:=fun KF=>?_)
   unfold E6
   repeat' (first
    |(with_reducible first|refine nx ?_|refine t_seq fun K=>?_|refine t_br (fun hc=>?_) fun hc=>?_|refine t_bx ?_|apply And.intro|intro vr)
    |((with_reducible first|refine ny ?_|refine t_dwh (h:=fun K KL=>?_));intros;simp only [go_sem,geff,con37_f,con86_f,con87_f,con37_c,con86_c,con87_c]))
   all_goals try exact om
   refine end_ret rfl ?_
   simp only [fin,go_sem,vS]
   exact LeA.refl _
set_option maxHeartbeats 1000000 in
theorem v28_18 {a b:Int} (h0:a=0∨a=1) (h1:b=0∨b=1):PC Tryz.prog 67 [.lit (.string (⟨#[120,111,114]⟩:ByteArray)),.lit (.int .i64 a),.lit (.int .i64 b)] (.lit (.int .i64 (vS 18 [a,b]))):=by
  rcases h0 with rfl|rfl<;>rcases h1 with rfl|rfl
  ·skip
   refine pcO E6_ok (fun _=>[0,1,2,6,7,8,14,20,26,32,35,43,48,53,59,65,71,77,83,90]) Tryz.func67 (h:=fun KF=>?_)
   unfold E6
   repeat' (first
    |(with_reducible first|refine nx ?_|refine t_seq fun K=>?_|refine t_br (fun hc=>?_) fun hc=>?_|refine t_bx ?_|apply And.intro|intro vr)
    |((with_reducible first|refine ny ?_|refine t_dwh (h:=fun K KL=>?_));intros;simp only [go_sem,geff,con37_f,con86_f,con87_f,con37_c,con86_c,con87_c]))
   all_goals try exact om
   refine end_ret rfl ?_
   simp only [fin,go_sem,vS]
   exact LeA.refl _
  ·skip
   refine pcO E6_ok (fun _=>[0,1,2,6,7,8,14,20,26,32,35,43,48,53,59,65,71,77,83,90]) Tryz.func67 (h:=fun KF=>?_)
   unfold E6
   repeat' (first
    |(with_reducible first|refine nx ?_|refine t_seq fun K=>?_|refine t_br (fun hc=>?_) fun hc=>?_|refine t_bx ?_|apply And.intro|intro vr)
    |((with_reducible first|refine ny ?_|refine t_dwh (h:=fun K KL=>?_));intros;simp only [go_sem,geff,con37_f,con86_f,con87_f,con37_c,con86_c,con87_c]))
   all_goals try exact om
   refine end_ret rfl ?_
   simp only [fin,go_sem,vS]
   exact LeA.refl _
  ·skip
   refine pcO E6_ok (fun _=>[0,1,2,6,7,8,14,20,26,32,35,43,48,53,59,65,71,77,83,90]) Tryz.func67 (h:=fun KF=>?_)
   unfold E6
   repeat' (first
    |(with_reducible first|refine nx ?_|refine t_seq fun K=>?_|refine t_br (fun hc=>?_) fun hc=>?_|refine t_bx ?_|apply And.intro|intro vr)
    |((with_reducible first|refine ny ?_|refine t_dwh (h:=fun K KL=>?_));intros;simp only [go_sem,geff,con37_f,con86_f,con87_f,con37_c,con86_c,con87_c]))
   all_goals try exact om
   refine end_ret rfl ?_
   simp only [fin,go_sem,vS]
   exact LeA.refl _
  ·skip
   refine pcO E6_ok (fun _=>[0,1,2,6,7,8,14,20,26,32,35,43,48,53,59,65,71,77,83,90]) Tryz.func67 (h:=fun KF=>?_)
   unfold E6
   repeat' (first
    |(with_reducible first|refine nx ?_|refine t_seq fun K=>?_|refine t_br (fun hc=>?_) fun hc=>?_|refine t_bx ?_|apply And.intro|intro vr)
    |((with_reducible first|refine ny ?_|refine t_dwh (h:=fun K KL=>?_));intros;simp only [go_sem,geff,con37_f,con86_f,con87_f,con37_c,con86_c,con87_c]))
   all_goals try exact om
   refine end_ret rfl ?_
   simp only [fin,go_sem,vS]
   exact LeA.refl _
noncomputable def con66:PCon Tryz.prog where
  f:=66
  c:=fun
   |[.lit (.string op),.lit (.int .i64 a)]=>(rowIx op).map fun i=>(okL i [a],.lit (.int .i64 (vS i [a])))
   |_=>none
  ok:=by
   intro args p r hc hp
   split at hc
   ·rename_i op a
    rcases ix_cases op with ⟨i,hi,he,hx,_⟩|⟨hx,_⟩
    ·rw [hx] at hc
     cases hc
     subst he
     clear hx
     have:i=0∨i=1∨i=2∨i=3∨i=4∨i=5∨i=6∨i=7∨i=8∨i=9∨i=10∨i=11∨i=12∨i=13∨i=14∨i=15∨i=16∨i=17∨i=18∨i=19∨i=20∨i=21:=by omega
     rcases this with rfl|rfl|rfl|rfl|rfl|rfl|rfl|rfl|rfl|rfl|rfl|rfl|rfl|rfl|rfl|rfl|rfl|rfl|rfl|rfl|rfl|rfl
     ·exact absurd hp.1 (show ¬ 1=2 by omega)
     ·exact absurd hp.1 (show ¬ 1=2 by omega)
     ·exact absurd hp.1 (show ¬ 1=2 by omega)
     ·exact absurd hp.1 (show ¬ 1=2 by omega)
     ·exact absurd hp.1 (show ¬ 1=2 by omega)
     ·exact absurd hp.1 (show ¬ 1=2 by omega)
     ·exact absurd hp.1 (show ¬ 1=2 by omega)
     ·obtain ⟨a',e,h0⟩:=okL_7.1 hp;cases e;exact v27_7 h0
     ·obtain ⟨a',e,h0⟩:=okL_8.1 hp;cases e;exact v27_8 h0
     ·obtain ⟨a',e,h0⟩:=okL_9.1 hp;cases e;exact v27_9 h0
     ·exact absurd hp.1 (show ¬ 1=2 by omega)
     ·exact absurd hp.1 (show ¬ 1=2 by omega)
     ·exact absurd hp.1 (show ¬ 1=2 by omega)
     ·exact absurd hp.1 (show ¬ 1=2 by omega)
     ·exact absurd hp.1 (show ¬ 1=2 by omega)
     ·exact absurd hp.1 (show ¬ 1=2 by omega)
     ·exact absurd hp.1 (show ¬ 1=2 by omega)
     ·exact absurd hp.1 (show ¬ 1=2 by omega)
     ·exact absurd hp.1 (show ¬ 1=2 by omega)
     ·obtain ⟨a',e,h0⟩:=okL_19.1 hp;cases e;exact v27_19 h0
     ·exact absurd hp.1 (show ¬ 1=3 by omega)
     ·obtain ⟨a',e,h0⟩:=okL_21.1 hp;cases e;exact v27_21 h0
    ·rw [hx] at hc;cases hc
   ·cases hc
  fk:=fk66
theorem con66_f:con66.f=66:=rfl
theorem con66_c {op:ByteArray} {a:Int}:con66.c [.lit (.string op),.lit (.int .i64 a)]=(rowIx op).map fun i=>(okL i [a],.lit (.int .i64 (vS i [a]))):=rfl
noncomputable def con67:PCon Tryz.prog where
  f:=67
  c:=fun
   |[.lit (.string op),.lit (.int .i64 a),.lit (.int .i64 b)]=>(rowIx op).map fun i=>(okL i [a,b],.lit (.int .i64 (vS i [a,b])))
   |_=>none
  ok:=by
   intro args p r hc hp
   split at hc
   ·rename_i op a b
    rcases ix_cases op with ⟨i,hi,he,hx,_⟩|⟨hx,_⟩
    ·rw [hx] at hc
     cases hc
     subst he
     clear hx
     have:i=0∨i=1∨i=2∨i=3∨i=4∨i=5∨i=6∨i=7∨i=8∨i=9∨i=10∨i=11∨i=12∨i=13∨i=14∨i=15∨i=16∨i=17∨i=18∨i=19∨i=20∨i=21:=by omega
     rcases this with rfl|rfl|rfl|rfl|rfl|rfl|rfl|rfl|rfl|rfl|rfl|rfl|rfl|rfl|rfl|rfl|rfl|rfl|rfl|rfl|rfl|rfl
     ·obtain ⟨a',b',e,h0,h1⟩:=okL_0.1 hp;cases e;exact v28_0 h0 h1
     ·obtain ⟨a',b',e,h0,h1⟩:=okL_1.1 hp;cases e;exact v28_1 h0 h1
     ·obtain ⟨a',b',e,h0,h1⟩:=okL_2.1 hp;cases e;exact v28_2 h0 h1
     ·obtain ⟨a',b',e,h0,h1⟩:=okL_3.1 hp;cases e;exact v28_3 h0 h1
     ·obtain ⟨a',b',e,h0,h1⟩:=okL_4.1 hp;cases e;exact v28_4 h0 h1
     ·obtain ⟨a',b',e,h0,h1⟩:=okL_5.1 hp;cases e;exact v28_5 h0 h1
     ·obtain ⟨a',b',e,h0,h1⟩:=okL_6.1 hp;cases e;exact v28_6 h0 h1
     ·exact absurd hp.1 (show ¬ 2=1 by omega)
     ·exact absurd hp.1 (show ¬ 2=1 by omega)
     ·exact absurd hp.1 (show ¬ 2=1 by omega)
     ·obtain ⟨a',b',e,h0,h1⟩:=okL_10.1 hp;cases e;exact v28_10 h0 h1
     ·obtain ⟨a',b',e,h0,h1⟩:=okL_11.1 hp;cases e;exact v28_11 h0 h1
     ·obtain ⟨a',b',e,h0,h1⟩:=okL_12.1 hp;cases e;exact v28_12 h0 h1
     ·obtain ⟨a',b',e,h0,h1⟩:=okL_13.1 hp;cases e;exact v28_13 h0 h1
     ·obtain ⟨a',b',e,h0,h1⟩:=okL_14.1 hp;cases e;exact v28_14 h0 h1
     ·obtain ⟨a',b',e,h0,h1⟩:=okL_15.1 hp;cases e;exact v28_15 h0 h1
     ·obtain ⟨a',b',e,h0,h1⟩:=okL_16.1 hp;cases e;exact v28_16 h0 h1
     ·obtain ⟨a',b',e,h0,h1⟩:=okL_17.1 hp;cases e;exact v28_17 h0 h1
     ·obtain ⟨a',b',e,h0,h1⟩:=okL_18.1 hp;cases e;exact v28_18 h0 h1
     ·exact absurd hp.1 (show ¬ 2=1 by omega)
     ·exact absurd hp.1 (show ¬ 2=3 by omega)
     ·exact absurd hp.1 (show ¬ 2=1 by omega)
    ·rw [hx] at hc;cases hc
   ·cases hc
  fk:=fk67
theorem con67_f:con67.f=67:=rfl
theorem con67_c {op:ByteArray} {a b:Int}:con67.c [.lit (.string op),.lit (.int .i64 a),.lit (.int .i64 b)]=(rowIx op).map fun i=>(okL i [a,b],.lit (.int .i64 (vS i [a,b]))):=rfl
end Go.Proofs.YtcpjahmajkhchaaGreat.El

namespace Go.Proofs.YtcpjahmajkhchaaGreat.El
open Go.Proofs.YtcpjahmajkhchaaGreat
open Go Go.Fw
set_option maxRecDepth 20000
noncomputable def con65:PCon Tryz.prog where
  f:=65
  c:=fun
   |[.lit (.string op)]=>some (True,typesV (typesS op))
   |_=>none
  ok:=by
   intro args p r hc hp
   split at hc
   ·cases hc;exact types_pc
   ·cases hc
  fk:=fk65
theorem con65_f:con65.f=65:=rfl
theorem con65_c {op:ByteArray}:con65.c [.lit (.string op)]=some (True,typesV (typesS op)):=rfl
noncomputable def con44:PCon Tryz.prog where
  f:=44
  c:=fun
   |[.lit (.string op)]=>some (True,typesV (typesS op))
   |_=>none
  ok:=by
   intro args p r hc hp
   split at hc
   ·cases hc;exact rtypes_pc
   ·cases hc
  fk:=fk44
theorem con44_f:con44.f=44:=rfl
theorem con44_c {op:ByteArray}:con44.c [.lit (.string op)]=some (True,typesV (typesS op)):=rfl
theorem typesV_none:typesV none= .tup [.lit (.slice none 0 0),.lit (.string ⟨#[]⟩),.lit (.bool false)]:=rfl
theorem typesV_row (i:Nat):typesV (some (rowsL.getD i default))= .tup [.sl false 1 (strs (psN i)),.lit (.string (rowsL.getD i default).rs),.lit (.bool true)]:=rfl
def okB (i:Nat) (xs:List Int):Bool:=decide (xs.length=(psN i).length)&&okA (psN i) xs
theorem okB_iff {i:Nat} {xs:List Int}:okB i xs=true ↔ okL i xs:=by unfold okB okL;rw [Bool.and_eq_true,decide_eq_true_iff]
def applyS (op:ByteArray) (xs:List Int):Option Int:=(rowIx op).bind fun i=>if okB i xs=true then some (vS i xs) else none
def applyV (o:Option Int):AV:=match o with
  |some n=> .tup [.lit (.int .i64 n),.lit (.bool true)]
  |none=> .tup [.lit (.int .i64 0),.lit (.bool false)]
theorem okA_drop {ps:List ByteArray} {xs:List Int} {i:Nat} (h1:i<ps.length) (h2:i<xs.length):
    okA (ps.drop i) (xs.drop i)=(vld (elT (ps.getD i ByteArray.empty)) (xs.getD i 0)&&okA (ps.drop (i+1)) (xs.drop (i+1))):=by
  rw [getD_elem _ _ h1,getD_elem _ _ h2]
  conv=>lhs;rw [List.drop_eq_getElem_cons h1,List.drop_eq_getElem_cons h2]
  rfl
theorem psN_len:∀ i,i<22→(psN i).length≤3∧1≤(psN i).length∧((psN i).length=3→i=20):=by decide
theorem psN_el:∀ i,i<22→∀ p∈psN i,p=sInt∨p=sBool∨p=sA:=by
  intro i hi
  have:i=0∨i=1∨i=2∨i=3∨i=4∨i=5∨i=6∨i=7∨i=8∨i=9∨i=10∨i=11∨i=12∨i=13∨i=14∨i=15∨i=16∨i=17∨i=18∨i=19∨i=20∨i=21:=by omega
  rcases this with rfl|rfl|rfl|rfl|rfl|rfl|rfl|rfl|rfl|rfl|rfl|rfl|rfl|rfl|rfl|rfl|rfl|rfl|rfl|rfl|rfl|rfl
  all_goals (intro p hp;simp only [psN,rowsL,List.getD_cons_zero,List.getD_cons_succ,List.mem_cons,List.not_mem_nil,or_false] at hp;rcases hp with rfl|rfl|rfl)
  all_goals first|exact .inl rfl|exact .inr (.inl rfl)|exact .inr (.inr rfl)
noncomputable def E7:Env:=envOf (P:=Tryz.prog) zer (fun _=>false) (fun _=>false) [con40,con65,con68] []
theorem E7_ok:EnvOk Tryz.prog E7:=envOk zer_ok
set_option maxHeartbeats 2000000 in
theorem apply_pc {op:ByteArray} {xs:List Int}:PC Tryz.prog 41 [.lit (.string op),.sl false 1 (ints .i64 xs)] (applyV (applyS op xs)):=by
  rcases ix_cases op with ⟨i0,hi0, -,hx,ht⟩|⟨hx,ht⟩
  rotate_left
  ·have e:applyS op xs=none:=by unfold applyS;rw [hx];rfl
   rw [e]
   refine pcO E7_ok (fun _=>[0,1,4,5,6,8,9,10,11,26,27,28,29,30,39,43]) Tryz.func41 (h:=fun KF=>?_)
   unfold E7
   repeat' (first
    |(with_reducible first|refine nx ?_|refine t_seq fun K=>?_|refine t_br (fun hc=>?_) fun hc=>?_|refine t_bx ?_|apply And.intro|intro vr)
    |((with_reducible first|refine ny ?_|refine t_dwh (h:=fun K KL=>?_));intros;simp only [go_sem,geff,con40_f,con65_f,con68_f,con65_c,ht,typesV_none]))
   refine end_ret rfl ?_
   simp only [fin,go_sem,applyV]
   exact LeA.refl _
  have hl:=psN_len i0 hi0
  have hT:=typesV_row i0
  by_cases hn:xs.length=(psN i0).length
  rotate_left
  ·have e:applyS op xs=none:=by unfold applyS;rw [hx];simp [okB,hn]
   have g1:((xs.length:Int) !=((psN i0).length:Int))=true:=by rw [bne_iff_ne];omega
   rw [e]
   refine pcO E7_ok (fun _=>[0,1,4,5,6,8,9,10,11,26,27,28,29,30,39,43]) Tryz.func41 (h:=fun KF=>?_)
   unfold E7
   repeat' (first
    |(with_reducible first|refine nx ?_|refine t_seq fun K=>?_|refine t_br (fun hc=>?_) fun hc=>?_|refine t_bx ?_|apply And.intro|intro vr)
    |((with_reducible first|refine ny ?_|refine t_dwh (h:=fun K KL=>?_));intros;simp only [go_sem,geff,con40_f,con65_f,con68_f,con65_c,ht,hT,g1,pickB]))
   all_goals try exact om
   refine end_ret rfl ?_
   simp only [fin,go_sem,applyV]
   exact LeA.refl _
  have g1:((xs.length:Int) !=((psN i0).length:Int))=false:=by rw [bne_eq_false_iff_eq];omega
  have hR:applyS op xs=if okA (psN i0) xs=true then some (vS i0 xs) else none:=by
    unfold applyS
    rw [hx]
    simp [okB,hn]
  have hL:okA (psN i0) xs=true→okL i0 xs:=fun h=>⟨hn,h⟩
  rw [hR]
  clear hR
  generalize hps:psN i0=ps at*
  clear hps
  refine pcO E7_ok (fun _=>[0,1,4,5,6,8,9,10,11,26,27,28,29,30,39,43]) Tryz.func41 (h:=fun KF=>?_)
  unfold E7
  repeat' (first
   |(with_reducible first|refine nx ?_|refine t_seq fun K=>?_|refine t_br (fun hc=>?_) fun hc=>?_|refine t_bx ?_|apply And.intro|intro vr)
   |((with_reducible first|refine ny ?_|refine t_dwh (h:=fun K KL=>?_));intros;simp only [go_sem,geff,con40_f,con65_f,con68_f,con65_c,ht,hT,g1,pickB]))
  all_goals try exact om
  refine t_loop (ι:={i:Nat // i≤xs.length∧okA (ps.drop i) (xs.drop i)=okA ps xs}) (fun i=>⟨upd (upd (upd (upd (upd (upd topF 29 (.lit (.int .i64 i.1))) 28 (.lit (.int .i64 xs.length))) 27 (.sl false 1 (ints .i64 xs))) 6 (.sl false 1 (strs ps))) 1 (.sl false 1 (ints .i64 xs))) 0 (.lit (.string op)),[]⟩) (fun i=>xs.length - i.1) ⟨0,by omega,rfl⟩ ?_ ?_
  ·skip
   (refine Le.frame ?_;repeat' (first|exact leF_top _|(with_reducible refine leF_sl ?_ ?_)|(refine leF_upd (LeR.of_eq ?_) ?_)))<;>(try (simp only [go_sem];try rfl))
  rintro ⟨i,hi,hF⟩ K0
  rcases Nat.lt_or_ge i xs.length with hc|hc
  ·have g2:decide ((i:Int)<(xs.length:Int))=true:=decide_eq_true (by omega)
   have hc':i<ps.length:=by omega
   have e1:=ints_getD .i64 xs i hc
   have e2:=strs_getD ps i hc'
   rw [okA_drop hc' hc] at hF
   generalize ps.getD i ByteArray.empty=p at*
   generalize xs.getD i 0=x at*
   by_cases hA:eqS p ⟨#[65]⟩=true
   ·have hel:elT p=⟨#[105,110,116]⟩:=by unfold elT sA sInt;rw [if_pos hA]
    rw [hel] at hF
    cases hv:vld ⟨#[105,110,116]⟩ x with
    |true=>
     rw [hv,Bool.true_and] at hF
     repeat' (first
      |(with_reducible first|refine nx ?_|refine t_seq fun K=>?_|refine t_br (fun hc=>?_) fun hc=>?_|refine t_bx ?_|apply And.intro|intro vr)
      |((with_reducible first|refine ny ?_|refine t_dwh (h:=fun K KL=>?_));intros;simp only [go_sem,geff,g2,Int.toNat_natCast,e1,e2,hA,hv,con40_f,con65_f,con68_f,con40_c]))
     all_goals try exact om
     refine ⟨⟨i+1,by omega,hF⟩,by simp only;omega,?_⟩
     (refine Le.frame ?_;repeat' (first|exact leF_top _|(with_reducible refine leF_sl ?_ ?_)|(refine leF_upd (LeR.of_eq ?_) ?_)))<;>(try (simp only [go_sem];try rfl))
    |false=>
     rw [hv,Bool.false_and] at hF
     have hF2:okA ps xs=false:=hF.symm
     repeat' (first
      |(with_reducible first|refine nx ?_|refine t_seq fun K=>?_|refine t_br (fun hc=>?_) fun hc=>?_|refine t_bx ?_|apply And.intro|intro vr)
      |((with_reducible first|refine ny ?_|refine t_dwh (h:=fun K KL=>?_));intros;simp only [go_sem,geff,g2,Int.toNat_natCast,e1,e2,hA,hv,con40_f,con65_f,con68_f,con40_c]))
     all_goals try exact om
     refine end_ret rfl ?_
     simp only [fin,go_sem,applyV,hF2,Bool.false_eq_true]
     exact LeA.refl _
   ·have hA':eqS p ⟨#[65]⟩=false:=by simpa using hA
    have hel:elT p=p:=by unfold elT sA;rw [if_neg hA]
    rw [hel] at hF
    cases hv:vld p x with
    |true=>
     rw [hv,Bool.true_and] at hF
     repeat' (first
      |(with_reducible first|refine nx ?_|refine t_seq fun K=>?_|refine t_br (fun hc=>?_) fun hc=>?_|refine t_bx ?_|apply And.intro|intro vr)
      |((with_reducible first|refine ny ?_|refine t_dwh (h:=fun K KL=>?_));intros;simp only [go_sem,geff,g2,Int.toNat_natCast,e1,e2,hA',hv,con40_f,con65_f,con68_f,con40_c]))
     all_goals try exact om
     refine ⟨⟨i+1,by omega,hF⟩,by simp only;omega,?_⟩
     (refine Le.frame ?_;repeat' (first|exact leF_top _|(with_reducible refine leF_sl ?_ ?_)|(refine leF_upd (LeR.of_eq ?_) ?_)))<;>(try (simp only [go_sem];try rfl))
    |false=>
     rw [hv,Bool.false_and] at hF
     have hF2:okA ps xs=false:=hF.symm
     repeat' (first
      |(with_reducible first|refine nx ?_|refine t_seq fun K=>?_|refine t_br (fun hc=>?_) fun hc=>?_|refine t_bx ?_|apply And.intro|intro vr)
      |((with_reducible first|refine ny ?_|refine t_dwh (h:=fun K KL=>?_));intros;simp only [go_sem,geff,g2,Int.toNat_natCast,e1,e2,hA',hv,con40_f,con65_f,con68_f,con40_c]))
     all_goals try exact om
     refine end_ret rfl ?_
     simp only [fin,go_sem,applyV,hF2,Bool.false_eq_true]
     exact LeA.refl _
  ·have g2:decide ((i:Int)<(xs.length:Int))=false:=decide_eq_false (by omega)
   have:i=xs.length:=by omega
   subst this
   have hF':okA ps xs=true:=by
     rw [←hF,List.drop_eq_nil_of_le (by omega:ps.length≤xs.length)];rfl
   repeat' (first
    |(with_reducible first|refine nx ?_|refine t_seq fun K=>?_|refine t_br (fun hc=>?_) fun hc=>?_|refine t_bx ?_|apply And.intro|intro vr)
    |((with_reducible first|refine ny ?_|refine t_dwh (h:=fun K KL=>?_));intros;simp only [go_sem,geff,g2,con40_f,con65_f,con68_f,con68_c,hx,slK_sl,Option.bind_some,Option.map_some]))
   all_goals try exact om
   ·exact hL hF'
   refine end_ret rfl ?_
   simp only [fin,go_sem,applyV,hF']
   exact LeA.refl _
noncomputable def con41:PCon Tryz.prog where
  f:=41
  c:=fun
   |[.lit (.string op),x]=>(slK .i64 x).map fun xs=>(True,applyV (applyS op xs))
   |_=>none
  ok:=by
   intro args p r hc hp
   split at hc
   ·rename_i op x
    cases hl:slK .i64 x with
    |none=>rw [hl] at hc;cases hc
    |some xs=>
     rw [hl] at hc
     cases hc
     exact PC.weak apply_pc ⟨LeA.refl _,slK_le hl,trivial⟩
   ·cases hc
  fk:=fk41
theorem con41_f:con41.f=41:=rfl
theorem con41_c {op:ByteArray} {x:AV}:con41.c [.lit (.string op),x]=(slK .i64 x).map fun xs=>(True,applyV (applyS op xs)):=rfl
end Go.Proofs.YtcpjahmajkhchaaGreat.El

namespace Go.Proofs.YtcpjahmajkhchaaGreat.El
open Go.Proofs.YtcpjahmajkhchaaGreat
open Go Go.Fw
set_option maxRecDepth 20000
theorem len_one {l:List Int} (h:l.length=1):∃ a,l=[a]:=by
  match l,h with
  |[a],_=>exact ⟨a,rfl⟩
theorem len_two {l:List Int} (h:l.length=2):∃ a b,l=[a,b]:=by
  match l,h with
  |[a,b],_=>exact ⟨a,b,rfl⟩
theorem elT_int {p:ByteArray} (h:p=sInt∨p=sBool∨p=sA) (hb:eqS p sBool=false):elT p=sInt:=by
  rcases h with rfl|rfl|rfl
  ·rfl
  ·cases hb
  ·rfl
theorem elT_bool {p:ByteArray} (hb:eqS p sBool=true):elT p=sBool:=by rw [eqS_iff.1 hb];rfl
noncomputable def E8:Env:=envOf (P:=Tryz.prog) zer (fun _=>false) (fun _=>false) [con44,con38,con66,con67] []
theorem E8_ok:EnvOk Tryz.prog E8:=envOk zer_ok
set_option maxHeartbeats 2000000 in
theorem rapply_pc {op:ByteArray} {xs:List Int}:PC Tryz.prog 39 [.lit (.string op),.sl false 1 (ints .i64 xs)] (applyV (applyS op xs)):=by
  rcases ix_cases op with ⟨i0,hi0, -,hx,ht⟩|⟨hx,ht⟩
  rotate_left
  ·have e:applyS op xs=none:=by unfold applyS;rw [hx];rfl
   rw [e]
   refine pcO E8_ok (fun _=>[0,1,4,5,6,8,9,10,25,29,36,43,45,46,53,66]) Tryz.func39 (h:=fun KF=>?_)
   unfold E8
   repeat' (first
    |(with_reducible first|refine nx ?_|refine t_seq fun K=>?_|refine t_br (fun hc=>?_) fun hc=>?_|refine t_bx ?_|apply And.intro|intro vr)
    |((with_reducible first|refine ny ?_|refine t_dwh (h:=fun K KL=>?_));intros;simp only [go_sem,geff,con44_f,con38_f,con66_f,con67_f,con44_c,ht,typesV_none]))
   refine end_ret rfl ?_
   simp only [fin,go_sem,applyV]
   exact LeA.refl _
  have hl:=psN_len i0 hi0
  have hE:=psN_el i0 hi0
  have hT:=typesV_row i0
  by_cases hn:xs.length=(psN i0).length
  rotate_left
  ·have e:applyS op xs=none:=by unfold applyS;rw [hx];simp [okB,hn]
   have g1:(((psN i0).length:Int) !=(xs.length:Int))=true:=by rw [bne_iff_ne];omega
   rw [e]
   refine pcO E8_ok (fun _=>[0,1,4,5,6,8,9,10,25,29,36,43,45,46,53,66]) Tryz.func39 (h:=fun KF=>?_)
   unfold E8
   repeat' (first
    |(with_reducible first|refine nx ?_|refine t_seq fun K=>?_|refine t_br (fun hc=>?_) fun hc=>?_|refine t_bx ?_|apply And.intro|intro vr)
    |((with_reducible first|refine ny ?_|refine t_dwh (h:=fun K KL=>?_));intros;simp only [go_sem,geff,con44_f,con38_f,con66_f,con67_f,con44_c,ht,hT,g1,pickB]))
   all_goals try exact om
   refine end_ret rfl ?_
   simp only [fin,go_sem,applyV]
   exact LeA.refl _
  have g1:(((psN i0).length:Int) !=(xs.length:Int))=false:=by rw [bne_eq_false_iff_eq];omega
  have hR:applyS op xs=if okA (psN i0) xs=true then some (vS i0 xs) else none:=by
    unfold applyS
    rw [hx]
    simp [okB,hn]
  have hL:okA (psN i0) xs=true→okL i0 xs:=fun h=>⟨hn,h⟩
  rw [hR]
  clear hR
  generalize hps:psN i0=ps at*
  clear hps
  refine pcO E8_ok (fun _=>[0,1,4,5,6,8,9,10,25,29,36,43,45,46,53,66]) Tryz.func39 (h:=fun KF=>?_)
  unfold E8
  repeat' (first
   |(with_reducible first|refine nx ?_|refine t_seq fun K=>?_|refine t_br (fun hc=>?_) fun hc=>?_|refine t_bx ?_|apply And.intro|intro vr)
   |((with_reducible first|refine ny ?_|refine t_dwh (h:=fun K KL=>?_));intros;simp only [go_sem,geff,con44_f,con38_f,con66_f,con67_f,con44_c,ht,hT,g1,pickB]))
  all_goals try exact om
  refine t_loop (ι:={i:Nat // i≤xs.length∧okA (ps.drop i) (xs.drop i)=okA ps xs}) (fun i=>⟨upd (upd (upd (upd topF 9 (.lit (.int .i64 i.1))) 6 (.sl false 1 (strs ps))) 1 (.sl false 1 (ints .i64 xs))) 0 (.lit (.string op)),[]⟩) (fun i=>xs.length - i.1) ⟨0,by omega,rfl⟩ ?_ ?_
  ·skip
   (refine Le.frame ?_;repeat' (first|exact leF_top _|(with_reducible refine leF_sl ?_ ?_)|(refine leF_upd (LeR.of_eq ?_) ?_)))<;>(try (simp only [go_sem];try rfl))
  rintro ⟨i,hi,hF⟩ K0
  rcases Nat.lt_or_ge i xs.length with hc|hc
  ·have g2:decide ((i:Int)<(xs.length:Int))=true:=decide_eq_true (by omega)
   have hc':i<ps.length:=by omega
   have e1:=ints_getD .i64 xs i hc
   have e2:=strs_getD ps i hc'
   rw [okA_drop hc' hc] at hF
   have hp:=hE (ps.getD i ByteArray.empty) (by rw [getD_elem _ _ hc'];exact List.getElem_mem hc')
   generalize ps.getD i ByteArray.empty=p at*
   generalize xs.getD i 0=x at*
   cases hA:eqS p ⟨#[98,111,111,108]⟩ with
   |true=>
    have hel:elT p=⟨#[98,111,111,108]⟩:=elT_bool hA
    rw [hel] at hF
    cases hv:vld ⟨#[98,111,111,108]⟩ x with
    |true=>
     rw [hv,Bool.true_and] at hF
     repeat' (first
      |(with_reducible first|refine nx ?_|refine t_seq fun K=>?_|refine t_br (fun hc=>?_) fun hc=>?_|refine t_bx ?_|apply And.intro|intro vr)
      |((with_reducible first|refine ny ?_|refine t_dwh (h:=fun K KL=>?_));intros;simp only [go_sem,geff,g2,Int.toNat_natCast,e1,e2,hA,hv,con44_f,con38_f,con66_f,con67_f,con38_c]))
     all_goals try exact om
     refine ⟨⟨i+1,by omega,hF⟩,by simp only;omega,?_⟩
     (refine Le.frame ?_;repeat' (first|exact leF_top _|(with_reducible refine leF_sl ?_ ?_)|(refine leF_upd (LeR.of_eq ?_) ?_)))<;>(try (simp only [go_sem];try rfl))
    |false=>
     rw [hv,Bool.false_and] at hF
     have hF2:okA ps xs=false:=hF.symm
     repeat' (first
      |(with_reducible first|refine nx ?_|refine t_seq fun K=>?_|refine t_br (fun hc=>?_) fun hc=>?_|refine t_bx ?_|apply And.intro|intro vr)
      |((with_reducible first|refine ny ?_|refine t_dwh (h:=fun K KL=>?_));intros;simp only [go_sem,geff,g2,Int.toNat_natCast,e1,e2,hA,hv,con44_f,con38_f,con66_f,con67_f,con38_c]))
     all_goals try exact om
     refine end_ret rfl ?_
     simp only [fin,go_sem,applyV,hF2,Bool.false_eq_true]
     exact LeA.refl _
   |false=>
    have hel:elT p=⟨#[105,110,116]⟩:=elT_int hp hA
    rw [hel] at hF
    cases hv:vld ⟨#[105,110,116]⟩ x with
    |true=>
     rw [hv,Bool.true_and] at hF
     repeat' (first
      |(with_reducible first|refine nx ?_|refine t_seq fun K=>?_|refine t_br (fun hc=>?_) fun hc=>?_|refine t_bx ?_|apply And.intro|intro vr)
      |((with_reducible first|refine ny ?_|refine t_dwh (h:=fun K KL=>?_));intros;simp only [go_sem,geff,g2,Int.toNat_natCast,e1,e2,hA,hv,con44_f,con38_f,con66_f,con67_f,con38_c]))
     all_goals try exact om
     refine ⟨⟨i+1,by omega,hF⟩,by simp only;omega,?_⟩
     (refine Le.frame ?_;repeat' (first|exact leF_top _|(with_reducible refine leF_sl ?_ ?_)|(refine leF_upd (LeR.of_eq ?_) ?_)))<;>(try (simp only [go_sem];try rfl))
    |false=>
     rw [hv,Bool.false_and] at hF
     have hF2:okA ps xs=false:=hF.symm
     repeat' (first
      |(with_reducible first|refine nx ?_|refine t_seq fun K=>?_|refine t_br (fun hc=>?_) fun hc=>?_|refine t_bx ?_|apply And.intro|intro vr)
      |((with_reducible first|refine ny ?_|refine t_dwh (h:=fun K KL=>?_));intros;simp only [go_sem,geff,g2,Int.toNat_natCast,e1,e2,hA,hv,con44_f,con38_f,con66_f,con67_f,con38_c]))
     all_goals try exact om
     refine end_ret rfl ?_
     simp only [fin,go_sem,applyV,hF2,Bool.false_eq_true]
     exact LeA.refl _
  ·have g2:decide ((i:Int)<(xs.length:Int))=false:=decide_eq_false (by omega)
   have:i=xs.length:=by omega
   subst this
   have hF':okA ps xs=true:=by
     rw [←hF,List.drop_eq_nil_of_le (by omega:ps.length≤xs.length)];rfl
   have hO:=hL hF'
   have hlen:xs.length=1∨xs.length=2∨(xs.length=3∧i0=20):=by
     rcases hl with ⟨h1,h2,h3⟩
     have:xs.length=1∨xs.length=2∨xs.length=3:=by omega
     rcases this with h|h|h
     ·exact .inl h
     ·exact .inr (.inl h)
     ·exact .inr (.inr ⟨h,h3 (by omega)⟩)
   rcases hlen with h|h|⟨h,rfl⟩
   ·obtain ⟨a,rfl⟩:=len_one h
    ·have e0:ints .i64 [a]=[.lit (.int .i64 a)]:=rfl
     repeat' (first
      |(with_reducible first|refine nx ?_|refine t_seq fun K=>?_|refine t_br (fun hc=>?_) fun hc=>?_|refine t_bx ?_|apply And.intro|intro vr)
      |((with_reducible first|refine ny ?_|refine t_dwh (h:=fun K KL=>?_));intros;simp only [go_sem,geff,g2,e0,con44_f,con38_f,con66_f,con67_f,con66_c,hx]))
     all_goals try exact om
     all_goals try exact hO
     refine end_ret rfl ?_
     simp only [fin,go_sem,applyV,hF']
     exact LeA.refl _
   ·obtain ⟨a,b,rfl⟩:=len_two h
    ·have e0:ints .i64 [a,b]=[.lit (.int .i64 a),.lit (.int .i64 b)]:=rfl
     repeat' (first
      |(with_reducible first|refine nx ?_|refine t_seq fun K=>?_|refine t_br (fun hc=>?_) fun hc=>?_|refine t_bx ?_|apply And.intro|intro vr)
      |((with_reducible first|refine ny ?_|refine t_dwh (h:=fun K KL=>?_));intros;simp only [go_sem,geff,g2,e0,con44_f,con38_f,con66_f,con67_f,con67_c,hx]))
     all_goals try exact om
     all_goals try exact hO
     refine end_ret rfl ?_
     simp only [fin,go_sem,applyV,hF']
     exact LeA.refl _
   ·obtain ⟨a,b,c,rfl,h0,h1,h2⟩:=okL_20.1 hO
    have e0:ints .i64 [a,b,c]=[.lit (.int .i64 a),.lit (.int .i64 b),.lit (.int .i64 c)]:=rfl
    rcases h0 with rfl|rfl
    ·skip
     repeat' (first
      |(with_reducible first|refine nx ?_|refine t_seq fun K=>?_|refine t_br (fun hc=>?_) fun hc=>?_|refine t_bx ?_|apply And.intro|intro vr)
      |((with_reducible first|refine ny ?_|refine t_dwh (h:=fun K KL=>?_));intros;simp only [go_sem,geff,g2,e0,con44_f,con38_f,con66_f,con67_f]))
     all_goals try exact om
     refine end_ret rfl ?_
     simp only [fin,go_sem,applyV,hF',vS]
     exact LeA.refl _
    ·skip
     repeat' (first
      |(with_reducible first|refine nx ?_|refine t_seq fun K=>?_|refine t_br (fun hc=>?_) fun hc=>?_|refine t_bx ?_|apply And.intro|intro vr)
      |((with_reducible first|refine ny ?_|refine t_dwh (h:=fun K KL=>?_));intros;simp only [go_sem,geff,g2,e0,con44_f,con38_f,con66_f,con67_f]))
     all_goals try exact om
     refine end_ret rfl ?_
     simp only [fin,go_sem,applyV,hF',vS]
     exact LeA.refl _
noncomputable def con39:PCon Tryz.prog where
  f:=39
  c:=fun
   |[.lit (.string op),x]=>(slK .i64 x).map fun xs=>(True,applyV (applyS op xs))
   |_=>none
  ok:=by
   intro args p r hc hp
   split at hc
   ·rename_i op x
    cases hl:slK .i64 x with
    |none=>rw [hl] at hc;cases hc
    |some xs=>
     rw [hl] at hc
     cases hc
     exact PC.weak rapply_pc ⟨LeA.refl _,slK_le hl,trivial⟩
   ·cases hc
  fk:=fk39
theorem con39_f:con39.f=39:=rfl
theorem con39_c {op:ByteArray} {x:AV}:con39.c [.lit (.string op),x]=(slK .i64 x).map fun xs=>(True,applyV (applyS op xs)):=rfl
end Go.Proofs.YtcpjahmajkhchaaGreat.El

namespace Go.Proofs.YtcpjahmajkhchaaGreat.El
open Go.Proofs.YtcpjahmajkhchaaGreat
open Go Go.Fw
set_option maxRecDepth 20000
theorem clone_ec {σ:List AObj} {l:List ByteArray} (h0:l≠[]) (hl:l.length≤1000000) {k:AV→List AObj→Prop}
    (hk:k (.arr σ.length 0) (σ++[.arr 9 1 (strs l) 0 false])):EC Tryz.prog 85 [.sl false 1 (strs l)] σ k:=by
  refine ecO E0_ok (fun _=>[0,2,4]) Tryz.func85 (h:=fun KF=>?_)
  unfold E0
  repeat' (first
   |(with_reducible first|refine nx ?_|refine t_seq fun K=>?_|refine t_br (fun hc=>?_) fun hc=>?_|refine t_bx ?_|apply And.intro|intro vr)
   |((with_reducible first|refine ny ?_|refine t_dwh (h:=fun K KL=>?_));intros;simp only [go_sem,geff]))
  all_goals try exact om
  ·exact absurd (by assumption) (fun h:strs l=[]=>h0 (by cases l with|nil=>rfl|cons a m=>cases h))
  ·skip
   refine end_ret rfl ?_
   simp only [go_sem]
   exact hk
noncomputable def con30E:ECon Tryz.prog where
  f:=85
  c:=fun args σ k=>match args with
   |[x]=>match slS x with
    |some l=>(l≠[]∧l.length≤1000000)∧k (.arr σ.length 0) (σ++[.arr 9 1 (strs l) 0 false])
    |none=>False
   |_=>False
  ok:=by
   intro args σ k h
   split at h
   ·split at h
    ·rename_i hx
     exact EC.weak (clone_ec h.1.1 h.1.2 h.2) (LeRL.cons (slS_leR hx) LeRL.nil)
    ·exact h.elim
   ·exact h.elim
  fk:=fk85
theorem con30E_f:con30E.f=85:=rfl
theorem con30E_c {σ:List AObj} {k:AV→List AObj→Prop} {x:AV}:con30E.c [x] σ k=match slS x with
      |some l=>(l≠[]∧l.length≤1000000)∧k (.arr σ.length 0) (σ++[.arr 9 1 (strs l) 0 false])
      |none=>False:=rfl
theorem rows_ne:∀ r∈rowsL,r.ps≠[]:=by decide
noncomputable def E31:Env:=envOf (P:=Tryz.prog) zer (fun _=>false) (fun _=>false) [con84] [con30E]
theorem E31_ok:EnvOk Tryz.prog E31:=envOk zer_ok
set_option maxHeartbeats 1000000 in
theorem types_ec {σ:List AObj} {op:ByteArray} {k:AV→List AObj→Prop}
    (hk:match typesS op with
      |some r=>∀ s,(∃ g,s=σ++g)→k (.tup [.arr s.length 0,.lit (.string r.rs),.lit (.bool true)]) (s++[.arr 9 1 (strs r.ps) 0 false])
      |none=>∀ s,(∃ g,s=σ++g)→k (typesV none) s):EC Tryz.prog 65 [.lit (.string op)] σ k:=by
  unfold typesS at hk
  generalize hR:rowsL.find? (fun r=>eqS r.op op)=R at hk
  refine ecO E31_ok (fun _=>[0,2,3,4,6,7,8,9,14]) Tryz.func65 (h:=fun KF=>?_)
  unfold E31
  repeat' (first
   |(with_reducible first|refine nx ?_|refine t_seq fun K=>?_|refine t_br (fun hc=>?_) fun hc=>?_|refine t_bx ?_|apply And.intro|intro vr)|exact kpd
   |((with_reducible first|refine ny ?_|refine t_kLF ?_ ?_|refine t_drawE (id:=5) (fun i=>i==s.length) [(0,1),(1,1),(3,1),(4,1),(2,0),(5,1),(6,1),(7,1)] (by kernel_rfl) fun K=>?_|refine t_dwh (h:=fun K KL=>?_));intros;simp only [go_sem,geff,con84_f,con84_c,rowCells_all,Bool.false_eq_true]))
  refine t_loop (ι:={i:Nat // i≤22∧(rowsL.drop i).find? (fun r=>eqS r.op op)=R}×{s:List AObj // ∃ g,s=σ++g}) (fun i=>⟨upd (upd (upd topF 8 (.lit (.int .i64 i.1.1))) 7 (.agg rowCells)) 0 (.lit (.string op)),i.2.1⟩) (fun i=>22 - i.1.1) (⟨0,by omega,hR⟩,⟨σ,[],by simp⟩) ?_ ?_
  ·skip
   (refine Le.frame ?_;repeat' (first|exact leF_top _|(with_reducible refine leF_sl ?_ ?_)|(refine leF_upd (LeR.of_eq ?_) ?_)))<;>(try (simp only [go_sem];try rfl))
  ·rintro ⟨⟨i,hi,hF⟩,s,g,hs⟩ K0
   rcases Nat.lt_or_ge i 22 with hc|hc
   ·have g1:decide ((i:Int)<22)=true:=decide_eq_true (by omega)
    have g2:=row_cells i hc
    have g3:(i*3+3≤66)=True:=eq_true (by omega)
    have hd:rowsL.drop i=rowsL.getD i default::rowsL.drop (i+1):=by
      rw [List.drop_eq_getElem_cons (by rw [rows_len];exact hc),getD_elem _ _ (by rw [rows_len];exact hc)]
    have hps:=rows_ps (rowsL.getD i default) (by rw [getD_elem _ _ (by rw [rows_len];exact hc)];exact List.getElem_mem _)
    have hpn:=rows_ne (rowsL.getD i default) (by rw [getD_elem _ _ (by rw [rows_len];exact hc)];exact List.getElem_mem _)
    generalize rowsL.getD i default=r at g2 hd hps hpn
    obtain ⟨nm,ps,rs⟩:=r
    simp only at hps hpn
    rw [hd,List.find?_cons] at hF
    have k1:∀ (A:AObj),(s++[A])[s.length]? =some A:=fun A=>getA0 rfl
    have k2:∀ (A B:AObj),(s++[A]).set s.length B=s++[B]:=fun A B=>setA0 rfl
    by_cases he:eqS nm op=true
    ·have:R=some ⟨nm,ps,rs⟩:=by rw [←hF];simp only [he]
     subst this
     have hk':=hk (s++[.box 122 [.lit (.string nm),.sl true 1 (strs ps),.lit (.string rs)]]) ⟨g++[.box 122 [.lit (.string nm),.sl true 1 (strs ps),.lit (.string rs)]],by rw [hs,List.append_assoc]⟩
     repeat' (first
      |(with_reducible first|refine nx ?_|refine t_seq fun K=>?_|refine t_br (fun hc=>?_) fun hc=>?_|refine t_bx ?_|apply And.intro|intro vr)|exact kpd
      |((with_reducible first|refine ny ?_|refine t_kLF ?_ ?_|refine t_drawE (id:=5) (fun i=>i==s.length) [(0,1),(1,1),(3,1),(4,1),(2,0),(5,1),(6,1),(7,1)] (by kernel_rfl) fun K=>?_|refine t_dwh (h:=fun K KL=>?_));intros;simp only [go_sem,geff,g1,Int.toNat_natCast,g3,rowCells_len,g2,rowC,yes_def,need_def,k1,k2,he,con84_f,con30E_f,con30E_c,slS_sl,typesV]))
     all_goals try exact om
     refine end_ret rfl ?_
     simp only [go_sem]
     simpa using hk'
    ·have he':eqS nm op=false:=by simpa using he
     have hF':(rowsL.drop (i+1)).find? (fun r=>eqS r.op op)=R:=by rw [←hF];simp only [he']
     repeat' (first
      |(with_reducible first|refine nx ?_|refine t_seq fun K=>?_|refine t_br (fun hc=>?_) fun hc=>?_|refine t_bx ?_|apply And.intro|intro vr)|exact kpd
      |((with_reducible first|refine ny ?_|refine t_kLF ?_ ?_|refine t_drawE (id:=5) (fun i=>i==s.length) [(0,1),(1,1),(3,1),(4,1),(2,0),(5,1),(6,1),(7,1)] (by kernel_rfl) fun K=>?_|refine t_dwh (h:=fun K KL=>?_));intros;simp only [go_sem,geff,g1,Int.toNat_natCast,g3,rowCells_len,g2,rowC,yes_def,need_def,k1,k2,he',con84_f,con30E_f,con30E_c,slS_sl]))
     all_goals try exact om
     refine ⟨(⟨i+1,by omega,hF'⟩,⟨s++[.box 122 [.lit (.string nm),.sl true 1 (strs ps),.lit (.string rs)]],g++[.box 122 [.lit (.string nm),.sl true 1 (strs ps),.lit (.string rs)]],by rw [hs,List.append_assoc]⟩),by simp only;omega,?_⟩
     (refine Le.frame ?_;repeat' (first|exact leF_top _|(with_reducible refine leF_sl ?_ ?_)|(refine leF_upd (LeR.of_eq ?_) ?_)))<;>(try (simp only [go_sem];try rfl))
   ·have g1:decide ((i:Int)<22)=false:=decide_eq_false (by omega)
    have:i=22:=by omega
    subst this
    have:R=none:=by rw [←hF];rfl
    subst this
    repeat' (first
     |(with_reducible first|refine nx ?_|refine t_seq fun K=>?_|refine t_br (fun hc=>?_) fun hc=>?_|refine t_bx ?_|apply And.intro|intro vr)|exact kpd
     |((with_reducible first|refine ny ?_|refine t_kLF ?_ ?_|refine t_drawE (id:=5) (fun i=>i==s.length) [(0,1),(1,1),(3,1),(4,1),(2,0),(5,1),(6,1),(7,1)] (by kernel_rfl) fun K=>?_|refine t_dwh (h:=fun K KL=>?_));intros;simp only [go_sem,geff,g1,typesV]))
    refine end_ret rfl ?_
    simp only [go_sem]
    exact hk _ ⟨g,hs⟩
noncomputable def con20E:ECon Tryz.prog where
  f:=65
  c:=fun args σ k=>match args with
   |[.lit (.string op)]=>match typesS op with
    |some r=>∀ s,(∃ g,s=σ++g)→k (.tup [.arr s.length 0,.lit (.string r.rs),.lit (.bool true)]) (s++[.arr 9 1 (strs r.ps) 0 false])
    |none=>∀ s,(∃ g,s=σ++g)→k (typesV none) s
   |_=>False
  ok:=by
   intro args σ k h
   split at h
   ·exact types_ec h
   ·exact h.elim
  fk:=fk65
theorem con20E_f:con20E.f=65:=rfl
theorem con20E_c {σ:List AObj} {k:AV→List AObj→Prop} {op:ByteArray}:con20E.c [.lit (.string op)] σ k=match typesS op with
      |some r=>∀ s,(∃ g,s=σ++g)→k (.tup [.arr s.length 0,.lit (.string r.rs),.lit (.bool true)]) (s++[.arr 9 1 (strs r.ps) 0 false])
      |none=>∀ s,(∃ g,s=σ++g)→k (typesV none) s:=rfl
def orS (a b:ByteArray):ByteArray:=if eqS a ⟨#[]⟩=true then b else a
set_option maxHeartbeats 400000 in
theorem or_pc {a b:ByteArray}:PC Tryz.prog 83 [.sl false 1 (strs [a,b])] (.lit (.string (orS a b))):=by
  unfold orS
  have s0:(strs [a,b]).getD 0 AV.top= .lit (.string a):=rfl
  have s1:(strs [a,b]).getD 1 AV.top= .lit (.string b):=rfl
  refine pcO E0_ok (fun _=>[0,2,3,5,6,7,8,9,14]) Tryz.func83 (h:=fun KF=>?_)
  unfold E0
  repeat' (first
   |(with_reducible first|refine nx ?_|refine t_seq fun K=>?_|refine t_br (fun hc=>?_) fun hc=>?_|refine t_bx ?_|apply And.intro|intro vr)
   |((with_reducible first|refine ny ?_|refine t_dwh (h:=fun K KL=>?_));intros;simp only [go_sem,geff]))
  refine t_loop (ι:={i:Nat // i≤2∧(0<i→eqS a ⟨#[]⟩=true)∧(1<i→eqS b ⟨#[]⟩=true)}) (fun i=>⟨upd (upd (upd (upd topF 8 (.lit (.int .i64 i.1))) 7 (.lit (.int .i64 2))) 6 (.sl false 1 (strs [a,b]))) 3 (.lit (.string ⟨#[]⟩)),[]⟩) (fun i=>2 - i.1) ⟨0,by omega,by omega,by omega⟩ ?_ ?_
  ·skip
   (refine Le.frame ?_;repeat' (first|exact leF_top _|(with_reducible refine leF_sl ?_ ?_)|(refine leF_upd (LeR.of_eq ?_) ?_)))<;>(try (simp only [go_sem];try rfl))
  ·rintro ⟨i,hi,h1,h2⟩ K0
   have:i=0∨i=1∨i=2:=by omega
   rcases this with rfl|rfl|rfl
   ·by_cases ha:eqS a ⟨#[]⟩=true
    ·skip
     repeat' (first
      |(with_reducible first|refine nx ?_|refine t_seq fun K=>?_|refine t_br (fun hc=>?_) fun hc=>?_|refine t_bx ?_|apply And.intro|intro vr)
      |((with_reducible first|refine ny ?_|refine t_dwh (h:=fun K KL=>?_));intros;simp only [go_sem,geff,ha,s0,s1]))
     all_goals try exact om
     refine ⟨⟨1,by omega,fun _=>ha,by omega⟩,by simp only;omega,?_⟩
     (refine Le.frame ?_;repeat' (first|exact leF_top _|(with_reducible refine leF_sl ?_ ?_)|(refine leF_upd (LeR.of_eq ?_) ?_)))<;>(try (simp only [go_sem];try rfl))
    ·have ha':eqS a ⟨#[]⟩=false:=by simpa using ha
     repeat' (first
      |(with_reducible first|refine nx ?_|refine t_seq fun K=>?_|refine t_br (fun hc=>?_) fun hc=>?_|refine t_bx ?_|apply And.intro|intro vr)
      |((with_reducible first|refine ny ?_|refine t_dwh (h:=fun K KL=>?_));intros;simp only [go_sem,geff,ha',s0,s1]))
     all_goals try exact om
     refine end_ret rfl ?_
     simp only [fin,go_sem,ha',Bool.false_eq_true]
     exact LeA.refl _
   ·have ha:=h1 (by omega)
    by_cases hb:eqS b ⟨#[]⟩=true
    ·skip
     repeat' (first
      |(with_reducible first|refine nx ?_|refine t_seq fun K=>?_|refine t_br (fun hc=>?_) fun hc=>?_|refine t_bx ?_|apply And.intro|intro vr)
      |((with_reducible first|refine ny ?_|refine t_dwh (h:=fun K KL=>?_));intros;simp only [go_sem,geff,hb,s0,s1]))
     all_goals try exact om
     refine ⟨⟨2,by omega,fun _=>ha,fun _=>hb⟩,by simp only;omega,?_⟩
     (refine Le.frame ?_;repeat' (first|exact leF_top _|(with_reducible refine leF_sl ?_ ?_)|(refine leF_upd (LeR.of_eq ?_) ?_)))<;>(try (simp only [go_sem];try rfl))
    ·have hb':eqS b ⟨#[]⟩=false:=by simpa using hb
     repeat' (first
      |(with_reducible first|refine nx ?_|refine t_seq fun K=>?_|refine t_br (fun hc=>?_) fun hc=>?_|refine t_bx ?_|apply And.intro|intro vr)
      |((with_reducible first|refine ny ?_|refine t_dwh (h:=fun K KL=>?_));intros;simp only [go_sem,geff,hb',s0,s1]))
     all_goals try exact om
     refine end_ret rfl ?_
     simp only [fin,go_sem,ha]
     exact LeA.refl _
   ·have ha:=h1 (by omega)
    have hb:=h2 (by omega)
    repeat' (first
     |(with_reducible first|refine nx ?_|refine t_seq fun K=>?_|refine t_br (fun hc=>?_) fun hc=>?_|refine t_bx ?_|apply And.intro|intro vr)
     |((with_reducible first|refine ny ?_|refine t_dwh (h:=fun K KL=>?_));intros;simp only [go_sem,geff]))
    all_goals try exact om
    refine end_ret rfl ?_
    simp only [fin,go_sem,ha]
    rw [eqS_iff.1 hb]
    exact LeA.refl _
noncomputable def con83:PCon Tryz.prog where
  f:=83
  c:=fun
   |[x]=>match slS x with
    |some [a,b]=>some (True,.lit (.string (orS a b)))
    |_=>none
   |_=>none
  ok:=by
   intro args p r hc hp
   split at hc
   ·split at hc
    ·rename_i hx
     cases hc
     exact PC.weak or_pc ⟨slS_le hx,trivial⟩
    ·cases hc
   ·cases hc
  fk:=fk83
theorem con83_f:con83.f=83:=rfl
theorem con83_c {x:AV}:con83.c [x]=match slS x with
      |some [a,b]=>some (True,.lit (.string (orS a b)))
      |_=>none:=rfl
def goS:List ByteArray→List ByteArray→ByteArray→Option ByteArray
  |p::ps,t::ts,a=>if eqS t ⟨#[105,110,116]⟩=false∧eqS t ⟨#[98,111,111,108]⟩=false then none
   else if eqS p ⟨#[65]⟩=true then (if eqS a ⟨#[]⟩=true then goS ps ts t else if eqS t a=true then goS ps ts a else none)
   else if eqS t p=true then goS ps ts a else none
  |_,_,a=>some a
def resS (op:ByteArray) (ts:List ByteArray):Option ByteArray:=match typesS op with
  |some r=>if ts.length=r.ps.length then (goS r.ps ts ⟨#[]⟩).map fun a=>if eqS r.rs ⟨#[65]⟩=true then a else r.rs else none
  |none=>none
def rsV:Option ByteArray→AV
  |some s=> .tup [.lit (.string s),.lit (.bool true)]
  |none=> .tup [.lit (.string ⟨#[]⟩),.lit (.bool false)]
structure Lp (ps ts:List ByteArray) (G:Option ByteArray) where
  i:Nat
  a:ByteArray
  xs:List ByteArray
  hi:i≤ts.length
  hx:xs.length=ts.length
  hxd:xs.drop i=ps.drop i
  hF:goS (ps.drop i) (ts.drop i) a=G
theorem slS_two {b:Bool} {a t:ByteArray}:slS (.sl b 1 [.lit (.string a),.lit (.string t)])=some [a,t]:=slS_sl (l:=[a,t])
theorem strs_set (l:List ByteArray) (i:Nat) (v:ByteArray):(strs l).set i (.lit (.string v))=strs (l.set i v):=by simp [strs,List.map_set]
theorem strs_setD (l:List ByteArray) (i:Nat) (v:ByteArray) (h:i<l.length):(strs (l.set i v)).getD i .top= .lit (.string v):=by
  rw [strs_getD _ _ (by simpa using h)];simp [List.getD,h]
theorem drop_getD {l:List ByteArray} {i:Nat} (h:i<l.length):l.drop i=l.getD i ByteArray.empty::l.drop (i+1):=by
  rw [List.drop_eq_getElem_cons h];simp [List.getD,h]
theorem drop_hd {l m:List ByteArray} {i:Nat} (h:l.drop i=m.drop i) (hl:i<l.length) (hm:i<m.length):l.getD i ByteArray.empty=m.getD i ByteArray.empty:=by
  rw [drop_getD hl,drop_getD hm] at h
  exact (List.cons.inj h).1
noncomputable def E32:Env:=envOf (P:=Tryz.prog) zer (fun _=>false) (fun _=>false) [con83] [con20E]
theorem E32_ok:EnvOk Tryz.prog E32:=envOk zer_ok
set_option maxHeartbeats 2000000 in
theorem result_pc {op:ByteArray} {ts:List ByteArray} (hl:ts.length≤1000000):PC Tryz.prog 63 [.lit (.string op),.sl false 1 (strs ts)] (rsV (resS op ts)):=by
  unfold resS
  cases hT:typesS op with
  |none=>
   refine pcO E32_ok (fun _=>[0,1,4,5,6,7,8,9,10,11,26,27,28,29,30,39,44,58,61]) Tryz.func63 (h:=fun KF=>?_)
   unfold E32
   repeat' (first
    |(with_reducible first|refine nx ?_|refine t_seq fun K=>?_|refine t_br (fun hc=>?_) fun hc=>?_|refine t_bx ?_|apply And.intro|intro vr)
    |((with_reducible first|refine ny ?_|refine t_dwh (h:=fun K KL=>?_));intros;simp only [go_sem,geff,con83_f,con20E_f,con20E_c,hT,typesV]))
   refine end_ret rfl ?_
   simp only [fin,go_sem,rsV]
   exact LeA.refl _
  |some r=>
   obtain ⟨nm,ps,rs⟩:=r
   by_cases hn:ts.length=ps.length
   ·have g0:((ts.length:Int) !=(ps.length:Int))=false:=by rw [bne_eq_false_iff_eq];omega
    simp only [hn,if_true]
    generalize hG:goS ps ts ⟨#[]⟩=G
    refine pcO E32_ok (fun _=>[0,1,4,5,6,7,8,9,10,11,26,27,28,29,30,39,44,58,61]) Tryz.func63 (h:=fun KF=>?_)
    unfold E32
    repeat' (first
     |(with_reducible first|refine nx ?_|refine t_seq fun K=>?_|refine t_br (fun hc=>?_) fun hc=>?_|refine t_bx ?_|apply And.intro|intro vr)
     |((with_reducible first|refine ny ?_|refine t_dwh (h:=fun K KL=>?_));intros;simp only [go_sem,geff,con83_f,con20E_f,con20E_c,hT,g0]))
    rename List AObj=>s
    refine t_loop (ι:=Lp ps ts G) (fun i=>⟨upd (upd (upd (upd (upd (upd topF 29 (.lit (.int .i64 i.i))) 28 (.lit (.int .i64 ts.length))) 27 (.sl false 1 (strs ts))) 9 (.lit (.string i.a))) 7 (.lit (.string rs))) 6 (.arr s.length 0),s++[.arr 9 1 (strs i.xs) 0 false]⟩) (fun i=>ts.length - i.i) ⟨0,_,ps,by omega,by omega,rfl,hG⟩ ?_ ?_
    ·skip
     (refine Le.frame ?_;repeat' (first|exact leF_top _|(with_reducible refine leF_sl ?_ ?_)|(refine leF_upd (LeR.of_eq ?_) ?_)))<;>(try (simp only [go_sem];try rfl))
    ·rintro ⟨i,a,xs,hi,hx,hxd,hF⟩ K0
     have k1:∀ (A:AObj),(s++[A])[s.length]? =some A:=fun A=>getA0 rfl
     have k2:∀ (A B:AObj),(s++[A]).set s.length B=s++[B]:=fun A B=>setA0 rfl
     rcases Nat.lt_or_ge i ts.length with hc|hc
     ·have g1:decide ((i:Int)<(ts.length:Int))=true:=decide_eq_true (by omega)
      have g2:=strs_getD ts i hc
      have g3:=strs_getD xs i (by omega)
      have hp:=drop_hd hxd (by omega) (by omega)
      rw [drop_getD hc,drop_getD (show i<ps.length by omega)] at hF
      have hxd':xs.drop (i+1)=ps.drop (i+1):=by have:=congrArg (List.drop 1) hxd;simpa using this
      rw [hp] at g3
      generalize ts.getD i ByteArray.empty=t at g2 hF
      generalize ps.getD i ByteArray.empty=p at g3 hF
      have setE:∀ v,(strs xs).set i (.lit (.string v))=strs (xs.set i v):=strs_set xs i
      have getE:∀ v,(strs (xs.set i v)).getD i .top= .lit (.string v):=fun v=>strs_setD xs i v (by omega)
      have hxd2:∀ v,(xs.set i v).drop (i+1)=ps.drop (i+1):=fun v=>by rw [List.drop_set_of_lt (by omega)];exact hxd'
      simp only [goS] at hF
      by_cases b1:eqS t ⟨#[105,110,116]⟩=true
      ·rw [if_neg (by rw [b1];simp)] at hF
       by_cases p1:eqS p ⟨#[65]⟩=true
       ·rw [if_pos p1] at hF
        by_cases a1:eqS a ⟨#[]⟩=true
        ·rw [if_pos a1] at hF
         have o1:orS a t=t:=by unfold orS;rw [if_pos a1]
         repeat' (first
          |(with_reducible first|refine nx ?_|refine t_seq fun K=>?_|refine t_br (fun hc=>?_) fun hc=>?_|refine t_bx ?_|apply And.intro|intro vr)
          |((with_reducible first|refine ny ?_|refine t_dwh (h:=fun K KL=>?_));intros;simp only [go_sem,geff,g1,b1,Int.toNat_natCast,g2,g3,k1,k2,setE,getE,yes_def,need_def,con83_f,con83_c,con20E_f,slS_two,p1,o1,eqS_refl]))
         all_goals try exact om
         refine ⟨⟨i+1,t,xs.set i t,by omega,by simp [hx],hxd2 t,hF⟩,by simp only;omega,?_⟩
         (refine Le.frame ?_;repeat' (first|exact leF_top _|(with_reducible refine leF_sl ?_ ?_)|(refine leF_upd (LeR.of_eq ?_) ?_)))<;>(try (simp only [go_sem];try rfl))
        ·have a1':eqS a ⟨#[]⟩=false:=by simpa using a1
         rw [if_neg a1] at hF
         have o1:orS a t=a:=by unfold orS;rw [if_neg a1]
         by_cases t1:eqS t a=true
         ·rw [if_pos t1] at hF
          repeat' (first
           |(with_reducible first|refine nx ?_|refine t_seq fun K=>?_|refine t_br (fun hc=>?_) fun hc=>?_|refine t_bx ?_|apply And.intro|intro vr)
           |((with_reducible first|refine ny ?_|refine t_dwh (h:=fun K KL=>?_));intros;simp only [go_sem,geff,g1,b1,Int.toNat_natCast,g2,g3,k1,k2,setE,getE,yes_def,need_def,con83_f,con83_c,con20E_f,slS_two,p1,o1,t1]))
          all_goals try exact om
          refine ⟨⟨i+1,a,xs.set i a,by omega,by simp [hx],hxd2 a,hF⟩,by simp only;omega,?_⟩
          (refine Le.frame ?_;repeat' (first|exact leF_top _|(with_reducible refine leF_sl ?_ ?_)|(refine leF_upd (LeR.of_eq ?_) ?_)))<;>(try (simp only [go_sem];try rfl))
         ·have t1':eqS t a=false:=by simpa using t1
          rw [if_neg t1] at hF
          subst hF
          repeat' (first
           |(with_reducible first|refine nx ?_|refine t_seq fun K=>?_|refine t_br (fun hc=>?_) fun hc=>?_|refine t_bx ?_|apply And.intro|intro vr)
           |((with_reducible first|refine ny ?_|refine t_dwh (h:=fun K KL=>?_));intros;simp only [go_sem,geff,g1,b1,Int.toNat_natCast,g2,g3,k1,k2,setE,getE,yes_def,need_def,con83_f,con83_c,con20E_f,slS_two,p1,o1,t1']))
          all_goals try exact om
          refine end_ret rfl ?_
          simp only [fin,go_sem,rsV,Option.map]
          exact LeA.refl _
       ·have p1':eqS p ⟨#[65]⟩=false:=by simpa using p1
        rw [if_neg p1] at hF
        by_cases t1:eqS t p=true
        ·rw [if_pos t1] at hF
         repeat' (first
          |(with_reducible first|refine nx ?_|refine t_seq fun K=>?_|refine t_br (fun hc=>?_) fun hc=>?_|refine t_bx ?_|apply And.intro|intro vr)
          |((with_reducible first|refine ny ?_|refine t_dwh (h:=fun K KL=>?_));intros;simp only [go_sem,geff,g1,b1,Int.toNat_natCast,g2,g3,k1,k2,setE,getE,yes_def,need_def,con83_f,con83_c,con20E_f,slS_two,p1',t1]))
         all_goals try exact om
         refine ⟨⟨i+1,a,xs,by omega,hx,hxd',hF⟩,by simp only;omega,?_⟩
         (refine Le.frame ?_;repeat' (first|exact leF_top _|(with_reducible refine leF_sl ?_ ?_)|(refine leF_upd (LeR.of_eq ?_) ?_)))<;>(try (simp only [go_sem];try rfl))
        ·have t1':eqS t p=false:=by simpa using t1
         rw [if_neg t1] at hF
         subst hF
         repeat' (first
          |(with_reducible first|refine nx ?_|refine t_seq fun K=>?_|refine t_br (fun hc=>?_) fun hc=>?_|refine t_bx ?_|apply And.intro|intro vr)
          |((with_reducible first|refine ny ?_|refine t_dwh (h:=fun K KL=>?_));intros;simp only [go_sem,geff,g1,b1,Int.toNat_natCast,g2,g3,k1,k2,setE,getE,yes_def,need_def,con83_f,con83_c,con20E_f,slS_two,p1',t1']))
         all_goals try exact om
         refine end_ret rfl ?_
         simp only [fin,go_sem,rsV,Option.map]
         exact LeA.refl _
      ·have b1':eqS t ⟨#[105,110,116]⟩=false:=by simpa using b1
       by_cases b2:eqS t ⟨#[98,111,111,108]⟩=true
       ·rw [if_neg (by rw [b2];simp)] at hF
        by_cases p1:eqS p ⟨#[65]⟩=true
        ·rw [if_pos p1] at hF
         by_cases a1:eqS a ⟨#[]⟩=true
         ·rw [if_pos a1] at hF
          have o1:orS a t=t:=by unfold orS;rw [if_pos a1]
          repeat' (first
           |(with_reducible first|refine nx ?_|refine t_seq fun K=>?_|refine t_br (fun hc=>?_) fun hc=>?_|refine t_bx ?_|apply And.intro|intro vr)
           |((with_reducible first|refine ny ?_|refine t_dwh (h:=fun K KL=>?_));intros;simp only [go_sem,geff,g1,b1',b2,Int.toNat_natCast,g2,g3,k1,k2,setE,getE,yes_def,need_def,con83_f,con83_c,con20E_f,slS_two,p1,o1,eqS_refl]))
          all_goals try exact om
          refine ⟨⟨i+1,t,xs.set i t,by omega,by simp [hx],hxd2 t,hF⟩,by simp only;omega,?_⟩
          (refine Le.frame ?_;repeat' (first|exact leF_top _|(with_reducible refine leF_sl ?_ ?_)|(refine leF_upd (LeR.of_eq ?_) ?_)))<;>(try (simp only [go_sem];try rfl))
         ·have a1':eqS a ⟨#[]⟩=false:=by simpa using a1
          rw [if_neg a1] at hF
          have o1:orS a t=a:=by unfold orS;rw [if_neg a1]
          by_cases t1:eqS t a=true
          ·rw [if_pos t1] at hF
           repeat' (first
            |(with_reducible first|refine nx ?_|refine t_seq fun K=>?_|refine t_br (fun hc=>?_) fun hc=>?_|refine t_bx ?_|apply And.intro|intro vr)
            |((with_reducible first|refine ny ?_|refine t_dwh (h:=fun K KL=>?_));intros;simp only [go_sem,geff,g1,b1',b2,Int.toNat_natCast,g2,g3,k1,k2,setE,getE,yes_def,need_def,con83_f,con83_c,con20E_f,slS_two,p1,o1,t1]))
           all_goals try exact om
           refine ⟨⟨i+1,a,xs.set i a,by omega,by simp [hx],hxd2 a,hF⟩,by simp only;omega,?_⟩
           (refine Le.frame ?_;repeat' (first|exact leF_top _|(with_reducible refine leF_sl ?_ ?_)|(refine leF_upd (LeR.of_eq ?_) ?_)))<;>(try (simp only [go_sem];try rfl))
          ·have t1':eqS t a=false:=by simpa using t1
           rw [if_neg t1] at hF
           subst hF
           repeat' (first
            |(with_reducible first|refine nx ?_|refine t_seq fun K=>?_|refine t_br (fun hc=>?_) fun hc=>?_|refine t_bx ?_|apply And.intro|intro vr)
            |((with_reducible first|refine ny ?_|refine t_dwh (h:=fun K KL=>?_));intros;simp only [go_sem,geff,g1,b1',b2,Int.toNat_natCast,g2,g3,k1,k2,setE,getE,yes_def,need_def,con83_f,con83_c,con20E_f,slS_two,p1,o1,t1']))
           all_goals try exact om
           refine end_ret rfl ?_
           simp only [fin,go_sem,rsV,Option.map]
           exact LeA.refl _
        ·have p1':eqS p ⟨#[65]⟩=false:=by simpa using p1
         rw [if_neg p1] at hF
         by_cases t1:eqS t p=true
         ·rw [if_pos t1] at hF
          repeat' (first
           |(with_reducible first|refine nx ?_|refine t_seq fun K=>?_|refine t_br (fun hc=>?_) fun hc=>?_|refine t_bx ?_|apply And.intro|intro vr)
           |((with_reducible first|refine ny ?_|refine t_dwh (h:=fun K KL=>?_));intros;simp only [go_sem,geff,g1,b1',b2,Int.toNat_natCast,g2,g3,k1,k2,setE,getE,yes_def,need_def,con83_f,con83_c,con20E_f,slS_two,p1',t1]))
          all_goals try exact om
          refine ⟨⟨i+1,a,xs,by omega,hx,hxd',hF⟩,by simp only;omega,?_⟩
          (refine Le.frame ?_;repeat' (first|exact leF_top _|(with_reducible refine leF_sl ?_ ?_)|(refine leF_upd (LeR.of_eq ?_) ?_)))<;>(try (simp only [go_sem];try rfl))
         ·have t1':eqS t p=false:=by simpa using t1
          rw [if_neg t1] at hF
          subst hF
          repeat' (first
           |(with_reducible first|refine nx ?_|refine t_seq fun K=>?_|refine t_br (fun hc=>?_) fun hc=>?_|refine t_bx ?_|apply And.intro|intro vr)
           |((with_reducible first|refine ny ?_|refine t_dwh (h:=fun K KL=>?_));intros;simp only [go_sem,geff,g1,b1',b2,Int.toNat_natCast,g2,g3,k1,k2,setE,getE,yes_def,need_def,con83_f,con83_c,con20E_f,slS_two,p1',t1']))
          all_goals try exact om
          refine end_ret rfl ?_
          simp only [fin,go_sem,rsV,Option.map]
          exact LeA.refl _
       ·have b2':eqS t ⟨#[98,111,111,108]⟩=false:=by simpa using b2
        rw [if_pos ⟨b1',b2'⟩] at hF
        subst hF
        repeat' (first
         |(with_reducible first|refine nx ?_|refine t_seq fun K=>?_|refine t_br (fun hc=>?_) fun hc=>?_|refine t_bx ?_|apply And.intro|intro vr)
         |((with_reducible first|refine ny ?_|refine t_dwh (h:=fun K KL=>?_));intros;simp only [go_sem,geff,g1,b1',b2',Int.toNat_natCast,g2]))
        all_goals try exact om
        refine end_ret rfl ?_
        simp only [fin,go_sem,rsV,Option.map]
        exact LeA.refl _
     ·have g1:decide ((i:Int)<(ts.length:Int))=false:=decide_eq_false (by omega)
      have:ps.drop i=[]:=List.drop_eq_nil_of_le (by omega)
      rw [this,goS] at hF
      ·subst hF
       by_cases r1:eqS rs ⟨#[65]⟩=true
       ·skip
        repeat' (first
         |(with_reducible first|refine nx ?_|refine t_seq fun K=>?_|refine t_br (fun hc=>?_) fun hc=>?_|refine t_bx ?_|apply And.intro|intro vr)
         |((with_reducible first|refine ny ?_|refine t_dwh (h:=fun K KL=>?_));intros;simp only [go_sem,geff,g1,r1]))
        refine end_ret rfl ?_
        simp only [fin,go_sem,rsV,Option.map,r1]
        exact LeA.refl _
       ·have r1':eqS rs ⟨#[65]⟩=false:=by simpa using r1
        repeat' (first
         |(with_reducible first|refine nx ?_|refine t_seq fun K=>?_|refine t_br (fun hc=>?_) fun hc=>?_|refine t_bx ?_|apply And.intro|intro vr)
         |((with_reducible first|refine ny ?_|refine t_dwh (h:=fun K KL=>?_));intros;simp only [go_sem,geff,g1,r1']))
        refine end_ret rfl ?_
        simp only [fin,go_sem,rsV,Option.map,r1',Bool.false_eq_true]
        exact LeA.refl _
      ·intro _ _ _ _ h;cases h
   ·have g0:((ts.length:Int) !=(ps.length:Int))=true:=by rw [bne_iff_ne];omega
    refine pcO E32_ok (fun _=>[0,1,4,5,6,7,8,9,10,11,26,27,28,29,30,39,44,58,61]) Tryz.func63 (h:=fun KF=>?_)
    unfold E32
    repeat' (first
     |(with_reducible first|refine nx ?_|refine t_seq fun K=>?_|refine t_br (fun hc=>?_) fun hc=>?_|refine t_bx ?_|apply And.intro|intro vr)
     |((with_reducible first|refine ny ?_|refine t_dwh (h:=fun K KL=>?_));intros;simp only [go_sem,geff,con83_f,con20E_f,con20E_c,hT,g0]))
    refine end_ret rfl ?_
    simp only [fin,go_sem,hn,rsV]
    exact LeA.refl _
end Go.Proofs.YtcpjahmajkhchaaGreat.El

namespace Go.Proofs.YtcpjahmajkhchaaGreat.El
open Go.Proofs.YtcpjahmajkhchaaGreat
open Go Go.Fw
set_option maxRecDepth 20000
noncomputable def con63:PCon Tryz.prog where
  f:=63
  c:=fun
   |[.lit (.string op),x]=>match slS x with
    |some ts=>some (ts.length≤1000000,rsV (resS op ts))
    |none=>none
   |_=>none
  ok:=by
   intro args p r hc hp
   split at hc
   ·split at hc
    ·rename_i hx
     cases hc
     exact PC.weak (result_pc hp) ⟨LeA.refl _,slS_le hx,trivial⟩
    ·cases hc
   ·cases hc
  fk:=fk63
theorem con63_f:con63.f=63:=rfl
theorem con63_c {x:AV} {op:ByteArray}:con63.c [.lit (.string op),x]=match slS x with
      |some ts=>some (ts.length≤1000000,rsV (resS op ts))
      |none=>none:=rfl
structure Lq (ps ts:List ByteArray) (G:Option ByteArray) where
  i:Nat
  a:ByteArray
  hi:i≤ps.length
  hF:goS (ps.drop i) (ts.drop i) a=G
theorem eqS_neg {a b:ByteArray} (h:eqS a b=false):eqS b a=false:=by rw [eqS_comm];exact h
noncomputable def E33:Env:=envOf (P:=Tryz.prog) zer (fun _=>false) (fun _=>false) [con44] []
theorem E33_ok:EnvOk Tryz.prog E33:=envOk zer_ok
set_option maxHeartbeats 2000000 in
theorem rresult_pc {op:ByteArray} {ts:List ByteArray} (hl:ts.length≤1000000):PC Tryz.prog 49 [.lit (.string op),.sl false 1 (strs ts)] (rsV (resS op ts)):=by
  unfold resS
  cases hT:typesS op with
  |none=>
   refine pcO E33_ok (fun _=>[0,1,4,5,6,7,8,9,10,25,29,43,48,58,71,73]) Tryz.func49 (h:=fun KF=>?_)
   unfold E33
   repeat' (first
    |(with_reducible first|refine nx ?_|refine t_seq fun K=>?_|refine t_br (fun hc=>?_) fun hc=>?_|refine t_bx ?_|apply And.intro|intro vr)
    |((with_reducible first|refine ny ?_|refine t_dwh (h:=fun K KL=>?_));intros;simp only [go_sem,geff,con44_f,con44_c,hT,typesV]))
   refine end_ret rfl ?_
   simp only [fin,go_sem,rsV]
   exact LeA.refl _
  |some r=>
   obtain ⟨nm,ps,rs⟩:=r
   by_cases hn:ps.length=ts.length
   ·have g0:((ps.length:Int) !=(ts.length:Int))=false:=by rw [bne_eq_false_iff_eq];omega
    simp only [hn,if_true]
    generalize hG:goS ps ts ⟨#[]⟩=G
    refine pcO E33_ok (fun _=>[0,1,4,5,6,7,8,9,10,25,29,43,48,58,71,73]) Tryz.func49 (h:=fun KF=>?_)
    unfold E33
    repeat' (first
     |(with_reducible first|refine nx ?_|refine t_seq fun K=>?_|refine t_br (fun hc=>?_) fun hc=>?_|refine t_bx ?_|apply And.intro|intro vr)
     |((with_reducible first|refine ny ?_|refine t_dwh (h:=fun K KL=>?_));intros;simp only [go_sem,geff,con44_f,con44_c,hT,typesV,g0]))
    refine t_loop (ι:=Lq ps ts G) (fun i=>⟨upd (upd (upd (upd (upd topF 10 (.lit (.int .i64 i.i))) 9 (.lit (.string i.a))) 7 (.lit (.string rs))) 6 (.sl false 1 (strs ps))) 1 (.sl false 1 (strs ts)),[]⟩) (fun i=>ps.length - i.i) ⟨0,_,by omega,hG⟩ ?_ ?_
    ·skip
     (refine Le.frame ?_;repeat' (first|exact leF_top _|(with_reducible refine leF_sl ?_ ?_)|(refine leF_upd (LeR.of_eq ?_) ?_)))<;>(try (simp only [go_sem];try rfl))
    ·rintro ⟨i,a,hi,hF⟩ K0
     rcases Nat.lt_or_ge i ps.length with hc|hc
     ·have g1:decide ((i:Int)<(ps.length:Int))=true:=decide_eq_true (by omega)
      have g2:=strs_getD ts i (by omega)
      have g3:=strs_getD ps i hc
      rw [drop_getD (show i<ts.length by omega),drop_getD hc] at hF
      generalize ts.getD i ByteArray.empty=t at g2 hF
      generalize ps.getD i ByteArray.empty=p at g3 hF
      simp only [goS] at hF
      by_cases b1:eqS t ⟨#[105,110,116]⟩=true
      ·rw [if_neg (by rw [b1];simp)] at hF
       by_cases p1:eqS p ⟨#[65]⟩=true
       ·rw [if_pos p1] at hF
        by_cases a1:eqS a ⟨#[]⟩=true
        ·rw [if_pos a1] at hF
         repeat' (first
          |(with_reducible first|refine nx ?_|refine t_seq fun K=>?_|refine t_br (fun hc=>?_) fun hc=>?_|refine t_bx ?_|apply And.intro|intro vr)
          |((with_reducible first|refine ny ?_|refine t_dwh (h:=fun K KL=>?_));intros;simp only [go_sem,geff,g1,b1,Int.toNat_natCast,g2,g3,p1,a1]))
         all_goals try exact om
         refine ⟨⟨i+1,t,by omega,hF⟩,by simp only;omega,?_⟩
         (refine Le.frame ?_;repeat' (first|exact leF_top _|(with_reducible refine leF_sl ?_ ?_)|(refine leF_upd (LeR.of_eq ?_) ?_)))<;>(try (simp only [go_sem];try rfl))
        ·have a1':eqS a ⟨#[]⟩=false:=by simpa using a1
         rw [if_neg a1] at hF
         by_cases t1:eqS t a=true
         ·rw [if_pos t1] at hF
          have:=eqS_iff.1 t1
          subst this
          repeat' (first
           |(with_reducible first|refine nx ?_|refine t_seq fun K=>?_|refine t_br (fun hc=>?_) fun hc=>?_|refine t_bx ?_|apply And.intro|intro vr)
           |((with_reducible first|refine ny ?_|refine t_dwh (h:=fun K KL=>?_));intros;simp only [go_sem,geff,g1,b1,Int.toNat_natCast,g2,g3,p1,a1',t1]))
          all_goals try exact om
          refine ⟨⟨i+1,t,by omega,hF⟩,by simp only;omega,?_⟩
          (refine Le.frame ?_;repeat' (first|exact leF_top _|(with_reducible refine leF_sl ?_ ?_)|(refine leF_upd (LeR.of_eq ?_) ?_)))<;>(try (simp only [go_sem];try rfl))
         ·have t1':eqS a t=false:=eqS_neg (by simpa using t1)
          rw [if_neg t1] at hF
          subst hF
          repeat' (first
           |(with_reducible first|refine nx ?_|refine t_seq fun K=>?_|refine t_br (fun hc=>?_) fun hc=>?_|refine t_bx ?_|apply And.intro|intro vr)
           |((with_reducible first|refine ny ?_|refine t_dwh (h:=fun K KL=>?_));intros;simp only [go_sem,geff,g1,b1,Int.toNat_natCast,g2,g3,p1,a1',t1']))
          all_goals try exact om
          refine end_ret rfl ?_
          simp only [fin,go_sem,rsV,Option.map]
          exact LeA.refl _
       ·have p1':eqS p ⟨#[65]⟩=false:=by simpa using p1
        rw [if_neg p1] at hF
        by_cases t1:eqS t p=true
        ·rw [if_pos t1] at hF
         have t2:eqS p t=true:=by rw [eqS_comm];exact t1
         repeat' (first
          |(with_reducible first|refine nx ?_|refine t_seq fun K=>?_|refine t_br (fun hc=>?_) fun hc=>?_|refine t_bx ?_|apply And.intro|intro vr)
          |((with_reducible first|refine ny ?_|refine t_dwh (h:=fun K KL=>?_));intros;simp only [go_sem,geff,g1,b1,Int.toNat_natCast,g2,g3,p1',t2]))
         all_goals try exact om
         refine ⟨⟨i+1,a,by omega,hF⟩,by simp only;omega,?_⟩
         (refine Le.frame ?_;repeat' (first|exact leF_top _|(with_reducible refine leF_sl ?_ ?_)|(refine leF_upd (LeR.of_eq ?_) ?_)))<;>(try (simp only [go_sem];try rfl))
        ·have t1':eqS p t=false:=eqS_neg (by simpa using t1)
         rw [if_neg t1] at hF
         subst hF
         repeat' (first
          |(with_reducible first|refine nx ?_|refine t_seq fun K=>?_|refine t_br (fun hc=>?_) fun hc=>?_|refine t_bx ?_|apply And.intro|intro vr)
          |((with_reducible first|refine ny ?_|refine t_dwh (h:=fun K KL=>?_));intros;simp only [go_sem,geff,g1,b1,Int.toNat_natCast,g2,g3,p1',t1']))
         all_goals try exact om
         refine end_ret rfl ?_
         simp only [fin,go_sem,rsV,Option.map]
         exact LeA.refl _
      ·have b1':eqS t ⟨#[105,110,116]⟩=false:=by simpa using b1
       by_cases b2:eqS t ⟨#[98,111,111,108]⟩=true
       ·rw [if_neg (by rw [b2];simp)] at hF
        by_cases p1:eqS p ⟨#[65]⟩=true
        ·rw [if_pos p1] at hF
         by_cases a1:eqS a ⟨#[]⟩=true
         ·rw [if_pos a1] at hF
          repeat' (first
           |(with_reducible first|refine nx ?_|refine t_seq fun K=>?_|refine t_br (fun hc=>?_) fun hc=>?_|refine t_bx ?_|apply And.intro|intro vr)
           |((with_reducible first|refine ny ?_|refine t_dwh (h:=fun K KL=>?_));intros;simp only [go_sem,geff,g1,b1',b2,Int.toNat_natCast,g2,g3,p1,a1]))
          all_goals try exact om
          refine ⟨⟨i+1,t,by omega,hF⟩,by simp only;omega,?_⟩
          (refine Le.frame ?_;repeat' (first|exact leF_top _|(with_reducible refine leF_sl ?_ ?_)|(refine leF_upd (LeR.of_eq ?_) ?_)))<;>(try (simp only [go_sem];try rfl))
         ·have a1':eqS a ⟨#[]⟩=false:=by simpa using a1
          rw [if_neg a1] at hF
          by_cases t1:eqS t a=true
          ·rw [if_pos t1] at hF
           have:=eqS_iff.1 t1
           subst this
           repeat' (first
            |(with_reducible first|refine nx ?_|refine t_seq fun K=>?_|refine t_br (fun hc=>?_) fun hc=>?_|refine t_bx ?_|apply And.intro|intro vr)
            |((with_reducible first|refine ny ?_|refine t_dwh (h:=fun K KL=>?_));intros;simp only [go_sem,geff,g1,b1',b2,Int.toNat_natCast,g2,g3,p1,a1',t1]))
           all_goals try exact om
           refine ⟨⟨i+1,t,by omega,hF⟩,by simp only;omega,?_⟩
           (refine Le.frame ?_;repeat' (first|exact leF_top _|(with_reducible refine leF_sl ?_ ?_)|(refine leF_upd (LeR.of_eq ?_) ?_)))<;>(try (simp only [go_sem];try rfl))
          ·have t1':eqS a t=false:=eqS_neg (by simpa using t1)
           rw [if_neg t1] at hF
           subst hF
           repeat' (first
            |(with_reducible first|refine nx ?_|refine t_seq fun K=>?_|refine t_br (fun hc=>?_) fun hc=>?_|refine t_bx ?_|apply And.intro|intro vr)
            |((with_reducible first|refine ny ?_|refine t_dwh (h:=fun K KL=>?_));intros;simp only [go_sem,geff,g1,b1',b2,Int.toNat_natCast,g2,g3,p1,a1',t1']))
           all_goals try exact om
           refine end_ret rfl ?_
           simp only [fin,go_sem,rsV,Option.map]
           exact LeA.refl _
        ·have p1':eqS p ⟨#[65]⟩=false:=by simpa using p1
         rw [if_neg p1] at hF
         by_cases t1:eqS t p=true
         ·rw [if_pos t1] at hF
          have t2:eqS p t=true:=by rw [eqS_comm];exact t1
          repeat' (first
           |(with_reducible first|refine nx ?_|refine t_seq fun K=>?_|refine t_br (fun hc=>?_) fun hc=>?_|refine t_bx ?_|apply And.intro|intro vr)
           |((with_reducible first|refine ny ?_|refine t_dwh (h:=fun K KL=>?_));intros;simp only [go_sem,geff,g1,b1',b2,Int.toNat_natCast,g2,g3,p1',t2]))
          all_goals try exact om
          refine ⟨⟨i+1,a,by omega,hF⟩,by simp only;omega,?_⟩
          (refine Le.frame ?_;repeat' (first|exact leF_top _|(with_reducible refine leF_sl ?_ ?_)|(refine leF_upd (LeR.of_eq ?_) ?_)))<;>(try (simp only [go_sem];try rfl))
         ·have t1':eqS p t=false:=eqS_neg (by simpa using t1)
          rw [if_neg t1] at hF
          subst hF
          repeat' (first
           |(with_reducible first|refine nx ?_|refine t_seq fun K=>?_|refine t_br (fun hc=>?_) fun hc=>?_|refine t_bx ?_|apply And.intro|intro vr)
           |((with_reducible first|refine ny ?_|refine t_dwh (h:=fun K KL=>?_));intros;simp only [go_sem,geff,g1,b1',b2,Int.toNat_natCast,g2,g3,p1',t1']))
          all_goals try exact om
          refine end_ret rfl ?_
          simp only [fin,go_sem,rsV,Option.map]
          exact LeA.refl _
       ·have b2':eqS t ⟨#[98,111,111,108]⟩=false:=by simpa using b2
        rw [if_pos ⟨b1',b2'⟩] at hF
        subst hF
        repeat' (first
         |(with_reducible first|refine nx ?_|refine t_seq fun K=>?_|refine t_br (fun hc=>?_) fun hc=>?_|refine t_bx ?_|apply And.intro|intro vr)
         |((with_reducible first|refine ny ?_|refine t_dwh (h:=fun K KL=>?_));intros;simp only [go_sem,geff,g1,b1',b2',Int.toNat_natCast,g2]))
        all_goals try exact om
        refine end_ret rfl ?_
        simp only [fin,go_sem,rsV,Option.map]
        exact LeA.refl _
     ·have g1:decide ((i:Int)<(ps.length:Int))=false:=decide_eq_false (by omega)
      have:ps.drop i=[]:=List.drop_eq_nil_of_le (by omega)
      rw [this,goS] at hF
      ·subst hF
       by_cases r1:eqS rs ⟨#[65]⟩=true
       ·skip
        repeat' (first
         |(with_reducible first|refine nx ?_|refine t_seq fun K=>?_|refine t_br (fun hc=>?_) fun hc=>?_|refine t_bx ?_|apply And.intro|intro vr)
         |((with_reducible first|refine ny ?_|refine t_dwh (h:=fun K KL=>?_));intros;simp only [go_sem,geff,g1,r1]))
        refine end_ret rfl ?_
        simp only [fin,go_sem,rsV,Option.map,r1]
        exact LeA.refl _
       ·have r1':eqS rs ⟨#[65]⟩=false:=by simpa using r1
        repeat' (first
         |(with_reducible first|refine nx ?_|refine t_seq fun K=>?_|refine t_br (fun hc=>?_) fun hc=>?_|refine t_bx ?_|apply And.intro|intro vr)
         |((with_reducible first|refine ny ?_|refine t_dwh (h:=fun K KL=>?_));intros;simp only [go_sem,geff,g1,r1']))
        refine end_ret rfl ?_
        simp only [fin,go_sem,rsV,Option.map,r1',Bool.false_eq_true]
        exact LeA.refl _
      ·intro _ _ _ _ h;cases h
   ·have g0:((ps.length:Int) !=(ts.length:Int))=true:=by rw [bne_iff_ne];omega
    have hn': ¬ ts.length=ps.length:=fun h=>hn h.symm
    refine pcO E33_ok (fun _=>[0,1,4,5,6,7,8,9,10,25,29,43,48,58,71,73]) Tryz.func49 (h:=fun KF=>?_)
    unfold E33
    repeat' (first
     |(with_reducible first|refine nx ?_|refine t_seq fun K=>?_|refine t_br (fun hc=>?_) fun hc=>?_|refine t_bx ?_|apply And.intro|intro vr)
     |((with_reducible first|refine ny ?_|refine t_dwh (h:=fun K KL=>?_));intros;simp only [go_sem,geff,con44_f,con44_c,hT,typesV,g0]))
    refine end_ret rfl ?_
    simp only [fin,go_sem,hn',rsV]
    exact LeA.refl _
noncomputable def con49:PCon Tryz.prog where
  f:=49
  c:=fun
   |[.lit (.string op),x]=>match slS x with
    |some ts=>some (ts.length≤1000000,rsV (resS op ts))
    |none=>none
   |_=>none
  ok:=by
   intro args p r hc hp
   split at hc
   ·split at hc
    ·rename_i hx
     cases hc
     exact PC.weak (rresult_pc hp) ⟨LeA.refl _,slS_le hx,trivial⟩
    ·cases hc
   ·cases hc
  fk:=fk49
theorem con49_f:con49.f=49:=rfl
theorem con49_c {x:AV} {op:ByteArray}:con49.c [.lit (.string op),x]=match slS x with
      |some ts=>some (ts.length≤1000000,rsV (resS op ts))
      |none=>none:=rfl
theorem le_nil {n0:Nat} {f:Nat→AV} {σ:List AObj} (i e sz:Nat) (h:f i= .lit (.slice none 0 0)):Le n0 ⟨f,σ⟩ ⟨upd f i (.arr σ.length 0),σ++[.arr e sz [] 0 false]⟩:=by
  intro cx G w N a _ hr hf
  obtain ⟨G',h1,h2,h3⟩:=Rel.newEmpty hr e sz none
  refine ⟨G',h2,hf.size,hf.defers,fun j=>?_⟩
  have hj:R G' (f j) (a.tmps.getD j undef):=(hf.rel j).mono h1
  simp only [upd]
  split
  ·rename_i e;subst e;rw [h] at hj;rw [hj.lit_inv];exact h3
  ·exact hj
end Go.Proofs.YtcpjahmajkhchaaGreat.El

namespace Go.Proofs.YtcpjahmajkhchaaGreat
open Go Go.Fw
def sConst:ByteArray:=⟨#[99,111,110,115,116]⟩
def sTruth:ByteArray:=⟨#[116,114,117,116,104]⟩
structure Stp where
  op:ByteArray
  num:Int
  args:List Int
def nilStp:Stp:=⟨⟨#[]⟩,0,[]⟩
def stpV (s:Stp):AV:= .agg [.lit (.string s.op),.lit (.int .i64 s.num),.sl false 1 (ints .i64 s.args)]
def stps (l:List Stp):List AV:=l.map stpV
theorem stps_length (l:List Stp):(stps l).length=l.length:=by simp [stps]
def jStp:AV:=stpV nilStp
theorem stps_getJ (l:List Stp) (i:Nat):(stps l).getD i jStp=stpV (l.getD i nilStp):=by
  simp only [stps,jStp,List.getD_eq_getElem?_getD,List.getElem?_map];cases l[i]? <;>rfl
def stpOf:AV→Option Stp
  |.agg [.lit (.string e),.lit (.int .i64 n),x]=>match slK .i64 x with
   |some a=>some ⟨e,n,a⟩
   |none=>none
  |_=>none
theorem stpOf_agg {e:ByteArray} {n:Int} {x:AV}:stpOf (.agg [.lit (.string e),.lit (.int .i64 n),x])=match slK .i64 x with
    |some a=>some ⟨e,n,a⟩
    |none=>none:=rfl
theorem stpOf_V (s:Stp):stpOf (stpV s)=some s:=by simp [stpV,stpOf,slK_sl]
theorem stpOf_inv {x:AV} {s:Stp} (h:stpOf x=some s):∃ p,x= .agg [.lit (.string s.op),.lit (.int .i64 s.num),p]∧LeA p (.sl false 1 (ints .i64 s.args)):=by
  unfold stpOf at h
  split at h
  ·split at h
   ·rename_i h1
    cases h
    exact ⟨_,rfl,slK_le h1⟩
   ·cases h
  ·cases h
theorem stpOf_le {x:AV} {s:Stp} (h:stpOf x=some s):LeA x (stpV s):=by
  obtain ⟨p,rfl,h1⟩:=stpOf_inv h
  exact LeA.agg ⟨LeA.refl _,LeA.refl _,h1,trivial⟩
def stpL:List AV→Option (List Stp)
  |[]=>some []
  |x::xs=>match stpOf x,stpL xs with
   |some s,some l=>some (s::l)
   |_,_=>none
theorem stpL_stps:∀ l:List Stp,stpL (stps l)=some l
  |[]=>rfl
  |s::l=>by
   show stpL (stpV s::stps l)=_
   rw [stpL,stpOf_V,stpL_stps l]
theorem flat_stps:∀ (xs:List AV) (l:List Stp),stpL xs=some l→xs.length=l.length∧LeL (flat xs) (flat (stps l))
  |[],l,h=>by cases h;exact ⟨rfl,trivial⟩
  |x::xs,l,h=>by
   unfold stpL at h
   split at h
   ·rename_i s l' h1 h2
    cases h
    obtain ⟨k1,k2⟩:=flat_stps xs l' h2
    obtain ⟨p,rfl,hp⟩:=stpOf_inv h1
    refine ⟨by simp [k1],?_⟩
    show LeL (AV.cells _++flat xs) (AV.cells (stpV s)++flat (stps l'))
    exact LeL.append ⟨LeA.refl _,LeA.refl _,hp,trivial⟩ k2
   ·cases h
def stpsOf (x:AV):Option (List Stp):=(slA 3 x).bind stpL
theorem stpsOf_le {x:AV} {l:List Stp} (h:stpsOf x=some l):LeA x (.sl false 3 (stps l)):=by
  unfold stpsOf at h
  cases hx:slA 3 x with
  |none=>rw [hx] at h;cases h
  |some xs=>
   rw [hx] at h
   obtain ⟨k1,k2⟩:=flat_stps xs l h
   intro C v hv
   refine LeA.sl (by rw [k1,stps_length]) ?_ k2 C v (slA_le hx C v hv)
   intro y hy
   obtain ⟨s,_,rfl⟩:=List.mem_map.1 hy
   rfl
theorem stpsOf_sl {b:Bool} {l:List Stp}:stpsOf (.sl b 3 (stps l))=some l:=by simp [stpsOf,slA,stpL_stps]
def inR (n a:Int):Bool:=decide (a≥0)&&decide (a<n)
def validS (s:Stp) (n:Int):Bool:=
  if eqS s.op sConst=true then (s.args.length:Int)==0&&vld sInt s.num
  else if eqS s.op sTruth=true then (s.args.length:Int)==0&&vld sBool s.num
  else match El.typesS s.op with
    |none=>false
    |some r=>(s.args.all (inR n)&&s.num==0)&&(s.args.length:Int)==(r.ps.length:Int)
def allV:List Stp→Int→Bool
  |[],_=>true
  |s::t,n=>validS s n&&allV t (n+1)
def badN (code:List Stp) (n:Int):Bool:=decide (n<0)||decide (n>20)||decide ((code.length:Int)>60)||n+(code.length:Int)==0
def validC (code:List Stp) (n:Int):Bool:=if badN code n=true then false else allV code n
def pickI (vs ats:List Int):List Int:=ats.map fun i=>vs.getD i.toNat 0
def pickB (vs:List ByteArray) (ats:List Int):List ByteArray:=ats.map fun i=>vs.getD i.toNat ⟨#[]⟩
def isNum (s:Stp):Bool:=eqS s.op sConst||eqS s.op sTruth
def stepS (s:Stp) (vs:List Int):Option Int:=if isNum s=true then some s.num else El.applyS s.op (pickI vs s.args)
def runG:List Stp→List Int→Option (List Int)
  |[],vs=>some vs
  |s::t,vs=>match stepS s vs with
   |none=>none
   |some n=>runG t (vs++[n])
def lastI (l:List Int):Int:=l.getD (l.length - 1) 0
def runS (code:List Stp) (args:List Int):Int×Bool:=
  if validC code args.length=false then (0,false) else if args.any (fun n=> !vld sInt n)=true then (0,false) else match runG code args with
   |none=>(0,false)
   |some vs=>(lastI vs,true)
def stepT (s:Stp) (ts:List ByteArray):Option ByteArray:=if eqS s.op sConst=true then some sInt else if eqS s.op sTruth=true then some sBool else El.resS s.op (pickB ts s.args)
def typG:List Stp→List ByteArray→Option (List ByteArray)
  |[],ts=>some ts
  |s::t,ts=>match stepT s ts with
   |none=>none
   |some x=>typG t (ts++[x])
def lastB (l:List ByteArray):ByteArray:=l.getD (l.length - 1) ⟨#[]⟩
def typS (code:List Stp) (ts:List ByteArray):ByteArray×Bool:=
  if validC code ts.length=false then (⟨#[]⟩,false) else if ts.any (fun t=> !tyOk t)=true then (⟨#[]⟩,false) else match typG code ts with
   |none=>(⟨#[]⟩,false)
   |some l=>(lastB l,true)
end Go.Proofs.YtcpjahmajkhchaaGreat

namespace Go.Proofs.YtcpjahmajkhchaaGreat
def kp8 (i:Nat):List Nat:=if i<15 then if i<7 then if i<3 then if i<1 then [0,2,4] else if i<2 then [0,2,4,30] else [6] else if i<5 then if i<4 then [0,2,4,44] else [6] else if i<6 then [0,2,4,7,8] else [0,2,4,7,8,9,10] else if i<11 then if i<9 then if i<8 then [0,2,4,7,8,9,10,11,12] else [0,2,4,7,8,9,10,11,12,13,14] else if i<10 then [0,2,4,7,8,9,10,11,12,13,14,15,16] else [0,2,4,7,8,9,10,11,12,13,14,15,16,17,18] else if i<13 then if i<12 then [0,2,4,7,8,11,12,115] else [6] else if i<14 then [0,2,4,7,8,11,12,19] else [0,2,4,7,8,11,12,19,117,118,119] else if i<22 then if i<18 then if i<16 then [0,2,4,7,8,11,12,19,117,118,119,120] else if i<17 then [0,2,4,7,8,11,12,19,20,21,117,118,119] else [0,2,4,7,8,11,12,19,21,22,117,118,119] else if i<20 then if i<19 then [0,2,4,7,8,11,12,19,22,117,118,119,131] else [0,2,4,7,8,11,12,19,22,117,118,119] else if i<21 then [0,2,4,7,8,11,12,19,117,118,119] else [0,2,4,7,8,11,12,19,117,118,119] else if i<26 then if i<24 then if i<23 then [2,7,8,11,12,19,23,24] else [2,11,12,19,155] else if i<25 then [6] else [2,11,19,157] else if i<28 then if i<27 then [6] else [2,11,19,25,26] else if i<29 then [11,19,25,26,27,28] else [6]
def kp9 (i:Nat):List Nat:=if i<3 then if i<1 then [] else if i<2 then [1,2] else [1,2,3,4] else if i<5 then if i<4 then [2,3,4,5,6] else [2,3,4,5,6,7,8] else if i<6 then [2,3,4,5,6,7,8,9,10,11] else [0]
def kp10 (i:Nat):List Nat:=if i<3 then if i<1 then [0] else if i<2 then [0,3] else [0,3,7] else if i<5 then if i<4 then [0,3] else [0,3,25] else if i<6 then [2] else [2]
def kp11 (i:Nat):List Nat:=if i<10 then if i<5 then if i<2 then if i<1 then [0,1] else [0,1,17] else if i<3 then [4,5] else if i<4 then [0,1,18,19,20] else [0,1,18,19,20,21] else if i<7 then if i<6 then [0,1,7,18,19,20] else [0,1,18,19,20,26] else if i<8 then [4,5] else if i<9 then [0,1,18,19,20] else [0,8] else if i<15 then if i<12 then if i<11 then [8,34,35,36] else [8,34,35,36,37] else if i<13 then [8,10,34,35,36] else if i<14 then [8,10,11,12,34,35,36] else [8,10,11,12,34,35,36,49] else if i<18 then if i<16 then [8,11,12,34,35,36] else if i<17 then [8,11,34,35,36,61] else [4,5] else if i<19 then [8,34,35,36] else if i<20 then [8,34,35,36] else [4,5]
def kp13 (i:Nat):List Nat:=if i<5 then if i<2 then if i<1 then [0,1] else [0,1,24] else if i<3 then [4] else if i<4 then [1,25,26,27] else [1,25,26,27,28] else if i<7 then if i<6 then [1,5,6,25,26,27] else [1,25,26,27,37] else if i<8 then [4] else if i<9 then [1,25,26,27] else [4]
def kp14 (i:Nat):List Nat:=if i<11 then if i<5 then if i<2 then if i<1 then [0,1] else [0,1,30] else if i<3 then [4] else if i<4 then [0,1,5] else [0,1,5,34] else if i<8 then if i<6 then [0,1,5] else if i<7 then [0,1,5,6] else [0,1,5,6,42] else if i<9 then [0,1,5,6,7,9] else if i<10 then [0,1,5,6,64] else [4] else if i<17 then if i<14 then if i<12 then [0,1,5,6,10] else if i<13 then [0,1,5,6,10,69] else [0,1,5,6,10] else if i<15 then [0,1,5,6,10,88] else if i<16 then [4] else [0,1,5,6,42,89] else if i<20 then if i<18 then [0,1,5,100] else if i<19 then [4] else [0,1,5,6,101] else if i<21 then [0,1,5,112] else if i<22 then [4] else [4]
def kp16 (i:Nat):List Nat:=if i<6 then if i<3 then if i<1 then [0,4,5,6] else if i<2 then [0,4,5,6,24] else [6,7] else if i<4 then [0,4,5,6,8] else if i<5 then [0,4,5,6,8,36] else [6,7] else if i<9 then if i<7 then [0,4,5,6,9] else if i<8 then [0,4,6,9,44,45,46] else [0,4,6,9,44,45,46,47] else if i<11 then if i<10 then [0,4,6,9,11,44,45,46] else [0,4,6,9,44,45,46] else if i<12 then [0,4,6,9,44,45,46] else [6,7]
def kp18 (i:Nat):List Nat:=if i<6 then if i<3 then if i<1 then [0,3,4] else if i<2 then [0,3,4,17] else [4,5] else if i<4 then [0,3,4,6] else if i<5 then [0,3,4,6,25] else [4,5] else if i<9 then if i<7 then [0,4,7,8] else if i<8 then [0,4,7,8,9] else [0,4,7,8,9,42] else if i<10 then [0,4,7,8,9] else if i<11 then [0,4,7,8,9] else [4,5]
def kp21 (i:Nat):List Nat:=if i<14 then if i<7 then if i<3 then if i<1 then [0,1] else if i<2 then [0,1,17] else [4,5] else if i<5 then if i<4 then [0,1,6] else [0,1,6,7] else if i<6 then [0,1,6,7,21] else [0,1,6,7] else if i<10 then if i<8 then [0,1,6,7,35] else if i<9 then [4,5] else [0,1,6,7] else if i<12 then if i<11 then [0,6,8] else [0,6,8,46] else if i<13 then [0,6,8] else [0,6,8,53] else if i<21 then if i<17 then if i<15 then [0,6,8,9] else if i<16 then [0,6,8,9,10] else [0,6,8,9,10,61] else if i<19 then if i<18 then [0,6,8,9,10] else [0,6,8,9,10] else if i<20 then [0,6,8,11,12] else [0,6,8,11,89] else if i<24 then if i<22 then [4,5] else if i<23 then [0,6,8] else [0,6,8,53,94] else if i<26 then if i<25 then [0,6,8] else [0,6,8,99] else if i<27 then [0,6,8] else [4,5]
def kp23 (i:Nat):List Nat:=if i<1 then [0,2] else [2]
def kp24 (i:Nat):List Nat:=if i<1 then [0,2] else [2]
def kp25 (i:Nat):List Nat:=if i<1 then [2,3] else [4]
def kp28 (i:Nat):List Nat:=if i<20 then if i<10 then if i<5 then if i<2 then if i<1 then [1,2,3,4,8,9] else [1,2,3,4,8,9,11,12] else if i<3 then [1,2,3,4,8,9,11,41] else if i<4 then [8,9,10] else [1,2,3,4,8,9,11,12,13] else if i<7 then if i<6 then [1,2,3,4,8,9,11,13,60] else [8,9,10] else if i<8 then [1,2,3,4,8,9,11,13,14] else if i<9 then [1,2,3,4,8,9,11,13,14,69] else [8,9,10] else if i<15 then if i<12 then if i<11 then [1,2,3,4,8,9,11,13,15] else [1,2,3,4,8,9,11,13,15,17] else if i<13 then [1,2,3,4,8,9,11,13,17,77,78,79] else if i<14 then [1,2,3,4,8,9,11,13,17,77,78,79,80] else [1,2,3,4,8,9,11,13,17,19,77,78,79] else if i<17 then if i<16 then [1,2,3,4,8,9,11,13,17,19,20,77,78,79] else [1,2,3,4,8,9,11,13,17,19,20,77,78,79,83,84,85] else if i<18 then [1,2,3,4,8,9,11,13,17,19,20,77,78,79,83,84,85,86] else if i<19 then [1,2,3,4,8,9,11,13,17,19,20,21,22,77,78,79,83,84,85] else [1,2,3,4,8,9,11,13,17,19,20,21,22,23,77,78,79,83,84,85] else if i<30 then if i<25 then if i<22 then if i<21 then [1,2,3,4,8,9,11,13,17,19,20,25,77,78,79,83,84,85] else [1,2,3,4,8,9,11,13,17,19,20,77,78,79,83,84,85] else if i<23 then [1,2,3,4,8,9,11,13,17,19,20,77,78,79,83,84,85] else if i<24 then [1,2,3,4,8,9,11,13,17,27,28,29,77,78,79] else [1,2,3,4,8,9,11,13,17,27,28,29,77,78,79,126] else if i<27 then if i<26 then [8,9,10] else [1,2,3,4,8,9,11,13,17,77,78,79] else if i<28 then [1,2,3,4,8,9,11,13,17,77,78,79] else if i<29 then [1,2,3,4,8,9,11,13,17,140] else [8,9,10] else if i<35 then if i<32 then if i<31 then [1,2,4,8,9,11,30,31] else [1,2,4,8,9,11,30,31,157] else if i<33 then [8,9,10] else if i<34 then [1,8,9,31,32] else [1,8,9,31,32,171] else if i<37 then if i<36 then [8,9,10] else [8,9,10] else if i<38 then [8,9,10,181] else if i<39 then [8,9,10] else [8,9,10]
def kp29 (i:Nat):List Nat:=if i<9 then if i<4 then if i<2 then if i<1 then [0,1] else [0,1,9] else if i<3 then [0,1,9,10] else [0,1,9,10] else if i<6 then if i<5 then [4,5] else [0,1,9,15] else if i<7 then [18] else if i<8 then [4,5] else [4,5] else if i<14 then if i<11 then if i<10 then [0,1,20] else [23] else if i<12 then [4,5] else if i<13 then [4,5] else [0,1,6,8] else if i<16 then if i<15 then [0,1,6,31] else [1,35] else if i<17 then [4,5] else if i<18 then [4,5] else [4,5]
def kp33 (i:Nat):List Nat:=if i<12 then if i<6 then if i<3 then if i<1 then [0,1] else if i<2 then [0,1,17] else [4,5] else if i<4 then [0,1,18,19,20] else if i<5 then [0,1,18,19,20,21] else [0,1,7,18,19,20] else if i<9 then if i<7 then [0,1,18,19,20,29] else if i<8 then [4,5] else [0,1,18,19,20] else if i<10 then [0,8] else if i<11 then [8,37,38,39] else [8,37,38,39,40] else if i<18 then if i<15 then if i<13 then [8,10,37,38,39] else if i<14 then [8,10,11,12,37,38,39] else [8,10,11,12,37,38,39,44] else if i<16 then [8,11,12,37,38,39] else if i<17 then [8,10,11,12,37,38,39,44,55] else [8,10,12,37,38,39,57] else if i<21 then if i<19 then [8,11,12,37,38,39] else if i<20 then [8,11,37,38,39,60] else [4,5] else if i<22 then [8,37,38,39] else if i<23 then [8,37,38,39] else [4,5]
def kp34 (i:Nat):List Nat:=if i<5 then if i<2 then if i<1 then [0] else [0,4,6] else if i<3 then [0,4,16] else if i<4 then [2,3] else [4,7] else if i<8 then if i<6 then [7,20,21] else if i<7 then [7,20,21,22] else [7,8,20,21] else if i<9 then [7,20,21] else if i<10 then [7,20,21] else [2,3]
def kp35 (i:Nat):List Nat:=if i<5 then if i<2 then if i<1 then [0] else [0,4,6] else if i<3 then [0,4,16] else if i<4 then [2,3] else [4,7] else if i<7 then if i<6 then [4,7,8] else [4,7,8,22] else if i<8 then [4,7,8] else if i<9 then [4,7,8] else [2,3]
def kp36 (i:Nat):List Nat:=if i<2 then if i<1 then [0,1] else [0,1,6,7] else if i<3 then [0,1,6,14] else if i<4 then [4,5] else [4,5]
def kp42 (i:Nat):List Nat:=if i<4 then if i<2 then if i<1 then [0,1] else [0,1,5] else if i<3 then [0,5,8,9,10] else [0,5,8,9,10,11] else if i<6 then if i<5 then [0,5,7,8,9,10] else [0,5,8,9,10] else if i<7 then [0,5,8,9,10] else [4]
def kp43 (i:Nat):List Nat:=if i<6 then if i<3 then if i<1 then [1,2] else if i<2 then [1,2,11] else [1,2,11,12] else if i<4 then [4] else if i<5 then [1,2,23] else [4] else if i<9 then if i<7 then [1,2,5,7] else if i<8 then [1,2,5,7,42,43,44] else [1,2,5,7,42,43,44,45] else if i<11 then if i<10 then [1,2,5,7,9,42,43,44] else [1,2,5,7,42,43,44] else if i<12 then [1,2,5,7,42,43,44] else [4]
def kp46 (i:Nat):List Nat:=if i<3 then if i<1 then [0,1,3,6] else if i<2 then [1,3,6,9,10] else [1,9,10,20] else if i<5 then if i<4 then [8] else [29] else if i<6 then [8] else [8]
def kp47 (i:Nat):List Nat:=if i<5 then if i<2 then if i<1 then [0,1,2,6] else [0,1,2,6,15] else if i<3 then [6,7] else if i<4 then [0,1,2,6,8,9] else [0,1,2,6,8,9,22] else if i<8 then if i<6 then [6,7] else if i<7 then [0,1,2,6,27] else [6,7] else if i<9 then [0,1,2,6,33] else if i<10 then [6,7] else [6,7]
def kp51 (i:Nat):List Nat:=if i<4 then if i<2 then if i<1 then [0,2] else [0,2,6,7,8] else if i<3 then [0,2,6,7,8,9] else [0,2,5,6,7,8] else if i<6 then if i<5 then [0,2,5,6,7,8,15] else [2,3] else if i<7 then [0,2,6,7,8] else [2,3]
def kp52 (i:Nat):List Nat:=if i<4 then if i<2 then if i<1 then [1,2] else [1,2,5] else if i<3 then [1,2,5,8] else [1,2,5] else if i<6 then if i<5 then [1,2,5,12] else [1,2,5] else if i<7 then [41] else if i<8 then [4] else [4]
def kp57 (i:Nat):List Nat:=if i<11 then if i<5 then if i<2 then if i<1 then [0,1,5,6] else [0,1,5,6,21] else if i<3 then [6,7] else if i<4 then [0,1,5,6,8,9] else [0,1,5,6,8,9,28] else if i<8 then if i<6 then [6,7] else if i<7 then [0,1,5,6,33] else [6,7] else if i<9 then [1,5,6,10] else if i<10 then [5,6,10,47,48,49] else [5,6,10,47,48,49,50] else if i<16 then if i<13 then if i<12 then [5,6,10,12,47,48,49] else [5,6,10,12,47,48,49,53] else if i<14 then [6,7] else if i<15 then [5,6,10,12,47,48,49,60] else [6,7] else if i<19 then if i<17 then [5,6,10,47,48,49] else if i<18 then [5,6,10,47,48,49] else [6,10,14] else if i<20 then [6,10,14,82] else if i<21 then [6,7] else [6,7]
def kp64 (i:Nat):List Nat:=if i<4 then if i<2 then if i<1 then [0,1] else [0,1,5] else if i<3 then [0,5,8,9,10] else [0,5,8,9,10,11] else if i<6 then if i<5 then [0,5,7,8,9,10] else [0,5,8,9,10] else if i<7 then [0,5,8,9,10] else [4]
def kp71 (i:Nat):List Nat:=if i<2 then if i<1 then [0] else [0,4] else if i<3 then [2] else [2]
def kp73 (i:Nat):List Nat:=if i<2 then if i<1 then [] else [1] else if i<3 then [1,2] else [0]
def kp74 (i:Nat):List Nat:=if i<1 then [0] else [2]
def kp78 (i:Nat):List Nat:=if i<1 then [0,1] else [4]
def kp79 (i:Nat):List Nat:=if i<1 then [1] else [2]
def kp80 (i:Nat):List Nat:=if i<8 then if i<4 then if i<2 then if i<1 then [0] else [0,3] else if i<3 then [0,3,9,10,11] else [0,3,9,10,11,12] else if i<6 then if i<5 then [0,3,5,9,10,11] else [0,3,9,10,11] else if i<7 then [0,3,9,10,11,20] else [0,3,9,10,11] else if i<12 then if i<10 then if i<9 then [0,3,9,10,11] else [0,6] else if i<11 then [6,25,26,27] else [6,25,26,27,28] else if i<14 then if i<13 then [6,8,25,26,27] else [6,25,26,27] else if i<15 then [6,25,26,27] else [2]
def kp95 (i:Nat):List Nat:=if i<1 then [0] else if i<2 then [5] else [2]
def kp96 (i:Nat):List Nat:=if i<1 then [0,1] else if i<2 then [0,1,6] else [4,5]
def kp98 (i:Nat):List Nat:=if i<7 then if i<3 then if i<1 then [2,3,6] else if i<2 then [2,3,6,9] else [2,3,6,9,10] else if i<5 then if i<4 then [3,6,9,10,19,20,21] else [3,6,9,10,19,20,21,22] else if i<6 then [3,6,9,10,12,19,20,21] else [3,6,9,10,19,20,21] else if i<10 then if i<8 then [3,6,9,10,19,20,21] else if i<9 then [3,6,10,13,14] else [3,6,10,13,46] else if i<12 then if i<11 then [6,7,8] else [6,13,15] else if i<13 then [6,17,18] else [6,7,8]
def kp107 (i:Nat):List Nat:=if i<1 then [0,1] else [4]
def kp108 (i:Nat):List Nat:=if i<4 then if i<2 then if i<1 then [] else [1] else if i<3 then [1,4,5,6] else [1,4,5,6,7] else if i<6 then if i<5 then [1,3,4,5,6] else [1,4,5,6] else if i<7 then [1,4,5,6] else [0]
def kp111 (i:Nat):List Nat:=if i<4 then if i<2 then if i<1 then [0,1] else [0,1,7,8] else if i<3 then [0,1,7,8,9] else [0,1,5,7,8] else if i<6 then if i<5 then [0,1,5,7,8,16] else [4] else if i<7 then [0,1,7,8] else [4]
def kp117 (i:Nat):List Nat:=if i<2 then if i<1 then [1,2] else [2,10] else if i<3 then [5,6] else [5,6]
def kp125 (i:Nat):List Nat:=if i<1 then [0,1] else [3]
def kp126 (i:Nat):List Nat:=if i<4 then if i<2 then if i<1 then [0,1] else [0,1,7,8] else if i<3 then [0,1,7,8,9] else [0,1,5,7,8] else if i<6 then if i<5 then [0,1,5,7,8,16] else [4] else if i<7 then [0,1,7,8] else [4]
end Go.Proofs.YtcpjahmajkhchaaGreat

namespace Go.Proofs.YtcpjahmajkhchaaGreat
open Go Go.Fw
set_option maxRecDepth 20000
def okA (a:Arr):Prop:=a.d.length≤1000000∧a.x.length≤1000000
def spV (p:List Int×List Int×Int):AV:= .tup [.sl false 1 (ints .i64 p.1),.sl false 1 (ints .i64 p.2.1),.lit (.int .i64 p.2.2)]
theorem spV_def {p:List Int×List Int×Int}:spV p= .tup [.sl false 1 (ints .i64 p.1),.sl false 1 (ints .i64 p.2.1),.lit (.int .i64 p.2.2)]:=rfl
theorem spE_le {e:Int}:LeA (.tup [.lit (.slice none 0 0),.lit (.slice none 0 0),.lit (.int .i64 e)]) (spV ([],[],e)):=LeA.tup ⟨LeA.nil _ _,LeA.nil _ _,LeA.refl _,trivial⟩
theorem bne0 {n:Int} (h:n≠0):(n==0)=false:=beq_eq_false_iff_ne.2 h
noncomputable def E10:Env:=envOf (P:=Tryz.prog) zer (fun t=>t==15) (fun _=>false) [con45,con71] []
theorem E10_ok:EnvOk Tryz.prog E10:=envOk zer_ok
set_option maxRecDepth 20000 in
set_option maxHeartbeats 1000000 in
theorem split_pc {a:Arr} {r:Int} (ha:okA a) (hr:inI64 r):PC Tryz.prog 77 [arrV a,.lit (.int .i64 r)] (spV (splitS a r)):=by
  obtain ⟨hd,hx⟩:=ha
  unfold splitS
  by_cases h0:ofE a=0
  ·have e0:(ofE a==0)=true:=by rw [h0];rfl
   rw [if_neg (by simpa using h0)]
   by_cases h1:r<0
   ·have r1:decide (r<0)=true:=decide_eq_true h1
    rw [if_pos (.inl h1)]
    refine pcO E10_ok (fun _=>[1,2,4,5,6,7,10,21]) Tryz.func77 (h:=fun KF=>?_)
    unfold E10
    repeat' (first
     |(with_reducible first|refine nx ?_|refine t_seq fun K=>?_|refine t_br (fun hc=>?_) fun hc=>?_|refine t_bx ?_|apply And.intro|intro vr)
     |((with_reducible first|refine ny ?_|refine t_dwh (h:=fun K KL=>?_));intros;simp only [go_sem,geff,con45_f,con45_c,con71_f,con71_c,arrV_def,arrOf_agg,slK_sl,e0,r1,Bool.not_true]))
    all_goals try exact om
    refine end_ret rfl ?_
    simp only [fin,go_sem]
    exact spE_le
   ·have r1:decide (r<0)=false:=decide_eq_false h1
    have hw:IntKind.i64.wrap ((a.d.length:Int) - r)=(a.d.length:Int) - r:=wrap_i64 (by unfold inI64 at*;omega)
    by_cases h2:r>a.d.length
    ·have r2:decide ((a.d.length:Int) - r<0)=true:=decide_eq_true (by omega)
     have r3:decide (r>(a.d.length:Int))=true:=decide_eq_true (by omega)
     rw [if_pos (.inr h2)]
     refine pcO E10_ok (fun _=>[1,2,4,5,6,7,10,21]) Tryz.func77 (h:=fun KF=>?_)
     unfold E10
     repeat' (first
      |(with_reducible first|refine nx ?_|refine t_seq fun K=>?_|refine t_br (fun hc=>?_) fun hc=>?_|refine t_bx ?_|apply And.intro|intro vr)
      |((with_reducible first|refine ny ?_|refine t_dwh (h:=fun K KL=>?_));intros;simp only [go_sem,geff,con45_f,con45_c,con71_f,con71_c,arrV_def,arrOf_agg,slK_sl,e0,r1,r2,r3,hw,Bool.not_true]))
     all_goals try exact om
     refine end_ret rfl ?_
     simp only [fin,go_sem]
     exact spE_le
    ·have r2:decide ((a.d.length:Int) - r<0)=false:=decide_eq_false (by omega)
     have r3:decide (r>(a.d.length:Int))=false:=decide_eq_false (by omega)
     rw [if_neg (by omega)]
     have hk:((a.d.length:Int) - r).toNat=a.d.length - r.toNat:=by omega
     refine pcO E10_ok (fun _=>[1,2,4,5,6,7,10,21]) Tryz.func77 (h:=fun KF=>?_)
     unfold E10
     repeat' (first
      |(with_reducible first|refine nx ?_|refine t_seq fun K=>?_|refine t_br (fun hc=>?_) fun hc=>?_|refine t_bx ?_|apply And.intro|intro vr)
      |((with_reducible first|refine ny ?_|refine t_dwh (h:=fun K KL=>?_));intros;simp only [go_sem,geff,con45_f,con45_c,con71_f,con71_c,arrV_def,arrOf_agg,slK_sl,e0,r1,r2,r3,hw,hk,Bool.not_true,Bool.false_and,Int.toNat_natCast,List.take_length]))
     all_goals try exact om
     all_goals try (simp only [List.length_take,List.length_drop];omega)
     refine end_ret rfl ?_
     simp only [fin,go_sem]
     exact LeA.refl _
  ·have e0:(ofE a==0)=false:=bne0 h0
   rw [if_pos (by simpa using h0)]
   refine pcO E10_ok (fun _=>[1,2,4,5,6,7,10,21]) Tryz.func77 (h:=fun KF=>?_)
   unfold E10
   repeat' (first
    |(with_reducible first|refine nx ?_|refine t_seq fun K=>?_|refine t_br (fun hc=>?_) fun hc=>?_|refine t_bx ?_|apply And.intro|intro vr)
    |((with_reducible first|refine ny ?_|refine t_dwh (h:=fun K KL=>?_));intros;simp only [go_sem,geff,con45_f,con45_c,con71_f,con71_c,arrV_def,arrOf_agg,slK_sl,e0,Bool.not_false]))
   all_goals try exact om
   refine end_ret rfl ?_
   simp only [fin,go_sem]
   exact spE_le
noncomputable def con77:PCon Tryz.prog where
  f:=77
  c:=fun
   |[xa,.lit (.int .i64 r)]=>match arrOf xa with|some a=>some (okA a∧inI64 r,spV (splitS a r))|_=>none
   |_=>none
  ok:=by
   intro args p r hc hp
   split at hc
   ·split at hc
    ·rename_i ha
     cases hc
     exact PC.weak ((fun hp:_∧_=>split_pc hp.1 hp.2) hp) ⟨arrOf_le ha,LeA.refl _,trivial⟩
    ·cases hc
   ·cases hc
  fk:=fk77
theorem con77_f:con77.f=77:=rfl
theorem con77_c {xa:AV} {r:Int}:con77.c [xa,.lit (.int .i64 r)]=match arrOf xa with|some a=>some (okA a∧inI64 r,spV (splitS a r))|_=>none:=rfl
theorem rep_ints (m:Nat):List.replicate m (AV.lit (.int .i64 0))=ints .i64 (List.replicate m 0):=by simp [ints]
end Go.Proofs.YtcpjahmajkhchaaGreat

namespace Go.Proofs.YtcpjahmajkhchaaGreat
open Go Go.Fw
set_option maxRecDepth 20000
def fieldTs (P:Program) (t:TypeId):List TypeId:=match P.underlying t with
  |some (.struct fs)=>fs.toList.map (·.type)
  |_=>[]
theorem struct_of {P:Program} {t:TypeId} {ts:List TypeId} (hne:ts≠[]) (h:fieldTs P t=ts):∃ fs:Array Field,P.underlying t=some (.struct fs)∧fs.toList.map (·.type)=ts:=by
  unfold fieldTs at h
  split at h
  ·rename_i e;exact ⟨_,e,h⟩
  ·exact absurd h.symm hne
theorem sh_fields {P:Program} {t:TypeId} {ts:List TypeId} {xs:List AV} (hne:ts≠[]) (ht:fieldTs P t=ts) (h:Sh P t xs):
    ∃ xss:List (List AV),xs=xss.flatten∧xss.length=ts.length∧∀ (i:Nat) (u:TypeId) (ys:List AV),ts[i]? =some u→xss[i]? =some ys→Sh P u ys:=by
  obtain ⟨fs,hf,hm⟩:=struct_of hne ht
  obtain ⟨xss,h1,h2,h3⟩:=sh_struct hf h
  refine ⟨xss,h1,by rw [h2,←hm];simp,fun i u ys hu hy=>?_⟩
  rw [←hm,List.getElem?_map] at hu
  cases hi:fs.toList[i]? with
  |none=>rw [hi] at hu;cases hu
  |some f=>rw [hi] at hu;cases hu;exact h3 i f ys hi hy
theorem sh_three {P:Program} {t a b c:TypeId} {xs:List AV} (ht:fieldTs P t=[a,b,c]) (h:Sh P t xs):∃ p q r,xs=p++(q++r)∧Sh P a p∧Sh P b q∧Sh P c r:=by
  obtain ⟨xss,h1,h2,h3⟩:=sh_fields (by simp) ht h
  match xss,h2 with
  |[p,q,r],_=>exact ⟨p,q,r,by simpa using h1,h3 0 a p rfl rfl,h3 1 b q rfl rfl,h3 2 c r rfl rfl⟩
theorem sh_two {P:Program} {t a b:TypeId} {xs:List AV} (ht:fieldTs P t=[a,b]) (h:Sh P t xs):∃ p q,xs=p++q∧Sh P a p∧Sh P b q:=by
  obtain ⟨xss,h1,h2,h3⟩:=sh_fields (by simp) ht h
  match xss,h2 with
  |[p,q],_=>exact ⟨p,q,by simpa using h1,h3 0 a p rfl rfl,h3 1 b q rfl rfl⟩
end Go.Proofs.YtcpjahmajkhchaaGreat

namespace Go.Fw
end Go.Fw
namespace Go.Proofs.YtcpjahmajkhchaaGreat
open Go Go.Fw
set_option maxRecDepth 20000
def prI:List Int→Int
  |[]=>1
  |d::t=>d*prI t
def dimOk (l:List Int):Prop:=∀ x∈l,0≤x∧x≤4096
theorem prI_app:∀ l m:List Int,prI (l++m)=prI l*prI m
  |[],m=>by simp [prI]
  |d::t,m=>by simp [prI,prI_app t m,Int.mul_assoc]
theorem prI_nonneg:∀ {l:List Int},dimOk l→0≤prI l
  |[],_=>by decide
  |d::t,h=>Int.mul_nonneg (h d (by simp)).1 (prI_nonneg fun x hx=>h x (by simp [hx]))
theorem prI_pos:∀ {l:List Int},(∀ x∈l,1≤x)→1≤prI l
  |[],_=>by decide
  |d::t,h=>by
   have h1:=h d (by simp)
   have h2:=prI_pos (l:=t) fun x hx=>h x (by simp [hx])
   have:=Int.mul_le_mul h1 h2 (by omega) (by omega)
   simpa [prI] using this
theorem prI_zero:∀ {l:List Int},(l.any fun d=>0==d)=true→prI l=0
  |[],h=>by simp at h
  |d::t,h=>by
   rw [List.any_cons,Bool.or_eq_true] at h
   rcases h with h|h
   ·rw [beq_iff_eq] at h;rw [prI,←h,Int.zero_mul]
   ·rw [prI,prI_zero h,Int.mul_zero]
theorem prI_pow:∀ {l:List Int},dimOk l→prI l≤4096 ^ l.length
  |[],_=>by decide
  |d::t,h=>by
   have h1:=h d (by simp)
   have ht:dimOk t:=fun x hx=>h x (by simp [hx])
   have h2:=prI_pow ht
   have h0:=prI_nonneg ht
   have:=Int.mul_le_mul h1.2 h2 h0 (by omega)
   rw [prI,List.length_cons,Int.pow_succ,Int.mul_comm _ 4096]
   exact this
theorem prodS_eq:∀ {l:List Int} {m n:Int},prodS l m=(n,0)→n=m*prI l
  |[],m,n,h=>by simp only [prodS,Prod.mk.injEq] at h;rw [prI];omega
  |d::t,m,n,h=>by
   unfold prodS at h
   split at h
   ·cases h
   ·rw [prI,←Int.mul_assoc];exact prodS_eq h
theorem prodS_ok:∀ {l:List Int} {m:Int},(∀ x∈l,1≤x)→1≤m→m*prI l≤4096→prodS l m=(m*prI l,0)
  |[],m,_,_,_=>by simp [prodS,prI]
  |d::t,m,h,hm,hb=>by
   have h1:=h d (by simp)
   have ht:∀ x∈t,1≤x:=fun x hx=>h x (by simp [hx])
   have hp:=prI_pos ht
   rw [prI,←Int.mul_assoc] at hb
   have hmd:=Int.mul_le_mul hm h1 (by omega) (by omega)
   have:m*d*1≤m*d*prI t:=Int.mul_le_mul_of_nonneg_left hp (by omega)
   unfold prodS
   rw [if_neg (by omega),prI,←Int.mul_assoc]
   exact prodS_ok ht (by omega) hb
theorem not_any_zero {l:List Int} (hd:dimOk l) (h: ¬ (l.any fun d=>0==d)=true):∀ x∈l,1≤x:=by
  intro x hx
  have: ¬ x=0:=fun e=>h (List.any_eq_true.2 ⟨x,hx,by rw [e];rfl⟩)
  have:=hd x hx
  omega
theorem sizeS_ok {d:List Int} {n:Int} (h:sizeS d=(n,0)):d.length≤6∧dimOk d∧n=prI d∧n≤4096:=by
  have hb:=sizeS_bd d
  rw [h] at hb
  unfold sizeS at h
  split at h
  ·cases h
  rename_i h6
  split at h
  ·cases h
  rename_i hbad
  have hd:dimOk d:=bad_no hbad
  split at h
  ·rename_i h0
   cases h
   exact ⟨by omega,hd,(prI_zero h0).symm,by decide⟩
  ·exact ⟨by omega,hd,by rw [prodS_eq h,Int.one_mul],hb.2⟩
theorem sizeS_part {f c:List Int} {n:Int} (h:sizeS (f++c)=(n,0)) (hf:∀ x∈f,1≤x):sizeS c=(prI c,0):=by
  obtain ⟨h1,h2,h3,h4⟩:=sizeS_ok h
  have hc:dimOk c:=fun x hx=>h2 x (by simp [hx])
  unfold sizeS
  rw [if_neg (by simp only [List.length_append] at h1;omega)]
  rw [if_neg (by
   intro hb
   obtain ⟨x,hx,hb⟩:=List.any_eq_true.1 hb
   have:=hc x hx
   unfold badD at hb
   rw [Bool.or_eq_true,decide_eq_true_eq,decide_eq_true_eq] at hb
   omega)]
  split
  ·rename_i h0;rw [prI_zero h0]
  ·rename_i h0
   have hp:=prI_pos (not_any_zero hc h0)
   have hq:=prI_pos hf
   have:1*prI c≤prI f*prI c:=Int.mul_le_mul_of_nonneg_right hq (by omega)
   rw [←prI_app,←h3] at this
   rw [prodS_ok (not_any_zero hc h0) (by decide) (by omega),Int.one_mul]
theorem pow_bd:∀ n:Nat,n≤5→(4096:Int) ^ n≤1152921504606846976:=by decide
theorem prI_bd {l:List Int} (hd:dimOk l) (h6:l.length≤6) (h:l.length=6→prI l≤4096):0≤prI l∧prI l≤1152921504606846976:=by
  refine ⟨prI_nonneg hd,?_⟩
  have hp:=prI_pow hd
  by_cases e:l.length=6
  ·have:=h e;omega
  ·have:=pow_bd l.length (by omega);omega
theorem part_bd {d:List Int} {n:Int} (h:sizeS d=(n,0)) (i j:Nat):0≤prI ((d.drop i).take j)∧prI ((d.drop i).take j)≤1152921504606846976:=by
  obtain ⟨h1,h2,h3,h4⟩:=sizeS_ok h
  refine prI_bd (fun x hx=>h2 x (List.mem_of_mem_drop (List.mem_of_mem_take hx))) (by simp only [List.length_take,List.length_drop];omega) fun e=>?_
  simp only [List.length_take,List.length_drop] at e
  have:(d.drop i).take j=d:=by
    have hi:i=0:=by omega
    subst hi
    rw [List.drop_zero,List.take_of_length_le (by omega)]
  rw [this,←h3]
  exact h4
def atS:List Int→List Int→Int→Option Int
  |d::f,n::o,k=>if n<0∨n≥d then none else atS f o (k*d+n)
  |_,_,k=>some k
theorem prI_take_succ {f:List Int} {i:Nat} (h:i<f.length):prI (f.take (i+1))=prI (f.take i)*f.getD i 0:=by
  rw [List.take_add_one,prI_app]
  congr 1
  rw [List.getD_eq_getElem?_getD,List.getElem?_eq_getElem h]
  simp [prI]
theorem at_step {k p d n:Int} (hk:0≤k) (hk':k<p) (hn:0≤n) (hn':n<d):0≤k*d∧0≤k*d+n∧k*d+n<p*d:=by
  have h1:0≤k*d:=Int.mul_nonneg hk (by omega)
  have h2:(k+1)*d≤p*d:=Int.mul_le_mul_of_nonneg_right (by omega) (by omega)
  rw [Int.add_mul,Int.one_mul] at h2
  exact ⟨h1,by omega,by omega⟩
def cellS (a:Arr) (r:Int) (own:List Int):Arr×Int:=
  if (splitS a r).2.2≠0 then (nilA,(splitS a r).2.2)
  else if own.length≠(splitS a r).1.length then (nilA,13)
  else match atS (splitS a r).1 own 0 with
    |none=>(nilA,2)
    |some k=>(⟨a.e,(splitS a r).2.1,(a.x.drop (k*prI (splitS a r).2.1).toNat).take (prI (splitS a r).2.1).toNat⟩,0)
theorem ofE_inv {a:Arr} (h:ofE a=0):tyOk a.e=true∧sizeS a.d=((a.x.length:Int),0)∧bad a=false:=by
  have ht:tyOk a.e=true:=by
    cases e:tyOk a.e with
    |true=>rfl
    |false=>rw [ofE_ty e] at h;cases h
  have hs:(sizeS a.d).2=0:=by
    by_cases e:(sizeS a.d).2=0
    ·exact e
    ·rw [ofE_sz ht e] at h;exact absurd h e
  have hl:(a.x.length:Int)=(sizeS a.d).1:=by
    by_cases e:(a.x.length:Int)=(sizeS a.d).1
    ·exact e
    ·rw [ofE_len ht hs e] at h;cases h
  have hb:bad a=false:=by
    cases e:bad a with
    |false=>rfl
    |true=>rw [ofE_el ht hs hl,if_pos e] at h;cases h
  exact ⟨ht,Prod.ext hl.symm hs,hb⟩
theorem ofE_zero {a:Arr} (ht:tyOk a.e=true) (hs:sizeS a.d=((a.x.length:Int),0)) (hb:bad a=false):ofE a=0:=by
  rw [ofE_el ht (by rw [hs]) (by rw [hs]),if_neg (by rw [hb];decide)]
theorem splitS_inv {a:Arr} {r:Int} {f c:List Int} (h:splitS a r=(f,c,0)):ofE a=0∧a.d=f++c∧0≤r∧r=c.length:=by
  unfold splitS at h
  split at h
  ·cases h
  ·rename_i h0
   split at h
   ·cases h
   ·rename_i h1
    cases h
    simp only [ne_eq,Decidable.not_not] at h0
    refine ⟨h0,(List.take_append_drop _ _).symm,by omega,?_⟩
    simp only [List.length_drop]
    omega
theorem any_part {α:Type} {p:α→Bool} {l:List α} (i j:Nat) (h:l.any p=false):((l.drop i).take j).any p=false:=by
  rw [List.any_eq_false] at h ⊢
  exact fun x hx=>h x (List.mem_of_mem_drop (List.mem_of_mem_take hx))
theorem cell_ok {a:Arr} {f c:List Int} {k:Int} (h0:ofE a=0) (hd:a.d=f++c) (hf:∀ x∈f,1≤x) (hk:0≤k) (hk':k<prI f):
    sizeS c=(prI c,0)∧0≤prI c∧0≤k*prI c∧k*prI c+prI c≤a.x.length∧a.x.length≤4096∧ofE ⟨a.e,c,(a.x.drop (k*prI c).toNat).take (prI c).toNat⟩=0:=by
  obtain ⟨ht,hs,hb⟩:=ofE_inv h0
  rw [hd] at hs
  obtain ⟨h1,h2,h3,h4⟩:=sizeS_ok hs
  have hsz:=sizeS_part hs hf
  have hc:0≤prI c:=prI_nonneg fun x hx=>h2 x (by simp [hx])
  have hm:(k+1)*prI c≤prI f*prI c:=Int.mul_le_mul_of_nonneg_right (by omega) hc
  rw [←prI_app,←h3,Int.add_mul,Int.one_mul] at hm
  have hkc:0≤k*prI c:=Int.mul_nonneg hk hc
  refine ⟨hsz,hc,hkc,hm,by omega,ofE_zero ht ?_ (any_part _ _ hb)⟩
  rw [hsz]
  congr 1
  simp only [List.length_take,List.length_drop]
  omega
end Go.Proofs.YtcpjahmajkhchaaGreat

namespace Go.Proofs.YtcpjahmajkhchaaGreat
open Go Go.Fw
set_option maxRecDepth 20000
def ilA (l:List Int):AV:= .sl false 1 (ints .i64 l)
def ils (L:List (List Int)):List AV:=L.map ilA
theorem ils_length (L:List (List Int)):(ils L).length=L.length:=by simp [ils]
theorem ils_getD (L:List (List Int)) (i:Nat) (h:i<L.length):(ils L).getD i .top= .sl false 1 (ints .i64 (L.getD i [])):=by simp [ils,ilA,List.getD,h]
theorem ils_app (L:List (List Int)) (l:List Int):ils L++[.sl false 1 (ints .i64 l)]=ils (L++[l]):=by simp [ils,ilA]
def ilL:List AV→Option (List (List Int))
  |[]=>some []
  |x::xs=>match slK .i64 x,ilL xs with
   |some a,some l=>some (a::l)
   |_,_=>none
theorem ilL_cons {x:AV} {xs:List AV}:ilL (x::xs)=match slK .i64 x,ilL xs with
    |some a,some l=>some (a::l)
    |_,_=>none:=rfl
theorem ilL_ils:∀ l:List (List Int),ilL (ils l)=some l
  |[]=>rfl
  |a::l=>by
   have:=ilL_ils l
   unfold ils at this ⊢
   rw [List.map_cons,ilL_cons,ilA,slK_sl,this]
theorem slK_cells {x:AV} {l:List Int} (h:slK .i64 x=some l):x.cells=[x]:=by
  unfold slK slA at h
  split at h
  ·rfl
  ·rfl
  ·cases h
theorem ilL_inv:∀ {xs:List AV} {l:List (List Int)},ilL xs=some l→xs.length=l.length∧LeL (flat xs) (flat (ils l))
  |[],l,h=>by cases h;exact ⟨rfl,trivial⟩
  |x::xs,l,h=>by
   rw [ilL_cons] at h
   split at h
   ·rename_i a m h1 h2
    cases h
    obtain ⟨e1,e2⟩:=ilL_inv h2
    refine ⟨by simp [e1],?_⟩
    have:LeL (AV.cells x) (AV.cells (ilA a)):=by rw [slK_cells h1];exact ⟨slK_le h1,trivial⟩
    exact LeL.append this e2
   ·cases h
theorem ils_wid (l:List (List Int)):∀ y∈ils l,y.cells.length=1:=by
  intro y hy
  obtain ⟨a,_,rfl⟩:=List.mem_map.1 hy
  rfl
def ilsOf (x:AV):Option (List (List Int)):=(slA 1 x).bind ilL
theorem ilsOf_le {x:AV} {l:List (List Int)} (h:ilsOf x=some l):LeA x (.sl false 1 (ils l)):=by
  unfold ilsOf at h
  cases hx:slA 1 x with
  |none=>rw [hx] at h;cases h
  |some xs=>
   rw [hx] at h
   obtain ⟨h1,h2⟩:=ilL_inv (l:=l) h
   intro C v hv
   exact LeA.sl (b:=false) (by rw [ils_length];exact h1) (ils_wid l) h2 C v (slA_le hx C v hv)
theorem ilsOf_sl {b:Bool} {l:List (List Int)}:ilsOf (.sl b 1 (ils l))=some l:=by simp [ilsOf,slA,ilL_ils]
def axOk (n:Int) (axes:List Int) (i:Nat):Bool:= !decide (axes.getD i 0<0)&&(!decide (axes.getD i 0≥n)&& !(decide ((i:Int)>0)&&decide (axes.getD (i - 1) 0≥axes.getD i 0)))
def axP (n:Int) (axes:List Int):Prop:=∀ i,i<axes.length→axOk n axes i=true
instance (n:Int) (axes:List Int):Decidable (axP n axes):=inferInstanceAs (Decidable (∀ i,i<axes.length→axOk n axes i=true))
def pickM (list axes:List Int):List Int:=axes.map fun a=>list.getD a.toNat 0
def pickS (list axes:List Int):Option (List Int):=if axP list.length axes then some (pickM list axes) else none
theorem axP_no {n:Int} {axes:List Int} {i:Nat} (h:i<axes.length) (hb:axOk n axes i=false): ¬ axP n axes:=fun hp=>by rw [hp i h] at hb;cases hb
theorem axOk_in {n:Int} {axes:List Int} {i:Nat} (h:axOk n axes i=true):0≤axes.getD i 0∧axes.getD i 0<n:=by
  unfold axOk at h
  simp only [Bool.and_eq_true,Bool.not_eq_true',decide_eq_false_iff_not] at h
  omega
theorem pickM_take {list axes:List Int} {i:Nat} (h:i<axes.length):pickM list (axes.take i)++[list.getD (axes.getD i 0).toNat 0]=pickM list (axes.take (i+1)):=by
  rw [List.take_add_one,List.getElem?_eq_getElem h]
  unfold pickM
  rw [List.map_append]
  simp only [Option.toList_some,List.map_cons,List.map_nil,List.getD_eq_getElem?_getD,List.getElem?_eq_getElem h,Option.getD_some]
theorem pickM_len (list axes:List Int):(pickM list axes).length=axes.length:=by simp [pickM]
def optV:Option (List Int)→AV
  |some l=> .tup [.sl false 1 (ints .i64 l),.lit (.bool true)]
  |none=> .tup [.lit (.slice none 0 0),.lit (.bool false)]
theorem wrap64_eq (n:Int):IntKind.i64.wrap n=(n+9223372036854775808) % 18446744073709551616 - 9223372036854775808:=by
  unfold IntKind.wrap
  have e1:IntKind.i64.bits=64:=rfl
  have e2:IntKind.i64.signed=true:=rfl
  simp only [e1,e2]
  simp
  try omega
def checkS (frame axes:List Int) (r:Int) (a:Arr):Int:=match pickS frame axes with
  |none=>1
  |some own=>if ofE a≠0 then 1 else if r<0∨(a.d.length:Int)≠r+axes.length then 13 else if a.d.take axes.length≠own then 14 else 0
def chkG (frame:List Int):List (List Int)→List Int→List Arr→Int
  |ax::axs,r::rs,a::l=>if checkS frame ax r a≠0 then checkS frame ax r a else chkG frame axs rs l
  |_,_,_=>0
def chkS (frame:List Int) (axs:List (List Int)) (rs:List Int) (l:List Arr):Int:=
  if ((sizeS frame).2≠0∧(sizeS frame).2≠3)∨axs.length≠l.length∨rs.length≠l.length then 1 else if (sizeS frame).2≠0 then 3 else chkG frame axs rs l
end Go.Proofs.YtcpjahmajkhchaaGreat

namespace Go.Proofs.YtcpjahmajkhchaaGreat
open Go Go.Fw
set_option maxRecDepth 20000
def jA:AV:=arrV nilA
def jI:AV:= .sl false 1 []
def jk:TypeId→AV:=lookZ [(3,.lit (.int .i64 0)),(9,.lit (.string ByteArray.empty)),(23,jI),(31,jA)]
theorem jk3:jk 3= .lit (.int .i64 0):=rfl
theorem jk9:jk 9= .lit (.string ByteArray.empty):=rfl
theorem jk23:jk 23=jI:=rfl
theorem jk31:jk 31=jA:=rfl
theorem arrs_getJ (l:List Arr) (i:Nat):(arrs l).getD i jA=arrV (l.getD i nilA):=by
  simp only [arrs,jA,List.getD_eq_getElem?_getD,List.getElem?_map];cases l[i]? <;>rfl
theorem ils_getJ (l:List (List Int)) (i:Nat):(ils l).getD i jI= .sl false 1 (ints .i64 (l.getD i [])):=by
  simp only [ils,jI,List.getD_eq_getElem?_getD,List.getElem?_map];cases l[i]? <;>rfl
attribute [go_sem] jk3 jk9 jk23 jk31 arrs_getJ ils_getJ
end Go.Proofs.YtcpjahmajkhchaaGreat

namespace Go.Proofs.YtcpjahmajkhchaaGreat
open Go Go.Fw
set_option maxRecDepth 20000
def jkR:TypeId→AV:=fun t=>if t=78 then jStp else jk t
theorem jkR_78:jkR 78=jStp:=rfl
theorem jkR_3:jkR 3= .lit (.int .i64 0):=rfl
theorem jkR_9:jkR 9= .lit (.string ByteArray.empty):=rfl
theorem jkR_23:jkR 23=jI:=rfl
theorem jkR_31:jkR 31=jA:=rfl
theorem typesV_some {r:El.Rw}:El.typesV (some r)= .tup [.sl false 1 (strs r.ps),.lit (.string r.rs),.lit (.bool true)]:=rfl
theorem typesV_none:El.typesV none= .tup [.lit (.slice none 0 0),.lit (.string ⟨#[]⟩),.lit (.bool false)]:=rfl
attribute [go_sem] jkR_78 jkR_3 jkR_9 jkR_23 jkR_31 stps_getJ stps_length El.con65_f El.con65_c El.con44_f El.con44_c El.con40_f El.con40_c El.con38_f El.con38_c typesV_some typesV_none
theorem all_step {l:List Int} {i:Nat} {p:Int→Bool} (h:i<l.length):((l.take i).all p&&p (l.getD i 0))=(l.take (i+1)).all p:=by
  rw [List.take_add_one,List.getElem?_eq_getElem h,List.all_append,List.getD_eq_getElem?_getD,List.getElem?_eq_getElem h];simp
noncomputable def A1:Env:=envJ (P:=Tryz.prog) jkR zer (fun _=>false) (fun _=>false) [El.con40,El.con65] []
theorem A1_ok:EnvOk Tryz.prog A1:=envJOk zer_ok
set_option maxHeartbeats 4000000 in
theorem valid1_pc {s:Stp} {n:Int} (hl:s.args.length≤1000000):PC Tryz.prog 43 [stpV s,.lit (.int .i64 n)] (.lit (.bool (validS s n))):=by
  generalize hR:validS s n=R
  unfold validS at hR
  simp only [stpV]
  cases h1:eqS s.op sConst with
  |true=>
   rw [if_pos h1] at hR
   have h1':eqS s.op ⟨#[99,111,110,115,116]⟩=true:=h1
   refine pcR A1_ok (kp43) Tryz.func43 [.tmp 4] (h:=fun KF=>?_)
   unfold A1
   repeat' (first
    |(with_reducible first|refine nx ?_|refine t_seq fun K=>?_|refine t_br (fun hc=>?_) fun hc=>?_|refine t_bx ?_|apply And.intro|intro vr)
    |((with_reducible first|refine ny ?_|refine t_dwh (h:=fun K KL=>?_));intros;simp only [go_sem,kp43,geff,h1']))
   all_goals try exact nd
   all_goals (refine nl ?_;simp only [go_sem])
   exact LeA.of_eq (by rw [←hR];rfl)
  |false=>
   have h1':eqS s.op ⟨#[99,111,110,115,116]⟩=false:=h1
   rw [if_neg (by rw [h1];decide)] at hR
   cases h2:eqS s.op sTruth with
   |true=>
    rw [if_pos h2] at hR
    have h2':eqS s.op ⟨#[116,114,117,116,104]⟩=true:=h2
    refine pcR A1_ok (kp43) Tryz.func43 [.tmp 4] (h:=fun KF=>?_)
    unfold A1
    repeat' (first
     |(with_reducible first|refine nx ?_|refine t_seq fun K=>?_|refine t_br (fun hc=>?_) fun hc=>?_|refine t_bx ?_|apply And.intro|intro vr)
     |((with_reducible first|refine ny ?_|refine t_dwh (h:=fun K KL=>?_));intros;simp only [go_sem,kp43,geff,h1',h2']))
    all_goals try exact nd
    all_goals (refine nl ?_;simp only [go_sem])
    exact LeA.of_eq (by rw [←hR];rfl)
   |false=>
    have h2':eqS s.op ⟨#[116,114,117,116,104]⟩=false:=h2
    rw [if_neg (by rw [h2];decide)] at hR
    cases hT:El.typesS s.op with
    |none=>
     rw [hT] at hR
     simp only at hR
     refine pcR A1_ok (kp43) Tryz.func43 [.tmp 4] (h:=fun KF=>?_)
     unfold A1
     repeat' (first
      |(with_reducible first|refine nx ?_|refine t_seq fun K=>?_|refine t_br (fun hc=>?_) fun hc=>?_|refine t_bx ?_|apply And.intro|intro vr)
      |((with_reducible first|refine ny ?_|refine t_dwh (h:=fun K KL=>?_));intros;simp only [go_sem,kp43,geff,h1',h2',hT]))
     all_goals try exact nd
     refine t_loopF (ι:={i:Nat // i≤s.args.length}) (fun i=>[(44,.lit (.int .i64 i.1))]) (fun i=>[.box 78 [.lit (.string s.op),.lit (.int .i64 s.num),.sl false 1 (ints .i64 s.args)]]) (fun i=>s.args.length - i.1) ⟨0,by omega⟩ ?_ ?_
     ·exact lf
     rintro ⟨i,hi⟩ K0
     rcases Nat.lt_or_ge i s.args.length with hc|hc
     ·have g3:decide ((i:Int)<(s.args.length:Int))=true:=decide_eq_true (by omega)
      repeat' (first
       |(with_reducible first|refine nx ?_|refine t_seq fun K=>?_|refine t_br (fun hc=>?_) fun hc=>?_|refine t_bx ?_|apply And.intro|intro vr)
       |((with_reducible first|refine ny ?_|refine t_dwh (h:=fun K KL=>?_));intros;simp only [go_sem,kp43,geff,g3,Int.toNat_natCast]))
      all_goals try exact nd
      exact ⟨⟨i+1,by omega⟩,wf,lf⟩
     ·have g3:decide ((i:Int)<(s.args.length:Int))=false:=decide_eq_false (by omega)
      repeat' (first
       |(with_reducible first|refine nx ?_|refine t_seq fun K=>?_|refine t_br (fun hc=>?_) fun hc=>?_|refine t_bx ?_|apply And.intro|intro vr)
       |((with_reducible first|refine ny ?_|refine t_dwh (h:=fun K KL=>?_));intros;simp only [go_sem,kp43,geff,g3,Int.toNat_natCast]))
      all_goals try exact nd
      all_goals (refine nl ?_;simp only [go_sem])
      exact LeA.of_eq (by rw [←hR])
    |some r=>
     rw [hT] at hR
     simp only at hR
     refine pcR A1_ok (kp43) Tryz.func43 [.tmp 4] (h:=fun KF=>?_)
     unfold A1
     repeat' (first
      |(with_reducible first|refine nx ?_|refine t_seq fun K=>?_|refine t_br (fun hc=>?_) fun hc=>?_|refine t_bx ?_|apply And.intro|intro vr)
      |((with_reducible first|refine ny ?_|refine t_dwh (h:=fun K KL=>?_));intros;simp only [go_sem,kp43,geff,h1',h2',hT]))
     all_goals try exact nd
     refine t_loopF (ι:={i:Nat // i≤s.args.length}) (fun i=>[(44,.lit (.int .i64 i.1)),(7,.lit (.bool ((s.args.take i.1).all (inR n))))]) (fun i=>[.box 78 [.lit (.string s.op),.lit (.int .i64 s.num),.sl false 1 (ints .i64 s.args)]]) (fun i=>s.args.length - i.1) ⟨0,by omega⟩ ?_ ?_
     ·exact lf
     rintro ⟨i,hi⟩ K0
     rcases Nat.lt_or_ge i s.args.length with hc|hc
     ·have g3:decide ((i:Int)<(s.args.length:Int))=true:=decide_eq_true (by omega)
      have hs:((s.args.take i).all (inR n)&&decide (s.args.getD i 0≥0)&&decide (s.args.getD i 0<n))=(s.args.take (i+1)).all (inR n):=by rw [Bool.and_assoc];exact all_step (p:=inR n) hc
      repeat' (first
       |(with_reducible first|refine nx ?_|refine t_seq fun K=>?_|refine t_br (fun hc=>?_) fun hc=>?_|refine t_bx ?_|apply And.intro|intro vr)
       |((with_reducible first|refine ny ?_|refine t_dwh (h:=fun K KL=>?_));intros;simp only [go_sem,kp43,geff,g3,hs,Int.toNat_natCast,updL_cons,updL_nil]))
      all_goals try exact nd
      exact ⟨⟨i+1,by omega⟩,wf,lf⟩
     ·have g3:decide ((i:Int)<(s.args.length:Int))=false:=decide_eq_false (by omega)
      have e:s.args.take i=s.args:=List.take_of_length_le hc
      repeat' (first
       |(with_reducible first|refine nx ?_|refine t_seq fun K=>?_|refine t_br (fun hc=>?_) fun hc=>?_|refine t_bx ?_|apply And.intro|intro vr)
       |((with_reducible first|refine ny ?_|refine t_dwh (h:=fun K KL=>?_));intros;simp only [go_sem,kp43,geff,g3,Int.toNat_natCast,e,updL_cons,updL_nil]))
      all_goals try exact nd
      all_goals (refine nl ?_;simp only [go_sem])
      exact LeA.of_eq (by rw [←hR])
noncomputable def con43:PCon Tryz.prog where
  f:=43
  c:=fun
   |[xs,.lit (.int .i64 n)]=>match stpOf xs with|some s=>some (s.args.length≤1000000,.lit (.bool (validS s n)))|_=>none
   |_=>none
  ok:=by
   intro args p r hc hp
   split at hc
   ·split at hc
    ·rename_i hs
     cases hc
     exact PC.weak (valid1_pc hp) ⟨stpOf_le hs,LeA.refl _,trivial⟩
    ·cases hc
   ·cases hc
  fk:=fk43
theorem con43_f:con43.f=43:=rfl
theorem con43_c {xs:AV} {n:Int}:con43.c [xs,.lit (.int .i64 n)]=match stpOf xs with|some s=>some (s.args.length≤1000000,.lit (.bool (validS s n)))|_=>none:=rfl
end Go.Proofs.YtcpjahmajkhchaaGreat

namespace Go.Proofs.YtcpjahmajkhchaaGreat
open Go Go.Fw
set_option maxRecDepth 20000
theorem le_nil {n0:Nat} {f:Nat→AV} {σ:List AObj} (i e sz:Nat) (h:f i= .lit (.slice none 0 0)):Le n0 ⟨f,σ⟩ ⟨upd f i (.arr σ.length 0),σ++[.arr e sz [] 0 false]⟩:=by
  intro cx G w N a _ hr hf
  obtain ⟨G',h1,h2,h3⟩:=Rel.newEmpty hr e sz none
  refine ⟨G',h2,hf.size,hf.defers,fun j=>?_⟩
  have hj:R G' (f j) (a.tmps.getD j undef):=(hf.rel j).mono h1
  simp only [upd]
  split
  ·rename_i e;subst e;rw [h] at hj;rw [hj.lit_inv];exact h3
  ·exact hj
def frameG:List Arr→List Int→List Int→List Bool→List Int×List Bool×Int
  |a::l,r::rs,fr,fd=>
   if (splitS a r).2.2≠0 then ([],[],(splitS a r).2.2)
   else if (splitS a r).1=[] then frameG l rs fr (fd++[false])
   else if fr=[] then frameG l rs (splitS a r).1 (fd++[true])
   else if (splitS a r).1.length≠fr.length then ([],[],13)
   else if (splitS a r).1≠fr then ([],[],14)
   else frameG l rs fr (fd++[true])
  |_,_,fr,fd=>(fr,fd,0)
def frameS (l:List Arr) (rs:List Int):List Int×List Bool×Int:=if l.length≠rs.length then ([],[],1) else frameG l rs [] []
theorem splitS_len {a:Arr} (r:Int) (h:okA a):(splitS a r).1.length≤1000000∧(splitS a r).2.1.length≤1000000:=by
  have:=h.1
  unfold splitS
  split
  ·simp
  split
  ·simp
  ·simp only [List.length_take,List.length_drop];omega
theorem getD_mem {α:Type} {l:List α} {i:Nat} (z:α) (h:i<l.length):l.getD i z∈l:=by
  rw [List.getD_eq_getElem?_getD,List.getElem?_eq_getElem h];exact List.getElem_mem _
end Go.Proofs.YtcpjahmajkhchaaGreat

namespace Go.Proofs.YtcpjahmajkhchaaGreat
open Go Go.Fw
set_option maxRecDepth 20000
def rdK (k:IntKind) (σ:List AObj):AV→Option (List Int)
  |.arr o ver=>match σ[o]? with
   |some (.arr _ sz xs ver' _)=>if ver=ver'∧sz=1 then kOf k xs else none
   |_=>none
  |x=>slK k x
theorem rdK_sl {k:IntKind} {σ:List AObj} {b:Bool} {l:List Int}:rdK k σ (.sl b 1 (ints k l))=some l:=slK_sl
theorem rdK_at {k:IntKind} {σ:List AObj} {o ver:Nat}:rdK k σ (.arr o ver)=match σ[o]? with
    |some (.arr _ sz xs ver' _)=>if ver=ver'∧sz=1 then kOf k xs else none
    |_=>none:=rfl
theorem rd_cases {k:IntKind} {σ:List AObj} {x:AV} {l:List Int} (hx:rdK k σ x=some l):(∃ o ver e fz,x= .arr o ver∧σ[o]? =some (.arr e 1 (ints k l) ver fz))∨LeR x (.sl false 1 (ints k l)):=by
  unfold rdK at hx
  split at hx
  ·split at hx
   ·rename_i e sz xs ver' fz ho
    split at hx
    ·rename_i hc
     obtain ⟨rfl,rfl⟩:=hc
     have:=kOf_inv hx
     subst this
     exact .inl ⟨_,_,_,_,rfl,ho⟩
    ·cases hx
   ·cases hx
  ·exact .inr (slK_leR hx)
def rdS (σ:List AObj):AV→Option (List ByteArray)
  |.arr o ver=>match σ[o]? with
   |some (.arr _ sz xs ver' _)=>if ver=ver'∧sz=1 then strsOf xs else none
   |_=>none
  |x=>slS x
theorem rdS_sl {σ:List AObj} {b:Bool} {l:List ByteArray}:rdS σ (.sl b 1 (strs l))=some l:=slS_sl
theorem rdS_at {σ:List AObj} {o ver:Nat}:rdS σ (.arr o ver)=match σ[o]? with
    |some (.arr _ sz xs ver' _)=>if ver=ver'∧sz=1 then strsOf xs else none
    |_=>none:=rfl
theorem slS_leR {x:AV} {l:List ByteArray} (h:slS x=some l):LeR x (.sl false 1 (strs l)):=slA_leR (by
  unfold slS at h
  cases hx:slA 1 x with
  |none=>rw [hx] at h;cases h
  |some xs=>rw [hx] at h;rw [←strsOf_inv h])
theorem rdS_cases {σ:List AObj} {x:AV} {l:List ByteArray} (hx:rdS σ x=some l):(∃ o ver e fz,x= .arr o ver∧σ[o]? =some (.arr e 1 (strs l) ver fz))∨LeR x (.sl false 1 (strs l)):=by
  unfold rdS at hx
  split at hx
  ·split at hx
   ·rename_i e sz xs ver' fz ho
    split at hx
    ·rename_i hc
     obtain ⟨rfl,rfl⟩:=hc
     have:=strsOf_inv hx
     subst this
     exact .inl ⟨_,_,_,_,rfl,ho⟩
    ·cases hx
   ·cases hx
  ·exact .inr (slS_leR hx)
theorem LeRL.refl:∀ (xs:List AV),LeRL xs xs
  |[]=>trivial
  |x::xs=>⟨LeR.refl x,LeRL.refl xs⟩
theorem get_app {σ:List AObj} {o:Nat} {x:AObj} (h:σ[o]? =some x) (X:AObj):(σ++[X])[o]? =some x:=by
  rw [List.getElem?_append_left (List.getElem?_eq_some_iff.1 h).1];exact h
theorem ints_getX {l:List Int} {i:Nat} (d:AV) (h:i<l.length):(ints .i64 l).getD i d= .lit (.int .i64 (l.getD i 0)):=by simp [ints,List.getD,h]
theorem strs_getX {l:List ByteArray} {i:Nat} (d:AV) (h:i<l.length):(strs l).getD i d= .lit (.string (l.getD i ⟨#[]⟩)):=by simp [strs,List.getD,h]
theorem pickI_succ {vs ats:List Int} {i:Nat} (h:i<ats.length):pickI vs (ats.take (i+1))=pickI vs (ats.take i)++[vs.getD (ats.getD i 0).toNat 0]:=by
  unfold pickI
  have e:ats.getD i 0=ats[i]:=by rw [List.getD_eq_getElem?_getD,List.getElem?_eq_getElem h];rfl
  rw [List.take_add_one,List.getElem?_eq_getElem h,List.map_append,e];rfl
theorem pickI_len {vs ats:List Int}:(pickI vs ats).length=ats.length:=by simp [pickI]
noncomputable def A2:Env:=envJ (P:=Tryz.prog) jkR zer (fun _=>false) (fun _=>false) [] []
theorem A2_ok:EnvOk Tryz.prog A2:=envJOk zer_ok
set_option maxHeartbeats 4000000 in
theorem picked_arr {σ:List AObj} {o ver e:Nat} {fz:Bool} {vs ats:List Int} {k:AV→List AObj→Prop} (ho:σ[o]? =some (.arr e 1 (ints .i64 vs) ver fz)) (ha:∀ a∈ats,0≤a∧a<vs.length) (hl:ats.length≤1000000)
    (hk:∀ v,k (.arr σ.length v) (σ++[.arr 3 1 (ints .i64 (pickI vs ats)) v false])):EC Tryz.prog 42 [.arr o ver,.sl false 1 (ints .i64 ats)] σ k:=by
  have ho':=get_app ho
  refine ecR A2_ok (kp42) Tryz.func42 [.tmp 4] (h:=fun KF=>?_)
  unfold A2
  repeat' (first
   |(with_reducible first|refine nx ?_|refine t_seq fun K=>?_|refine t_br (fun hc=>?_) fun hc=>?_|refine t_bx ?_|apply And.intro|intro vr)
   |((with_reducible first|refine ny ?_|refine t_dwh (h:=fun K KL=>?_));intros;simp only [go_sem,kp42,geff,ho]))
  all_goals try exact nd
  refine t_loopF (ι:={p:Nat×Nat // p.1≤ats.length}) (fun i=>[(10,.lit (.int .i64 i.1.1)),(5,.arr σ.length i.1.2)]) (fun i=>σ++[.arr 3 1 (ints .i64 (pickI vs (ats.take i.1.1))) i.1.2 false]) (fun i=>ats.length - i.1.1) ⟨(0,0),by simp⟩ ?_ ?_
  ·refine (le_nil 5 3 1 rfl).trans ?_
   exact lf
  rintro ⟨⟨i,v⟩,hi⟩ K0
  simp only at hi
  rcases Nat.lt_or_ge i ats.length with hc|hc
  ·have g3:decide ((i:Int)<(ats.length:Int))=true:=decide_eq_true (by omega)
   have hb:=ha _ (getD_mem 0 hc)
   have hgt:(ints .i64 vs).getD (ats.getD i 0).toNat (jkR e)= .lit (.int .i64 (vs.getD (ats.getD i 0).toNat 0)):=ints_getX _ (by omega)
   have hs:=pickI_succ (vs:=vs) hc
   have hpl:=pickI_len (vs:=vs) (ats:=ats.take i)
   rw [List.length_take] at hpl
   repeat' (first
    |(with_reducible first|refine nx ?_|refine t_seq fun K=>?_|refine t_br (fun hc=>?_) fun hc=>?_|refine t_bx ?_|apply And.intro|intro vr)
    |((with_reducible first|refine ny ?_|refine t_dwh (h:=fun K KL=>?_));intros;simp only [go_sem,kp42,geff,g3,ho',hgt,←hs,Int.toNat_natCast,updL_cons,updL_nil,getLast0,setLast0,yes]))
   all_goals try exact nd
   exact ⟨⟨(i+1,v+1),by omega⟩,wf,lf⟩
  ·have g3:decide ((i:Int)<(ats.length:Int))=false:=decide_eq_false (by omega)
   have e:ats.take i=ats:=List.take_of_length_le hc
   repeat' (first
    |(with_reducible first|refine nx ?_|refine t_seq fun K=>?_|refine t_br (fun hc=>?_) fun hc=>?_|refine t_bx ?_|apply And.intro|intro vr)
    |((with_reducible first|refine ny ?_|refine t_dwh (h:=fun K KL=>?_));intros;simp only [go_sem,kp42,geff,g3,Int.toNat_natCast,updL_cons,updL_nil,e]))
   all_goals try exact nd
   all_goals ((first|refine end_retE ?_|refine end_normE ?_);try simp only [go_sem])
   exact hk _
set_option maxHeartbeats 4000000 in
theorem picked_sl {σ:List AObj} {vs ats:List Int} {k:AV→List AObj→Prop} (ha:∀ a∈ats,0≤a∧a<vs.length) (hl:ats.length≤1000000)
    (hk:∀ v,k (.arr σ.length v) (σ++[.arr 3 1 (ints .i64 (pickI vs ats)) v false])):EC Tryz.prog 42 [.sl false 1 (ints .i64 vs),.sl false 1 (ints .i64 ats)] σ k:=by
  refine ecR A2_ok (kp42) Tryz.func42 [.tmp 4] (h:=fun KF=>?_)
  unfold A2
  repeat' (first
   |(with_reducible first|refine nx ?_|refine t_seq fun K=>?_|refine t_br (fun hc=>?_) fun hc=>?_|refine t_bx ?_|apply And.intro|intro vr)
   |((with_reducible first|refine ny ?_|refine t_dwh (h:=fun K KL=>?_));intros;simp only [go_sem,kp42,geff]))
  all_goals try exact nd
  refine t_loopF (ι:={p:Nat×Nat // p.1≤ats.length}) (fun i=>[(10,.lit (.int .i64 i.1.1)),(5,.arr σ.length i.1.2)]) (fun i=>σ++[.arr 3 1 (ints .i64 (pickI vs (ats.take i.1.1))) i.1.2 false]) (fun i=>ats.length - i.1.1) ⟨(0,0),by simp⟩ ?_ ?_
  ·refine (le_nil 5 3 1 rfl).trans ?_
   exact lf
  rintro ⟨⟨i,v⟩,hi⟩ K0
  simp only at hi
  rcases Nat.lt_or_ge i ats.length with hc|hc
  ·have g3:decide ((i:Int)<(ats.length:Int))=true:=decide_eq_true (by omega)
   have hb:=ha _ (getD_mem 0 hc)
   have hgt:(ints .i64 vs).getD (ats.getD i 0).toNat (jkR 3)= .lit (.int .i64 (vs.getD (ats.getD i 0).toNat 0)):=ints_getX _ (by omega)
   have hs:=pickI_succ (vs:=vs) hc
   have hpl:=pickI_len (vs:=vs) (ats:=ats.take i)
   rw [List.length_take] at hpl
   repeat' (first
    |(with_reducible first|refine nx ?_|refine t_seq fun K=>?_|refine t_br (fun hc=>?_) fun hc=>?_|refine t_bx ?_|apply And.intro|intro vr)
    |((with_reducible first|refine ny ?_|refine t_dwh (h:=fun K KL=>?_));intros;simp only [go_sem,kp42,geff,g3,←hs,Int.toNat_natCast,updL_cons,updL_nil,getLast0,setLast0,yes]))
   all_goals try exact nd
   exact ⟨⟨(i+1,v+1),by omega⟩,wf,lf⟩
  ·have g3:decide ((i:Int)<(ats.length:Int))=false:=decide_eq_false (by omega)
   have e:ats.take i=ats:=List.take_of_length_le hc
   repeat' (first
    |(with_reducible first|refine nx ?_|refine t_seq fun K=>?_|refine t_br (fun hc=>?_) fun hc=>?_|refine t_bx ?_|apply And.intro|intro vr)
    |((with_reducible first|refine ny ?_|refine t_dwh (h:=fun K KL=>?_));intros;simp only [go_sem,kp42,geff,g3,Int.toNat_natCast,updL_cons,updL_nil,e]))
   all_goals try exact nd
   all_goals ((first|refine end_retE ?_|refine end_normE ?_);try simp only [go_sem])
   exact hk _
theorem picked_rd {σ:List AObj} {x:AV} {vs ats:List Int} {k:AV→List AObj→Prop} (hx:rdK .i64 σ x=some vs) (ha:∀ a∈ats,0≤a∧a<vs.length) (hl:ats.length≤1000000)
    (hk:∀ v,k (.arr σ.length v) (σ++[.arr 3 1 (ints .i64 (pickI vs ats)) v false])):EC Tryz.prog 42 [x,.sl false 1 (ints .i64 ats)] σ k:=by
  rcases rd_cases hx with ⟨o,ver,e,fz,rfl,ho⟩|hle
  ·exact picked_arr ho ha hl hk
  ·exact EC.weak (picked_sl ha hl hk) (LeRL.cons hle (LeRL.refl _))
noncomputable def ecn42:ECon Tryz.prog where
  f:=42
  c:=fun args σ k=>match args with
   |[x,y]=>match rdK .i64 σ x,slK .i64 y with
    |some vs,some ats=>(∀ a∈ats,0≤a∧a<(vs.length:Int))∧ats.length≤1000000∧∀ v,k (.arr σ.length v) (σ++[.arr 3 1 (ints .i64 (pickI vs ats)) v false])
    |_,_=>False
   |_=>False
  ok:=by
   intro args σ k h
   split at h
   ·split at h
    ·rename_i hx hy
     exact EC.weak (picked_rd hx h.1 h.2.1 h.2.2) (LeRL.cons (LeR.refl _) (LeRL.cons (slK_leR hy) LeRL.nil))
    ·exact h.elim
   ·exact h.elim
  fk:=fk42
theorem ecn42_f:ecn42.f=42:=rfl
theorem ecn42_c {σ:List AObj} {k:AV→List AObj→Prop} {x y:AV}:ecn42.c [x,y] σ k=match rdK .i64 σ x,slK .i64 y with
      |some vs,some ats=>(∀ a∈ats,0≤a∧a<(vs.length:Int))∧ats.length≤1000000∧∀ v,k (.arr σ.length v) (σ++[.arr 3 1 (ints .i64 (pickI vs ats)) v false])
      |_,_=>False:=rfl
theorem pickB_succ {vs:List ByteArray} {ats:List Int} {i:Nat} (h:i<ats.length):pickB vs (ats.take (i+1))=pickB vs (ats.take i)++[vs.getD (ats.getD i 0).toNat ⟨#[]⟩]:=by
  have e:ats.getD i 0=ats[i]:=by rw [List.getD_eq_getElem?_getD,List.getElem?_eq_getElem h];rfl
  unfold pickB
  rw [List.take_add_one,List.getElem?_eq_getElem h,List.map_append,e];rfl
theorem pickB_len {vs:List ByteArray} {ats:List Int}:(pickB vs ats).length=ats.length:=by simp [pickB]
set_option maxHeartbeats 4000000 in
theorem pickedB_arr {σ:List AObj} {o ver e:Nat} {fz:Bool} {vs:List ByteArray} {ats:List Int} {k:AV→List AObj→Prop} (ho:σ[o]? =some (.arr e 1 (strs vs) ver fz)) (ha:∀ a∈ats,0≤a∧a<vs.length) (hl:ats.length≤1000000)
    (hk:∀ v,k (.arr σ.length v) (σ++[.arr 9 1 (strs (pickB vs ats)) v false])):EC Tryz.prog 64 [.arr o ver,.sl false 1 (ints .i64 ats)] σ k:=by
  have ho':=get_app ho
  refine ecR A2_ok (kp64) Tryz.func64 [.tmp 4] (h:=fun KF=>?_)
  unfold A2
  repeat' (first
   |(with_reducible first|refine nx ?_|refine t_seq fun K=>?_|refine t_br (fun hc=>?_) fun hc=>?_|refine t_bx ?_|apply And.intro|intro vr)
   |((with_reducible first|refine ny ?_|refine t_dwh (h:=fun K KL=>?_));intros;simp only [go_sem,kp64,geff,ho]))
  all_goals try exact nd
  refine t_loopF (ι:={p:Nat×Nat // p.1≤ats.length}) (fun i=>[(10,.lit (.int .i64 i.1.1)),(5,.arr σ.length i.1.2)]) (fun i=>σ++[.arr 9 1 (strs (pickB vs (ats.take i.1.1))) i.1.2 false]) (fun i=>ats.length - i.1.1) ⟨(0,0),by simp⟩ ?_ ?_
  ·refine (le_nil 5 9 1 rfl).trans ?_
   exact lf
  rintro ⟨⟨i,v⟩,hi⟩ K0
  simp only at hi
  rcases Nat.lt_or_ge i ats.length with hc|hc
  ·have g3:decide ((i:Int)<(ats.length:Int))=true:=decide_eq_true (by omega)
   have hb:=ha _ (getD_mem 0 hc)
   have hgt:(strs vs).getD (ats.getD i 0).toNat (jkR e)= .lit (.string (vs.getD (ats.getD i 0).toNat ⟨#[]⟩)):=strs_getX _ (by omega)
   have hs:=pickB_succ (vs:=vs) hc
   have hpl:=pickB_len (vs:=vs) (ats:=ats.take i)
   rw [List.length_take] at hpl
   repeat' (first
    |(with_reducible first|refine nx ?_|refine t_seq fun K=>?_|refine t_br (fun hc=>?_) fun hc=>?_|refine t_bx ?_|apply And.intro|intro vr)
    |((with_reducible first|refine ny ?_|refine t_dwh (h:=fun K KL=>?_));intros;simp only [go_sem,kp64,geff,g3,ho',hgt,←hs,Int.toNat_natCast,updL_cons,updL_nil,getLast0,setLast0,yes]))
   all_goals try exact nd
   exact ⟨⟨(i+1,v+1),by omega⟩,wf,lf⟩
  ·have g3:decide ((i:Int)<(ats.length:Int))=false:=decide_eq_false (by omega)
   have e:ats.take i=ats:=List.take_of_length_le hc
   repeat' (first
    |(with_reducible first|refine nx ?_|refine t_seq fun K=>?_|refine t_br (fun hc=>?_) fun hc=>?_|refine t_bx ?_|apply And.intro|intro vr)
    |((with_reducible first|refine ny ?_|refine t_dwh (h:=fun K KL=>?_));intros;simp only [go_sem,kp64,geff,g3,Int.toNat_natCast,updL_cons,updL_nil,e]))
   all_goals try exact nd
   all_goals ((first|refine end_retE ?_|refine end_normE ?_);try simp only [go_sem])
   exact hk _
set_option maxHeartbeats 4000000 in
theorem pickedB_sl {σ:List AObj} {vs:List ByteArray} {ats:List Int} {k:AV→List AObj→Prop} (ha:∀ a∈ats,0≤a∧a<vs.length) (hl:ats.length≤1000000)
    (hk:∀ v,k (.arr σ.length v) (σ++[.arr 9 1 (strs (pickB vs ats)) v false])):EC Tryz.prog 64 [.sl false 1 (strs vs),.sl false 1 (ints .i64 ats)] σ k:=by
  refine ecR A2_ok (kp64) Tryz.func64 [.tmp 4] (h:=fun KF=>?_)
  unfold A2
  repeat' (first
   |(with_reducible first|refine nx ?_|refine t_seq fun K=>?_|refine t_br (fun hc=>?_) fun hc=>?_|refine t_bx ?_|apply And.intro|intro vr)
   |((with_reducible first|refine ny ?_|refine t_dwh (h:=fun K KL=>?_));intros;simp only [go_sem,kp64,geff]))
  all_goals try exact nd
  refine t_loopF (ι:={p:Nat×Nat // p.1≤ats.length}) (fun i=>[(10,.lit (.int .i64 i.1.1)),(5,.arr σ.length i.1.2)]) (fun i=>σ++[.arr 9 1 (strs (pickB vs (ats.take i.1.1))) i.1.2 false]) (fun i=>ats.length - i.1.1) ⟨(0,0),by simp⟩ ?_ ?_
  ·refine (le_nil 5 9 1 rfl).trans ?_
   exact lf
  rintro ⟨⟨i,v⟩,hi⟩ K0
  simp only at hi
  rcases Nat.lt_or_ge i ats.length with hc|hc
  ·have g3:decide ((i:Int)<(ats.length:Int))=true:=decide_eq_true (by omega)
   have hb:=ha _ (getD_mem 0 hc)
   have hgt:(strs vs).getD (ats.getD i 0).toNat (jkR 9)= .lit (.string (vs.getD (ats.getD i 0).toNat ⟨#[]⟩)):=strs_getX _ (by omega)
   have hs:pickB vs (ats.take (i+1))=pickB vs (ats.take i)++[vs.getD (ats.getD i 0).toNat ByteArray.empty]:=pickB_succ (vs:=vs) hc
   have hpl:=pickB_len (vs:=vs) (ats:=ats.take i)
   rw [List.length_take] at hpl
   repeat' (first
    |(with_reducible first|refine nx ?_|refine t_seq fun K=>?_|refine t_br (fun hc=>?_) fun hc=>?_|refine t_bx ?_|apply And.intro|intro vr)
    |((with_reducible first|refine ny ?_|refine t_dwh (h:=fun K KL=>?_));intros;simp only [go_sem,kp64,geff,g3,hgt,jkR_9,←hs,Int.toNat_natCast,updL_cons,updL_nil,getLast0,setLast0,yes]))
   all_goals try exact nd
   exact ⟨⟨(i+1,v+1),by omega⟩,wf,lf⟩
  ·have g3:decide ((i:Int)<(ats.length:Int))=false:=decide_eq_false (by omega)
   have e:ats.take i=ats:=List.take_of_length_le hc
   repeat' (first
    |(with_reducible first|refine nx ?_|refine t_seq fun K=>?_|refine t_br (fun hc=>?_) fun hc=>?_|refine t_bx ?_|apply And.intro|intro vr)
    |((with_reducible first|refine ny ?_|refine t_dwh (h:=fun K KL=>?_));intros;simp only [go_sem,kp64,geff,g3,Int.toNat_natCast,updL_cons,updL_nil,e]))
   all_goals try exact nd
   all_goals ((first|refine end_retE ?_|refine end_normE ?_);try simp only [go_sem])
   exact hk _
theorem pickedB_rd {σ:List AObj} {x:AV} {vs:List ByteArray} {ats:List Int} {k:AV→List AObj→Prop} (hx:rdS σ x=some vs) (ha:∀ a∈ats,0≤a∧a<vs.length) (hl:ats.length≤1000000)
    (hk:∀ v,k (.arr σ.length v) (σ++[.arr 9 1 (strs (pickB vs ats)) v false])):EC Tryz.prog 64 [x,.sl false 1 (ints .i64 ats)] σ k:=by
  rcases rdS_cases hx with ⟨o,ver,e,fz,rfl,ho⟩|hle
  ·exact pickedB_arr ho ha hl hk
  ·exact EC.weak (pickedB_sl ha hl hk) (LeRL.cons hle (LeRL.refl _))
noncomputable def ecn64:ECon Tryz.prog where
  f:=64
  c:=fun args σ k=>match args with
   |[x,y]=>match rdS σ x,slK .i64 y with
    |some vs,some ats=>(∀ a∈ats,0≤a∧a<(vs.length:Int))∧ats.length≤1000000∧∀ v,k (.arr σ.length v) (σ++[.arr 9 1 (strs (pickB vs ats)) v false])
    |_,_=>False
   |_=>False
  ok:=by
   intro args σ k h
   split at h
   ·split at h
    ·rename_i hx hy
     exact EC.weak (pickedB_rd hx h.1 h.2.1 h.2.2) (LeRL.cons (LeR.refl _) (LeRL.cons (slK_leR hy) LeRL.nil))
    ·exact h.elim
   ·exact h.elim
  fk:=fk64
theorem ecn64_f:ecn64.f=64:=rfl
theorem ecn64_c {σ:List AObj} {k:AV→List AObj→Prop} {x y:AV}:ecn64.c [x,y] σ k=match rdS σ x,slK .i64 y with
      |some vs,some ats=>(∀ a∈ats,0≤a∧a<(vs.length:Int))∧ats.length≤1000000∧∀ v,k (.arr σ.length v) (σ++[.arr 9 1 (strs (pickB vs ats)) v false])
      |_,_=>False:=rfl
end Go.Proofs.YtcpjahmajkhchaaGreat

namespace Go.Proofs.YtcpjahmajkhchaaGreat
open Go Go.Fw
set_option maxRecDepth 20000
def okC (c:List Stp):Prop:=c.length≤1000000∧∀ s∈c,s.args.length≤1000000
theorem badN_no {c:List Stp} {n:Int} (h:badN c n=false):0≤n∧n≤20∧c.length≤60:=by
  simp only [badN,Bool.or_eq_false_iff,decide_eq_false_iff_not] at h
  omega
attribute [go_sem] con43_f con43_c stpOf_agg
noncomputable def A3:Env:=envJ (P:=Tryz.prog) jkR zer (fun _=>false) (fun _=>false) [con43] []
theorem A3_ok:EnvOk Tryz.prog A3:=envJOk zer_ok
set_option maxHeartbeats 4000000 in
theorem validC_pc {c:List Stp} {n:Int} (hc0:okC c) (hn:inI64 n):PC Tryz.prog 13 [.sl false 3 (stps c),.lit (.int .i64 n)] (.lit (.bool (validC c n))):=by
  obtain ⟨hl,ha⟩:=hc0
  generalize hR:validC c n=R
  unfold validC at hR
  cases hb:badN c n with
  |true=>
   rw [if_pos hb] at hR
   have hb':(decide (n<0)||decide (n>20)||decide ((c.length:Int)>60)||n+(c.length:Int)==0)=true:=hb
   refine pcR A3_ok (kp13) Tryz.func13 [.tmp 4] (h:=fun KF=>?_)
   unfold A3
   repeat' (first
    |(with_reducible first|refine nx ?_|refine t_seq fun K=>?_|refine t_br (fun hc=>?_) fun hc=>?_|refine t_bx ?_|apply And.intro|intro vr)
    |((with_reducible first|refine ny ?_|refine t_dwh (h:=fun K KL=>?_));intros;simp only [go_sem,kp13,geff,hb',stps_length]))
   all_goals try exact nd
   all_goals (refine nl ?_;simp only [go_sem])
   exact LeA.of_eq (by rw [←hR])
  |false=>
   rw [if_neg (by rw [hb];decide)] at hR
   have hb':(decide (n<0)||decide (n>20)||decide ((c.length:Int)>60)||n+(c.length:Int)==0)=false:=hb
   obtain ⟨b1,b2,b3⟩:=badN_no hb
   refine pcR A3_ok (kp13) Tryz.func13 [.tmp 4] (h:=fun KF=>?_)
   unfold A3
   repeat' (first
    |(with_reducible first|refine nx ?_|refine t_seq fun K=>?_|refine t_br (fun hc=>?_) fun hc=>?_|refine t_bx ?_|apply And.intro|intro vr)
    |((with_reducible first|refine ny ?_|refine t_dwh (h:=fun K KL=>?_));intros;simp only [go_sem,kp13,geff,hb',stps_length]))
   all_goals try exact nd
   refine t_loopF (ι:={i:Nat // i≤c.length∧allV (c.drop i) (n+i)=R}) (fun i=>[(27,.lit (.int .i64 i.1))]) (fun i=>[]) (fun i=>c.length - i.1) ⟨0,by omega,by simpa using hR⟩ ?_ ?_
   ·exact lf
   rintro ⟨i,hi,hF⟩ K0
   rcases Nat.lt_or_ge i c.length with hc|hc
   ·rw [drop_getD nilStp hc,allV] at hF
    have g3:decide ((i:Int)<(c.length:Int))=true:=decide_eq_true (by omega)
    have hx:=ha _ (getD_mem nilStp hc)
    cases h4:validS (c.getD i nilStp) (n+i) with
    |false=>
     rw [h4,Bool.false_and] at hF
     have h4':validS ⟨(c.getD i nilStp).op,(c.getD i nilStp).num,(c.getD i nilStp).args⟩ (n+i)=false:=h4
     repeat' (first
      |(with_reducible first|refine nx ?_|refine t_seq fun K=>?_|refine t_br (fun hc=>?_) fun hc=>?_|refine t_bx ?_|apply And.intro|intro vr)
      |((with_reducible first|refine ny ?_|refine t_dwh (h:=fun K KL=>?_));intros;simp only [go_sem,kp13,geff,g3,h4',Int.toNat_natCast,stps_length,stpV,Bool.not_false]))
     all_goals try exact nd
     all_goals (refine nl ?_;simp only [go_sem])
     exact LeA.of_eq (by rw [←hF])
    |true=>
     rw [h4,Bool.true_and] at hF
     have h4':validS ⟨(c.getD i nilStp).op,(c.getD i nilStp).num,(c.getD i nilStp).args⟩ (n+i)=true:=h4
     repeat' (first
      |(with_reducible first|refine nx ?_|refine t_seq fun K=>?_|refine t_br (fun hc=>?_) fun hc=>?_|refine t_bx ?_|apply And.intro|intro vr)
      |((with_reducible first|refine ny ?_|refine t_dwh (h:=fun K KL=>?_));intros;simp only [go_sem,kp13,geff,g3,h4',Int.toNat_natCast,stps_length,stpV,Bool.not_true]))
     all_goals try exact nd
     refine ⟨⟨i+1,by omega,by rw [←hF];congr 1;push_cast;omega⟩,by first|(simp only;omega)|omega,?_⟩
     simp only [updL_nil,updL_cons,delF_top,delF_upd,Nat.reduceEqDiff,reduceIte]
     refine le_backD (by first|rfl|(simp only [go_sem];try rfl)) (by first|exact Nat.zero_le _|simp) (by first|rfl|simp [lowO,low_lit,low_sl,low_ref,low_arr]) ?_ ?_
     ·repeat' (first|exact low_top|(refine low_upd rfl ?_))
     repeat' (first|exact leF_top _|exact (fun _=>LeR.refl _)|(with_reducible refine leF_sl ?_ ?_)|(refine leF_upd ?_ ?_))
     all_goals (first|exact LeR.top _|exact LeR.refl _|(refine LeR.of_eq ?_;(try simp only [go_sem]);try rfl)|((try simp only [go_sem]);try rfl))
   ·rw [List.drop_eq_nil_of_le hc,allV] at hF
    have g3:decide ((i:Int)<(c.length:Int))=false:=decide_eq_false (by omega)
    repeat' (first
     |(with_reducible first|refine nx ?_|refine t_seq fun K=>?_|refine t_br (fun hc=>?_) fun hc=>?_|refine t_bx ?_|apply And.intro|intro vr)
     |((with_reducible first|refine ny ?_|refine t_dwh (h:=fun K KL=>?_));intros;simp only [go_sem,kp13,geff,g3,Int.toNat_natCast,stps_length]))
    all_goals try exact nd
    all_goals (refine nl ?_;simp only [go_sem])
    exact LeA.of_eq (by rw [←hF])
noncomputable def con13:PCon Tryz.prog where
  f:=13
  c:=fun
   |[xc,.lit (.int .i64 n)]=>match stpsOf xc with|some c=>some (okC c∧inI64 n,.lit (.bool (validC c n)))|_=>none
   |_=>none
  ok:=by
   intro args p r hc hp
   split at hc
   ·split at hc
    ·rename_i hc
     cases hc
     exact PC.weak ((fun hp:_∧_=>validC_pc hp.1 hp.2) hp) ⟨stpsOf_le hc,LeA.refl _,trivial⟩
    ·cases hc
   ·cases hc
  fk:=fk13
theorem con13_f:con13.f=13:=rfl
theorem con13_c {xc:AV} {n:Int}:con13.c [xc,.lit (.int .i64 n)]=match stpsOf xc with|some c=>some (okC c∧inI64 n,.lit (.bool (validC c n)))|_=>none:=rfl
attribute [go_sem] con13_f con13_c
end Go.Proofs.YtcpjahmajkhchaaGreat

namespace Go.Proofs.YtcpjahmajkhchaaGreat
open Go Go.Fw
set_option maxRecDepth 20000
noncomputable def A4:Env:=envJ (P:=Tryz.prog) jkR zer (fun _=>false) (fun _=>false) [El.con38,El.con44] []
theorem A4_ok:EnvOk Tryz.prog A4:=envJOk zer_ok
theorem badN_eq {c:List Stp} {n:Int}:(decide (n<0)||decide (n>20)||decide ((c.length:Int)>60)||n==0&&(c.length:Int)==0)=(decide (n<0)||decide (n>20)||decide ((c.length:Int)>60)||n+(c.length:Int)==0):=by
  by_cases h:n<0
  ·simp [h]
  ·have e:(n==0&&(c.length:Int)==0)=(n+(c.length:Int)==0):=by
     rw [Bool.eq_iff_iff]
     simp only [Bool.and_eq_true,beq_iff_eq]
     omega
   rw [e]
theorem valid_const {s:Stp} {m:Int} (h:eqS s.op sConst=true):((s.args.length:Int) !=0|| !El.vld ⟨#[105,110,116]⟩ s.num)= !validS s m:=by
  unfold validS
  rw [if_pos h]
  show _= !((s.args.length:Int)==0&&El.vld ⟨#[105,110,116]⟩ s.num)
  exact (Bool.not_and _ _).symm
theorem valid_truth {s:Stp} {m:Int} (h0:eqS s.op sConst=false) (h:eqS s.op sTruth=true):((s.args.length:Int) !=0|| !El.vld ⟨#[98,111,111,108]⟩ s.num)= !validS s m:=by
  unfold validS
  rw [if_neg (by rw [h0];decide),if_pos h]
  show _= !((s.args.length:Int)==0&&El.vld ⟨#[98,111,111,108]⟩ s.num)
  exact (Bool.not_and _ _).symm
set_option maxHeartbeats 8000000 in
theorem rvalidC_pc {c:List Stp} {n:Int} (hc0:okC c) (hn:inI64 n):PC Tryz.prog 14 [.sl false 3 (stps c),.lit (.int .i64 n)] (.lit (.bool (validC c n))):=by
  obtain ⟨hl,ha⟩:=hc0
  generalize hR:validC c n=R
  unfold validC at hR
  cases hb:badN c n with
  |true=>
   rw [if_pos hb] at hR
   have hb':(decide (n<0)||decide (n>20)||decide ((c.length:Int)>60)||n==0&&(c.length:Int)==0)=true:=by
     rw [←hb];unfold badN;exact badN_eq
   refine pcR A4_ok (kp14) Tryz.func14 [.tmp 4] (h:=fun KF=>?_)
   unfold A4
   repeat' (first
    |(with_reducible first|refine nx ?_|refine t_seq fun K=>?_|refine t_br (fun hc=>?_) fun hc=>?_|refine t_bx ?_|apply And.intro|intro vr)
    |((with_reducible first|refine ny ?_|refine t_dwh (h:=fun K KL=>?_));intros;simp only [go_sem,kp14,geff,hb',stps_length]))
   all_goals try exact nd
   all_goals (refine nl ?_;simp only [go_sem])
   exact LeA.of_eq (by rw [←hR])
  |false=>
   rw [if_neg (by rw [hb];decide)] at hR
   have hb':(decide (n<0)||decide (n>20)||decide ((c.length:Int)>60)||n==0&&(c.length:Int)==0)=false:=by
     rw [←hb];unfold badN;exact badN_eq
   obtain ⟨b1,b2,b3⟩:=badN_no hb
   refine pcR A4_ok (kp14) Tryz.func14 [.tmp 4] (h:=fun KF=>?_)
   unfold A4
   repeat' (first
    |(with_reducible first|refine nx ?_|refine t_seq fun K=>?_|refine t_br (fun hc=>?_) fun hc=>?_|refine t_bx ?_|apply And.intro|intro vr)
    |((with_reducible first|refine ny ?_|refine t_dwh (h:=fun K KL=>?_));intros;simp only [go_sem,kp14,geff,hb',stps_length]))
   all_goals try exact nd
   refine t_loopF (ι:={i:Nat // i≤c.length∧allV (c.drop i) (n+i)=R}) (fun i=>[(5,.lit (.int .i64 i.1))]) (fun i=>[]) (fun i=>c.length - i.1) ⟨0,by omega,by simpa using hR⟩ ?_ ?_
   ·exact lf
   rintro ⟨i,hi,hF⟩ K0
   rcases Nat.lt_or_ge i c.length with hc|hc
   ·rw [drop_getD nilStp hc,allV] at hF
    have g3:decide ((i:Int)<(c.length:Int))=true:=decide_eq_true (by omega)
    have hx:=ha _ (getD_mem nilStp hc)
    generalize hs:c.getD i nilStp=s at hF hx
    cases h1:eqS s.op sConst with
    |true=>
     have h1':eqS s.op ⟨#[99,111,110,115,116]⟩=true:=h1
     have hv:=valid_const (m:=n+i) h1
     cases h4:validS s (n+i) with
     |false=>
      rw [h4,Bool.false_and] at hF
      rw [h4,Bool.not_false] at hv
      repeat' (first
       |(with_reducible first|refine nx ?_|refine t_seq fun K=>?_|refine t_br (fun hc=>?_) fun hc=>?_|refine t_bx ?_|apply And.intro|intro vr)
       |((with_reducible first|refine ny ?_|refine t_dwh (h:=fun K KL=>?_));intros;simp only [go_sem,kp14,geff,g3,hs,h1',hv,Int.toNat_natCast,stps_length,stpV]))
      all_goals try exact nd
      all_goals (refine nl ?_;simp only [go_sem])
      exact LeA.of_eq (by rw [←hF])
     |true=>
      rw [h4,Bool.true_and] at hF
      rw [h4,Bool.not_true] at hv
      repeat' (first
       |(with_reducible first|refine nx ?_|refine t_seq fun K=>?_|refine t_br (fun hc=>?_) fun hc=>?_|refine t_bx ?_|apply And.intro|intro vr)
       |((with_reducible first|refine ny ?_|refine t_dwh (h:=fun K KL=>?_));intros;simp only [go_sem,kp14,geff,g3,hs,h1',hv,Int.toNat_natCast,stps_length,stpV]))
      all_goals try exact nd
      refine ⟨⟨i+1,by omega,by rw [←hF];congr 1;push_cast;omega⟩,by first|(simp only;omega)|omega,?_⟩
      simp only [updL_nil,updL_cons,delF_top,delF_upd,Nat.reduceEqDiff,reduceIte]
      refine le_backD (by first|rfl|(simp only [go_sem];try rfl)) (by first|exact Nat.zero_le _|simp) (by first|rfl|simp [lowO,low_lit,low_sl,low_ref,low_arr]) ?_ ?_
      ·repeat' (first|exact low_top|(refine low_upd rfl ?_))
      repeat' (first|exact leF_top _|exact (fun _=>LeR.refl _)|(with_reducible refine leF_sl ?_ ?_)|(refine leF_upd ?_ ?_))
      all_goals (first|exact LeR.top _|exact LeR.refl _|(refine LeR.of_eq ?_;(try simp only [go_sem]);try rfl)|((try simp only [go_sem]);try rfl))
    |false=>
     have h1':eqS s.op ⟨#[99,111,110,115,116]⟩=false:=h1
     cases h2:eqS s.op sTruth with
     |true=>
      have h2':eqS s.op ⟨#[116,114,117,116,104]⟩=true:=h2
      have hv:=valid_truth (m:=n+i) h1 h2
      cases h4:validS s (n+i) with
      |false=>
       rw [h4,Bool.false_and] at hF
       rw [h4,Bool.not_false] at hv
       repeat' (first
        |(with_reducible first|refine nx ?_|refine t_seq fun K=>?_|refine t_br (fun hc=>?_) fun hc=>?_|refine t_bx ?_|apply And.intro|intro vr)
        |((with_reducible first|refine ny ?_|refine t_dwh (h:=fun K KL=>?_));intros;simp only [go_sem,kp14,geff,g3,hs,h1',h2',hv,Int.toNat_natCast,stps_length,stpV]))
       all_goals try exact nd
       all_goals (refine nl ?_;simp only [go_sem])
       exact LeA.of_eq (by rw [←hF])
      |true=>
       rw [h4,Bool.true_and] at hF
       rw [h4,Bool.not_true] at hv
       repeat' (first
        |(with_reducible first|refine nx ?_|refine t_seq fun K=>?_|refine t_br (fun hc=>?_) fun hc=>?_|refine t_bx ?_|apply And.intro|intro vr)
        |((with_reducible first|refine ny ?_|refine t_dwh (h:=fun K KL=>?_));intros;simp only [go_sem,kp14,geff,g3,hs,h1',h2',hv,Int.toNat_natCast,stps_length,stpV]))
       all_goals try exact nd
       refine ⟨⟨i+1,by omega,by rw [←hF];congr 1;push_cast;omega⟩,by first|(simp only;omega)|omega,?_⟩
       simp only [updL_nil,updL_cons,delF_top,delF_upd,Nat.reduceEqDiff,reduceIte]
       refine le_backD (by first|rfl|(simp only [go_sem];try rfl)) (by first|exact Nat.zero_le _|simp) (by first|rfl|simp [lowO,low_lit,low_sl,low_ref,low_arr]) ?_ ?_
       ·repeat' (first|exact low_top|(refine low_upd rfl ?_))
       repeat' (first|exact leF_top _|exact (fun _=>LeR.refl _)|(with_reducible refine leF_sl ?_ ?_)|(refine leF_upd ?_ ?_))
       all_goals (first|exact LeR.top _|exact LeR.refl _|(refine LeR.of_eq ?_;(try simp only [go_sem]);try rfl)|((try simp only [go_sem]);try rfl))
     |false=>
      have h2':eqS s.op ⟨#[116,114,117,116,104]⟩=false:=h2
      unfold validS at hF
      rw [if_neg (by rw [h1];decide),if_neg (by rw [h2];decide)] at hF
      cases hT:El.typesS s.op with
      |none=>
       rw [hT] at hF
       simp only [Bool.false_and] at hF
       repeat' (first
        |(with_reducible first|refine nx ?_|refine t_seq fun K=>?_|refine t_br (fun hc=>?_) fun hc=>?_|refine t_bx ?_|apply And.intro|intro vr)
        |((with_reducible first|refine ny ?_|refine t_dwh (h:=fun K KL=>?_));intros;simp only [go_sem,kp14,geff,g3,hs,h1',h2',hT,Int.toNat_natCast,stps_length,stpV,Bool.not_false]))
       all_goals try exact nd
       all_goals (refine nl ?_;simp only [go_sem])
       exact LeA.of_eq (by rw [←hF])
      |some r=>
       rw [hT] at hF
       simp only at hF
       cases h5:((s.args.length:Int) !=(r.ps.length:Int)||s.num !=0) with
       |true=>
        have hF':R=false:=by
          rw [←hF]
          simp only [Bool.or_eq_true,bne_iff_ne,ne_eq] at h5
          rcases h5 with h5|h5
          ·rw [show ((s.args.length:Int)==(r.ps.length:Int))=false from by simpa using h5,Bool.and_false,Bool.false_and]
          ·rw [show (s.num==0)=false from by simpa using h5,Bool.and_false,Bool.false_and,Bool.false_and]
        repeat' (first
         |(with_reducible first|refine nx ?_|refine t_seq fun K=>?_|refine t_br (fun hc=>?_) fun hc=>?_|refine t_bx ?_|apply And.intro|intro vr)
         |((with_reducible first|refine ny ?_|refine t_dwh (h:=fun K KL=>?_));intros;simp only [go_sem,kp14,geff,g3,hs,h1',h2',hT,h5,Int.toNat_natCast,stps_length,stpV,Bool.not_true,Bool.false_or]))
        all_goals try exact nd
        all_goals (refine nl ?_;simp only [go_sem])
        exact LeA.of_eq (by rw [hF'])
       |false=>
        simp only [Bool.or_eq_false_iff,bne_eq_false_iff_eq] at h5
        have h5':((s.args.length:Int) !=(r.ps.length:Int)||s.num !=0)=false:=by simp [h5.1,h5.2]
        rw [show ((s.args.length:Int)==(r.ps.length:Int))=true from by simpa using h5.1,Bool.and_true,show (s.num==0)=true from by simpa using h5.2,Bool.and_true] at hF
        repeat' (first
         |(with_reducible first|refine nx ?_|refine t_seq fun K=>?_|refine t_br (fun hc=>?_) fun hc=>?_|refine t_bx ?_|apply And.intro|intro vr)
         |((with_reducible first|refine ny ?_|refine t_dwh (h:=fun K KL=>?_));intros;simp only [go_sem,kp14,geff,g3,hs,h1',h2',hT,h5',Int.toNat_natCast,stps_length,stpV,Bool.not_true,Bool.false_or]))
        all_goals try exact nd
        refine t_loopF (ι:={j:Nat // j≤s.args.length∧(s.args.drop j).all (inR (n+i))=s.args.all (inR (n+i))}) (fun i=>[(10,.lit (.int .i64 i.1))]) (fun i=>[.box 78 [.lit (.string s.op),.lit (.int .i64 s.num),.sl false 1 (ints .i64 s.args)]]) (fun i=>s.args.length - i.1) ⟨0,by omega,rfl⟩ ?_ ?_
        ·exact lf
        rintro ⟨j,hj,hG⟩ K1
        rcases Nat.lt_or_ge j s.args.length with hc2|hc2
        ·rw [drop_getD 0 hc2,List.all_cons] at hG
         have g4:decide ((j:Int)<(s.args.length:Int))=true:=decide_eq_true (by omega)
         have hq:(decide (s.args.getD j 0<0)||decide (s.args.getD j 0≥n+i))= !inR (n+i) (s.args.getD j 0):=by
           unfold inR
           simp only [Bool.not_and,←decide_not]
           congr 1
           ·exact decide_eq_decide.2 (by omega)
           ·exact decide_eq_decide.2 (by omega)
         cases h6:inR (n+i) (s.args.getD j 0) with
         |false=>
          rw [h6,Bool.false_and] at hG
          rw [h6,Bool.not_false] at hq
          repeat' (first
           |(with_reducible first|refine nx ?_|refine t_seq fun K=>?_|refine t_br (fun hc=>?_) fun hc=>?_|refine t_bx ?_|apply And.intro|intro vr)
           |((with_reducible first|refine ny ?_|refine t_dwh (h:=fun K KL=>?_));intros;simp only [go_sem,kp14,geff,g4,hq,Int.toNat_natCast]))
          all_goals try exact nd
          all_goals (refine nl ?_;simp only [go_sem])
          exact LeA.of_eq (by rw [←hF,←hG,Bool.false_and])
         |true=>
          rw [h6,Bool.true_and] at hG
          rw [h6,Bool.not_true] at hq
          repeat' (first
           |(with_reducible first|refine nx ?_|refine t_seq fun K=>?_|refine t_br (fun hc=>?_) fun hc=>?_|refine t_bx ?_|apply And.intro|intro vr)
           |((with_reducible first|refine ny ?_|refine t_dwh (h:=fun K KL=>?_));intros;simp only [go_sem,kp14,geff,g4,hq,Int.toNat_natCast]))
          all_goals try exact nd
          exact ⟨⟨j+1,by omega,hG⟩,wf,lf⟩
        ·have g4:decide ((j:Int)<(s.args.length:Int))=false:=decide_eq_false (by omega)
         rw [List.drop_eq_nil_of_le hc2,List.all_nil] at hG
         rw [←hG,Bool.true_and] at hF
         repeat' (first
          |(with_reducible first|refine nx ?_|refine t_seq fun K=>?_|refine t_br (fun hc=>?_) fun hc=>?_|refine t_bx ?_|apply And.intro|intro vr)
          |((with_reducible first|refine ny ?_|refine t_dwh (h:=fun K KL=>?_));intros;simp only [go_sem,kp14,geff,g4,Int.toNat_natCast]))
         all_goals try exact nd
         refine ⟨⟨i+1,by omega,by rw [←hF];congr 1;push_cast;omega⟩,by first|(simp only;omega)|omega,?_⟩
         simp only [updL_nil,updL_cons,delF_top,delF_upd,Nat.reduceEqDiff,reduceIte]
         refine le_backD (by first|rfl|(simp only [go_sem];try rfl)) (by first|exact Nat.zero_le _|simp) (by first|rfl|simp [lowO,low_lit,low_sl,low_ref,low_arr]) ?_ ?_
         ·repeat' (first|exact low_top|(refine low_upd rfl ?_))
         repeat' (first|exact leF_top _|exact (fun _=>LeR.refl _)|(with_reducible refine leF_sl ?_ ?_)|(refine leF_upd ?_ ?_))
         all_goals (first|exact LeR.top _|exact LeR.refl _|(refine LeR.of_eq ?_;(try simp only [go_sem]);try rfl)|((try simp only [go_sem]);try rfl))
   ·rw [List.drop_eq_nil_of_le hc,allV] at hF
    have g3:decide ((i:Int)<(c.length:Int))=false:=decide_eq_false (by omega)
    repeat' (first
     |(with_reducible first|refine nx ?_|refine t_seq fun K=>?_|refine t_br (fun hc=>?_) fun hc=>?_|refine t_bx ?_|apply And.intro|intro vr)
     |((with_reducible first|refine ny ?_|refine t_dwh (h:=fun K KL=>?_));intros;simp only [go_sem,kp14,geff,g3,Int.toNat_natCast,stps_length]))
    all_goals try exact nd
    all_goals (refine nl ?_;simp only [go_sem])
    exact LeA.of_eq (by rw [←hF])
noncomputable def con14:PCon Tryz.prog where
  f:=14
  c:=fun
   |[xc,.lit (.int .i64 n)]=>match stpsOf xc with|some c=>some (okC c∧inI64 n,.lit (.bool (validC c n)))|_=>none
   |_=>none
  ok:=by
   intro args p r hc hp
   split at hc
   ·split at hc
    ·rename_i hc
     cases hc
     exact PC.weak ((fun hp:_∧_=>rvalidC_pc hp.1 hp.2) hp) ⟨stpsOf_le hc,LeA.refl _,trivial⟩
    ·cases hc
   ·cases hc
  fk:=fk14
theorem con14_f:con14.f=14:=rfl
theorem con14_c {xc:AV} {n:Int}:con14.c [xc,.lit (.int .i64 n)]=match stpsOf xc with|some c=>some (okC c∧inI64 n,.lit (.bool (validC c n)))|_=>none:=rfl
attribute [go_sem] con14_f con14_c
end Go.Proofs.YtcpjahmajkhchaaGreat

namespace Go.Proofs.YtcpjahmajkhchaaGreat
open Go Go.Fw
set_option maxRecDepth 20000
theorem gA0 {σ l:List AObj} {X:AObj}:(σ++X::l)[σ.length]? =some X:=by simp
theorem gA1 {σ l:List AObj} {X Y:AObj}:(σ++X::Y::l)[σ.length+1]? =some Y:=by
  rw [List.getElem?_append_right (by omega),show σ.length+1 - σ.length=1 by omega];rfl
theorem gA2 {σ l:List AObj} {X Y Z:AObj}:(σ++X::Y::Z::l)[σ.length+2]? =some Z:=by
  rw [List.getElem?_append_right (by omega),show σ.length+2 - σ.length=2 by omega];rfl
theorem sA0 {σ l:List AObj} {X Z:AObj}:(σ++X::l).set σ.length Z=σ++Z::l:=by simp
theorem sA1 {σ l:List AObj} {X Y Z:AObj}:(σ++X::Y::l).set (σ.length+1) Z=σ++X::Z::l:=by
  rw [List.set_append_right _ _ (by omega),show σ.length+1 - σ.length=1 by omega];rfl
theorem lenA1 {σ:List AObj} {X:AObj}:(σ++[X]).length=σ.length+1:=by simp
theorem lenA2 {σ:List AObj} {X Y:AObj}:(σ++[X,Y]).length=σ.length+2:=by simp
theorem lenA3 {σ:List AObj} {X Y Z:AObj}:(σ++[X,Y,Z]).length=σ.length+3:=by simp
theorem appA {σ:List AObj} {l m:List AObj}:(σ++l)++m=σ++(l++m):=List.append_assoc ..
theorem le_two {n0:Nat} {f g:Nat→AV} {σ l:List AObj} {a b:AObj} (e:σ=l++[a,b]) (hn:n0≤l.length) (hb:∀ m,l.all (lowO m)=true) (ha:∀ m,lowO m a=true) (hg:∀ m,l.length≤m→∀ j,low1 m (g j)=true) (h:∀ j,LeR (f j) (g j)):Le n0 ⟨f,σ⟩ ⟨g,l⟩:=by
  subst e
  exact (le_backD (σ:=l++[a,b]) (l:=l++[a]) (ob:=b) (by simp) (by simp;omega) (by rw [List.all_append,hb];simp [ha]) (hg _ (by simp)) h).trans (le_backD rfl hn (hb _) (hg _ (Nat.le_refl _)) (fun j=>LeR.refl _))
attribute [go_sem] gA0 gA1 gA2 sA0 sA1 lenA1 lenA2 lenA3 appA
structure Rv (c:List Stp) (av:List Int) (G:Option (List Int)) where
  i:Nat
  o:Option (List AObj×Nat)
  vs:List Int
  hi:i≤c.length
  h0:o=none→vs=av
  hl:∀ p,o=some p→∀ m,p.1.all (lowO m)=true
  hn:vs.length=av.length+i
  hF:runG (c.drop i) vs=G
def rvS {c:List Stp} {av:List Int} {G:Option (List Int)} (x:Rv c av G):AV:=match x.o with
  |none=> .sl true 1 (ints .i64 x.vs)
  |some p=> .arr p.1.length p.2
def rvO {c:List Stp} {av:List Int} {G:Option (List Int)} (x:Rv c av G):List AObj:=match x.o with
  |none=>[]
  |some p=>p.1++[.arr 3 1 (ints .i64 x.vs) p.2 false]
theorem allV_args:∀ {l:List Stp} {n:Int},allV l n=true→∀ i,i<l.length→isNum (l.getD i nilStp)=false→∀ a∈(l.getD i nilStp).args,0≤a∧a<n+i
  |[],_,_,_,h,_=>absurd h (by simp)
  |s::t,n,h,0,_,hn=>by
   simp only [allV,Bool.and_eq_true] at h
   intro a ha
   have hv:=h.1
   simp only [List.getD_cons_zero] at hn ha
   simp only [isNum,Bool.or_eq_false_iff] at hn
   unfold validS at hv
   rw [if_neg (by rw [hn.1];decide),if_neg (by rw [hn.2];decide)] at hv
   cases hT:El.typesS s.op with
   |none=>rw [hT] at hv;cases hv
   |some r=>
    rw [hT] at hv
    simp only [Bool.and_eq_true] at hv
    have:=List.all_eq_true.1 hv.1.1 a ha
    simp only [inR,Bool.and_eq_true,decide_eq_true_eq] at this
    simp only [Int.natCast_zero];omega
  |s::t,n,h,i+1,hi,hn=>by
   simp only [allV,Bool.and_eq_true] at h
   simp only [List.getD_cons_succ] at hn ⊢
   intro a ha
   have:=allV_args h.2 i (by simpa using hi) hn a ha
   push_cast;omega
attribute [go_sem] El.con41_f El.con41_c ecn42_f ecn42_c rdK_at rdK_sl kOf_ints
theorem applyV_some {n:Int}:El.applyV (some n)= .tup [.lit (.int .i64 n),.lit (.bool true)]:=rfl
theorem applyV_none:El.applyV none= .tup [.lit (.int .i64 0),.lit (.bool false)]:=rfl
theorem run_of {a:Int} {b:Bool} {r:Int×Bool} (h:r=(a,b)):LeA (.tup [.lit (.int .i64 a),.lit (.bool b)]) (.tup [.lit (.int .i64 r.1),.lit (.bool r.2)]):=by subst h;exact LeA.refl _
def runV (r:Int×Bool):AV:= .tup [.lit (.int .i64 r.1),.lit (.bool r.2)]
noncomputable def A5:Env:=envJ (P:=Tryz.prog) jkR zer (fun _=>false) (fun _=>false) [con13,El.con40,El.con41] [ecn42]
theorem A5_ok:EnvOk Tryz.prog A5:=envJOk zer_ok
set_option maxHeartbeats 8000000 in
theorem run_pc {c:List Stp} {av:List Int} (hc0:okC c) (ha0:av.length≤1000000):PC Tryz.prog 11 [.sl false 3 (stps c),.sl false 1 (ints .i64 av)] (runV (runS c av)):=by
  generalize hR:runS c av=R
  unfold runS at hR
  cases h1:validC c av.length with
  |false=>
   rw [if_pos h1] at hR
   refine pcR A5_ok (kp11) Tryz.func11 [.tmp 4,.tmp 5] (h:=fun KF=>?_)
   unfold A5
   repeat' (first
    |(with_reducible first|refine nx ?_|refine t_seq fun K=>?_|refine t_br (fun hc=>?_) fun hc=>?_|refine t_bx ?_|apply And.intro|intro vr)|exact kpd
    |((with_reducible first|refine ny ?_|refine t_kLF ?_ ?_|refine t_drawE (id:=15) (fun _=>true) [(0,1),(1,1),(2,1),(3,1),(4,1),(5,0),(6,0),(7,1),(8,1),(9,1),(10,1),(11,1)] (by kernel_rfl) fun K=>?_|refine t_dwh (h:=fun K KL=>?_));intros;simp only [go_sem,kp11,geff,h1,stpsOf_sl,Bool.not_false]))
   all_goals try exact nd
   all_goals (refine nl ?_;simp only [go_sem])
   exact run_of hR.symm
  |true=>
   rw [if_neg (by rw [h1];decide)] at hR
   have hb:badN c av.length=false:=by
     cases hb:badN c av.length with
     |false=>rfl
     |true=>unfold validC at h1;rw [if_pos hb] at h1;cases h1
   have hall:allV c av.length=true:=by
     unfold validC at h1;rw [if_neg (by rw [hb];decide)] at h1;exact h1
   obtain ⟨b1,b2,b3⟩:=badN_no hb
   refine pcR A5_ok (kp11) Tryz.func11 [.tmp 4,.tmp 5] (h:=fun KF=>?_)
   unfold A5
   repeat' (first
    |(with_reducible first|refine nx ?_|refine t_seq fun K=>?_|refine t_br (fun hc=>?_) fun hc=>?_|refine t_bx ?_|apply And.intro|intro vr)|exact kpd
    |((with_reducible first|refine ny ?_|refine t_kLF ?_ ?_|refine t_drawE (id:=15) (fun _=>true) [(0,1),(1,1),(2,1),(3,1),(4,1),(5,0),(6,0),(7,1),(8,1),(9,1),(10,1),(11,1)] (by kernel_rfl) fun K=>?_|refine t_dwh (h:=fun K KL=>?_));intros;simp only [go_sem,kp11,geff,h1,stpsOf_sl,Bool.not_true]))
   all_goals try exact nd
   refine t_loopF (ι:={i:Nat // i≤av.length∧(av.drop i).any (fun n=> !vld sInt n)=av.any (fun n=> !vld sInt n)}) (fun i=>[(20,.lit (.int .i64 i.1))]) (fun i=>[]) (fun i=>av.length - i.1) ⟨0,by omega,rfl⟩ ?_ ?_
   ·exact lf
   rintro ⟨i,hi,hF⟩ K0
   rcases Nat.lt_or_ge i av.length with hc|hc
   ·rw [drop_getD 0 hc,List.any_cons] at hF
    have g3:decide ((i:Int)<(av.length:Int))=true:=decide_eq_true (by omega)
    cases h4:vld sInt (av.getD i 0) with
    |false=>
     rw [h4,Bool.not_false,Bool.true_or] at hF
     rw [if_pos hF.symm] at hR
     have h4':El.vld ⟨#[105,110,116]⟩ (av.getD i 0)=false:=h4
     repeat' (first
      |(with_reducible first|refine nx ?_|refine t_seq fun K=>?_|refine t_br (fun hc=>?_) fun hc=>?_|refine t_bx ?_|apply And.intro|intro vr)|exact kpd
      |((with_reducible first|refine ny ?_|refine t_kLF ?_ ?_|refine t_drawE (id:=15) (fun _=>true) [(0,1),(1,1),(2,1),(3,1),(4,1),(5,0),(6,0),(7,1),(8,1),(9,1),(10,1),(11,1)] (by kernel_rfl) fun K=>?_|refine t_dwh (h:=fun K KL=>?_));intros;simp only [go_sem,kp11,geff,g3,h4',Int.toNat_natCast,Bool.not_false]))
     all_goals try exact nd
     all_goals (refine nl ?_;simp only [go_sem])
     exact run_of hR.symm
    |true=>
     rw [h4,Bool.not_true,Bool.false_or] at hF
     have h4':El.vld ⟨#[105,110,116]⟩ (av.getD i 0)=true:=h4
     repeat' (first
      |(with_reducible first|refine nx ?_|refine t_seq fun K=>?_|refine t_br (fun hc=>?_) fun hc=>?_|refine t_bx ?_|apply And.intro|intro vr)|exact kpd
      |((with_reducible first|refine ny ?_|refine t_kLF ?_ ?_|refine t_drawE (id:=15) (fun _=>true) [(0,1),(1,1),(2,1),(3,1),(4,1),(5,0),(6,0),(7,1),(8,1),(9,1),(10,1),(11,1)] (by kernel_rfl) fun K=>?_|refine t_dwh (h:=fun K KL=>?_));intros;simp only [go_sem,kp11,geff,g3,h4',Int.toNat_natCast,Bool.not_true]))
     all_goals try exact nd
     exact ⟨⟨i+1,by omega,hF⟩,wf,lf⟩
   ·have g3:decide ((i:Int)<(av.length:Int))=false:=decide_eq_false (by omega)
    rw [List.drop_eq_nil_of_le hc,List.any_nil] at hF
    rw [if_neg (by rw [←hF];decide)] at hR
    generalize hG:runG c av=G at hR
    repeat' (first
     |(with_reducible first|refine nx ?_|refine t_seq fun K=>?_|refine t_br (fun hc=>?_) fun hc=>?_|refine t_bx ?_|apply And.intro|intro vr)|exact kpd
     |((with_reducible first|refine ny ?_|refine t_kLF ?_ ?_|refine t_drawE (id:=15) (fun _=>true) [(0,1),(1,1),(2,1),(3,1),(4,1),(5,0),(6,0),(7,1),(8,1),(9,1),(10,1),(11,1)] (by kernel_rfl) fun K=>?_|refine t_dwh (h:=fun K KL=>?_));intros;simp only [go_sem,kp11,geff,g3,Int.toNat_natCast,stps_length,List.take_length]))
    all_goals try exact nd
    refine t_loopF (ι:=Rv c av G) (fun x=>[(36,.lit (.int .i64 x.i)),(8,rvS x)]) (fun x=>rvO x) (fun x=>c.length - x.i) ⟨0,none,av,by omega,fun _=>rfl,nofun,by simp,hG⟩ ?_ ?_
    ·simp only [rvS,rvO,updL_nil,updL_cons,delF_top,delF_upd,Nat.reduceEqDiff,reduceIte]
     refine Le.frameS (by first|rfl|(simp only [go_sem];try rfl)) ?_
     repeat' (first|exact leF_top _|exact (fun _=>LeR.refl _)|(with_reducible refine leF_sl ?_ ?_)|(refine leF_upd ?_ ?_))
     all_goals (first|exact LeR.top _|exact LeR.refl _|(refine LeR.of_eq ?_;(try simp only [go_sem]);try rfl)|((try simp only [go_sem]);try rfl))
    rintro ⟨i,o,vs,hi,h0,hl,hn,hF⟩ K0
    have hap:∀ n:Int,ints .i64 vs++[.lit (.int .i64 n)]=ints .i64 (vs++[n]):=fun n=>ints_append1 _ _ _
    cases o with
    |none=>
     simp only [rvS,rvO]
     rcases Nat.lt_or_ge i c.length with hc|hc
     ·rw [drop_getD nilStp hc,runG] at hF
      have g3:decide ((i:Int)<(c.length:Int))=true:=decide_eq_true (by omega)
      have hag:=allV_args hall i hc
      have hx:=hc0.2 _ (getD_mem nilStp hc)
      generalize hs:c.getD i nilStp=s at hF hx hag
      cases h5:isNum s with
      |true=>
       rw [show stepS s vs=some s.num by unfold stepS;rw [if_pos h5]] at hF
       simp only at hF
       have h5':(!eqS s.op ⟨#[99,111,110,115,116]⟩&& !eqS s.op ⟨#[116,114,117,116,104]⟩)=false:=by
         rw [←Bool.not_or];show (!isNum s)=false;rw [h5];rfl
       repeat' (first
        |(with_reducible first|refine nx ?_|refine t_seq fun K=>?_|refine t_br (fun hc=>?_) fun hc=>?_|refine t_bx ?_|apply And.intro|intro vr)|exact kpd
        |((with_reducible first|refine ny ?_|refine t_kLF ?_ ?_|refine t_drawE (id:=15) (fun _=>true) [(0,1),(1,1),(2,1),(3,1),(4,1),(5,0),(6,0),(7,1),(8,1),(9,1),(10,1),(11,1)] (by kernel_rfl) fun K=>?_|refine t_dwh (h:=fun K KL=>?_));intros;simp only [go_sem,kp11,geff,g3,hs,h5',hap,stpV,Int.toNat_natCast,stps_length]))
       all_goals try exact nd
       refine ⟨⟨i+1,some ([.box 78 [.lit (.string s.op),.lit (.int .i64 s.num),.sl false 1 (ints .i64 s.args)]],0),vs++[s.num],by omega,nofun,?_,by rw [List.length_append,hn];simp;omega,hF⟩,by show c.length - (i+1)<c.length - i;omega,?_⟩
       ·intro p hp m
        cases hp;rfl
       ·simp only [rvS,rvO,updL_nil,updL_cons,delF_top,delF_upd,Nat.reduceEqDiff,reduceIte,List.cons_append,List.nil_append,List.length_cons,List.length_nil]
        refine Le.frameS (by first|rfl|(simp only [go_sem];try rfl)) ?_
        repeat' (first|exact leF_top _|exact (fun _=>LeR.refl _)|(with_reducible refine leF_sl ?_ ?_)|(refine leF_upd ?_ ?_))
        all_goals (first|exact LeR.top _|exact LeR.refl _|(refine LeR.of_eq ?_;(try simp only [go_sem]);try rfl)|((try simp only [go_sem]);try rfl))
      |false=>
       rw [show stepS s vs=El.applyS s.op (pickI vs s.args) by unfold stepS;rw [if_neg (by rw [h5];decide)]] at hF
       have h5':(!eqS s.op ⟨#[99,111,110,115,116]⟩&& !eqS s.op ⟨#[116,114,117,116,104]⟩)=true:=by
         rw [←Bool.not_or];show (!isNum s)=true;rw [h5];rfl
       have hag':∀ a∈s.args,0≤a∧a<(vs.length:Int):=fun a ha=>by have:=hag h5 a ha;omega
       cases hA:El.applyS s.op (pickI vs s.args) with
       |none=>
        rw [hA] at hF
        simp only at hF
        rw [←hF] at hR
        repeat' (first
         |(with_reducible first|refine nx ?_|refine t_seq fun K=>?_|refine t_br (fun hc=>?_) fun hc=>?_|refine t_bx ?_|apply And.intro|intro vr)|exact kpd
         |((with_reducible first|refine ny ?_|refine t_kLF ?_ ?_|refine t_drawE (id:=15) (fun _=>true) [(0,1),(1,1),(2,1),(3,1),(4,1),(5,0),(6,0),(7,1),(8,1),(9,1),(10,1),(11,1)] (by kernel_rfl) fun K=>?_|refine t_dwh (h:=fun K KL=>?_));intros;simp only [go_sem,kp11,geff,g3,hs,h5',hap,hA,applyV_none,stpV,Int.toNat_natCast,stps_length,Bool.not_false]))
        all_goals try exact nd
        all_goals try exact (hag' _ (by assumption)).1
        all_goals try exact (hag' _ (by assumption)).2
        all_goals (refine nl ?_;simp only [go_sem])
        exact run_of hR.symm
       |some n=>
        rw [hA] at hF
        simp only at hF
        repeat' (first
         |(with_reducible first|refine nx ?_|refine t_seq fun K=>?_|refine t_br (fun hc=>?_) fun hc=>?_|refine t_bx ?_|apply And.intro|intro vr)|exact kpd
         |((with_reducible first|refine ny ?_|refine t_kLF ?_ ?_|refine t_drawE (id:=15) (fun _=>true) [(0,1),(1,1),(2,1),(3,1),(4,1),(5,0),(6,0),(7,1),(8,1),(9,1),(10,1),(11,1)] (by kernel_rfl) fun K=>?_|refine t_dwh (h:=fun K KL=>?_));intros;simp only [go_sem,kp11,geff,g3,hs,h5',hap,hA,applyV_some,stpV,Int.toNat_natCast,stps_length,Bool.not_true]))
        all_goals try exact nd
        all_goals try exact (hag' _ (by assumption)).1
        all_goals try exact (hag' _ (by assumption)).2
        refine ⟨⟨i+1,some ([.box 78 [.lit (.string s.op),.lit (.int .i64 s.num),.sl false 1 (ints .i64 s.args)],.arr 3 1 (ints .i64 (pickI vs s.args)) vr false],0),vs++[n],by omega,nofun,?_,by rw [List.length_append,hn];simp;omega,hF⟩,by show c.length - (i+1)<c.length - i;omega,?_⟩
        ·intro p hp m
         cases hp;rfl
        ·simp only [rvS,rvO,updL_nil,updL_cons,delF_top,delF_upd,Nat.reduceEqDiff,reduceIte,List.cons_append,List.nil_append,List.length_cons,List.length_nil]
         refine Le.frameS (by first|rfl|(simp only [go_sem];try rfl)) ?_
         repeat' (first|exact leF_top _|exact (fun _=>LeR.refl _)|(with_reducible refine leF_sl ?_ ?_)|(refine leF_upd ?_ ?_))
         all_goals (first|exact LeR.top _|exact LeR.refl _|(refine LeR.of_eq ?_;(try simp only [go_sem]);try rfl)|((try simp only [go_sem]);try rfl))
     ·have g3:decide ((i:Int)<(c.length:Int))=false:=decide_eq_false (by omega)
      rw [List.drop_eq_nil_of_le hc,runG] at hF
      rw [←hF] at hR
      simp only at hR
      have hv0:1≤vs.length:=by
        have: ¬ ((av.length:Int)+(c.length:Int)=0):=fun e=>by
          unfold badN at hb;simp [e] at hb
        omega
      have e1:((vs.length:Int) - 1).toNat=vs.length - 1:=by omega
      repeat' (first
       |(with_reducible first|refine nx ?_|refine t_seq fun K=>?_|refine t_br (fun hc=>?_) fun hc=>?_|refine t_bx ?_|apply And.intro|intro vr)|exact kpd
       |((with_reducible first|refine ny ?_|refine t_kLF ?_ ?_|refine t_drawE (id:=15) (fun _=>true) [(0,1),(1,1),(2,1),(3,1),(4,1),(5,0),(6,0),(7,1),(8,1),(9,1),(10,1),(11,1)] (by kernel_rfl) fun K=>?_|refine t_dwh (h:=fun K KL=>?_));intros;simp only [go_sem,kp11,geff,g3,e1,Int.toNat_natCast,stps_length,yes]))
      all_goals try exact nd
      all_goals (refine nl ?_;simp only [go_sem])
      exact run_of (by rw [←hR];rfl)
    |some p=>
     obtain ⟨pre,v⟩:=p
     have hpre:=hl _ rfl
     simp only at hpre
     simp only [rvS,rvO]
     rcases Nat.lt_or_ge i c.length with hc|hc
     ·rw [drop_getD nilStp hc,runG] at hF
      have g3:decide ((i:Int)<(c.length:Int))=true:=decide_eq_true (by omega)
      have hag:=allV_args hall i hc
      have hx:=hc0.2 _ (getD_mem nilStp hc)
      generalize hs:c.getD i nilStp=s at hF hx hag
      cases h5:isNum s with
      |true=>
       rw [show stepS s vs=some s.num by unfold stepS;rw [if_pos h5]] at hF
       simp only at hF
       have h5':(!eqS s.op ⟨#[99,111,110,115,116]⟩&& !eqS s.op ⟨#[116,114,117,116,104]⟩)=false:=by
         rw [←Bool.not_or];show (!isNum s)=false;rw [h5];rfl
       repeat' (first
        |(with_reducible first|refine nx ?_|refine t_seq fun K=>?_|refine t_br (fun hc=>?_) fun hc=>?_|refine t_bx ?_|apply And.intro|intro vr)|exact kpd
        |((with_reducible first|refine ny ?_|refine t_kLF ?_ ?_|refine t_drawE (id:=15) (fun _=>true) [(0,1),(1,1),(2,1),(3,1),(4,1),(5,0),(6,0),(7,1),(8,1),(9,1),(10,1),(11,1)] (by kernel_rfl) fun K=>?_|refine t_dwh (h:=fun K KL=>?_));intros;simp only [go_sem,kp11,geff,g3,hs,h5',hap,stpV,Int.toNat_natCast,stps_length]))
       all_goals try exact nd
       refine ⟨⟨i+1,some (pre,v+1),vs++[s.num],by omega,nofun,?_,by rw [List.length_append,hn];simp;omega,hF⟩,by show c.length - (i+1)<c.length - i;omega,?_⟩
       ·intro p hp m
        cases hp;exact hpre m
       ·simp only [rvS,rvO,updL_nil,updL_cons,delF_top,delF_upd,Nat.reduceEqDiff,reduceIte]
        refine le_backD (σ:=pre++[.arr 3 1 (ints .i64 (vs++[s.num])) (v+1) false,.box 78 [.lit (.string s.op),.lit (.int .i64 s.num),.sl false 1 (ints .i64 s.args)]]) (l:=pre++[.arr 3 1 (ints .i64 (vs++[s.num])) (v+1) false]) (ob:= .box 78 [.lit (.string s.op),.lit (.int .i64 s.num),.sl false 1 (ints .i64 s.args)]) (by simp) (Nat.zero_le _) (by rw [List.all_append,hpre];rfl) ?_ ?_
        ·repeat' (first|exact low_top|(refine low_upd ?_ ?_))
         all_goals (first|rfl|(simp only [low_arr,decide_eq_true_eq];simp))
        repeat' (first|exact leF_top _|exact (fun _=>LeR.refl _)|(with_reducible refine leF_sl ?_ ?_)|(refine leF_upd ?_ ?_))
        all_goals (first|exact LeR.top _|exact LeR.refl _|(refine LeR.of_eq ?_;(try simp only [go_sem]);try rfl)|((try simp only [go_sem]);try rfl))
      |false=>
       rw [show stepS s vs=El.applyS s.op (pickI vs s.args) by unfold stepS;rw [if_neg (by rw [h5];decide)]] at hF
       have h5':(!eqS s.op ⟨#[99,111,110,115,116]⟩&& !eqS s.op ⟨#[116,114,117,116,104]⟩)=true:=by
         rw [←Bool.not_or];show (!isNum s)=true;rw [h5];rfl
       have hag':∀ a∈s.args,0≤a∧a<(vs.length:Int):=fun a ha=>by have:=hag h5 a ha;omega
       cases hA:El.applyS s.op (pickI vs s.args) with
       |none=>
        rw [hA] at hF
        simp only at hF
        rw [←hF] at hR
        repeat' (first
         |(with_reducible first|refine nx ?_|refine t_seq fun K=>?_|refine t_br (fun hc=>?_) fun hc=>?_|refine t_bx ?_|apply And.intro|intro vr)|exact kpd
         |((with_reducible first|refine ny ?_|refine t_kLF ?_ ?_|refine t_drawE (id:=15) (fun _=>true) [(0,1),(1,1),(2,1),(3,1),(4,1),(5,0),(6,0),(7,1),(8,1),(9,1),(10,1),(11,1)] (by kernel_rfl) fun K=>?_|refine t_dwh (h:=fun K KL=>?_));intros;simp only [go_sem,kp11,geff,g3,hs,h5',hap,hA,applyV_none,stpV,Int.toNat_natCast,stps_length,Bool.not_false]))
        all_goals try exact nd
        all_goals try exact (hag' _ (by assumption)).1
        all_goals try exact (hag' _ (by assumption)).2
        all_goals (refine nl ?_;simp only [go_sem])
        exact run_of hR.symm
       |some n=>
        rw [hA] at hF
        simp only at hF
        repeat' (first
         |(with_reducible first|refine nx ?_|refine t_seq fun K=>?_|refine t_br (fun hc=>?_) fun hc=>?_|refine t_bx ?_|apply And.intro|intro vr)|exact kpd
         |((with_reducible first|refine ny ?_|refine t_kLF ?_ ?_|refine t_drawE (id:=15) (fun _=>true) [(0,1),(1,1),(2,1),(3,1),(4,1),(5,0),(6,0),(7,1),(8,1),(9,1),(10,1),(11,1)] (by kernel_rfl) fun K=>?_|refine t_dwh (h:=fun K KL=>?_));intros;simp only [go_sem,kp11,geff,g3,hs,h5',hap,hA,applyV_some,stpV,Int.toNat_natCast,stps_length,Bool.not_true]))
        all_goals try exact nd
        all_goals try exact (hag' _ (by assumption)).1
        all_goals try exact (hag' _ (by assumption)).2
        refine ⟨⟨i+1,some (pre,v+1),vs++[n],by omega,nofun,?_,by rw [List.length_append,hn];simp;omega,hF⟩,by show c.length - (i+1)<c.length - i;omega,?_⟩
        ·intro p hp m
         cases hp;exact hpre m
        ·simp only [rvS,rvO,updL_nil,updL_cons,delF_top,delF_upd,Nat.reduceEqDiff,reduceIte]
         refine le_two (σ:=pre++[.arr 3 1 (ints .i64 (vs++[n])) (v+1) false,.box 78 [.lit (.string s.op),.lit (.int .i64 s.num),.sl false 1 (ints .i64 s.args)],.arr 3 1 (ints .i64 (pickI vs s.args)) vr false]) (l:=pre++[.arr 3 1 (ints .i64 (vs++[n])) (v+1) false]) (a:= .box 78 [.lit (.string s.op),.lit (.int .i64 s.num),.sl false 1 (ints .i64 s.args)]) (b:= .arr 3 1 (ints .i64 (pickI vs s.args)) vr false) (by simp) (Nat.zero_le _) (fun m=>by rw [List.all_append,hpre];rfl) (fun m=>rfl) ?_ ?_
         ·intro m hm
          repeat' (first|exact low_top|(refine low_upd ?_ ?_))
          all_goals (first|rfl|(simp only [low_arr,decide_eq_true_eq];simp at hm;omega))
         repeat' (first|exact leF_top _|exact (fun _=>LeR.refl _)|(with_reducible refine leF_sl ?_ ?_)|(refine leF_upd ?_ ?_))
         all_goals (first|exact LeR.top _|exact LeR.refl _|(refine LeR.of_eq ?_;(try simp only [go_sem]);try rfl)|((try simp only [go_sem]);try rfl))
     ·have g3:decide ((i:Int)<(c.length:Int))=false:=decide_eq_false (by omega)
      rw [List.drop_eq_nil_of_le hc,runG] at hF
      rw [←hF] at hR
      simp only at hR
      have hv0:1≤vs.length:=by
        have: ¬ ((av.length:Int)+(c.length:Int)=0):=fun e=>by
          unfold badN at hb;simp [e] at hb
        omega
      have e1:((vs.length:Int) - 1).toNat=vs.length - 1:=by omega
      repeat' (first
       |(with_reducible first|refine nx ?_|refine t_seq fun K=>?_|refine t_br (fun hc=>?_) fun hc=>?_|refine t_bx ?_|apply And.intro|intro vr)|exact kpd
       |((with_reducible first|refine ny ?_|refine t_kLF ?_ ?_|refine t_drawE (id:=15) (fun _=>true) [(0,1),(1,1),(2,1),(3,1),(4,1),(5,0),(6,0),(7,1),(8,1),(9,1),(10,1),(11,1)] (by kernel_rfl) fun K=>?_|refine t_dwh (h:=fun K KL=>?_));intros;simp only [go_sem,kp11,geff,g3,e1,Int.toNat_natCast,stps_length,yes]))
      all_goals try exact nd
      all_goals (refine nl ?_;simp only [go_sem])
      exact run_of (by rw [←hR];rfl)
noncomputable def con11:PCon Tryz.prog where
  f:=11
  c:=fun
   |[xc,xav]=>match stpsOf xc,slK .i64 xav with|some c,some av=>some (okC c∧av.length≤1000000,runV (runS c av))|_,_=>none
   |_=>none
  ok:=by
   intro args p r hc hp
   split at hc
   ·split at hc
    ·rename_i hc hav
     cases hc
     exact PC.weak ((fun hp:_∧_=>run_pc hp.1 hp.2) hp) ⟨stpsOf_le hc,slK_le hav,trivial⟩
    ·cases hc
   ·cases hc
  fk:=fk11
theorem con11_f:con11.f=11:=rfl
theorem con11_c {xc:AV} {xav:AV}:con11.c [xc,xav]=match stpsOf xc,slK .i64 xav with|some c,some av=>some (okC c∧av.length≤1000000,runV (runS c av))|_,_=>none:=rfl
attribute [go_sem] con11_f con11_c
end Go.Proofs.YtcpjahmajkhchaaGreat

namespace Go.Proofs.YtcpjahmajkhchaaGreat
open Go Go.Fw
set_option maxRecDepth 20000
attribute [go_sem] El.con39_f El.con39_c
end Go.Proofs.YtcpjahmajkhchaaGreat

namespace Go.Proofs.YtcpjahmajkhchaaGreat
open Go Go.Fw
set_option maxRecDepth 20000
structure Tv (c:List Stp) (av:List ByteArray) (G:Option (List ByteArray)) where
  i:Nat
  o:Option (List AObj×Nat)
  vs:List ByteArray
  hi:i≤c.length
  h0:o=none→vs=av
  hl:∀ p,o=some p→∀ m,p.1.all (lowO m)=true
  hn:vs.length=av.length+i
  hF:typG (c.drop i) vs=G
def tvS {c:List Stp} {av:List ByteArray} {G:Option (List ByteArray)} (x:Tv c av G):AV:=match x.o with
  |none=> .sl true 1 (strs x.vs)
  |some p=> .arr p.1.length p.2
def tvO {c:List Stp} {av:List ByteArray} {G:Option (List ByteArray)} (x:Tv c av G):List AObj:=match x.o with
  |none=>[]
  |some p=>p.1++[.arr 9 1 (strs x.vs) p.2 false]
attribute [go_sem] El.con63_f El.con63_c ecn64_f ecn64_c rdS_at rdS_sl strsOf_strs
theorem rsV_some {n:ByteArray}:El.rsV (some n)= .tup [.lit (.string n),.lit (.bool true)]:=rfl
theorem rsV_none:El.rsV none= .tup [.lit (.string ⟨#[]⟩),.lit (.bool false)]:=rfl
theorem typ_of {a:ByteArray} {b:Bool} {r:ByteArray×Bool} (h:r=(a,b)):LeA (.tup [.lit (.string a),.lit (.bool b)]) (.tup [.lit (.string r.1),.lit (.bool r.2)]):=by subst h;exact LeA.refl _
def typV (r:ByteArray×Bool):AV:= .tup [.lit (.string r.1),.lit (.bool r.2)]
noncomputable def A7:Env:=envJ (P:=Tryz.prog) jkR zer (fun _=>false) (fun _=>false) [con13,El.con63] [ecn64]
theorem A7_ok:EnvOk Tryz.prog A7:=envJOk zer_ok
set_option maxHeartbeats 8000000 in
theorem typ_pc {c:List Stp} {av:List ByteArray} (hc0:okC c) (ha0:av.length≤1000000):PC Tryz.prog 33 [.sl false 3 (stps c),.sl false 1 (strs av)] (typV (typS c av)):=by
  generalize hR:typS c av=R
  unfold typS at hR
  cases h1:validC c av.length with
  |false=>
   rw [if_pos h1] at hR
   refine pcR A7_ok (kp33) Tryz.func33 [.tmp 4,.tmp 5] (h:=fun KF=>?_)
   unfold A7
   repeat' (first
    |(with_reducible first|refine nx ?_|refine t_seq fun K=>?_|refine t_br (fun hc=>?_) fun hc=>?_|refine t_bx ?_|apply And.intro|intro vr)|exact kpd
    |((with_reducible first|refine ny ?_|refine t_kLF ?_ ?_|refine t_drawE (id:=15) (fun _=>true) [(0,1),(1,1),(2,1),(3,1),(4,1),(5,0),(6,0),(7,1),(8,1),(9,1),(10,1),(11,1)] (by kernel_rfl) fun K=>?_|refine t_dwh (h:=fun K KL=>?_));intros;simp only [go_sem,kp33,geff,h1,stpsOf_sl,Bool.not_false]))
   all_goals try exact nd
   all_goals (refine nl ?_;simp only [go_sem])
   exact typ_of hR.symm
  |true=>
   rw [if_neg (by rw [h1];decide)] at hR
   have hb:badN c av.length=false:=by
     cases hb:badN c av.length with
     |false=>rfl
     |true=>unfold validC at h1;rw [if_pos hb] at h1;cases h1
   have hall:allV c av.length=true:=by
     unfold validC at h1;rw [if_neg (by rw [hb];decide)] at h1;exact h1
   obtain ⟨b1,b2,b3⟩:=badN_no hb
   refine pcR A7_ok (kp33) Tryz.func33 [.tmp 4,.tmp 5] (h:=fun KF=>?_)
   unfold A7
   repeat' (first
    |(with_reducible first|refine nx ?_|refine t_seq fun K=>?_|refine t_br (fun hc=>?_) fun hc=>?_|refine t_bx ?_|apply And.intro|intro vr)|exact kpd
    |((with_reducible first|refine ny ?_|refine t_kLF ?_ ?_|refine t_drawE (id:=15) (fun _=>true) [(0,1),(1,1),(2,1),(3,1),(4,1),(5,0),(6,0),(7,1),(8,1),(9,1),(10,1),(11,1)] (by kernel_rfl) fun K=>?_|refine t_dwh (h:=fun K KL=>?_));intros;simp only [go_sem,kp33,geff,h1,stpsOf_sl,Bool.not_true]))
   all_goals try exact nd
   refine t_loopF (ι:={i:Nat // i≤av.length∧(av.drop i).any (fun t=> !tyOk t)=av.any (fun t=> !tyOk t)}) (fun i=>[(20,.lit (.int .i64 i.1))]) (fun i=>[]) (fun i=>av.length - i.1) ⟨0,by omega,rfl⟩ ?_ ?_
   ·exact lf
   rintro ⟨i,hi,hF⟩ K0
   rcases Nat.lt_or_ge i av.length with hc|hc
   ·rw [drop_getD ⟨#[]⟩ hc,List.any_cons] at hF
    have g3:decide ((i:Int)<(av.length:Int))=true:=decide_eq_true (by omega)
    cases h4:tyOk (av.getD i ⟨#[]⟩) with
    |false=>
     rw [h4,Bool.not_false,Bool.true_or] at hF
     rw [if_pos hF.symm] at hR
     have h4':(!eqS (av.getD i ByteArray.empty) ⟨#[105,110,116]⟩&& !eqS (av.getD i ByteArray.empty) ⟨#[98,111,111,108]⟩)=true:=by rw [←Bool.not_or];show (!tyOk (av.getD i ⟨#[]⟩))=true;rw [h4];rfl
     repeat' (first
      |(with_reducible first|refine nx ?_|refine t_seq fun K=>?_|refine t_br (fun hc=>?_) fun hc=>?_|refine t_bx ?_|apply And.intro|intro vr)|exact kpd
      |((with_reducible first|refine ny ?_|refine t_kLF ?_ ?_|refine t_drawE (id:=15) (fun _=>true) [(0,1),(1,1),(2,1),(3,1),(4,1),(5,0),(6,0),(7,1),(8,1),(9,1),(10,1),(11,1)] (by kernel_rfl) fun K=>?_|refine t_dwh (h:=fun K KL=>?_));intros;simp only [go_sem,kp33,geff,g3,h4',Int.toNat_natCast,Bool.not_false]))
     all_goals try exact nd
     all_goals (refine nl ?_;simp only [go_sem])
     exact typ_of hR.symm
    |true=>
     rw [h4,Bool.not_true,Bool.false_or] at hF
     have h4':(!eqS (av.getD i ByteArray.empty) ⟨#[105,110,116]⟩&& !eqS (av.getD i ByteArray.empty) ⟨#[98,111,111,108]⟩)=false:=by rw [←Bool.not_or];show (!tyOk (av.getD i ⟨#[]⟩))=false;rw [h4];rfl
     repeat' (first
      |(with_reducible first|refine nx ?_|refine t_seq fun K=>?_|refine t_br (fun hc=>?_) fun hc=>?_|refine t_bx ?_|apply And.intro|intro vr)|exact kpd
      |((with_reducible first|refine ny ?_|refine t_kLF ?_ ?_|refine t_drawE (id:=15) (fun _=>true) [(0,1),(1,1),(2,1),(3,1),(4,1),(5,0),(6,0),(7,1),(8,1),(9,1),(10,1),(11,1)] (by kernel_rfl) fun K=>?_|refine t_dwh (h:=fun K KL=>?_));intros;simp only [go_sem,kp33,geff,g3,h4',Int.toNat_natCast,Bool.not_true]))
     all_goals try exact nd
     exact ⟨⟨i+1,by omega,hF⟩,wf,lf⟩
   ·have g3:decide ((i:Int)<(av.length:Int))=false:=decide_eq_false (by omega)
    rw [List.drop_eq_nil_of_le hc,List.any_nil] at hF
    rw [if_neg (by rw [←hF];decide)] at hR
    generalize hG:typG c av=G at hR
    have htk:List.take av.length (strs av)=strs av:=by
      have:=List.take_length (l:=strs av)
      rwa [strs_length] at this
    repeat' (first
     |(with_reducible first|refine nx ?_|refine t_seq fun K=>?_|refine t_br (fun hc=>?_) fun hc=>?_|refine t_bx ?_|apply And.intro|intro vr)|exact kpd
     |((with_reducible first|refine ny ?_|refine t_kLF ?_ ?_|refine t_drawE (id:=15) (fun _=>true) [(0,1),(1,1),(2,1),(3,1),(4,1),(5,0),(6,0),(7,1),(8,1),(9,1),(10,1),(11,1)] (by kernel_rfl) fun K=>?_|refine t_dwh (h:=fun K KL=>?_));intros;simp only [go_sem,kp33,geff,g3,Int.toNat_natCast,stps_length,htk]))
    all_goals try exact nd
    refine t_loopF (ι:=Tv c av G) (fun x=>[(39,.lit (.int .i64 x.i)),(8,tvS x)]) (fun x=>tvO x) (fun x=>c.length - x.i) ⟨0,none,av,by omega,fun _=>rfl,nofun,by simp,hG⟩ ?_ ?_
    ·simp only [tvS,tvO,updL_nil,updL_cons,delF_top,delF_upd,Nat.reduceEqDiff,reduceIte]
     refine Le.frameS (by first|rfl|(simp only [go_sem];try rfl)) ?_
     repeat' (first|exact leF_top _|exact (fun _=>LeR.refl _)|(with_reducible refine leF_sl ?_ ?_)|(refine leF_upd ?_ ?_))
     all_goals (first|exact LeR.top _|exact LeR.refl _|(refine LeR.of_eq ?_;(try simp only [go_sem]);try rfl)|((try simp only [go_sem]);try rfl))
    rintro ⟨i,o,vs,hi,h0,hl,hn,hF⟩ K0
    have hap:∀ n:ByteArray,strs vs++[.lit (.string n)]=strs (vs++[n]):=fun n=>by simp [strs]
    cases o with
    |none=>
     simp only [tvS,tvO]
     rcases Nat.lt_or_ge i c.length with hc|hc
     ·rw [drop_getD nilStp hc,typG] at hF
      have g3:decide ((i:Int)<(c.length:Int))=true:=decide_eq_true (by omega)
      have hag:=allV_args hall i hc
      have hx:=hc0.2 _ (getD_mem nilStp hc)
      generalize hs:c.getD i nilStp=s at hF hx hag
      cases h6:eqS s.op sConst with
      |true=>
       rw [show stepT s vs=some ⟨#[105,110,116]⟩ by unfold stepT;rw [if_pos h6];rfl] at hF
       simp only at hF
       have h6':eqS s.op ⟨#[99,111,110,115,116]⟩=true:=h6
       repeat' (first
        |(with_reducible first|refine nx ?_|refine t_seq fun K=>?_|refine t_br (fun hc=>?_) fun hc=>?_|refine t_bx ?_|apply And.intro|intro vr)|exact kpd
        |((with_reducible first|refine ny ?_|refine t_kLF ?_ ?_|refine t_drawE (id:=15) (fun _=>true) [(0,1),(1,1),(2,1),(3,1),(4,1),(5,0),(6,0),(7,1),(8,1),(9,1),(10,1),(11,1)] (by kernel_rfl) fun K=>?_|refine t_dwh (h:=fun K KL=>?_));intros;simp only [go_sem,kp33,geff,g3,hs,h6',hap,stpV,Int.toNat_natCast,stps_length]))
       all_goals try exact nd
       refine ⟨⟨i+1,some ([.box 78 [.lit (.string s.op),.lit (.int .i64 s.num),.sl false 1 (ints .i64 s.args)]],0),vs++[⟨#[105,110,116]⟩],by omega,nofun,?_,by rw [List.length_append,hn];simp;omega,hF⟩,by show c.length - (i+1)<c.length - i;omega,?_⟩
       ·intro p hp m
        cases hp;rfl
       ·simp only [tvS,tvO,updL_nil,updL_cons,delF_top,delF_upd,Nat.reduceEqDiff,reduceIte,List.cons_append,List.nil_append,List.length_cons,List.length_nil]
        refine Le.frameS (by first|rfl|(simp only [go_sem];try rfl)) ?_
        repeat' (first|exact leF_top _|exact (fun _=>LeR.refl _)|(with_reducible refine leF_sl ?_ ?_)|(refine leF_upd ?_ ?_))
        all_goals (first|exact LeR.top _|exact LeR.refl _|(refine LeR.of_eq ?_;(try simp only [go_sem]);try rfl)|((try simp only [go_sem]);try rfl))
      |false=>
       cases h7:eqS s.op sTruth with
       |true=>
        rw [show stepT s vs=some ⟨#[98,111,111,108]⟩ by unfold stepT;rw [if_neg (by rw [h6];decide),if_pos h7];rfl] at hF
        simp only at hF
        have h6':eqS s.op ⟨#[99,111,110,115,116]⟩=false:=h6
        have h7':eqS s.op ⟨#[116,114,117,116,104]⟩=true:=h7
        repeat' (first
         |(with_reducible first|refine nx ?_|refine t_seq fun K=>?_|refine t_br (fun hc=>?_) fun hc=>?_|refine t_bx ?_|apply And.intro|intro vr)|exact kpd
         |((with_reducible first|refine ny ?_|refine t_kLF ?_ ?_|refine t_drawE (id:=15) (fun _=>true) [(0,1),(1,1),(2,1),(3,1),(4,1),(5,0),(6,0),(7,1),(8,1),(9,1),(10,1),(11,1)] (by kernel_rfl) fun K=>?_|refine t_dwh (h:=fun K KL=>?_));intros;simp only [go_sem,kp33,geff,g3,hs,h6',h7',hap,stpV,Int.toNat_natCast,stps_length]))
        all_goals try exact nd
        refine ⟨⟨i+1,some ([.box 78 [.lit (.string s.op),.lit (.int .i64 s.num),.sl false 1 (ints .i64 s.args)]],0),vs++[⟨#[98,111,111,108]⟩],by omega,nofun,?_,by rw [List.length_append,hn];simp;omega,hF⟩,by show c.length - (i+1)<c.length - i;omega,?_⟩
        ·intro p hp m
         cases hp;rfl
        ·simp only [tvS,tvO,updL_nil,updL_cons,delF_top,delF_upd,Nat.reduceEqDiff,reduceIte,List.cons_append,List.nil_append,List.length_cons,List.length_nil]
         refine Le.frameS (by first|rfl|(simp only [go_sem];try rfl)) ?_
         repeat' (first|exact leF_top _|exact (fun _=>LeR.refl _)|(with_reducible refine leF_sl ?_ ?_)|(refine leF_upd ?_ ?_))
         all_goals (first|exact LeR.top _|exact LeR.refl _|(refine LeR.of_eq ?_;(try simp only [go_sem]);try rfl)|((try simp only [go_sem]);try rfl))
       |false=>
        have h5:isNum s=false:=by unfold isNum;rw [h6,h7];rfl
        rw [show stepT s vs=El.resS s.op (pickB vs s.args) by unfold stepT;rw [if_neg (by rw [h6];decide),if_neg (by rw [h7];decide)]] at hF
        have h6':eqS s.op ⟨#[99,111,110,115,116]⟩=false:=h6
        have h7':eqS s.op ⟨#[116,114,117,116,104]⟩=false:=h7
        have hag':∀ a∈s.args,0≤a∧a<(vs.length:Int):=fun a ha=>by have:=hag h5 a ha;omega
        have hpl:=pickB_len (vs:=vs) (ats:=s.args)
        cases hA:El.resS s.op (pickB vs s.args) with
        |none=>
         rw [hA] at hF
         simp only at hF
         rw [←hF] at hR
         repeat' (first
          |(with_reducible first|refine nx ?_|refine t_seq fun K=>?_|refine t_br (fun hc=>?_) fun hc=>?_|refine t_bx ?_|apply And.intro|intro vr)|exact kpd
          |((with_reducible first|refine ny ?_|refine t_kLF ?_ ?_|refine t_drawE (id:=15) (fun _=>true) [(0,1),(1,1),(2,1),(3,1),(4,1),(5,0),(6,0),(7,1),(8,1),(9,1),(10,1),(11,1)] (by kernel_rfl) fun K=>?_|refine t_dwh (h:=fun K KL=>?_));intros;simp only [go_sem,kp33,geff,g3,hs,h6',h7',hap,hA,rsV_none,stpV,Int.toNat_natCast,stps_length,Bool.not_false]))
         all_goals try exact nd
         all_goals try exact (hag' _ (by assumption)).1
         all_goals try exact (hag' _ (by assumption)).2
         all_goals (refine nl ?_;simp only [go_sem])
         exact typ_of hR.symm
        |some n=>
         rw [hA] at hF
         simp only at hF
         repeat' (first
          |(with_reducible first|refine nx ?_|refine t_seq fun K=>?_|refine t_br (fun hc=>?_) fun hc=>?_|refine t_bx ?_|apply And.intro|intro vr)|exact kpd
          |((with_reducible first|refine ny ?_|refine t_kLF ?_ ?_|refine t_drawE (id:=15) (fun _=>true) [(0,1),(1,1),(2,1),(3,1),(4,1),(5,0),(6,0),(7,1),(8,1),(9,1),(10,1),(11,1)] (by kernel_rfl) fun K=>?_|refine t_dwh (h:=fun K KL=>?_));intros;simp only [go_sem,kp33,geff,g3,hs,h6',h7',hap,hA,rsV_some,stpV,Int.toNat_natCast,stps_length,Bool.not_true]))
         all_goals try exact nd
         all_goals try exact (hag' _ (by assumption)).1
         all_goals try exact (hag' _ (by assumption)).2
         refine ⟨⟨i+1,some ([.box 78 [.lit (.string s.op),.lit (.int .i64 s.num),.sl false 1 (ints .i64 s.args)],.arr 9 1 (strs (pickB vs s.args)) vr false],0),vs++[n],by omega,nofun,?_,by rw [List.length_append,hn];simp;omega,hF⟩,by show c.length - (i+1)<c.length - i;omega,?_⟩
         ·intro p hp m
          cases hp;rfl
         ·simp only [tvS,tvO,updL_nil,updL_cons,delF_top,delF_upd,Nat.reduceEqDiff,reduceIte,List.cons_append,List.nil_append,List.length_cons,List.length_nil]
          refine Le.frameS (by first|rfl|(simp only [go_sem];try rfl)) ?_
          repeat' (first|exact leF_top _|exact (fun _=>LeR.refl _)|(with_reducible refine leF_sl ?_ ?_)|(refine leF_upd ?_ ?_))
          all_goals (first|exact LeR.top _|exact LeR.refl _|(refine LeR.of_eq ?_;(try simp only [go_sem]);try rfl)|((try simp only [go_sem]);try rfl))
     ·have g3:decide ((i:Int)<(c.length:Int))=false:=decide_eq_false (by omega)
      rw [List.drop_eq_nil_of_le hc,typG] at hF
      rw [←hF] at hR
      simp only at hR
      have hv0:1≤vs.length:=by
        have: ¬ ((av.length:Int)+(c.length:Int)=0):=fun e=>by
          unfold badN at hb;simp [e] at hb
        omega
      have e1:((vs.length:Int) - 1).toNat=vs.length - 1:=by omega
      repeat' (first
       |(with_reducible first|refine nx ?_|refine t_seq fun K=>?_|refine t_br (fun hc=>?_) fun hc=>?_|refine t_bx ?_|apply And.intro|intro vr)|exact kpd
       |((with_reducible first|refine ny ?_|refine t_kLF ?_ ?_|refine t_drawE (id:=15) (fun _=>true) [(0,1),(1,1),(2,1),(3,1),(4,1),(5,0),(6,0),(7,1),(8,1),(9,1),(10,1),(11,1)] (by kernel_rfl) fun K=>?_|refine t_dwh (h:=fun K KL=>?_));intros;simp only [go_sem,kp33,geff,g3,e1,Int.toNat_natCast,stps_length,yes]))
      all_goals try exact nd
      all_goals (refine nl ?_;simp only [go_sem])
      exact typ_of (by rw [←hR];rfl)
    |some p=>
     obtain ⟨pre,v⟩:=p
     have hpre:=hl _ rfl
     simp only at hpre
     simp only [tvS,tvO]
     rcases Nat.lt_or_ge i c.length with hc|hc
     ·rw [drop_getD nilStp hc,typG] at hF
      have g3:decide ((i:Int)<(c.length:Int))=true:=decide_eq_true (by omega)
      have hag:=allV_args hall i hc
      have hx:=hc0.2 _ (getD_mem nilStp hc)
      generalize hs:c.getD i nilStp=s at hF hx hag
      cases h6:eqS s.op sConst with
      |true=>
       rw [show stepT s vs=some ⟨#[105,110,116]⟩ by unfold stepT;rw [if_pos h6];rfl] at hF
       simp only at hF
       have h6':eqS s.op ⟨#[99,111,110,115,116]⟩=true:=h6
       repeat' (first
        |(with_reducible first|refine nx ?_|refine t_seq fun K=>?_|refine t_br (fun hc=>?_) fun hc=>?_|refine t_bx ?_|apply And.intro|intro vr)|exact kpd
        |((with_reducible first|refine ny ?_|refine t_kLF ?_ ?_|refine t_drawE (id:=15) (fun _=>true) [(0,1),(1,1),(2,1),(3,1),(4,1),(5,0),(6,0),(7,1),(8,1),(9,1),(10,1),(11,1)] (by kernel_rfl) fun K=>?_|refine t_dwh (h:=fun K KL=>?_));intros;simp only [go_sem,kp33,geff,g3,hs,h6',hap,stpV,Int.toNat_natCast,stps_length]))
       all_goals try exact nd
       refine ⟨⟨i+1,some (pre,v+1),vs++[⟨#[105,110,116]⟩],by omega,nofun,?_,by rw [List.length_append,hn];simp;omega,hF⟩,by show c.length - (i+1)<c.length - i;omega,?_⟩
       ·intro p hp m
        cases hp;exact hpre m
       ·simp only [tvS,tvO,updL_nil,updL_cons,delF_top,delF_upd,Nat.reduceEqDiff,reduceIte]
        refine le_backD (σ:=pre++[.arr 9 1 (strs (vs++[⟨#[105,110,116]⟩])) (v+1) false,.box 78 [.lit (.string s.op),.lit (.int .i64 s.num),.sl false 1 (ints .i64 s.args)]]) (l:=pre++[.arr 9 1 (strs (vs++[⟨#[105,110,116]⟩])) (v+1) false]) (ob:= .box 78 [.lit (.string s.op),.lit (.int .i64 s.num),.sl false 1 (ints .i64 s.args)]) (by simp) (Nat.zero_le _) (by rw [List.all_append,hpre];rfl) ?_ ?_
        ·repeat' (first|exact low_top|(refine low_upd ?_ ?_))
         all_goals (first|rfl|(simp only [low_arr,decide_eq_true_eq];simp))
        repeat' (first|exact leF_top _|exact (fun _=>LeR.refl _)|(with_reducible refine leF_sl ?_ ?_)|(refine leF_upd ?_ ?_))
        all_goals (first|exact LeR.top _|exact LeR.refl _|(refine LeR.of_eq ?_;(try simp only [go_sem]);try rfl)|((try simp only [go_sem]);try rfl))
      |false=>
       cases h7:eqS s.op sTruth with
       |true=>
        rw [show stepT s vs=some ⟨#[98,111,111,108]⟩ by unfold stepT;rw [if_neg (by rw [h6];decide),if_pos h7];rfl] at hF
        simp only at hF
        have h6':eqS s.op ⟨#[99,111,110,115,116]⟩=false:=h6
        have h7':eqS s.op ⟨#[116,114,117,116,104]⟩=true:=h7
        repeat' (first
         |(with_reducible first|refine nx ?_|refine t_seq fun K=>?_|refine t_br (fun hc=>?_) fun hc=>?_|refine t_bx ?_|apply And.intro|intro vr)|exact kpd
         |((with_reducible first|refine ny ?_|refine t_kLF ?_ ?_|refine t_drawE (id:=15) (fun _=>true) [(0,1),(1,1),(2,1),(3,1),(4,1),(5,0),(6,0),(7,1),(8,1),(9,1),(10,1),(11,1)] (by kernel_rfl) fun K=>?_|refine t_dwh (h:=fun K KL=>?_));intros;simp only [go_sem,kp33,geff,g3,hs,h6',h7',hap,stpV,Int.toNat_natCast,stps_length]))
        all_goals try exact nd
        refine ⟨⟨i+1,some (pre,v+1),vs++[⟨#[98,111,111,108]⟩],by omega,nofun,?_,by rw [List.length_append,hn];simp;omega,hF⟩,by show c.length - (i+1)<c.length - i;omega,?_⟩
        ·intro p hp m
         cases hp;exact hpre m
        ·simp only [tvS,tvO,updL_nil,updL_cons,delF_top,delF_upd,Nat.reduceEqDiff,reduceIte]
         refine le_backD (σ:=pre++[.arr 9 1 (strs (vs++[⟨#[98,111,111,108]⟩])) (v+1) false,.box 78 [.lit (.string s.op),.lit (.int .i64 s.num),.sl false 1 (ints .i64 s.args)]]) (l:=pre++[.arr 9 1 (strs (vs++[⟨#[98,111,111,108]⟩])) (v+1) false]) (ob:= .box 78 [.lit (.string s.op),.lit (.int .i64 s.num),.sl false 1 (ints .i64 s.args)]) (by simp) (Nat.zero_le _) (by rw [List.all_append,hpre];rfl) ?_ ?_
         ·repeat' (first|exact low_top|(refine low_upd ?_ ?_))
          all_goals (first|rfl|(simp only [low_arr,decide_eq_true_eq];simp))
         repeat' (first|exact leF_top _|exact (fun _=>LeR.refl _)|(with_reducible refine leF_sl ?_ ?_)|(refine leF_upd ?_ ?_))
         all_goals (first|exact LeR.top _|exact LeR.refl _|(refine LeR.of_eq ?_;(try simp only [go_sem]);try rfl)|((try simp only [go_sem]);try rfl))
       |false=>
        have h5:isNum s=false:=by unfold isNum;rw [h6,h7];rfl
        rw [show stepT s vs=El.resS s.op (pickB vs s.args) by unfold stepT;rw [if_neg (by rw [h6];decide),if_neg (by rw [h7];decide)]] at hF
        have h6':eqS s.op ⟨#[99,111,110,115,116]⟩=false:=h6
        have h7':eqS s.op ⟨#[116,114,117,116,104]⟩=false:=h7
        have hag':∀ a∈s.args,0≤a∧a<(vs.length:Int):=fun a ha=>by have:=hag h5 a ha;omega
        have hpl:=pickB_len (vs:=vs) (ats:=s.args)
        cases hA:El.resS s.op (pickB vs s.args) with
        |none=>
         rw [hA] at hF
         simp only at hF
         rw [←hF] at hR
         repeat' (first
          |(with_reducible first|refine nx ?_|refine t_seq fun K=>?_|refine t_br (fun hc=>?_) fun hc=>?_|refine t_bx ?_|apply And.intro|intro vr)|exact kpd
          |((with_reducible first|refine ny ?_|refine t_kLF ?_ ?_|refine t_drawE (id:=15) (fun _=>true) [(0,1),(1,1),(2,1),(3,1),(4,1),(5,0),(6,0),(7,1),(8,1),(9,1),(10,1),(11,1)] (by kernel_rfl) fun K=>?_|refine t_dwh (h:=fun K KL=>?_));intros;simp only [go_sem,kp33,geff,g3,hs,h6',h7',hap,hA,rsV_none,stpV,Int.toNat_natCast,stps_length,Bool.not_false]))
         all_goals try exact nd
         all_goals try exact (hag' _ (by assumption)).1
         all_goals try exact (hag' _ (by assumption)).2
         all_goals (refine nl ?_;simp only [go_sem])
         exact typ_of hR.symm
        |some n=>
         rw [hA] at hF
         simp only at hF
         repeat' (first
          |(with_reducible first|refine nx ?_|refine t_seq fun K=>?_|refine t_br (fun hc=>?_) fun hc=>?_|refine t_bx ?_|apply And.intro|intro vr)|exact kpd
          |((with_reducible first|refine ny ?_|refine t_kLF ?_ ?_|refine t_drawE (id:=15) (fun _=>true) [(0,1),(1,1),(2,1),(3,1),(4,1),(5,0),(6,0),(7,1),(8,1),(9,1),(10,1),(11,1)] (by kernel_rfl) fun K=>?_|refine t_dwh (h:=fun K KL=>?_));intros;simp only [go_sem,kp33,geff,g3,hs,h6',h7',hap,hA,rsV_some,stpV,Int.toNat_natCast,stps_length,Bool.not_true]))
         all_goals try exact nd
         all_goals try exact (hag' _ (by assumption)).1
         all_goals try exact (hag' _ (by assumption)).2
         refine ⟨⟨i+1,some (pre,v+1),vs++[n],by omega,nofun,?_,by rw [List.length_append,hn];simp;omega,hF⟩,by show c.length - (i+1)<c.length - i;omega,?_⟩
         ·intro p hp m
          cases hp;exact hpre m
         ·simp only [tvS,tvO,updL_nil,updL_cons,delF_top,delF_upd,Nat.reduceEqDiff,reduceIte]
          refine le_two (σ:=pre++[.arr 9 1 (strs (vs++[n])) (v+1) false,.box 78 [.lit (.string s.op),.lit (.int .i64 s.num),.sl false 1 (ints .i64 s.args)],.arr 9 1 (strs (pickB vs s.args)) vr false]) (l:=pre++[.arr 9 1 (strs (vs++[n])) (v+1) false]) (a:= .box 78 [.lit (.string s.op),.lit (.int .i64 s.num),.sl false 1 (ints .i64 s.args)]) (b:= .arr 9 1 (strs (pickB vs s.args)) vr false) (by simp) (Nat.zero_le _) (fun m=>by rw [List.all_append,hpre];rfl) (fun m=>rfl) ?_ ?_
          ·intro m hm
           repeat' (first|exact low_top|(refine low_upd ?_ ?_))
           all_goals (first|rfl|(simp only [low_arr,decide_eq_true_eq];simp at hm;omega))
          repeat' (first|exact leF_top _|exact (fun _=>LeR.refl _)|(with_reducible refine leF_sl ?_ ?_)|(refine leF_upd ?_ ?_))
          all_goals (first|exact LeR.top _|exact LeR.refl _|(refine LeR.of_eq ?_;(try simp only [go_sem]);try rfl)|((try simp only [go_sem]);try rfl))
     ·have g3:decide ((i:Int)<(c.length:Int))=false:=decide_eq_false (by omega)
      rw [List.drop_eq_nil_of_le hc,typG] at hF
      rw [←hF] at hR
      simp only at hR
      have hv0:1≤vs.length:=by
        have: ¬ ((av.length:Int)+(c.length:Int)=0):=fun e=>by
          unfold badN at hb;simp [e] at hb
        omega
      have e1:((vs.length:Int) - 1).toNat=vs.length - 1:=by omega
      repeat' (first
       |(with_reducible first|refine nx ?_|refine t_seq fun K=>?_|refine t_br (fun hc=>?_) fun hc=>?_|refine t_bx ?_|apply And.intro|intro vr)|exact kpd
       |((with_reducible first|refine ny ?_|refine t_kLF ?_ ?_|refine t_drawE (id:=15) (fun _=>true) [(0,1),(1,1),(2,1),(3,1),(4,1),(5,0),(6,0),(7,1),(8,1),(9,1),(10,1),(11,1)] (by kernel_rfl) fun K=>?_|refine t_dwh (h:=fun K KL=>?_));intros;simp only [go_sem,kp33,geff,g3,e1,Int.toNat_natCast,stps_length,yes]))
      all_goals try exact nd
      all_goals (refine nl ?_;simp only [go_sem])
      exact typ_of (by rw [←hR];rfl)
noncomputable def con33:PCon Tryz.prog where
  f:=33
  c:=fun
   |[xc,xav]=>match stpsOf xc,slS xav with|some c,some av=>some (okC c∧av.length≤1000000,typV (typS c av))|_,_=>none
   |_=>none
  ok:=by
   intro args p r hc hp
   split at hc
   ·split at hc
    ·rename_i hc hav
     cases hc
     exact PC.weak ((fun hp:_∧_=>typ_pc hp.1 hp.2) hp) ⟨stpsOf_le hc,slS_le hav,trivial⟩
    ·cases hc
   ·cases hc
  fk:=fk33
theorem con33_f:con33.f=33:=rfl
theorem con33_c {xc:AV} {xav:AV}:con33.c [xc,xav]=match stpsOf xc,slS xav with|some c,some av=>some (okC c∧av.length≤1000000,typV (typS c av))|_,_=>none:=rfl
attribute [go_sem] con33_f con33_c
end Go.Proofs.YtcpjahmajkhchaaGreat

namespace Go.Proofs.YtcpjahmajkhchaaGreat
open Go Go.Fw
set_option maxRecDepth 20000
structure Tx (c:List Stp) (av:List ByteArray) (G:Option (List ByteArray)) where
  i:Nat
  v:Nat
  vs:List ByteArray
  hi:i≤c.length
  hn:vs.length=av.length+i
  hF:typG (c.drop i) vs=G
theorem take_appB {l:List ByteArray} {i:Nat} (h:i<l.length):l.take i++[l.getD i ByteArray.empty]=l.take (i+1):=by
  rw [List.take_add_one,List.getElem?_eq_getElem h,List.getD_eq_getElem?_getD,List.getElem?_eq_getElem h];rfl
attribute [go_sem] El.con49_f El.con49_c
noncomputable def A8:Env:=envJ (P:=Tryz.prog) jkR zer (fun _=>false) (fun _=>false) [con14,El.con49] []
theorem A8_ok:EnvOk Tryz.prog A8:=envJOk zer_ok
set_option maxHeartbeats 8000000 in
theorem rtyp_pc {c:List Stp} {av:List ByteArray} (hc0:okC c) (ha0:av.length≤1000000):PC Tryz.prog 21 [.sl false 3 (stps c),.sl false 1 (strs av)] (typV (typS c av)):=by
  generalize hR:typS c av=R
  unfold typS at hR
  cases h1:validC c av.length with
  |false=>
   rw [if_pos h1] at hR
   refine pcR A8_ok (kp21) Tryz.func21 [.tmp 4,.tmp 5] (h:=fun KF=>?_)
   unfold A8
   repeat' (first
    |(with_reducible first|refine nx ?_|refine t_seq fun K=>?_|refine t_br (fun hc=>?_) fun hc=>?_|refine t_bx ?_|apply And.intro|intro vr)
    |((with_reducible first|refine ny ?_|refine t_dwh (h:=fun K KL=>?_));intros;simp only [go_sem,kp21,geff,h1,stpsOf_sl,Bool.not_false]))
   all_goals try exact nd
   all_goals (refine nl ?_;simp only [go_sem])
   exact typ_of hR.symm
  |true=>
   rw [if_neg (by rw [h1];decide)] at hR
   have hb:badN c av.length=false:=by
     cases hb:badN c av.length with
     |false=>rfl
     |true=>unfold validC at h1;rw [if_pos hb] at h1;cases h1
   have hall:allV c av.length=true:=by
     unfold validC at h1;rw [if_neg (by rw [hb];decide)] at h1;exact h1
   obtain ⟨b1,b2,b3⟩:=badN_no hb
   refine pcR A8_ok (kp21) Tryz.func21 [.tmp 4,.tmp 5] (h:=fun KF=>?_)
   unfold A8
   repeat' (first
    |(with_reducible first|refine nx ?_|refine t_seq fun K=>?_|refine t_br (fun hc=>?_) fun hc=>?_|refine t_bx ?_|apply And.intro|intro vr)
    |((with_reducible first|refine ny ?_|refine t_dwh (h:=fun K KL=>?_));intros;simp only [go_sem,kp21,geff,h1,stpsOf_sl,Bool.not_true]))
   all_goals try exact nd
   refine t_loopF (ι:={p:Nat×Nat // p.1≤av.length∧(av.drop p.1).any (fun t=> !tyOk t)=av.any (fun t=> !tyOk t)}) (fun i=>[(7,.lit (.int .i64 i.1.1)),(6,.arr 0 i.1.2)]) (fun i=>[.arr 9 1 (strs (av.take i.1.1)) i.1.2 false]) (fun i=>av.length - i.1.1) ⟨(0,0),by simp⟩ ?_ ?_
   ·refine (le_nil 6 9 1 rfl).trans ?_
    exact lf
   rintro ⟨⟨i,v⟩,hi,hF⟩ K0
   simp only at hi hF
   rcases Nat.lt_or_ge i av.length with hc|hc
   ·rw [drop_getD ⟨#[]⟩ hc,List.any_cons] at hF
    have g3:decide ((i:Int)<(av.length:Int))=true:=decide_eq_true (by omega)
    have hta:=take_appB hc
    have hlt:(av.take i).length=i:=by rw [List.length_take];omega
    cases h4:tyOk (av.getD i ⟨#[]⟩) with
    |false=>
     rw [h4,Bool.not_false,Bool.true_or] at hF
     rw [if_pos hF.symm] at hR
     have h4':(!eqS (av.getD i ByteArray.empty) ⟨#[105,110,116]⟩&& !eqS (av.getD i ByteArray.empty) ⟨#[98,111,111,108]⟩)=true:=by rw [←Bool.not_or];show (!tyOk (av.getD i ⟨#[]⟩))=true;rw [h4];rfl
     repeat' (first
      |(with_reducible first|refine nx ?_|refine t_seq fun K=>?_|refine t_br (fun hc=>?_) fun hc=>?_|refine t_bx ?_|apply And.intro|intro vr)
      |((with_reducible first|refine ny ?_|refine t_dwh (h:=fun K KL=>?_));intros;simp only [go_sem,kp21,geff,g3,h4',Int.toNat_natCast,Bool.not_false]))
     all_goals try exact nd
     all_goals (refine nl ?_;simp only [go_sem])
     exact typ_of hR.symm
    |true=>
     rw [h4,Bool.not_true,Bool.false_or] at hF
     have h4':(!eqS (av.getD i ByteArray.empty) ⟨#[105,110,116]⟩&& !eqS (av.getD i ByteArray.empty) ⟨#[98,111,111,108]⟩)=false:=by rw [←Bool.not_or];show (!tyOk (av.getD i ⟨#[]⟩))=false;rw [h4];rfl
     repeat' (first
      |(with_reducible first|refine nx ?_|refine t_seq fun K=>?_|refine t_br (fun hc=>?_) fun hc=>?_|refine t_bx ?_|apply And.intro|intro vr)
      |((with_reducible first|refine ny ?_|refine t_dwh (h:=fun K KL=>?_));intros;simp only [go_sem,kp21,geff,g3,h4',hta,Int.toNat_natCast,Bool.not_true]))
     all_goals try exact nd
     exact ⟨⟨(i+1,v+1),by omega,hF⟩,wf,lf⟩
   ·have g3:decide ((i:Int)<(av.length:Int))=false:=decide_eq_false (by omega)
    rw [List.drop_eq_nil_of_le hc,List.any_nil] at hF
    rw [if_neg (by rw [←hF];decide)] at hR
    generalize hG:typG c av=G at hR
    have e0:av.take i=av:=List.take_of_length_le hc
    repeat' (first
     |(with_reducible first|refine nx ?_|refine t_seq fun K=>?_|refine t_br (fun hc=>?_) fun hc=>?_|refine t_bx ?_|apply And.intro|intro vr)
     |((with_reducible first|refine ny ?_|refine t_dwh (h:=fun K KL=>?_));intros;simp only [go_sem,kp21,geff,g3,e0,Int.toNat_natCast,stps_length]))
    all_goals try exact nd
    refine t_loopF (ι:=Tx c av G) (fun i=>[(8,.lit (.int .i64 i.i)),(6,.arr 0 i.v)]) (fun i=>[.arr 9 1 (strs i.vs) i.v false]) (fun i=>c.length - i.i) ⟨0,v,av,by omega,by simp,hG⟩ ?_ ?_
    ·exact lf
    rintro ⟨i,v,vs,hi,hn,hF⟩ K1
    rcases Nat.lt_or_ge i c.length with hc|hc
    ·rw [drop_getD nilStp hc,typG] at hF
     have g3:decide ((i:Int)<(c.length:Int))=true:=decide_eq_true (by omega)
     have hag:=allV_args hall i hc
     have hx:=hc0.2 _ (getD_mem nilStp hc)
     generalize hs:c.getD i nilStp=s at hF hx hag
     cases h6:eqS s.op sConst with
     |true=>
      rw [show stepT s vs=some ⟨#[105,110,116]⟩ by unfold stepT;rw [if_pos h6];rfl] at hF
      simp only at hF
      have h6':eqS s.op ⟨#[99,111,110,115,116]⟩=true:=h6
      repeat' (first
       |(with_reducible first|refine nx ?_|refine t_seq fun K=>?_|refine t_br (fun hc=>?_) fun hc=>?_|refine t_bx ?_|apply And.intro|intro vr)
       |((with_reducible first|refine ny ?_|refine t_dwh (h:=fun K KL=>?_));intros;simp only [go_sem,kp21,geff,g3,hs,h6',stpV,Int.toNat_natCast,stps_length]))
      all_goals try exact nd
      exact ⟨⟨i+1,v+1,vs++[⟨#[105,110,116]⟩],by omega,by rw [List.length_append,hn];simp;omega,hF⟩,wf,lf⟩
     |false=>
      cases h7:eqS s.op sTruth with
      |true=>
       rw [show stepT s vs=some ⟨#[98,111,111,108]⟩ by unfold stepT;rw [if_neg (by rw [h6];decide),if_pos h7];rfl] at hF
       simp only at hF
       have h6':eqS s.op ⟨#[99,111,110,115,116]⟩=false:=h6
       have h7':eqS s.op ⟨#[116,114,117,116,104]⟩=true:=h7
       repeat' (first
        |(with_reducible first|refine nx ?_|refine t_seq fun K=>?_|refine t_br (fun hc=>?_) fun hc=>?_|refine t_bx ?_|apply And.intro|intro vr)
        |((with_reducible first|refine ny ?_|refine t_dwh (h:=fun K KL=>?_));intros;simp only [go_sem,kp21,geff,g3,hs,h6',h7',stpV,Int.toNat_natCast,stps_length]))
       all_goals try exact nd
       exact ⟨⟨i+1,v+1,vs++[⟨#[98,111,111,108]⟩],by omega,by rw [List.length_append,hn];simp;omega,hF⟩,wf,lf⟩
      |false=>
       have h5:isNum s=false:=by unfold isNum;rw [h6,h7];rfl
       rw [show stepT s vs=El.resS s.op (pickB vs s.args) by unfold stepT;rw [if_neg (by rw [h6];decide),if_neg (by rw [h7];decide)]] at hF
       have h6':eqS s.op ⟨#[99,111,110,115,116]⟩=false:=h6
       have h7':eqS s.op ⟨#[116,114,117,116,104]⟩=false:=h7
       have hag':∀ a∈s.args,0≤a∧a<(vs.length:Int):=fun a ha=>by have:=hag h5 a ha;omega
       repeat' (first
        |(with_reducible first|refine nx ?_|refine t_seq fun K=>?_|refine t_br (fun hc=>?_) fun hc=>?_|refine t_bx ?_|apply And.intro|intro vr)
        |((with_reducible first|refine ny ?_|refine t_dwh (h:=fun K KL=>?_));intros;simp only [go_sem,kp21,geff,g3,hs,h6',h7',stpV,Int.toNat_natCast,stps_length]))
       all_goals try exact nd
       refine t_loopF (ι:={p:Nat×Nat // p.1≤s.args.length}) (fun i=>[(10,.lit (.int .i64 i.1.1)),(9,.arr 1 i.1.2)]) (fun i=>[.arr 9 1 (strs vs) v false,.arr 9 1 (strs (pickB vs (s.args.take i.1.1))) i.1.2 false]) (fun i=>s.args.length - i.1.1) ⟨(0,0),by simp⟩ ?_ ?_
       ·refine (le_nil 9 9 1 rfl).trans ?_
        exact lf
       rintro ⟨⟨j,w⟩,hj⟩ K2
       simp only at hj
       rcases Nat.lt_or_ge j s.args.length with hc2|hc2
       ·have g4:decide ((j:Int)<(s.args.length:Int))=true:=decide_eq_true (by omega)
        have hq:=hag' _ (getD_mem 0 hc2)
        have hps:pickB vs (s.args.take (j+1))=pickB vs (s.args.take j)++[vs.getD (s.args.getD j 0).toNat ByteArray.empty]:=pickB_succ (vs:=vs) hc2
        have hpl:=pickB_len (vs:=vs) (ats:=s.args.take j)
        rw [List.length_take] at hpl
        repeat' (first
         |(with_reducible first|refine nx ?_|refine t_seq fun K=>?_|refine t_br (fun hc=>?_) fun hc=>?_|refine t_bx ?_|apply And.intro|intro vr)
         |((with_reducible first|refine ny ?_|refine t_dwh (h:=fun K KL=>?_));intros;simp only [go_sem,kp21,geff,g4,hs,stpV,←hps,Int.toNat_natCast,stps_length,yes]))
        all_goals try exact nd
        exact ⟨⟨(j+1,w+1),by omega⟩,wf,lf⟩
       ·have g4:decide ((j:Int)<(s.args.length:Int))=false:=decide_eq_false (by omega)
        have hpq:=pickB_len (vs:=vs) (ats:=s.args)
        have e1:s.args.take j=s.args:=List.take_of_length_le hc2
        cases hA:El.resS s.op (pickB vs s.args) with
        |none=>
         rw [hA] at hF
         simp only at hF
         rw [←hF] at hR
         repeat' (first
          |(with_reducible first|refine nx ?_|refine t_seq fun K=>?_|refine t_br (fun hc=>?_) fun hc=>?_|refine t_bx ?_|apply And.intro|intro vr)
          |((with_reducible first|refine ny ?_|refine t_dwh (h:=fun K KL=>?_));intros;simp only [go_sem,kp21,geff,g4,hs,stpV,e1,hA,rsV_none,Int.toNat_natCast,stps_length,Bool.not_false]))
         all_goals try exact nd
         all_goals (refine nl ?_;simp only [go_sem])
         exact typ_of hR.symm
        |some n=>
         rw [hA] at hF
         simp only at hF
         repeat' (first
          |(with_reducible first|refine nx ?_|refine t_seq fun K=>?_|refine t_br (fun hc=>?_) fun hc=>?_|refine t_bx ?_|apply And.intro|intro vr)
          |((with_reducible first|refine ny ?_|refine t_dwh (h:=fun K KL=>?_));intros;simp only [go_sem,kp21,geff,g4,hs,stpV,e1,hA,rsV_some,Int.toNat_natCast,stps_length,Bool.not_true]))
         all_goals try exact nd
         refine ⟨⟨i+1,v+1,vs++[n],by omega,by rw [List.length_append,hn];simp;omega,hF⟩,by first|(simp only;omega)|omega,?_⟩
         simp only [updL_nil,updL_cons,delF_top,delF_upd,Nat.reduceEqDiff,reduceIte]
         refine le_backD (by first|rfl|(simp only [go_sem];try rfl)) (by first|exact Nat.zero_le _|simp) (by first|rfl|simp [lowO,low_lit,low_sl,low_ref,low_arr]) ?_ ?_
         ·repeat' (first|exact low_top|(refine low_upd rfl ?_))
         repeat' (first|exact leF_top _|exact (fun _=>LeR.refl _)|(with_reducible refine leF_sl ?_ ?_)|(refine leF_upd ?_ ?_))
         all_goals (first|exact LeR.top _|exact LeR.refl _|(refine LeR.of_eq ?_;(try simp only [go_sem]);try rfl)|((try simp only [go_sem]);try rfl))
    ·have g3:decide ((i:Int)<(c.length:Int))=false:=decide_eq_false (by omega)
     rw [List.drop_eq_nil_of_le hc,typG] at hF
     rw [←hF] at hR
     simp only at hR
     have hv0:1≤vs.length:=by
       have: ¬ ((av.length:Int)+(c.length:Int)=0):=fun e=>by
         unfold badN at hb;simp [e] at hb
       omega
     have e1:((vs.length:Int) - 1).toNat=vs.length - 1:=by omega
     repeat' (first
      |(with_reducible first|refine nx ?_|refine t_seq fun K=>?_|refine t_br (fun hc=>?_) fun hc=>?_|refine t_bx ?_|apply And.intro|intro vr)
      |((with_reducible first|refine ny ?_|refine t_dwh (h:=fun K KL=>?_));intros;simp only [go_sem,kp21,geff,g3,e1,Int.toNat_natCast,stps_length,yes]))
     all_goals try exact nd
     all_goals (refine nl ?_;simp only [go_sem])
     exact typ_of (by rw [←hR];rfl)
noncomputable def con21:PCon Tryz.prog where
  f:=21
  c:=fun
   |[xc,xav]=>match stpsOf xc,slS xav with|some c,some av=>some (okC c∧av.length≤1000000,typV (typS c av))|_,_=>none
   |_=>none
  ok:=by
   intro args p r hc hp
   split at hc
   ·split at hc
    ·rename_i hc hav
     cases hc
     exact PC.weak ((fun hp:_∧_=>rtyp_pc hp.1 hp.2) hp) ⟨stpsOf_le hc,slS_le hav,trivial⟩
    ·cases hc
   ·cases hc
  fk:=fk21
theorem con21_f:con21.f=21:=rfl
theorem con21_c {xc:AV} {xav:AV}:con21.c [xc,xav]=match stpsOf xc,slS xav with|some c,some av=>some (okC c∧av.length≤1000000,typV (typS c av))|_,_=>none:=rfl
attribute [go_sem] con21_f con21_c
end Go.Proofs.YtcpjahmajkhchaaGreat

namespace Go.Proofs.YtcpjahmajkhchaaGreat
open Go Go.Fw
set_option maxRecDepth 20000
theorem dself {α:Type} [DecidableEq α] (a:α):decide (a=a)=true:=decide_eq_true rfl
end Go.Proofs.YtcpjahmajkhchaaGreat

namespace Go.Proofs.YtcpjahmajkhchaaGreat
open Go Go.Fw
set_option maxRecDepth 20000
structure Lc (f own:List Int) (G:Option Int) where
  i:Nat
  k:Int
  hi:i≤own.length
  hk:0≤k
  hk':k<prI (f.take i)
  hp:∀ x∈f.take i,1≤x
  hF:atS (f.drop i) (own.drop i) k=G
theorem take_pos {f:List Int} {i:Nat} (h:i<f.length) (hp:∀ x∈f.take i,1≤x) (h1:1≤f.getD i 0):∀ x∈f.take (i+1),1≤x:=by
  intro x hx
  rw [List.take_add_one,List.mem_append] at hx
  rcases hx with hx|hx
  ·exact hp x hx
  ·rw [List.getElem?_eq_getElem h] at hx
   simp only [Option.toList_some,List.mem_singleton] at hx
   rw [List.getD_eq_getElem?_getD,List.getElem?_eq_getElem h] at h1
   rw [hx];simpa using h1
noncomputable def E19:Env:=envOf (P:=Tryz.prog) zer (fun _=>false) (fun _=>false) [con77,con71] []
theorem E19_ok:EnvOk Tryz.prog E19:=envOk zer_ok
set_option maxRecDepth 20000 in
set_option maxHeartbeats 4000000 in
theorem cell_pc {a:Arr} {r:Int} {own:List Int} (ha:okA a) (hr:inI64 r) (hl:own.length≤1000000):PC Tryz.prog 56 [arrV a,.lit (.int .i64 r),.sl false 1 (ints .i64 own)] (aeV (cellS a r own)):=by
  unfold cellS
  have hsl:=splitS_len r ha
  have ha1:=ha.1
  have ha2:=ha.2
  generalize hS:splitS a r=s at hsl
  obtain ⟨f,c,er⟩:=s
  simp only at hsl
  by_cases e0:er=0
  ·subst e0
   obtain ⟨h0,hd,hr0,hrl⟩:=splitS_inv hS
   rw [if_neg (by simp)]
   by_cases hn:own.length=f.length
   ·have n1:((own.length:Int) !=(f.length:Int))=false:=by rw [bne_eq_false_iff_eq];omega
    rw [if_neg (by simpa using hn)]
    simp only
    have hsz:=(ofE_inv h0).2.1
    have hbd:∀ i,i≤f.length→0≤prI (f.take i)∧prI (f.take i)≤1152921504606846976:=fun i hi=>by
      have:=part_bd hsz 0 i
      rwa [hd,List.drop_zero,List.take_append_of_le_length hi] at this
    generalize hG:atS f own 0=G
    refine pcO E19_ok (fun _=>[1,2,3,6,7,8,9,10,11,12,13,14,16,25,32,34,35,36,37,50,61,62,63,64]) Tryz.func56 (h:=fun KF=>?_)
    unfold E19
    repeat' (first
     |(with_reducible first|refine nx ?_|refine t_seq fun K=>?_|refine t_br (fun hc=>?_) fun hc=>?_|refine t_bx ?_|apply And.intro|intro vr)|exact kpd
     |((with_reducible first|refine ny ?_|refine t_kLF ?_ ?_|refine t_drawE (id:=20) (fun i=>i==0) [(0,1),(1,1),(2,1),(3,1),(4,1),(5,1),(6,1),(7,1),(8,1),(9,1),(10,1),(11,1),(12,1),(13,0),(14,1),(15,0),(16,1)] (by kernel_rfl) fun K=>?_|refine t_dwh (h:=fun K KL=>?_));intros;simp only [go_sem,geff,con77_f,con77_c,con71_f,con71_c,arrV_def,arrOf_agg,slK_sl,hS,spV_def,szV_def,aeV_def,n1,bne_self_eq_false]))
    all_goals try exact om
    all_goals try exact ha
    all_goals try exact hr
    refine t_loop (ι:=Lc f own G) (fun i=>⟨upd (upd (upd (upd (upd (upd (upd (upd (upd topF 36 (.lit (.int .i64 i.i))) 35 (.lit (.int .i64 own.length))) 34 (.sl false 1 (ints .i64 own))) 12 (.lit (.int .i64 1))) 11 (.lit (.int .i64 i.k))) 9 (.sl false 1 (ints .i64 c))) 8 (.sl false 1 (ints .i64 f))) 6 (.ref 1 0)) 3 (.ref 0 0),[AObj.box 31 [.lit (.string a.e),.sl false 1 (ints .i64 a.d),.sl false 1 (ints .i64 a.x)],AObj.box 31 [AV.lit (Value.string ByteArray.empty),AV.sl true 1 [],AV.sl true 1 []]]⟩) (fun i=>own.length - i.i) ⟨0,0,by omega,by omega,by simp [prI],by simp,hG⟩ ?_ ?_
    ·skip
     (refine Le.frame ?_;repeat' (first|exact leF_top _|(with_reducible refine leF_sl ?_ ?_)|(refine leF_upd (LeR.of_eq ?_) ?_)))<;>(try (simp only [go_sem];try rfl))
    ·rintro ⟨i,k,hi,hk,hk',hp,hF⟩ K0
     rcases Nat.lt_or_ge i own.length with hc|hc
     ·have hcf:i<f.length:=by omega
      have g1:decide ((i:Int)<(own.length:Int))=true:=decide_eq_true (by omega)
      have g2:=ints_getD .i64 own i hc
      have g3:=ints_getD .i64 f i hcf
      have hnx:=prI_take_succ hcf
      have hb1:=hbd (i+1) (by omega)
      have htp:=take_pos hcf hp
      rw [drop_getD 0 hcf,drop_getD 0 hc,atS] at hF
      generalize own.getD i 0=n at g2 hF
      generalize f.getD i 0=d at g3 hF hnx htp
      by_cases n0:n<0
      ·have n0':decide (n<0)=true:=decide_eq_true n0
       rw [if_pos (.inl n0)] at hF
       subst hF
       repeat' (first
        |(with_reducible first|refine nx ?_|refine t_seq fun K=>?_|refine t_br (fun hc=>?_) fun hc=>?_|refine t_bx ?_|apply And.intro|intro vr)|exact kpd
        |((with_reducible first|refine ny ?_|refine t_kLF ?_ ?_|refine t_drawE (id:=20) (fun i=>i==0) [(0,1),(1,1),(2,1),(3,1),(4,1),(5,1),(6,1),(7,1),(8,1),(9,1),(10,1),(11,1),(12,1),(13,0),(14,1),(15,0),(16,1)] (by kernel_rfl) fun K=>?_|refine t_dwh (h:=fun K KL=>?_));intros;simp only [go_sem,geff,con77_f,con77_c,con71_f,con71_c,g1,g2,g3,n0',Int.toNat_natCast]))
       all_goals try exact om
       refine end_ret rfl ?_
       simp only [fin,go_sem]
       exact nilAe_le
      ·have n0':decide (n<0)=false:=decide_eq_false n0
       by_cases n2:n≥d
       ·have n2':decide (n≥d)=true:=decide_eq_true n2
        rw [if_pos (.inr n2)] at hF
        subst hF
        repeat' (first
         |(with_reducible first|refine nx ?_|refine t_seq fun K=>?_|refine t_br (fun hc=>?_) fun hc=>?_|refine t_bx ?_|apply And.intro|intro vr)|exact kpd
         |((with_reducible first|refine ny ?_|refine t_kLF ?_ ?_|refine t_drawE (id:=20) (fun i=>i==0) [(0,1),(1,1),(2,1),(3,1),(4,1),(5,1),(6,1),(7,1),(8,1),(9,1),(10,1),(11,1),(12,1),(13,0),(14,1),(15,0),(16,1)] (by kernel_rfl) fun K=>?_|refine t_dwh (h:=fun K KL=>?_));intros;simp only [go_sem,geff,con77_f,con77_c,con71_f,con71_c,g1,g2,g3,n0',n2',Int.toNat_natCast]))
        all_goals try exact om
        refine end_ret rfl ?_
        simp only [fin,go_sem]
        exact nilAe_le
       ·have n2':decide (n≥d)=false:=decide_eq_false n2
        rw [if_neg (by omega)] at hF
        have hst:=at_step hk hk' (show 0≤n by omega) (show n<d by omega)
        rw [hnx] at hb1
        generalize prI (f.take i)*d=pd at hb1 hst hnx
        repeat' (first
         |(with_reducible first|refine nx ?_|refine t_seq fun K=>?_|refine t_br (fun hc=>?_) fun hc=>?_|refine t_bx ?_|apply And.intro|intro vr)|exact kpd
         |((with_reducible first|refine ny ?_|refine t_kLF ?_ ?_|refine t_drawE (id:=20) (fun i=>i==0) [(0,1),(1,1),(2,1),(3,1),(4,1),(5,1),(6,1),(7,1),(8,1),(9,1),(10,1),(11,1),(12,1),(13,0),(14,1),(15,0),(16,1)] (by kernel_rfl) fun K=>?_|refine t_dwh (h:=fun K KL=>?_));intros;simp only [go_sem,geff,con77_f,con77_c,con71_f,con71_c,g1,g2,g3,n0',n2',Int.toNat_natCast]))
        all_goals try exact om
        refine ⟨⟨i+1,k*d+n,by omega,by omega,by omega,htp (by omega),hF⟩,by simp only;omega,?_⟩
        (refine Le.frame ?_;repeat' (first|exact leF_top _|(with_reducible refine leF_sl ?_ ?_)|(refine leF_upd (LeR.of_eq ?_) ?_)))<;>(try (simp only [go_sem];try rfl))
     ·have g1:decide ((i:Int)<(own.length:Int))=false:=decide_eq_false (by omega)
      rw [List.drop_eq_nil_of_le hc,List.drop_eq_nil_of_le (by omega),atS] at hF
      ·subst hF
       rw [List.take_of_length_le (by omega)] at hk' hp
       obtain ⟨hcs,hc0,hkc,hkl,hxl,hO⟩:=cell_ok h0 hd hp hk hk'
       replace hO:=ofS_ok hO
       have hq:(a.x.take (k*prI c+prI c).toNat).drop (k*prI c).toNat=(a.x.drop (k*prI c).toNat).take (prI c).toNat:=by
         rw [List.drop_take];congr 1;omega
       simp only
       have hX:∀ j,j≤c.length→0≤prI (c.take j)∧prI (c.take j)≤1152921504606846976:=fun j hj=>by
         have:=part_bd hsz f.length j
         rwa [hd,List.drop_left] at this
       repeat' (first
        |(with_reducible first|refine nx ?_|refine t_seq fun K=>?_|refine t_br (fun hc=>?_) fun hc=>?_|refine t_bx ?_|apply And.intro|intro vr)|exact kpd
        |((with_reducible first|refine ny ?_|refine t_kLF ?_ ?_|refine t_drawE (id:=20) (fun i=>i==0) [(0,1),(1,1),(2,1),(3,1),(4,1),(5,1),(6,1),(7,1),(8,1),(9,1),(10,1),(11,1),(12,1),(13,0),(14,1),(15,0),(16,1)] (by kernel_rfl) fun K=>?_|refine t_dwh (h:=fun K KL=>?_));intros;simp only [go_sem,geff,con77_f,con77_c,con71_f,con71_c,arrV_def,arrOf_agg,slK_sl,hS,spV_def,szV_def,aeV_def,g1]))
       all_goals try exact om
       refine t_loop (ι:={p:Nat×Int // p.1≤c.length∧p.2=prI (c.take p.1)}) (fun i=>⟨upd (upd (upd (upd (upd (upd (upd (upd topF 63 (.lit (.int .i64 i.1.1))) 62 (.lit (.int .i64 c.length))) 61 (.sl false 1 (ints .i64 c))) 12 (.lit (.int .i64 i.1.2))) 11 (.lit (.int .i64 k))) 9 (.sl false 1 (ints .i64 c))) 6 (.ref 1 0)) 3 (.ref 0 0),[AObj.box 31 [.lit (.string a.e),.sl false 1 (ints .i64 a.d),.sl false 1 (ints .i64 a.x)],AObj.box 31 [AV.lit (Value.string ByteArray.empty),AV.sl true 1 [],AV.sl true 1 []]]⟩) (fun i=>c.length - i.1.1) ⟨(0,1),by simp,by simp [prI]⟩ ?_ ?_
       ·skip
        (refine Le.frame ?_;repeat' (first|exact leF_top _|(with_reducible refine leF_sl ?_ ?_)|(refine leF_upd (LeR.of_eq ?_) ?_)))<;>(try (simp only [go_sem];try rfl))
       ·rintro ⟨⟨j,m⟩,hj,hmj⟩ K1
        simp only at hj hmj
        rcases Nat.lt_or_ge j c.length with hc|hc
        ·have g1:decide ((j:Int)<(c.length:Int))=true:=decide_eq_true (by omega)
         have g2:=ints_getD .i64 c j hc
         have hnx:=prI_take_succ hc
         have hX1:=hX (j+1) (by omega)
         rw [hnx,←hmj] at hX1
         rw [←hmj] at hnx
         generalize c.getD j 0=d at g2 hnx hX1
         repeat' (first
          |(with_reducible first|refine nx ?_|refine t_seq fun K=>?_|refine t_br (fun hc=>?_) fun hc=>?_|refine t_bx ?_|apply And.intro|intro vr)|exact kpd
          |((with_reducible first|refine ny ?_|refine t_kLF ?_ ?_|refine t_drawE (id:=20) (fun i=>i==0) [(0,1),(1,1),(2,1),(3,1),(4,1),(5,1),(6,1),(7,1),(8,1),(9,1),(10,1),(11,1),(12,1),(13,0),(14,1),(15,0),(16,1)] (by kernel_rfl) fun K=>?_|refine t_dwh (h:=fun K KL=>?_));intros;simp only [go_sem,geff,con77_f,con77_c,con71_f,con71_c,g1,g2,Int.toNat_natCast]))
         all_goals try exact om
         refine ⟨⟨(j+1,m*d),by simp only;omega,hnx.symm⟩,by simp only;omega,?_⟩
         (refine Le.frame ?_;repeat' (first|exact leF_top _|(with_reducible refine leF_sl ?_ ?_)|(refine leF_upd (LeR.of_eq ?_) ?_)))<;>(try (simp only [go_sem];try rfl))
        ·have g1:decide ((j:Int)<(c.length:Int))=false:=decide_eq_false (by omega)
         rw [List.take_of_length_le hc] at hmj
         subst hmj
         repeat' (first
          |(with_reducible first|refine nx ?_|refine t_seq fun K=>?_|refine t_br (fun hc=>?_) fun hc=>?_|refine t_bx ?_|apply And.intro|intro vr)|exact kpd
          |((with_reducible first|refine ny ?_|refine t_kLF ?_ ?_|refine t_drawE (id:=20) (fun i=>i==0) [(0,1),(1,1),(2,1),(3,1),(4,1),(5,1),(6,1),(7,1),(8,1),(9,1),(10,1),(11,1),(12,1),(13,0),(14,1),(15,0),(16,1)] (by kernel_rfl) fun K=>?_|refine t_dwh (h:=fun K KL=>?_));intros;simp only [go_sem,geff,con77_f,con77_c,con71_f,con71_c,arrV_def,arrOf_agg,slK_sl,hS,spV_def,szV_def,aeV_def,g1,hq,List.length_take,List.length_drop]))
         all_goals try exact om
         all_goals try exact trivial
         refine end_ret rfl ?_
         simp only [fin,go_sem]
         exact LeA.refl _
      ·intro _ _ _ _ h;cases h
   ·have n1:((own.length:Int) !=(f.length:Int))=true:=by rw [bne_iff_ne];omega
    rw [if_pos hn]
    refine pcO E19_ok (fun _=>[1,2,3,6,7,8,9,10,11,12,13,14,16,25,32,34,35,36,37,50,61,62,63,64]) Tryz.func56 (h:=fun KF=>?_)
    unfold E19
    repeat' (first
     |(with_reducible first|refine nx ?_|refine t_seq fun K=>?_|refine t_br (fun hc=>?_) fun hc=>?_|refine t_bx ?_|apply And.intro|intro vr)|exact kpd
     |((with_reducible first|refine ny ?_|refine t_kLF ?_ ?_|refine t_drawE (id:=20) (fun i=>i==0) [(0,1),(1,1),(2,1),(3,1),(4,1),(5,1),(6,1),(7,1),(8,1),(9,1),(10,1),(11,1),(12,1),(13,0),(14,1),(15,0),(16,1)] (by kernel_rfl) fun K=>?_|refine t_dwh (h:=fun K KL=>?_));intros;simp only [go_sem,geff,con77_f,con77_c,con71_f,con71_c,arrV_def,arrOf_agg,slK_sl,hS,spV_def,szV_def,aeV_def,n1,bne_self_eq_false]))
    all_goals try exact om
    all_goals try exact ha
    all_goals try exact hr
    refine end_ret rfl ?_
    simp only [fin,go_sem]
    exact nilAe_le
  ·have e1:(er !=0)=true:=by rw [bne_iff_ne];exact e0
   rw [if_pos (by simpa using e0)]
   refine pcO E19_ok (fun _=>[1,2,3,6,7,8,9,10,11,12,13,14,16,25,32,34,35,36,37,50,61,62,63,64]) Tryz.func56 (h:=fun KF=>?_)
   unfold E19
   repeat' (first
    |(with_reducible first|refine nx ?_|refine t_seq fun K=>?_|refine t_br (fun hc=>?_) fun hc=>?_|refine t_bx ?_|apply And.intro|intro vr)|exact kpd
    |((with_reducible first|refine ny ?_|refine t_kLF ?_ ?_|refine t_drawE (id:=20) (fun i=>i==0) [(0,1),(1,1),(2,1),(3,1),(4,1),(5,1),(6,1),(7,1),(8,1),(9,1),(10,1),(11,1),(12,1),(13,0),(14,1),(15,0),(16,1)] (by kernel_rfl) fun K=>?_|refine t_dwh (h:=fun K KL=>?_));intros;simp only [go_sem,geff,con77_f,con77_c,con71_f,con71_c,arrV_def,arrOf_agg,slK_sl,hS,spV_def,szV_def,aeV_def,e1]))
   all_goals try exact om
   all_goals try exact ha
   all_goals try exact hr
   refine end_ret rfl ?_
   simp only [fin,go_sem]
   exact nilAe_le
noncomputable def con56:PCon Tryz.prog where
  f:=56
  c:=fun
   |[xa,.lit (.int .i64 r),xown]=>match arrOf xa,slK .i64 xown with|some a,some own=>some (okA a∧inI64 r∧own.length≤1000000,aeV (cellS a r own))|_,_=>none
   |_=>none
  ok:=by
   intro args p r hc hp
   split at hc
   ·split at hc
    ·rename_i ha hown
     cases hc
     exact PC.weak ((fun hp:_∧_∧_=>cell_pc hp.1 hp.2.1 hp.2.2) hp) ⟨arrOf_le ha,LeA.refl _,slK_le hown,trivial⟩
    ·cases hc
   ·cases hc
  fk:=fk56
theorem con56_f:con56.f=56:=rfl
theorem con56_c {xa:AV} {r:Int} {xown:AV}:con56.c [xa,.lit (.int .i64 r),xown]=match arrOf xa,slK .i64 xown with|some a,some own=>some (okA a∧inI64 r∧own.length≤1000000,aeV (cellS a r own))|_,_=>none:=rfl
end Go.Proofs.YtcpjahmajkhchaaGreat

namespace Go.Proofs.YtcpjahmajkhchaaGreat
open Go Go.Fw
set_option maxRecDepth 20000
def eqA (a b:Arr):Bool:=eqS a.e b.e&&(decide (a.d=b.d)&&decide (a.x=b.x))
noncomputable def E21:Env:=envOf (P:=Tryz.prog) zer (fun _=>false) (fun _=>false) [con26] []
theorem E21_ok:EnvOk Tryz.prog E21:=envOk zer_ok
set_option maxRecDepth 20000 in
set_option maxHeartbeats 1000000 in
theorem eqa_pc {a b:Arr} (ha:okA a):PC Tryz.prog 20 [arrV a,arrV b] (.lit (.bool (eqA a b))):=by
  have ha1:=ha.1
  have ha2:=ha.2
  unfold eqA
  by_cases h1:eqS a.e b.e=true
  ·by_cases h2:a.d=b.d
   ·have d2:decide (a.d=b.d)=true:=decide_eq_true h2
    rw [h1,d2]
    refine pcO E21_ok (fun _=>[2,3,4]) Tryz.func20 (h:=fun KF=>?_)
    unfold E21
    repeat' (first
     |(with_reducible first|refine nx ?_|refine t_seq fun K=>?_|refine t_br (fun hc=>?_) fun hc=>?_|refine t_bx ?_|apply And.intro|intro vr)
     |((with_reducible first|refine ny ?_|refine t_dwh (h:=fun K KL=>?_));intros;simp only [go_sem,geff,con26_f,con26_c,arrV_def,slK_sl,h1,d2]))
    all_goals try exact om
    refine end_ret rfl ?_
    simp only [fin,go_sem]
    exact LeA.refl _
   ·have d2:decide (a.d=b.d)=false:=decide_eq_false h2
    rw [h1,d2]
    refine pcO E21_ok (fun _=>[2,3,4]) Tryz.func20 (h:=fun KF=>?_)
    unfold E21
    repeat' (first
     |(with_reducible first|refine nx ?_|refine t_seq fun K=>?_|refine t_br (fun hc=>?_) fun hc=>?_|refine t_bx ?_|apply And.intro|intro vr)
     |((with_reducible first|refine ny ?_|refine t_dwh (h:=fun K KL=>?_));intros;simp only [go_sem,geff,con26_f,con26_c,arrV_def,slK_sl,h1,d2]))
    all_goals try exact om
    refine end_ret rfl ?_
    simp only [fin,go_sem]
    exact LeA.refl _
  ·have h1':eqS a.e b.e=false:=by simpa using h1
   rw [h1']
   refine pcO E21_ok (fun _=>[2,3,4]) Tryz.func20 (h:=fun KF=>?_)
   unfold E21
   repeat' (first
    |(with_reducible first|refine nx ?_|refine t_seq fun K=>?_|refine t_br (fun hc=>?_) fun hc=>?_|refine t_bx ?_|apply And.intro|intro vr)
    |((with_reducible first|refine ny ?_|refine t_dwh (h:=fun K KL=>?_));intros;simp only [go_sem,geff,con26_f,con26_c,arrV_def,slK_sl,h1']))
   all_goals try exact om
   refine end_ret rfl ?_
   simp only [fin,go_sem]
   exact LeA.refl _
noncomputable def con20:PCon Tryz.prog where
  f:=20
  c:=fun
   |[xa,xb]=>match arrOf xa,arrOf xb with|some a,some b=>some (okA a,.lit (.bool (eqA a b)))|_,_=>none
   |_=>none
  ok:=by
   intro args p r hc hp
   split at hc
   ·split at hc
    ·rename_i ha hb
     cases hc
     exact PC.weak (eqa_pc hp) ⟨arrOf_le ha,arrOf_le hb,trivial⟩
    ·cases hc
   ·cases hc
  fk:=fk20
theorem con20_f:con20.f=20:=rfl
theorem con20_c {xa:AV} {xb:AV}:con20.c [xa,xb]=match arrOf xa,arrOf xb with|some a,some b=>some (okA a,.lit (.bool (eqA a b)))|_,_=>none:=rfl
end Go.Proofs.YtcpjahmajkhchaaGreat

namespace Go.Proofs.YtcpjahmajkhchaaGreat
open Go Go.Fw
set_option maxRecDepth 20000
def digR:List Int→Int→List Int
  |[],_=>[]
  |d::t,o=>o.tmod d::digR t (o.tdiv d)
def idxS (d:List Int) (o:Int):List Int×Int:=if (sizeS d).2≠0 then ([],(sizeS d).2) else if o<0∨o≥(sizeS d).1 then ([],2) else ((digR d.reverse o).reverse,0)
def ixV (p:List Int×Int):AV:= .tup [.sl false 1 (ints .i64 p.1),.lit (.int .i64 p.2)]
theorem ixE_le {e:Int}:LeA (.tup [.lit (.slice none 0 0),.lit (.int .i64 e)]) (ixV ([],e)):=LeA.tup ⟨LeA.nil _ _,LeA.refl _,trivial⟩
theorem digR_len:∀ (l:List Int) (o:Int),(digR l o).length=l.length
  |[],_=>rfl
  |d::t,o=>by simp [digR,digR_len t]
theorem ints_set (l:List Int) (i:Nat) (v:Int):(ints .i64 l).set i (.lit (.int .i64 v))=ints .i64 (l.set i v):=by simp [ints,List.map_set]
theorem set_rep (m:Nat) (T:List Int) (v:Int):(List.replicate (m+1) 0++T).set m v=List.replicate m 0++v::T:=by
  rw [List.replicate_succ',List.append_assoc,List.set_append_right _ _ (by simp)]
  simp
theorem tdm {o d:Int} (ho:0≤o) (hd:1≤d):0≤o.tdiv d∧o.tdiv d≤o∧0≤o.tmod d∧o.tmod d<d:=by
  rw [Int.tdiv_eq_ediv_of_nonneg ho,Int.tmod_eq_emod_of_nonneg ho]
  exact ⟨Int.ediv_nonneg ho (by omega),Int.ediv_le_self _ ho,Int.emod_nonneg _ (by omega),Int.emod_lt_of_pos _ (by omega)⟩
theorem dims_pos {d:List Int} {n o:Int} (hS:sizeS d=(n,0)) (ho:0≤o) (hn:o<n):∀ x∈d,1≤x:=by
  obtain ⟨_,h2,h3,_⟩:=sizeS_ok hS
  exact not_any_zero h2 fun h=>by rw [h3,prI_zero h] at hn;omega
structure Li (d:List Int) (G:List Int) where
  i:Nat
  o:Int
  T:List Int
  hi:i≤d.length
  ho:0≤o∧o≤4096
  hT:T.length=i
  hF:(digR (d.reverse.drop i) o).reverse++T=G
noncomputable def E72:Env:=envOf (P:=Tryz.prog) zer (fun _=>false) (fun _=>false) [con69] []
theorem E72_ok:EnvOk Tryz.prog E72:=envOk zer_ok
set_option maxRecDepth 20000 in
set_option maxHeartbeats 4000000 in
theorem idx_pc {d:List Int} {o:Int} (hl:d.length≤1000000):PC Tryz.prog 110 [.sl false 1 (ints .i64 d),.lit (.int .i64 o)] (ixV (idxS d o)):=by
  unfold idxS
  generalize hS:sizeS d=s
  obtain ⟨n,er⟩:=s
  simp only
  by_cases e0:er=0
  ·subst e0
   rw [if_neg (by simp)]
   by_cases o1:o<0
   ·have o1':decide (o<0)=true:=decide_eq_true o1
    rw [if_pos (.inl o1)]
    refine pcO E72_ok (fun _=>[0,1,4,5,6,7,8,9,10,17,25,30,31,32]) Tryz.func110 (h:=fun KF=>?_)
    unfold E72
    repeat' (first
     |(with_reducible first|refine nx ?_|refine t_seq fun K=>?_|refine t_br (fun hc=>?_) fun hc=>?_|refine t_bx ?_|apply And.intro|intro vr)
     |((with_reducible first|refine ny ?_|refine t_dwh (h:=fun K KL=>?_));intros;simp only [go_sem,geff,con69_f,con69_c,slK_sl,hS,szV_def,o1']))
    all_goals try exact om
    refine end_ret rfl ?_
    simp only [fin,go_sem]
    exact ixE_le
   ·have o1':decide (o<0)=false:=decide_eq_false o1
    by_cases o2:o≥n
    ·have o2':decide (o≥n)=true:=decide_eq_true o2
     rw [if_pos (.inr o2)]
     refine pcO E72_ok (fun _=>[0,1,4,5,6,7,8,9,10,17,25,30,31,32]) Tryz.func110 (h:=fun KF=>?_)
     unfold E72
     repeat' (first
      |(with_reducible first|refine nx ?_|refine t_seq fun K=>?_|refine t_br (fun hc=>?_) fun hc=>?_|refine t_bx ?_|apply And.intro|intro vr)
      |((with_reducible first|refine ny ?_|refine t_dwh (h:=fun K KL=>?_));intros;simp only [go_sem,geff,con69_f,con69_c,slK_sl,hS,szV_def,o1',o2']))
     all_goals try exact om
     refine end_ret rfl ?_
     simp only [fin,go_sem]
     exact ixE_le
    ·have o2':decide (o≥n)=false:=decide_eq_false o2
     rw [if_neg (by omega)]
     have hn:=(sizeS_ok hS).2.2.2
     have hp:=dims_pos hS (by omega) (show o<n by omega)
     generalize hG:(digR d.reverse o).reverse=G
     refine pcO E72_ok (fun _=>[0,1,4,5,6,7,8,9,10,17,25,30,31,32]) Tryz.func110 (h:=fun KF=>?_)
     unfold E72
     repeat' (first
      |(with_reducible first|refine nx ?_|refine t_seq fun K=>?_|refine t_br (fun hc=>?_) fun hc=>?_|refine t_bx ?_|apply And.intro|intro vr)
      |((with_reducible first|refine ny ?_|refine t_dwh (h:=fun K KL=>?_));intros;simp only [go_sem,geff,con69_f,con69_c,slK_sl,hS,szV_def,o1',o2',rep_ints,Int.toNat_natCast]))
     all_goals try exact om
     refine t_loop (ι:=Li d G) (fun i=>⟨upd (upd (upd (upd (upd topF 8 (.arr 0 0)) 1 (.lit (.int .i64 i.o))) 0 (.sl false 1 (ints .i64 d))) 31 (.lit (.int .i64 i.i))) 30 (.lit (.int .i64 d.length)),[.arr 3 1 (ints .i64 (List.replicate (d.length - i.i) 0++i.T)) 0 false]⟩) (fun i=>d.length - i.i) ⟨0,o,[],by omega,by omega,rfl,by simpa using hG⟩ ?_ ?_
     ·skip
      (refine Le.frameS ?gs1 ?_;rotate_left;repeat' (first|exact leF_top _|(with_reducible refine leF_sl ?_ ?_)|(refine leF_upd (LeR.of_eq ?_) ?_)))<;>(try (simp only [go_sem];try rfl))
      all_goals (first|omega|simp)
     ·rintro ⟨i,v,T,hi,hv,hT,hF⟩ K0
      rcases Nat.lt_or_ge i d.length with hc|hc
      ·have g1:decide ((i:Int)<(d.length:Int))=true:=decide_eq_true (by omega)
       have hi1:((d.length:Int) - 1 - (i:Int)).toNat=d.length - 1 - i:=by omega
       have g2:=ints_getD .i64 d (d.length - 1 - i) (by omega)
       have hq:=hp _ (getD_mem 0 (show d.length - 1 - i<d.length by omega))
       have hrv:d.reverse.drop i=d.getD (d.length - 1 - i) 0::d.reverse.drop (i+1):=by
         rw [List.drop_eq_getElem_cons (by simpa using hc),List.getElem_reverse,List.getD_eq_getElem?_getD,List.getElem?_eq_getElem (by omega)]
         rfl
       rw [hrv,digR,List.reverse_cons,List.append_assoc] at hF
       generalize d.getD (d.length - 1 - i) 0=q at g2 hq hF
       have z1:(q==0)=false:=by rw [beq_eq_false_iff_ne];omega
       have ht:=tdm hv.1 hq
       have hst:(List.replicate (d.length - i) 0++T).set (d.length - 1 - i) (v.tmod q)=List.replicate (d.length - (i+1)) 0++v.tmod q::T:=by
         have:=set_rep (d.length - 1 - i) T (v.tmod q)
         rwa [show d.length - 1 - i+1=d.length - i by omega,show List.replicate (d.length - 1 - i) (0:Int)=List.replicate (d.length - (i+1)) 0 by congr 1;omega] at this
       have hln:(List.replicate (d.length - i) (0:Int)++T).length=d.length:=by simp [hT];omega
       repeat' (first
        |(with_reducible first|refine nx ?_|refine t_seq fun K=>?_|refine t_br (fun hc=>?_) fun hc=>?_|refine t_bx ?_|apply And.intro|intro vr)
        |((with_reducible first|refine ny ?_|refine t_dwh (h:=fun K KL=>?_));intros;simp only [go_sem,geff,con69_f,g1,hi1,g2,z1,ints_set,hst,hln,ints_length,Int.toNat_natCast]))
       all_goals try exact om
       refine ⟨⟨i+1,v.tdiv q,v.tmod q::T,by omega,by omega,by simp [hT],hF⟩,by simp only;omega,?_⟩
       (refine Le.frame ?_;repeat' (first|exact leF_top _|(with_reducible refine leF_sl ?_ ?_)|(refine leF_upd (LeR.of_eq ?_) ?_)))<;>(try (simp only [go_sem];try rfl))
      ·have g1:decide ((i:Int)<(d.length:Int))=false:=decide_eq_false (by omega)
       have:i=d.length:=by omega
       subst this
       rw [List.drop_eq_nil_of_le (by simp),digR] at hF
       simp only [List.reverse_nil,List.nil_append] at hF
       subst hF
       repeat' (first
        |(with_reducible first|refine nx ?_|refine t_seq fun K=>?_|refine t_br (fun hc=>?_) fun hc=>?_|refine t_bx ?_|apply And.intro|intro vr)
        |((with_reducible first|refine ny ?_|refine t_dwh (h:=fun K KL=>?_));intros;simp only [go_sem,geff,con69_f,g1,Nat.sub_self,List.replicate_zero]))
       refine end_ret rfl ?_
       simp only [fin,go_sem]
       exact LeA.refl _
  ·have e1:(er !=0)=true:=bne_iff_ne.2 e0
   rw [if_pos e0]
   refine pcO E72_ok (fun _=>[0,1,4,5,6,7,8,9,10,17,25,30,31,32]) Tryz.func110 (h:=fun KF=>?_)
   unfold E72
   repeat' (first
    |(with_reducible first|refine nx ?_|refine t_seq fun K=>?_|refine t_br (fun hc=>?_) fun hc=>?_|refine t_bx ?_|apply And.intro|intro vr)
    |((with_reducible first|refine ny ?_|refine t_dwh (h:=fun K KL=>?_));intros;simp only [go_sem,geff,con69_f,con69_c,slK_sl,hS,szV_def,e1]))
   all_goals try exact om
   refine end_ret rfl ?_
   simp only [fin,go_sem]
   exact ixE_le
end Go.Proofs.YtcpjahmajkhchaaGreat

namespace Go.Proofs.YtcpjahmajkhchaaGreat
open Go Go.Fw
set_option maxRecDepth 20000
set_option maxRecDepth 20000
def inds (fr:List Int) (k:Nat):List (List Int):=(List.range k).map fun j:Nat=>(idxS fr (j:Int)).1
def indicesS (fr:List Int):List (List Int)×Int:=if (sizeS fr).2≠0 then ([],(sizeS fr).2) else (inds fr (sizeS fr).1.toNat,0)
def inV (p:List (List Int)×Int):AV:= .tup [.sl false 1 (ils p.1),.lit (.int .i64 p.2)]
theorem inds_len (fr:List Int) (k:Nat):(inds fr k).length=k:=by simp [inds]
theorem ilsl_len (a:List (List Int)):(ils a).length=a.length:=by simp [ils]
attribute [go_sem] ils_app ilsl_len con50_f con50_c ixV szV inds_len
end Go.Proofs.YtcpjahmajkhchaaGreat

namespace Go.Proofs.YtcpjahmajkhchaaGreat
open Go Go.Fw
set_option maxRecDepth 20000
set_option maxRecDepth 20000
attribute [go_sem] con45_f con45_c arrOf_agg slK_sl
noncomputable def E75:Env:=envJ (P:=Tryz.prog) jk zer (fun _=>false) (fun _=>false) [con45] []
theorem E75_ok:EnvOk Tryz.prog E75:=envJOk zer_ok
theorem inval_pc {a:Arr} (h:okA a):PC Tryz.prog 79 [arrV a] (.lit (.bool (!(ofE a==0)))):=by
  obtain ⟨h1,h2⟩:=h
  simp only [arrV]
  refine pcR E75_ok (kp79) Tryz.func79 [.tmp 2] (h:=fun KF=>?_)
  unfold E75
  repeat' (first
   |(with_reducible first|refine nx ?_|refine t_seq fun K=>?_|refine t_br (fun hc=>?_) fun hc=>?_|refine t_bx ?_|apply And.intro|intro vr)
   |((with_reducible first|refine ny ?_|refine t_dwh (h:=fun K KL=>?_));intros;simp only [go_sem,kp79,geff]))
  all_goals try exact nd
  all_goals (refine nl ?_;simp only [go_sem])
  exact LeA.refl _
noncomputable def con79:PCon Tryz.prog where
  f:=79
  c:=fun
   |[xa]=>match arrOf xa with|some a=>some (okA a,.lit (.bool (!(ofE a==0))))|_=>none
   |_=>none
  ok:=by
   intro args p r hc hp
   split at hc
   ·split at hc
    ·rename_i ha
     cases hc
     exact PC.weak (inval_pc hp) ⟨arrOf_le ha,trivial⟩
    ·cases hc
   ·cases hc
  fk:=fk79
theorem con79_f:con79.f=79:=rfl
theorem con79_c {xa:AV}:con79.c [xa]=match arrOf xa with|some a=>some (okA a,.lit (.bool (!(ofE a==0))))|_=>none:=rfl
def idxA (p:Arr→Bool):List Arr→Int→Int
  |[],_=> -1
  |d::t,i=>if p d=true then i else idxA p t (i+1)
theorem idxA_any (p:Arr→Bool):∀ (l:List Arr) (i:Int),0≤i→decide (idxA p l i≥0)=l.any p
  |[],_,_=>rfl
  |d::t,i,hi=>by
   unfold idxA
   by_cases h:p d=true
   ·rw [if_pos h,List.any_cons,h,decide_eq_true hi];rfl
   ·rw [if_neg h,idxA_any p t (i+1) (by omega),List.any_cons]
    simp only [Bool.not_eq_true] at h
    rw [h];rfl
def invA (a:Arr):Bool:= !(ofE a==0)
noncomputable def E76:Env:=envJ (P:=Tryz.prog) jk zer (fun _=>false) (fun _=>false) [con79] []
theorem E76_ok:EnvOk Tryz.prog E76:=envJOk zer_ok
attribute [go_sem] con79_f con79_c
theorem idxa_pc {l:List Arr} (hl:l.length≤1000000) (hk:∀ a∈l,okA a):PC Tryz.prog 111 [.sl false 3 (arrs l),.fn (.func 79) [] []] (.lit (.int .i64 (idxA invA l 0))):=by
  generalize hR:idxA invA l 0=R
  refine pcR E76_ok (kp111) Tryz.func111 [.tmp 4] (h:=fun KF=>?_)
  unfold E76
  repeat' (first
   |(with_reducible first|refine nx ?_|refine t_seq fun K=>?_|refine t_br (fun hc=>?_) fun hc=>?_|refine t_bx ?_|apply And.intro|intro vr)
   |((with_reducible first|refine ny ?_|refine t_dwh (h:=fun K KL=>?_));intros;simp only [go_sem,kp111,geff,arrs_length]))
  all_goals try exact nd
  refine t_loopF (ι:={i:Nat // i≤l.length∧idxA invA (l.drop i) i=R}) (fun i=>[(8,.lit (.int .i64 i.1))]) (fun i=>[]) (fun i=>l.length - i.1) ⟨0,by omega,hR⟩ ?_ ?_
  ·exact lf
  rintro ⟨i,hi,hF⟩ K0
  rcases Nat.lt_or_ge i l.length with hc|hc
  ·rw [drop_getD nilA hc,idxA] at hF
   have g3:decide ((i:Int)<(l.length:Int))=true:=decide_eq_true (by omega)
   have hm:okA (l.getD i nilA):=hk _ (getD_mem nilA hc)
   cases h4:(ofE (l.getD i nilA)==0) with
   |true=>
    rw [if_neg (by unfold invA;rw [h4];decide)] at hF
    repeat' (first
     |(with_reducible first|refine nx ?_|refine t_seq fun K=>?_|refine t_br (fun hc=>?_) fun hc=>?_|refine t_bx ?_|apply And.intro|intro vr)
     |((with_reducible first|refine ny ?_|refine t_dwh (h:=fun K KL=>?_));intros;simp only [go_sem,kp111,geff,g3,Int.toNat_natCast,arrs_length,arrV,arrOf_agg,slK_sl,h4,Bool.not_true]))
    all_goals try exact nd
    exact ⟨⟨i+1,by omega,by rw [←hF];congr 1⟩,wf,lf⟩
   |false=>
    rw [if_pos (by unfold invA;rw [h4];decide)] at hF
    repeat' (first
     |(with_reducible first|refine nx ?_|refine t_seq fun K=>?_|refine t_br (fun hc=>?_) fun hc=>?_|refine t_bx ?_|apply And.intro|intro vr)
     |((with_reducible first|refine ny ?_|refine t_dwh (h:=fun K KL=>?_));intros;simp only [go_sem,kp111,geff,g3,Int.toNat_natCast,arrs_length,arrV,arrOf_agg,slK_sl,h4,Bool.not_false]))
    all_goals try exact nd
    all_goals (refine nl ?_;simp only [go_sem])
    exact LeA.of_eq (by rw [←hF])
  ·have g3:decide ((i:Int)<(l.length:Int))=false:=decide_eq_false (by omega)
   rw [List.drop_eq_nil_of_le (by omega),idxA] at hF
   repeat' (first
    |(with_reducible first|refine nx ?_|refine t_seq fun K=>?_|refine t_br (fun hc=>?_) fun hc=>?_|refine t_bx ?_|apply And.intro|intro vr)
    |((with_reducible first|refine ny ?_|refine t_dwh (h:=fun K KL=>?_));intros;simp only [go_sem,kp111,geff,g3,Int.toNat_natCast,arrs_length]))
   all_goals try exact nd
   all_goals (refine nl ?_;simp only [go_sem])
   exact LeA.of_eq (by rw [←hF])
noncomputable def con111:PCon Tryz.prog where
  f:=111
  c:=fun
   |[x,.fn (.func 79) [] []]=>match arrsOf x with|some l=>some (l.length≤1000000∧∀ a∈l,okA a,.lit (.int .i64 (idxA invA l 0)))|_=>none
   |_=>none
  ok:=by
   intro args p r hc hp
   split at hc
   ·split at hc
    ·rename_i hx
     cases hc
     exact PC.weak (idxa_pc hp.1 hp.2) ⟨arrsOf_le hx,LeA.refl _,trivial⟩
    ·cases hc
   ·cases hc
  fk:=fk111
theorem con111_f:con111.f=111:=rfl
theorem con111_c {x:AV}:con111.c [x,.fn (.func 79) [] []]=match arrsOf x with|some l=>some (l.length≤1000000∧∀ a∈l,okA a,.lit (.int .i64 (idxA invA l 0)))|_=>none:=rfl
attribute [go_sem] con111_f con111_c
noncomputable def E77:Env:=envJ (P:=Tryz.prog) jk zer (fun _=>false) (fun _=>false) [con111] []
theorem E77_ok:EnvOk Tryz.prog E77:=envJOk zer_ok
theorem anya_pc {l:List Arr} (hl:l.length≤1000000) (hk:∀ a∈l,okA a):PC Tryz.prog 78 [.sl false 3 (arrs l),.fn (.func 79) [] []] (.lit (.bool (l.any invA))):=by
  rw [←idxA_any invA l 0 (by omega)]
  refine pcR E77_ok (kp78) Tryz.func78 [.tmp 4] (h:=fun KF=>?_)
  unfold E77
  repeat' (first
   |(with_reducible first|refine nx ?_|refine t_seq fun K=>?_|refine t_br (fun hc=>?_) fun hc=>?_|refine t_bx ?_|apply And.intro|intro vr)
   |((with_reducible first|refine ny ?_|refine t_dwh (h:=fun K KL=>?_));intros;simp only [go_sem,kp78,geff,arrsOf_sl]))
  all_goals try exact nd
  all_goals try exact hk _ (by assumption)
  all_goals (refine nl ?_;simp only [go_sem])
  exact LeA.refl _
noncomputable def con78:PCon Tryz.prog where
  f:=78
  c:=fun
   |[x,.fn (.func 79) [] []]=>match arrsOf x with|some l=>some (l.length≤1000000∧∀ a∈l,okA a,.lit (.bool (l.any invA)))|_=>none
   |_=>none
  ok:=by
   intro args p r hc hp
   split at hc
   ·split at hc
    ·rename_i hx
     cases hc
     exact PC.weak (anya_pc hp.1 hp.2) ⟨arrsOf_le hx,LeA.refl _,trivial⟩
    ·cases hc
   ·cases hc
  fk:=fk78
theorem con78_f:con78.f=78:=rfl
theorem con78_c {x:AV}:con78.c [x,.fn (.func 79) [] []]=match arrsOf x with|some l=>some (l.length≤1000000∧∀ a∈l,okA a,.lit (.bool (l.any invA)))|_=>none:=rfl
attribute [go_sem] con78_f con78_c
end Go.Proofs.YtcpjahmajkhchaaGreat

set_option linter.unusedVariables false
namespace Go.Proofs
open Go.RowKit
set_option maxHeartbeats 2000000 in
set_option maxRecDepth 100000 in
theorem Tryz.grow_run (n:Nat) (h0:0<n) (h63:n≤1000000) (w:World):
    Calls Tryz.prog 112 #[.slice none 0 0,.int .i64 n] w fun e w'=>e= .returned (.slice (some ⟨w.heap.size,0,none⟩) 0 (grownCap w n 0 3))∧∃ cur,cur.size=grownCap w n 0 3∧w'=w.drew.alloc (.cells cur 3):=by
  obtain ⟨i0,hi,hz0,hz1,hz2⟩:=info_parts (show (Tryz.prog.info? 3).map (fun i=>(i.zero,i.size,i.bytes))=some (some (.int .i64 0),1,8) from by kernel_rfl)
  have h:=Lib.run_append_nil_zeros (P:=Tryz.prog) w 23 3 23 3 i0 (.int .i64 0) .i64 .i64 Tryz.underlying23 Tryz.underlying3 hi hz0 n h0 (by omega) (by omega) (by rw [hz2];omega)
  go_enter Tryz.func112,Tryz.ntmps112
  go_wp2_with (at_builtin;refine Lib.wpList_append_run _ rfl _ _ _ _ rfl _ _ rfl rfl _ _ h ?_)
  go_ret
  exact ⟨rfl,_,by have:=grownCap_ge w n 0 3;simp [size_zeroCells];omega,rfl⟩
set_option maxHeartbeats 2000000 in
set_option maxRecDepth 100000 in
theorem Tryz.grow_zero (w:World):Calls Tryz.prog 112 #[.slice none 0 0,.int .i64 0] w fun e w'=>e= .returned (.slice none 0 0)∧w'=w:=by
  go_enter Tryz.func112,Tryz.ntmps112
  go_wp2
  go_ret
  exact ⟨rfl,rfl⟩
namespace YtcpjahmajkhchaaGreat
open Go.Fw
theorem grow_ec {n:Nat} (h0:0<n) (hn:n≤1000000) {σ:List AObj} {k:AV→List AObj→Prop} (hk:k (.arr σ.length 0) (σ++[.arr 3 1 [] 0 false])):EC Tryz.prog 112 [.lit (.slice none 0 0),.lit (.int .i64 n)] σ k:=by
  intro cx G w vs hr hl
  obtain ⟨h1,h2⟩:=hl
  match vs,h1 with
  |[a,b],_=>
   have ha:=(show R G (.lit (.slice none 0 0)) a from h2 0 (by simp)).lit_inv
   have hb:=(show R G (.lit (.int .i64 n)) b from h2 1 (by simp)).lit_inv
   subst ha;subst hb
   refine (Tryz.grow_run n h0 hn w).mono ?_
   rintro e w' ⟨rfl,cur,hc,rfl⟩
   have hge:=grownCap_ge w n 0 3
   obtain ⟨G',g1,g2,g3⟩:=(hr.more (More.drawn w (w.drawn+1))).newArr 3 1 (xs:=[]) (cur:=cur) (cap:=grownCap w n 0 3) (fz:=(0,0)) ⟨by simp,by simp,by simp⟩ (by omega) (by simp) (grownCap_le_maxLen w n 0 3 (by unfold maxLen;omega)) (by omega) ⟨Nat.le_refl _,fun off _ h=>by simp at h⟩
   exact ⟨_,G',_,_,rfl,g1,g2,g3,hk⟩
theorem grow_ec0 {σ:List AObj} {k:AV→List AObj→Prop} (hk:k (.lit (.slice none 0 0)) σ):EC Tryz.prog 112 [.lit (.slice none 0 0),.lit (.int .i64 0)] σ k:=by
  intro cx G w vs hr hl
  obtain ⟨h1,h2⟩:=hl
  match vs,h1 with
  |[a,b],_=>
   have ha:=(show R G (.lit (.slice none 0 0)) a from h2 0 (by simp)).lit_inv
   have hb:=(show R G (.lit (.int .i64 0)) b from h2 1 (by simp)).lit_inv
   subst ha;subst hb
   refine (Tryz.grow_zero w).mono ?_
   rintro e w' ⟨rfl,rfl⟩
   exact ⟨_,G,_,_,rfl,Gh.le.refl G,hr,.clo _ _ (.lit _),hk⟩
end YtcpjahmajkhchaaGreat
end Go.Proofs

namespace Go.Proofs.YtcpjahmajkhchaaGreat
open Go Go.Fw
set_option maxRecDepth 20000
set_option maxRecDepth 20000
noncomputable def ecn112:ECon Tryz.prog where
  f:=112
  c:=fun args σ k=>match args with
   |[.lit (.slice none 0 0),.lit (.int .i64 n)]=>0≤n∧n≤1000000∧(n=0→k (.lit (.slice none 0 0)) σ)∧(n≠0→k (.arr σ.length 0) (σ++[.arr 3 1 [] 0 false]))
   |_=>False
  ok:=by
   intro args σ k h
   split at h
   ·rename_i n
    obtain ⟨m,rfl⟩:∃ m:Nat,n=m:=⟨n.toNat,by omega⟩
    rcases Nat.eq_zero_or_pos m with rfl|hm
    ·exact grow_ec0 (h.2.2.1 rfl)
    ·exact grow_ec hm (by omega) (h.2.2.2 (by omega))
   ·exact h.elim
  fk:=fk112
theorem ecn112_f:ecn112.f=112:=rfl
theorem ecn112_c {n:Int} {σ:List AObj} {k:AV→List AObj→Prop}:ecn112.c [.lit (.slice none 0 0),.lit (.int .i64 n)] σ k=(0≤n∧n≤1000000∧(n=0→k (.lit (.slice none 0 0)) σ)∧(n≠0→k (.arr σ.length 0) (σ++[.arr 3 1 [] 0 false]))):=rfl
attribute [go_sem] ecn112_f ecn112_c
noncomputable def E78:Env:=envJ (P:=Tryz.prog) jk zer (fun _=>false) (fun _=>false) [] [ecn112]
theorem E78_ok:EnvOk Tryz.prog E78:=envJOk zer_ok
theorem flat_take {L:List (List Int)} {i:Nat} (h:i<L.length):(L.take (i+1)).flatten=(L.take i).flatten++L.getD i []:=by
  rw [List.take_add_one,List.getElem?_eq_getElem h,List.getD_eq_getElem?_getD,List.getElem?_eq_getElem h,List.flatten_append];simp
theorem flat_le (L:List (List Int)) (i:Nat):(L.take i).flatten.length≤L.flatten.length:=by
  have h:L.flatten=(L.take i).flatten++(L.drop i).flatten:=by rw [←List.flatten_append,List.take_append_drop]
  rw [h,List.length_append];omega
set_option maxHeartbeats 4000000 in
theorem concat_pc {L:List (List Int)} (hl:L.flatten.length≤1000000) (hL:L.length≤1000000):PC Tryz.prog 80 [.sl false 1 (ils L)] (.sl false 1 (ints .i64 L.flatten)):=by
  refine pcR E78_ok (kp80) Tryz.func80 [.tmp 2] (h:=fun KF=>?_)
  unfold E78
  repeat' (first
   |(with_reducible first|refine nx ?_|refine t_seq fun K=>?_|refine t_br (fun hc=>?_) fun hc=>?_|refine t_bx ?_|apply And.intro|intro vr)
   |((with_reducible first|refine ny ?_|refine t_dwh (h:=fun K KL=>?_));intros;simp only [go_sem,kp80,geff]))
  all_goals try exact nd
  refine t_loopF (ι:={i:Nat // i≤L.length}) (fun i=>[(11,.lit (.int .i64 i.1)),(3,.lit (.int .i64 (L.take i.1).flatten.length))]) (fun i=>[]) (fun i=>L.length - i.1) ⟨0,by omega⟩ ?_ ?_
  ·exact lf
  rintro ⟨i,hi⟩ K0
  rcases Nat.lt_or_ge i L.length with hc|hc
  ·have g3:decide ((i:Int)<(L.length:Int))=true:=decide_eq_true (by omega)
   have hf:=flat_take hc
   have hle:=flat_le L (i+1)
   have hlen:=congrArg List.length hf
   rw [List.length_append] at hlen
   have g8:((L.take i).flatten.length:Int)+((L.getD i []).length:Int)=((L.take (i+1)).flatten.length:Nat):=by omega
   have g9:decide ((((L.take (i+1)).flatten.length:Nat):Int)<0)=false:=decide_eq_false (by omega)
   repeat' (first
    |(with_reducible first|refine nx ?_|refine t_seq fun K=>?_|refine t_br (fun hc=>?_) fun hc=>?_|refine t_bx ?_|apply And.intro|intro vr)
    |((with_reducible first|refine ny ?_|refine t_dwh (h:=fun K KL=>?_));intros;simp only [go_sem,kp80,geff,updL_cons,updL_nil,Int.toNat_natCast,g3,g8,g9]))
   all_goals try exact nd
   exact ⟨⟨i+1,by omega⟩,wf,lf⟩
  ·have g3:decide ((i:Int)<(L.length:Int))=false:=decide_eq_false (by omega)
   have e:L.take i=L:=List.take_of_length_le hc
   have z0:L.take 0=[]:=List.take_zero
   rcases Nat.eq_zero_or_pos L.flatten.length with ht|ht
   ·have g4:((L.flatten.length:Nat):Int)=0:=by omega
    repeat' (first
     |(with_reducible first|refine nx ?_|refine t_seq fun K=>?_|refine t_br (fun hc=>?_) fun hc=>?_|refine t_bx ?_|apply And.intro|intro vr)
     |((with_reducible first|refine ny ?_|refine t_dwh (h:=fun K KL=>?_));intros;simp only [go_sem,kp80,geff,updL_cons,updL_nil,Int.toNat_natCast,g3,e,g4,true_imp_iff,ne_eq,not_true_eq_false,false_imp_iff]))
    all_goals try exact nd
    refine t_loopF (ι:={p:Nat×Nat // p.1≤L.length}) (fun i=>[(27,.lit (.int .i64 i.1.1)),(6,.arr 0 i.1.2)]) (fun i=>[.arr 3 1 (ints .i64 (L.take i.1.1).flatten) i.1.2 false]) (fun i=>L.length - i.1.1) ⟨(0,0),by simp⟩ ?_ ?_
    ·refine (le_nil 6 3 1 rfl).trans ?_
     exact lf
    rintro ⟨⟨i,ver⟩,hi⟩ K1
    simp only at hi
    rcases Nat.lt_or_ge i L.length with hc|hc
    ·have g3:decide ((i:Int)<(L.length:Int))=true:=decide_eq_true (by omega)
     have hf:=flat_take hc
     have hle:=flat_le L (i+1)
     have hlen:=congrArg List.length hf
     rw [List.length_append] at hlen
     repeat' (first
      |(with_reducible first|refine nx ?_|refine t_seq fun K=>?_|refine t_br (fun hc=>?_) fun hc=>?_|refine t_bx ?_|apply And.intro|intro vr)
      |((with_reducible first|refine ny ?_|refine t_dwh (h:=fun K KL=>?_));intros;simp only [go_sem,kp80,geff,updL_cons,updL_nil,Int.toNat_natCast,g3,ints_append,←hf]))
     all_goals try (first|(with_reducible assumption)|(intros;(try simp only [Bool.and_eq_true,Bool.or_eq_true,Bool.or_eq_false_iff,Bool.not_eq_true',Bool.not_eq_false',decide_eq_true_eq,decide_eq_false_iff_not,beq_iff_eq,beq_eq_false_iff_ne,bne_iff_ne,bne_eq_false_iff_eq,ne_eq,inI64,ints_length] at*)<;>omega)|(intros;(with_reducible first|refine impB_ofR ?_|refine and_ofB ?_ ?_)<;>with_reducible first|assumption|(refine impB_ofR ?_;assumption))|((try simp only [Bool.and_eq_true] at vr);simp only [impB,vr,Bool.or_true,Bool.true_or,Bool.and_self,Bool.not_true,Bool.not_false,Bool.and_true];done))
     exact ⟨⟨(i+1,ver+1),by simp only;omega⟩,wf,lf⟩
    ·have g3:decide ((i:Int)<(L.length:Int))=false:=decide_eq_false (by omega)
     have e:L.take i=L:=List.take_of_length_le hc
     repeat' (first
      |(with_reducible first|refine nx ?_|refine t_seq fun K=>?_|refine t_br (fun hc=>?_) fun hc=>?_|refine t_bx ?_|apply And.intro|intro vr)
      |((with_reducible first|refine ny ?_|refine t_dwh (h:=fun K KL=>?_));intros;simp only [go_sem,kp80,geff,updL_cons,updL_nil,Int.toNat_natCast,g3,e]))
     all_goals try exact nd
     all_goals (refine nl ?_;simp only [go_sem])
     exact LeA.refl _
   ·have g4:(((L.flatten.length:Nat):Int)=0)=False:=eq_false (by omega)
    repeat' (first
     |(with_reducible first|refine nx ?_|refine t_seq fun K=>?_|refine t_br (fun hc=>?_) fun hc=>?_|refine t_bx ?_|apply And.intro|intro vr)
     |((with_reducible first|refine ny ?_|refine t_dwh (h:=fun K KL=>?_));intros;simp only [go_sem,kp80,geff,updL_cons,updL_nil,Int.toNat_natCast,g3,e,g4,true_imp_iff,ne_eq,not_false_eq_true,false_imp_iff]))
    all_goals try exact nd
    refine t_loopF (ι:={p:Nat×Nat // p.1≤L.length}) (fun i=>[(27,.lit (.int .i64 i.1.1)),(6,.arr 0 i.1.2)]) (fun i=>[.arr 3 1 (ints .i64 (L.take i.1.1).flatten) i.1.2 false]) (fun i=>L.length - i.1.1) ⟨(0,0),by simp⟩ ?_ ?_
    ·exact lf
    rintro ⟨⟨i,ver⟩,hi⟩ K1
    simp only at hi
    rcases Nat.lt_or_ge i L.length with hc|hc
    ·have g3:decide ((i:Int)<(L.length:Int))=true:=decide_eq_true (by omega)
     have hf:=flat_take hc
     have hle:=flat_le L (i+1)
     have hlen:=congrArg List.length hf
     rw [List.length_append] at hlen
     repeat' (first
      |(with_reducible first|refine nx ?_|refine t_seq fun K=>?_|refine t_br (fun hc=>?_) fun hc=>?_|refine t_bx ?_|apply And.intro|intro vr)
      |((with_reducible first|refine ny ?_|refine t_dwh (h:=fun K KL=>?_));intros;simp only [go_sem,kp80,geff,updL_cons,updL_nil,Int.toNat_natCast,g3,ints_append,←hf]))
     all_goals try (first|(with_reducible assumption)|(intros;(try simp only [Bool.and_eq_true,Bool.or_eq_true,Bool.or_eq_false_iff,Bool.not_eq_true',Bool.not_eq_false',decide_eq_true_eq,decide_eq_false_iff_not,beq_iff_eq,beq_eq_false_iff_ne,bne_iff_ne,bne_eq_false_iff_eq,ne_eq,inI64,ints_length] at*)<;>omega)|(intros;(with_reducible first|refine impB_ofR ?_|refine and_ofB ?_ ?_)<;>with_reducible first|assumption|(refine impB_ofR ?_;assumption))|((try simp only [Bool.and_eq_true] at vr);simp only [impB,vr,Bool.or_true,Bool.true_or,Bool.and_self,Bool.not_true,Bool.not_false,Bool.and_true];done))
     exact ⟨⟨(i+1,ver+1),by simp only;omega⟩,wf,lf⟩
    ·have g3:decide ((i:Int)<(L.length:Int))=false:=decide_eq_false (by omega)
     have e:L.take i=L:=List.take_of_length_le hc
     repeat' (first
      |(with_reducible first|refine nx ?_|refine t_seq fun K=>?_|refine t_br (fun hc=>?_) fun hc=>?_|refine t_bx ?_|apply And.intro|intro vr)
      |((with_reducible first|refine ny ?_|refine t_dwh (h:=fun K KL=>?_));intros;simp only [go_sem,kp80,geff,updL_cons,updL_nil,Int.toNat_natCast,g3,e]))
     all_goals try exact nd
     all_goals (refine nl ?_;simp only [go_sem])
     exact LeA.refl _
end Go.Proofs.YtcpjahmajkhchaaGreat

namespace Go.Fw
open Go Go.RowKit
variable {F:Fence} {n:Nat} {P:Program}
def SeqW {α:Type} (F:Fence) (n:Nat) (P:Program) (g:Nat) (lb:Array Value) (encs:α→Array Value) (Kp:World→World→Prop) (A:List α→α→World→World→Prop) (S:List α→Prop) (w:World):Prop:=
  ∀ (l:Nat) (J:List α→World→Prop) (W:World),Below w.heap.size w W→AbidesFrom W.heap.size J→
    (∀ pre x W0 W1,J pre W0→W0.grownBy W1 none→A pre x W0 W1→YieldAt F (n - 1) P l (encs x) W1 fun e W'=>e= .returned (.bool true)∧J (pre++[x]) W'∧Kp W1 W')→
    J [] W→CallsIn F n P g (#[.func (.yield l) #[] #[]]++lb) W fun e W'=>(∃ v,e= .returned v)∧∃ xs,S xs∧J xs W'
theorem wpIn_rangeW {α:Type} {g:Operand} {ps:Array Tmp} {assign body:Code} {Q:Exit→Act→World→Prop} {a:Act} {w:World}
    (hro:F.round=none) (h1:1≤n) {gf:Nat} {lb:Array Value} (hg:a.eval g= .func (.func gf) #[] lb) (hFg:F.fn gf) (eg:∀ args w,(callFunc gf args).run P w= .ok (.enter gf args) w)
    {encs:α→Array Value} {Kp:World→World→Prop} {A:List α→α→World→World→Prop} {S:List α→Prop} (hseq:SeqW F (n - 1) P gf lb encs Kp A S w)
    (hKp:∀ (W W':World) (o o':Obj),w.heap.size≤W.heap.size→W.heap[w.heap.size+1]? =some o→o.isCells=false→o.isWalk=false→
      KeepsOthers (W.putObj (w.heap.size+1) o') W'→∀ o2 o3,W'.heap[w.heap.size+1]? =some o2→o2.isCells=false→o2.isWalk=false→Kp (W.putObj (w.heap.size+1) o') W'→Kp W (W'.putObj (w.heap.size+1) o3))
    (hps:∀ x,(encs x).size=ps.size)
    (I:List α→World→Prop) (hI:OwnFrom w.heap.size I) (hA:∀ pre x W0,OwnFrom w.heap.size (fun (_:Unit)=>A pre x W0)) (h0:I [] w) (a₁:α→Act)
    (hassign:∀ (l:Nat) (x:α) (W:World) (K:Act→World→Prop),K (a₁ x) W→
      assign.wpIn (F.inRound l) (n - 1 - 1) P (Exit.then K (fun _ _ _=>False)) {tmps:=(ps.zip (encs x)).foldl (fun t (p,v)=>t.setIfInBounds p v) a.tmps,defers:=[]} W)
    (hbody:∀ (l:Nat) (pre:List α) (x:α) (W0 W:World),w.heap.size≤l→I pre W0→I pre W→W0.heap.size≤W.heap.size→(∀ p v,W0.cell? p=some v→W.cell? p=some v)→A pre x W0 W→
      body.wpIn (F.inRound l) (n - 1 - 1) P (fun e _ W'=>match e with|.normal=>KeepsOthers W W'∧Kp W W'∧I (pre++[x]) W'|_=>False) (a₁ x) W)
    (hdone:∀ (D:Nat) (xs:List α) (W:World),w.heap.size≤D→S xs→I xs W→W.heap[D]? =some (.deferred (some []))→Q .normal {a with defers:={target:= .collected D,args:= #[]}::a.defers} W):
    (Code.rangeFunc g ps assign body).wpIn F n P Q a w:=by
  refine wpIn_rangeFunc fun fn hfn=>?_
  rw [hro]
  let rec0:LoopState→Loop:=fun st=>{state:=st,pending:=none,fn,tmps:=a.tmps,params:=ps,assign,body,defers:=w.heap.size}
  let W1:=(w.alloc (.deferred (some []))).alloc (.loop (rec0 .ready))
  have hL1:W1.heap[w.heap.size+1]? =some (.loop (rec0 .ready)):=by
    have:=World.alloc_heap_new (w.alloc (.deferred (some []))) (.loop (rec0 .ready))
    rwa [World.size_alloc] at this
  have hK1:W1.heap[w.heap.size]? =some (.deferred (some [])):=(Below.heap_alloc _ _ _ (by simp)).trans (World.alloc_heap_new w _)
  have hb1:Below w.heap.size w W1:=((Below.refl _ w).alloc (Nat.le_refl _) _).alloc (by simp) _
  let B:List α→World→Prop:=fun pre W=>I pre W∧W.heap[w.heap.size+1]? =some (.loop (rec0 .ready))∧W.heap[w.heap.size]? =some (.deferred (some []))
  refine ⟨w.heap.size+1,[{target:= .collected w.heap.size,args:= #[]}],W1,{target:= .fn (.func gf) lb,args:= #[.func (.yield (w.heap.size+1)) #[] #[]]},W1,gf,
    #[.func (.yield (w.heap.size+1)) #[] #[]]++lb,W1,run_enterLoop_outer _ _ _ _ _,?_,?_,?_,fun _=>h1,?_⟩
  ·simp only [resolve,hg];simp [go_sem]
  ·intro f' hf';simp [Target.leads] at hf';subst hf';exact hFg
  ·simp [invoke,go_sem,eg]
  have hJ:AbidesFrom W1.heap.size B:=by
    rintro s A' B' row ⟨q1,q2,q3⟩ hgr hr
    have hnw:∀ r,row=some r→∃ o:Obj,A'.heap[r]? =some o∧o.isCells=false:=fun r e=>by
      obtain ⟨_,o,ho,hw⟩:=hr r e;exact ⟨o,ho,Obj.not_cells_of_walk hw⟩
    exact ⟨hI s A' B' row q1 hgr (fun r e=>⟨Nat.le_trans hb1.size (hr r e).1,(hnw r e)⟩),(grownBy_keeps hgr (fun r e=>(hr r e).2) q2 rfl).trans q2,(grownBy_keeps hgr (fun r e=>(hr r e).2) q3 rfl).trans q3⟩
  refine (hseq (w.heap.size+1) B W1 hb1 hJ ?_ ⟨hI.alloc _ (hI.alloc _ h0),hL1,hK1⟩).mono ?_
  ·rintro pre x W0 W ⟨hi0,hl0,hk0⟩ hgr ha
   obtain ⟨hi,hl,hk⟩:=hJ pre W0 W none ⟨hi0,hl0,hk0⟩ hgr (fun r e=>by cases e)
   have hlt:w.heap.size+1<W.heap.size:=(Array.getElem?_eq_some_iff.1 hl).1
   refine ⟨fn,_,assign,body,run_yield (P:=P) (args:=encs x) hl (hps x),roundIn_of_wpIn hfn (hassign _ x W _ ⟨_,run_beginRound hl rfl,?_⟩)⟩
   have hl2:(W.putObj (w.heap.size+1) (.loop (rec0 .busy))).heap[w.heap.size+1]? =some (.loop (rec0 .busy)):=World.putObj_heap_same hlt
   have hk2:(W.putObj (w.heap.size+1) (.loop (rec0 .busy))).heap[w.heap.size]? =some (.deferred (some [])):=(World.putObj_heap_other (by omega)).trans hk
   refine wpIn_mono (hbody _ pre x W0 _ (by omega) hi0 (hI.putObj _ hi (by omega) hl rfl) (by simpa using hgr.size) (fun p v hv=>cell_kept (cell_kept hv hgr (fun r e=>by cases e)) (grownBy_putObj' W _ _) (fun r e=>by cases e;exact ⟨_,hl,rfl⟩)) ((hA pre x W0).putObj (s:=()) _ ha (by omega) hl rfl)) ?_
   intro e a3 W3 hp
   cases e with
   |normal=>
    obtain ⟨hk3,hkp3,hi3⟩:=hp
    have hl3:=hk3.same _ _ hl2 rfl
    refine ⟨_,_,run_endRound (P:=P) none hl3,rfl,⟨hI.putObj _ hi3 (by omega) hl3 rfl,World.putObj_heap_same (Array.getElem?_eq_some_iff.1 hl3).1,(World.putObj_heap_other (by omega)).trans (hk3.same _ _ hk2 rfl)⟩,?_⟩
    exact hKp W W3 _ _ (by omega) hl rfl rfl hk3 _ _ hl3 rfl rfl hkp3
   |_=>exact hp.elim
  ·rintro e W2 ⟨⟨v,rfl⟩,xs,hS',hi,hl,hk⟩
   exact ⟨none,_,run_endLoop (P:=P) hl (by simp [rec0]),hdone _ xs _ (Nat.le_refl _) hS' (hI.putObj _ hi (by omega) hl rfl) ((World.putObj_heap_other (by omega)).trans hk)⟩
end Go.Fw
