import Derived.Test.YtcpjahmajkhchaaGreatSB
import Derived.Lib.AppendZeros
import Derived.Lib.Walk
import Derived.Lib.Slices
import Derived.RangeFuncKeeps
import Derived.RangeFuncBound
import Derived.RangeFuncFrom
import Derived.RangeFuncBox
import Derived.RangeFuncLeaves
import Derived.RangeFuncCalls
import Derived.Shelf.Abstract
import Derived.OwnWalkIn
import Derived.TacticsInMore
import Derived.LoopNIn
import Derived.LoopIn
import Derived.Maps.AppendAt
import Derived.Maps.OwnIn
import Derived.Test.YtcpjahmajkhchaaGreatFwB

set_option linter.all false

namespace Go.Proofs.YtcpjahmajkhchaaGreat
open Go Go.Fw
set_option maxRecDepth 20000
noncomputable def A4:Env:=envJ (P:=Tryz.prog) jkR zer (fun _=>false) (fun _=>false) [El.con38,El.con44] []
theorem A4_ok:EnvOk Tryz.prog A4:=envJOk zer_ok
theorem badN_eq {c:List Stp} {n:Int}:(decide (n<0)||decide (n>20)||decide ((c.length:Int)>60)||n==0&&(c.length:Int)==0)=(decide (n<0)||decide (n>20)||decide ((c.length:Int)>60)||n+(c.length:Int)==0):=by
  by_cases h:n<0
  ·simp [h]
  ·have e:(n==0&&(c.length:Int)==0)=(n+(c.length:Int)==0):=by
     rw [Bool.eq_iff_iff]
     simp only [Bool.and_eq_true,beq_iff_eq]
     omega
   rw [e]
theorem valid_const {s:Stp} {m:Int} (h:eqS s.op sConst=true):((s.args.length:Int) !=0|| !El.vld ⟨#[105,110,116]⟩ s.num)= !validS s m:=by
  unfold validS
  rw [if_pos h]
  show _= !((s.args.length:Int)==0&&El.vld ⟨#[105,110,116]⟩ s.num)
  exact (Bool.not_and _ _).symm
theorem valid_truth {s:Stp} {m:Int} (h0:eqS s.op sConst=false) (h:eqS s.op sTruth=true):((s.args.length:Int) !=0|| !El.vld ⟨#[98,111,111,108]⟩ s.num)= !validS s m:=by
  unfold validS
  rw [if_neg (by rw [h0];decide),if_pos h]
  show _= !((s.args.length:Int)==0&&El.vld ⟨#[98,111,111,108]⟩ s.num)
  exact (Bool.not_and _ _).symm
set_option maxHeartbeats 8000000 in
theorem rvalidC_pc {c:List Stp} {n:Int} (hc0:okC c) (hn:inI64 n):PC Tryz.prog 14 [.sl false 3 (stps c),.lit (.int .i64 n)] (.lit (.bool (validC c n))):=by
  obtain ⟨hl,ha⟩:=hc0
  generalize hR:validC c n=R
  unfold validC at hR
  cases hb:badN c n with
  |true=>
   rw [if_pos hb] at hR
   have hb':(decide (n<0)||decide (n>20)||decide ((c.length:Int)>60)||n==0&&(c.length:Int)==0)=true:=by
     rw [←hb];unfold badN;exact badN_eq
   refine pcR A4_ok (kp14) Tryz.func14 [.tmp 4] (h:=fun KF=>?_)
   unfold A4
   repeat' (first
    |(with_reducible first|refine t_seq fun K=>?_|refine nx ?_|refine t_br (fun hc=>?_) fun hc=>?_)|exact kpd
    |((with_reducible first|refine ny ?_|refine t_kLF ?_ ?_|refine t_region fun K=>?_|refine t_cond fun A B=>?_|refine t_dw (h:=fun K=>?_));(try (refine nh ?_;intro KL));simp only [go_sem,geff,kp14,hb',stps_length])
    |simp only [thenQ,blockQ,scopeQ,Nat.reduceEqDiff,reduceIte]|(with_reducible first|refine And.intro ?_ ?_|intro vr))
   all_goals try exact nd
   all_goals ((first|refine end_retE ?_|refine end_normE ?_);simp only [fin,go_sem])
   exact LeA.of_eq (by rw [←hR])
  |false=>
   rw [if_neg (by rw [hb];decide)] at hR
   have hb':(decide (n<0)||decide (n>20)||decide ((c.length:Int)>60)||n==0&&(c.length:Int)==0)=false:=by
     rw [←hb];unfold badN;exact badN_eq
   obtain ⟨b1,b2,b3⟩:=badN_no hb
   refine pcR A4_ok (kp14) Tryz.func14 [.tmp 4] (h:=fun KF=>?_)
   unfold A4
   repeat' (first
    |(with_reducible first|refine t_seq fun K=>?_|refine nx ?_|refine t_br (fun hc=>?_) fun hc=>?_)|exact kpd
    |((with_reducible first|refine ny ?_|refine t_kLF ?_ ?_|refine t_region fun K=>?_|refine t_cond fun A B=>?_|refine t_dw (h:=fun K=>?_));(try (refine nh ?_;intro KL));simp only [go_sem,geff,kp14,hb',stps_length])
    |simp only [thenQ,blockQ,scopeQ,Nat.reduceEqDiff,reduceIte]|(with_reducible first|refine And.intro ?_ ?_|intro vr))
   all_goals try exact nd
   refine t_loopF (ι:={i:Nat // i≤c.length∧allV (c.drop i) (n+i)=R}) (fun i=>[(5,.lit (.int .i64 i.1))]) (fun i=>[]) (fun i=>c.length - i.1) ⟨0,by omega,by simpa using hR⟩ ?_ ?_
   ·simp only [updL_nil,updL_cons,delF_top,delF_upd,Nat.reduceEqDiff,reduceIte]
    refine Le.frameS (by first|rfl|(simp only [go_sem];try rfl)) ?_
    repeat' (first|exact leF_top _|exact (fun _=>LeR.refl _)|(with_reducible refine leF_sl ?_ ?_)|(refine leF_upd ?_ ?_))
    all_goals (first|exact LeR.top _|exact LeR.refl _|(refine LeR.of_eq ?_;(try simp only [go_sem]);try rfl)|((try simp only [go_sem]);try rfl))
   rintro ⟨i,hi,hF⟩ K0
   rcases Nat.lt_or_ge i c.length with hc|hc
   ·rw [drop_getD nilStp hc,allV] at hF
    have g3:decide ((i:Int)<(c.length:Int))=true:=decide_eq_true (by omega)
    have hx:=ha _ (getD_mem nilStp hc)
    generalize hs:c.getD i nilStp=s at hF hx
    cases h1:eqS s.op sConst with
    |true=>
     have h1':eqS s.op ⟨#[99,111,110,115,116]⟩=true:=h1
     have hv:=valid_const (m:=n+i) h1
     cases h4:validS s (n+i) with
     |false=>
      rw [h4,Bool.false_and] at hF
      rw [h4,Bool.not_false] at hv
      repeat' (first
       |(with_reducible first|refine t_seq fun K=>?_|refine nx ?_|refine t_br (fun hc=>?_) fun hc=>?_)|exact kpd
       |((with_reducible first|refine ny ?_|refine t_kLF ?_ ?_|refine t_region fun K=>?_|refine t_cond fun A B=>?_|refine t_dw (h:=fun K=>?_));(try (refine nh ?_;intro KL));simp only [go_sem,geff,kp14,g3,hs,h1',hv,Int.toNat_natCast,stps_length,stpV])
       |simp only [thenQ,blockQ,scopeQ,Nat.reduceEqDiff,reduceIte]|(with_reducible first|refine And.intro ?_ ?_|intro vr))
      all_goals try exact nd
      all_goals ((first|refine end_retE ?_|refine end_normE ?_);simp only [fin,go_sem])
      exact LeA.of_eq (by rw [←hF])
     |true=>
      rw [h4,Bool.true_and] at hF
      rw [h4,Bool.not_true] at hv
      repeat' (first
       |(with_reducible first|refine t_seq fun K=>?_|refine nx ?_|refine t_br (fun hc=>?_) fun hc=>?_)|exact kpd
       |((with_reducible first|refine ny ?_|refine t_kLF ?_ ?_|refine t_region fun K=>?_|refine t_cond fun A B=>?_|refine t_dw (h:=fun K=>?_));(try (refine nh ?_;intro KL));simp only [go_sem,geff,kp14,g3,hs,h1',hv,Int.toNat_natCast,stps_length,stpV])
       |simp only [thenQ,blockQ,scopeQ,Nat.reduceEqDiff,reduceIte]|(with_reducible first|refine And.intro ?_ ?_|intro vr))
      all_goals try exact nd
      refine ⟨⟨i+1,by omega,by rw [←hF];congr 1;push_cast;omega⟩,by first|(simp only;omega)|omega,?_⟩
      simp only [updL_nil,updL_cons,delF_top,delF_upd,Nat.reduceEqDiff,reduceIte]
      refine le_backD (by first|rfl|(simp only [go_sem];try rfl)) (by first|exact Nat.zero_le _|simp) (by first|rfl|simp [lowO,low_lit,low_sl,low_ref,low_arr]) ?_ ?_
      ·repeat' (first|exact low_top|(refine low_upd rfl ?_))
      repeat' (first|exact leF_top _|exact (fun _=>LeR.refl _)|(with_reducible refine leF_sl ?_ ?_)|(refine leF_upd ?_ ?_))
      all_goals (first|exact LeR.top _|exact LeR.refl _|(refine LeR.of_eq ?_;(try simp only [go_sem]);try rfl)|((try simp only [go_sem]);try rfl))
    |false=>
     have h1':eqS s.op ⟨#[99,111,110,115,116]⟩=false:=h1
     cases h2:eqS s.op sTruth with
     |true=>
      have h2':eqS s.op ⟨#[116,114,117,116,104]⟩=true:=h2
      have hv:=valid_truth (m:=n+i) h1 h2
      cases h4:validS s (n+i) with
      |false=>
       rw [h4,Bool.false_and] at hF
       rw [h4,Bool.not_false] at hv
       repeat' (first
        |(with_reducible first|refine t_seq fun K=>?_|refine nx ?_|refine t_br (fun hc=>?_) fun hc=>?_)|exact kpd
        |((with_reducible first|refine ny ?_|refine t_kLF ?_ ?_|refine t_region fun K=>?_|refine t_cond fun A B=>?_|refine t_dw (h:=fun K=>?_));(try (refine nh ?_;intro KL));simp only [go_sem,geff,kp14,g3,hs,h1',h2',hv,Int.toNat_natCast,stps_length,stpV])
        |simp only [thenQ,blockQ,scopeQ,Nat.reduceEqDiff,reduceIte]|(with_reducible first|refine And.intro ?_ ?_|intro vr))
       all_goals try exact nd
       all_goals ((first|refine end_retE ?_|refine end_normE ?_);simp only [fin,go_sem])
       exact LeA.of_eq (by rw [←hF])
      |true=>
       rw [h4,Bool.true_and] at hF
       rw [h4,Bool.not_true] at hv
       repeat' (first
        |(with_reducible first|refine t_seq fun K=>?_|refine nx ?_|refine t_br (fun hc=>?_) fun hc=>?_)|exact kpd
        |((with_reducible first|refine ny ?_|refine t_kLF ?_ ?_|refine t_region fun K=>?_|refine t_cond fun A B=>?_|refine t_dw (h:=fun K=>?_));(try (refine nh ?_;intro KL));simp only [go_sem,geff,kp14,g3,hs,h1',h2',hv,Int.toNat_natCast,stps_length,stpV])
        |simp only [thenQ,blockQ,scopeQ,Nat.reduceEqDiff,reduceIte]|(with_reducible first|refine And.intro ?_ ?_|intro vr))
       all_goals try exact nd
       refine ⟨⟨i+1,by omega,by rw [←hF];congr 1;push_cast;omega⟩,by first|(simp only;omega)|omega,?_⟩
       simp only [updL_nil,updL_cons,delF_top,delF_upd,Nat.reduceEqDiff,reduceIte]
       refine le_backD (by first|rfl|(simp only [go_sem];try rfl)) (by first|exact Nat.zero_le _|simp) (by first|rfl|simp [lowO,low_lit,low_sl,low_ref,low_arr]) ?_ ?_
       ·repeat' (first|exact low_top|(refine low_upd rfl ?_))
       repeat' (first|exact leF_top _|exact (fun _=>LeR.refl _)|(with_reducible refine leF_sl ?_ ?_)|(refine leF_upd ?_ ?_))
       all_goals (first|exact LeR.top _|exact LeR.refl _|(refine LeR.of_eq ?_;(try simp only [go_sem]);try rfl)|((try simp only [go_sem]);try rfl))
     |false=>
      have h2':eqS s.op ⟨#[116,114,117,116,104]⟩=false:=h2
      unfold validS at hF
      rw [if_neg (by rw [h1];decide),if_neg (by rw [h2];decide)] at hF
      cases hT:El.typesS s.op with
      |none=>
       rw [hT] at hF
       simp only [Bool.false_and] at hF
       repeat' (first
        |(with_reducible first|refine t_seq fun K=>?_|refine nx ?_|refine t_br (fun hc=>?_) fun hc=>?_)|exact kpd
        |((with_reducible first|refine ny ?_|refine t_kLF ?_ ?_|refine t_region fun K=>?_|refine t_cond fun A B=>?_|refine t_dw (h:=fun K=>?_));(try (refine nh ?_;intro KL));simp only [go_sem,geff,kp14,g3,hs,h1',h2',hT,Int.toNat_natCast,stps_length,stpV,Bool.not_false])
        |simp only [thenQ,blockQ,scopeQ,Nat.reduceEqDiff,reduceIte]|(with_reducible first|refine And.intro ?_ ?_|intro vr))
       all_goals try exact nd
       all_goals ((first|refine end_retE ?_|refine end_normE ?_);simp only [fin,go_sem])
       exact LeA.of_eq (by rw [←hF])
      |some r=>
       rw [hT] at hF
       simp only at hF
       cases h5:((s.args.length:Int) !=(r.ps.length:Int)||s.num !=0) with
       |true=>
        have hF':R=false:=by
          rw [←hF]
          simp only [Bool.or_eq_true,bne_iff_ne,ne_eq] at h5
          rcases h5 with h5|h5
          ·rw [show ((s.args.length:Int)==(r.ps.length:Int))=false from by simpa using h5,Bool.and_false,Bool.false_and]
          ·rw [show (s.num==0)=false from by simpa using h5,Bool.and_false,Bool.false_and,Bool.false_and]
        repeat' (first
         |(with_reducible first|refine t_seq fun K=>?_|refine nx ?_|refine t_br (fun hc=>?_) fun hc=>?_)|exact kpd
         |((with_reducible first|refine ny ?_|refine t_kLF ?_ ?_|refine t_region fun K=>?_|refine t_cond fun A B=>?_|refine t_dw (h:=fun K=>?_));(try (refine nh ?_;intro KL));simp only [go_sem,geff,kp14,g3,hs,h1',h2',hT,h5,Int.toNat_natCast,stps_length,stpV,Bool.not_true,Bool.false_or])
         |simp only [thenQ,blockQ,scopeQ,Nat.reduceEqDiff,reduceIte]|(with_reducible first|refine And.intro ?_ ?_|intro vr))
        all_goals try exact nd
        all_goals ((first|refine end_retE ?_|refine end_normE ?_);simp only [fin,go_sem])
        exact LeA.of_eq (by rw [hF'])
       |false=>
        simp only [Bool.or_eq_false_iff,bne_eq_false_iff_eq] at h5
        have h5':((s.args.length:Int) !=(r.ps.length:Int)||s.num !=0)=false:=by simp [h5.1,h5.2]
        rw [show ((s.args.length:Int)==(r.ps.length:Int))=true from by simpa using h5.1,Bool.and_true,show (s.num==0)=true from by simpa using h5.2,Bool.and_true] at hF
        repeat' (first
         |(with_reducible first|refine t_seq fun K=>?_|refine nx ?_|refine t_br (fun hc=>?_) fun hc=>?_)|exact kpd
         |((with_reducible first|refine ny ?_|refine t_kLF ?_ ?_|refine t_region fun K=>?_|refine t_cond fun A B=>?_|refine t_dw (h:=fun K=>?_));(try (refine nh ?_;intro KL));simp only [go_sem,geff,kp14,g3,hs,h1',h2',hT,h5',Int.toNat_natCast,stps_length,stpV,Bool.not_true,Bool.false_or])
         |simp only [thenQ,blockQ,scopeQ,Nat.reduceEqDiff,reduceIte]|(with_reducible first|refine And.intro ?_ ?_|intro vr))
        all_goals try exact nd
        refine t_loopF (ι:={j:Nat // j≤s.args.length∧(s.args.drop j).all (inR (n+i))=s.args.all (inR (n+i))}) (fun i=>[(10,.lit (.int .i64 i.1))]) (fun i=>[.box 78 [.lit (.string s.op),.lit (.int .i64 s.num),.sl false 1 (ints .i64 s.args)]]) (fun i=>s.args.length - i.1) ⟨0,by omega,rfl⟩ ?_ ?_
        ·simp only [updL_nil,updL_cons,delF_top,delF_upd,Nat.reduceEqDiff,reduceIte]
         refine Le.frameS (by first|rfl|(simp only [go_sem];try rfl)) ?_
         repeat' (first|exact leF_top _|exact (fun _=>LeR.refl _)|(with_reducible refine leF_sl ?_ ?_)|(refine leF_upd ?_ ?_))
         all_goals (first|exact LeR.top _|exact LeR.refl _|(refine LeR.of_eq ?_;(try simp only [go_sem]);try rfl)|((try simp only [go_sem]);try rfl))
        rintro ⟨j,hj,hG⟩ K1
        rcases Nat.lt_or_ge j s.args.length with hc2|hc2
        ·rw [drop_getD 0 hc2,List.all_cons] at hG
         have g4:decide ((j:Int)<(s.args.length:Int))=true:=decide_eq_true (by omega)
         have hq:(decide (s.args.getD j 0<0)||decide (s.args.getD j 0≥n+i))= !inR (n+i) (s.args.getD j 0):=by
           unfold inR
           simp only [Bool.not_and,←decide_not]
           congr 1
           ·exact decide_eq_decide.2 (by omega)
           ·exact decide_eq_decide.2 (by omega)
         cases h6:inR (n+i) (s.args.getD j 0) with
         |false=>
          rw [h6,Bool.false_and] at hG
          rw [h6,Bool.not_false] at hq
          repeat' (first
           |(with_reducible first|refine t_seq fun K=>?_|refine nx ?_|refine t_br (fun hc=>?_) fun hc=>?_)|exact kpd
           |((with_reducible first|refine ny ?_|refine t_kLF ?_ ?_|refine t_region fun K=>?_|refine t_cond fun A B=>?_|refine t_dw (h:=fun K=>?_));(try (refine nh ?_;intro KL));simp only [go_sem,geff,kp14,g4,hq,Int.toNat_natCast])
           |simp only [thenQ,blockQ,scopeQ,Nat.reduceEqDiff,reduceIte]|(with_reducible first|refine And.intro ?_ ?_|intro vr))
          all_goals try exact nd
          all_goals ((first|refine end_retE ?_|refine end_normE ?_);simp only [fin,go_sem])
          exact LeA.of_eq (by rw [←hF,←hG,Bool.false_and])
         |true=>
          rw [h6,Bool.true_and] at hG
          rw [h6,Bool.not_true] at hq
          repeat' (first
           |(with_reducible first|refine t_seq fun K=>?_|refine nx ?_|refine t_br (fun hc=>?_) fun hc=>?_)|exact kpd
           |((with_reducible first|refine ny ?_|refine t_kLF ?_ ?_|refine t_region fun K=>?_|refine t_cond fun A B=>?_|refine t_dw (h:=fun K=>?_));(try (refine nh ?_;intro KL));simp only [go_sem,geff,kp14,g4,hq,Int.toNat_natCast])
           |simp only [thenQ,blockQ,scopeQ,Nat.reduceEqDiff,reduceIte]|(with_reducible first|refine And.intro ?_ ?_|intro vr))
          all_goals try exact nd
          refine ⟨⟨j+1,by omega,hG⟩,by first|(simp only;omega)|omega,?_⟩
          simp only [updL_nil,updL_cons,delF_top,delF_upd,Nat.reduceEqDiff,reduceIte]
          refine Le.frameS (by first|rfl|(simp only [go_sem];try rfl)) ?_
          repeat' (first|exact leF_top _|exact (fun _=>LeR.refl _)|(with_reducible refine leF_sl ?_ ?_)|(refine leF_upd ?_ ?_))
          all_goals (first|exact LeR.top _|exact LeR.refl _|(refine LeR.of_eq ?_;(try simp only [go_sem]);try rfl)|((try simp only [go_sem]);try rfl))
        ·have g4:decide ((j:Int)<(s.args.length:Int))=false:=decide_eq_false (by omega)
         rw [List.drop_eq_nil_of_le hc2,List.all_nil] at hG
         rw [←hG,Bool.true_and] at hF
         repeat' (first
          |(with_reducible first|refine t_seq fun K=>?_|refine nx ?_|refine t_br (fun hc=>?_) fun hc=>?_)|exact kpd
          |((with_reducible first|refine ny ?_|refine t_kLF ?_ ?_|refine t_region fun K=>?_|refine t_cond fun A B=>?_|refine t_dw (h:=fun K=>?_));(try (refine nh ?_;intro KL));simp only [go_sem,geff,kp14,g4,Int.toNat_natCast])
          |simp only [thenQ,blockQ,scopeQ,Nat.reduceEqDiff,reduceIte]|(with_reducible first|refine And.intro ?_ ?_|intro vr))
         all_goals try exact nd
         refine ⟨⟨i+1,by omega,by rw [←hF];congr 1;push_cast;omega⟩,by first|(simp only;omega)|omega,?_⟩
         simp only [updL_nil,updL_cons,delF_top,delF_upd,Nat.reduceEqDiff,reduceIte]
         refine le_backD (by first|rfl|(simp only [go_sem];try rfl)) (by first|exact Nat.zero_le _|simp) (by first|rfl|simp [lowO,low_lit,low_sl,low_ref,low_arr]) ?_ ?_
         ·repeat' (first|exact low_top|(refine low_upd rfl ?_))
         repeat' (first|exact leF_top _|exact (fun _=>LeR.refl _)|(with_reducible refine leF_sl ?_ ?_)|(refine leF_upd ?_ ?_))
         all_goals (first|exact LeR.top _|exact LeR.refl _|(refine LeR.of_eq ?_;(try simp only [go_sem]);try rfl)|((try simp only [go_sem]);try rfl))
   ·rw [List.drop_eq_nil_of_le hc,allV] at hF
    have g3:decide ((i:Int)<(c.length:Int))=false:=decide_eq_false (by omega)
    repeat' (first
     |(with_reducible first|refine t_seq fun K=>?_|refine nx ?_|refine t_br (fun hc=>?_) fun hc=>?_)|exact kpd
     |((with_reducible first|refine ny ?_|refine t_kLF ?_ ?_|refine t_region fun K=>?_|refine t_cond fun A B=>?_|refine t_dw (h:=fun K=>?_));(try (refine nh ?_;intro KL));simp only [go_sem,geff,kp14,g3,Int.toNat_natCast,stps_length])
     |simp only [thenQ,blockQ,scopeQ,Nat.reduceEqDiff,reduceIte]|(with_reducible first|refine And.intro ?_ ?_|intro vr))
    all_goals try exact nd
    all_goals ((first|refine end_retE ?_|refine end_normE ?_);simp only [fin,go_sem])
    exact LeA.of_eq (by rw [←hF])
noncomputable def con14:PCon Tryz.prog where
  f:=14
  c:=fun
   |[xc,.lit (.int .i64 n)]=>match stpsOf xc with|some c=>some (okC c∧inI64 n,.lit (.bool (validC c n)))|_=>none
   |_=>none
  ok:=by
   intro args p r hc hp
   split at hc
   ·split at hc
    ·rename_i hc
     cases hc
     exact PC.weak ((fun hp:_∧_=>rvalidC_pc hp.1 hp.2) hp) ⟨stpsOf_le hc,LeA.refl _,trivial⟩
    ·cases hc
   ·cases hc
  fk:=fk14
theorem con14_f:con14.f=14:=rfl
theorem con14_c {xc:AV} {n:Int}:con14.c [xc,.lit (.int .i64 n)]=match stpsOf xc with|some c=>some (okC c∧inI64 n,.lit (.bool (validC c n)))|_=>none:=rfl
attribute [go_sem] con14_f con14_c
end Go.Proofs.YtcpjahmajkhchaaGreat

namespace Go.Proofs.YtcpjahmajkhchaaGreat
open Go Go.Fw
set_option maxRecDepth 20000
theorem gA0 {σ l:List AObj} {X:AObj}:(σ++X::l)[σ.length]? =some X:=by simp
theorem gA1 {σ l:List AObj} {X Y:AObj}:(σ++X::Y::l)[σ.length+1]? =some Y:=by
  rw [List.getElem?_append_right (by omega),show σ.length+1 - σ.length=1 by omega];rfl
theorem gA2 {σ l:List AObj} {X Y Z:AObj}:(σ++X::Y::Z::l)[σ.length+2]? =some Z:=by
  rw [List.getElem?_append_right (by omega),show σ.length+2 - σ.length=2 by omega];rfl
theorem sA0 {σ l:List AObj} {X Z:AObj}:(σ++X::l).set σ.length Z=σ++Z::l:=by simp
theorem sA1 {σ l:List AObj} {X Y Z:AObj}:(σ++X::Y::l).set (σ.length+1) Z=σ++X::Z::l:=by
  rw [List.set_append_right _ _ (by omega),show σ.length+1 - σ.length=1 by omega];rfl
theorem lenA1 {σ:List AObj} {X:AObj}:(σ++[X]).length=σ.length+1:=by simp
theorem lenA2 {σ:List AObj} {X Y:AObj}:(σ++[X,Y]).length=σ.length+2:=by simp
theorem lenA3 {σ:List AObj} {X Y Z:AObj}:(σ++[X,Y,Z]).length=σ.length+3:=by simp
theorem appA {σ:List AObj} {l m:List AObj}:(σ++l)++m=σ++(l++m):=List.append_assoc ..
theorem le_two {n0:Nat} {f g:Nat→AV} {σ l:List AObj} {a b:AObj} (e:σ=l++[a,b]) (hn:n0≤l.length) (hb:∀ m,l.all (lowO m)=true) (ha:∀ m,lowO m a=true) (hg:∀ m,l.length≤m→∀ j,low1 m (g j)=true) (h:∀ j,LeR (f j) (g j)):Le n0 ⟨f,σ⟩ ⟨g,l⟩:=by
  subst e
  exact (le_backD (σ:=l++[a,b]) (l:=l++[a]) (ob:=b) (by simp) (by simp;omega) (by rw [List.all_append,hb];simp [ha]) (hg _ (by simp)) h).trans (le_backD rfl hn (hb _) (hg _ (Nat.le_refl _)) (fun j=>LeR.refl _))
attribute [go_sem] gA0 gA1 gA2 sA0 sA1 lenA1 lenA2 lenA3 appA
structure Rv (c:List Stp) (av:List Int) (G:Option (List Int)) where
  i:Nat
  o:Option (List AObj×Nat)
  vs:List Int
  hi:i≤c.length
  h0:o=none→vs=av
  hl:∀ p,o=some p→∀ m,p.1.all (lowO m)=true
  hn:vs.length=av.length+i
  hF:runG (c.drop i) vs=G
def rvS {c:List Stp} {av:List Int} {G:Option (List Int)} (x:Rv c av G):AV:=match x.o with
  |none=> .sl true 1 (ints .i64 x.vs)
  |some p=> .arr p.1.length p.2
def rvO {c:List Stp} {av:List Int} {G:Option (List Int)} (x:Rv c av G):List AObj:=match x.o with
  |none=>[]
  |some p=>p.1++[.arr 3 1 (ints .i64 x.vs) p.2 false]
theorem allV_args:∀ {l:List Stp} {n:Int},allV l n=true→∀ i,i<l.length→isNum (l.getD i nilStp)=false→∀ a∈(l.getD i nilStp).args,0≤a∧a<n+i
  |[],_,_,_,h,_=>absurd h (by simp)
  |s::t,n,h,0,_,hn=>by
   simp only [allV,Bool.and_eq_true] at h
   intro a ha
   have hv:=h.1
   simp only [List.getD_cons_zero] at hn ha
   simp only [isNum,Bool.or_eq_false_iff] at hn
   unfold validS at hv
   rw [if_neg (by rw [hn.1];decide),if_neg (by rw [hn.2];decide)] at hv
   cases hT:El.typesS s.op with
   |none=>rw [hT] at hv;cases hv
   |some r=>
    rw [hT] at hv
    simp only [Bool.and_eq_true] at hv
    have:=List.all_eq_true.1 hv.1.1 a ha
    simp only [inR,Bool.and_eq_true,decide_eq_true_eq] at this
    simp only [Int.natCast_zero];omega
  |s::t,n,h,i+1,hi,hn=>by
   simp only [allV,Bool.and_eq_true] at h
   simp only [List.getD_cons_succ] at hn ⊢
   intro a ha
   have:=allV_args h.2 i (by simpa using hi) hn a ha
   push_cast;omega
attribute [go_sem] El.con41_f El.con41_c ecn42_f ecn42_c rdK_at rdK_sl kOf_ints
theorem applyV_some {n:Int}:El.applyV (some n)= .tup [.lit (.int .i64 n),.lit (.bool true)]:=rfl
theorem applyV_none:El.applyV none= .tup [.lit (.int .i64 0),.lit (.bool false)]:=rfl
theorem run_of {a:Int} {b:Bool} {r:Int×Bool} (h:r=(a,b)):LeA (.tup [.lit (.int .i64 a),.lit (.bool b)]) (.tup [.lit (.int .i64 r.1),.lit (.bool r.2)]):=by subst h;exact LeA.refl _
def runV (r:Int×Bool):AV:= .tup [.lit (.int .i64 r.1),.lit (.bool r.2)]
noncomputable def A5:Env:=envJ (P:=Tryz.prog) jkR zer (fun _=>false) (fun _=>false) [con13,El.con40,El.con41] [ecn42]
theorem A5_ok:EnvOk Tryz.prog A5:=envJOk zer_ok
set_option maxHeartbeats 8000000 in
theorem run_pc {c:List Stp} {av:List Int} (hc0:okC c) (ha0:av.length≤1000000):PC Tryz.prog 11 [.sl false 3 (stps c),.sl false 1 (ints .i64 av)] (runV (runS c av)):=by
  generalize hR:runS c av=R
  unfold runS at hR
  cases h1:validC c av.length with
  |false=>
   rw [if_pos h1] at hR
   refine pcR A5_ok (kp11) Tryz.func11 [.tmp 4,.tmp 5] (h:=fun KF=>?_)
   unfold A5
   repeat' (first
    |(with_reducible first|refine t_seq fun K=>?_|refine nx ?_|refine t_br (fun hc=>?_) fun hc=>?_)|exact kpd
    |((with_reducible first|refine ny ?_|refine t_kLF ?_ ?_|refine t_region fun K=>?_|refine t_cond fun A B=>?_|refine t_drawE (id:=15) (fun _=>true) [(0,1),(1,1),(2,1),(3,1),(4,1),(5,0),(6,0),(7,1),(8,1),(9,1),(10,1),(11,1)] (by kernel_rfl) fun K=>?_|refine t_dw (h:=fun K=>?_));(try (refine nh ?_;intro KL));simp only [go_sem,geff,kp11,h1,stpsOf_sl,Bool.not_false])
    |simp only [thenQ,blockQ,scopeQ,Nat.reduceEqDiff,reduceIte]|(with_reducible first|refine And.intro ?_ ?_|intro vr))
   all_goals try exact nd
   all_goals ((first|refine end_retE ?_|refine end_normE ?_);simp only [fin,go_sem])
   exact run_of hR.symm
  |true=>
   rw [if_neg (by rw [h1];decide)] at hR
   have hb:badN c av.length=false:=by
     cases hb:badN c av.length with
     |false=>rfl
     |true=>unfold validC at h1;rw [if_pos hb] at h1;cases h1
   have hall:allV c av.length=true:=by
     unfold validC at h1;rw [if_neg (by rw [hb];decide)] at h1;exact h1
   obtain ⟨b1,b2,b3⟩:=badN_no hb
   refine pcR A5_ok (kp11) Tryz.func11 [.tmp 4,.tmp 5] (h:=fun KF=>?_)
   unfold A5
   repeat' (first
    |(with_reducible first|refine t_seq fun K=>?_|refine nx ?_|refine t_br (fun hc=>?_) fun hc=>?_)|exact kpd
    |((with_reducible first|refine ny ?_|refine t_kLF ?_ ?_|refine t_region fun K=>?_|refine t_cond fun A B=>?_|refine t_drawE (id:=15) (fun _=>true) [(0,1),(1,1),(2,1),(3,1),(4,1),(5,0),(6,0),(7,1),(8,1),(9,1),(10,1),(11,1)] (by kernel_rfl) fun K=>?_|refine t_dw (h:=fun K=>?_));(try (refine nh ?_;intro KL));simp only [go_sem,geff,kp11,h1,stpsOf_sl,Bool.not_true])
    |simp only [thenQ,blockQ,scopeQ,Nat.reduceEqDiff,reduceIte]|(with_reducible first|refine And.intro ?_ ?_|intro vr))
   all_goals try exact nd
   refine t_loopF (ι:={i:Nat // i≤av.length∧(av.drop i).any (fun n=> !vld sInt n)=av.any (fun n=> !vld sInt n)}) (fun i=>[(20,.lit (.int .i64 i.1))]) (fun i=>[]) (fun i=>av.length - i.1) ⟨0,by omega,rfl⟩ ?_ ?_
   ·simp only [updL_nil,updL_cons,delF_top,delF_upd,Nat.reduceEqDiff,reduceIte]
    refine Le.frameS (by first|rfl|(simp only [go_sem];try rfl)) ?_
    repeat' (first|exact leF_top _|exact (fun _=>LeR.refl _)|(with_reducible refine leF_sl ?_ ?_)|(refine leF_upd ?_ ?_))
    all_goals (first|exact LeR.top _|exact LeR.refl _|(refine LeR.of_eq ?_;(try simp only [go_sem]);try rfl)|((try simp only [go_sem]);try rfl))
   rintro ⟨i,hi,hF⟩ K0
   rcases Nat.lt_or_ge i av.length with hc|hc
   ·rw [drop_getD 0 hc,List.any_cons] at hF
    have g3:decide ((i:Int)<(av.length:Int))=true:=decide_eq_true (by omega)
    cases h4:vld sInt (av.getD i 0) with
    |false=>
     rw [h4,Bool.not_false,Bool.true_or] at hF
     rw [if_pos hF.symm] at hR
     have h4':El.vld ⟨#[105,110,116]⟩ (av.getD i 0)=false:=h4
     repeat' (first
      |(with_reducible first|refine t_seq fun K=>?_|refine nx ?_|refine t_br (fun hc=>?_) fun hc=>?_)|exact kpd
      |((with_reducible first|refine ny ?_|refine t_kLF ?_ ?_|refine t_region fun K=>?_|refine t_cond fun A B=>?_|refine t_drawE (id:=15) (fun _=>true) [(0,1),(1,1),(2,1),(3,1),(4,1),(5,0),(6,0),(7,1),(8,1),(9,1),(10,1),(11,1)] (by kernel_rfl) fun K=>?_|refine t_dw (h:=fun K=>?_));(try (refine nh ?_;intro KL));simp only [go_sem,geff,kp11,g3,h4',Int.toNat_natCast,Bool.not_false])
      |simp only [thenQ,blockQ,scopeQ,Nat.reduceEqDiff,reduceIte]|(with_reducible first|refine And.intro ?_ ?_|intro vr))
     all_goals try exact nd
     all_goals ((first|refine end_retE ?_|refine end_normE ?_);simp only [fin,go_sem])
     exact run_of hR.symm
    |true=>
     rw [h4,Bool.not_true,Bool.false_or] at hF
     have h4':El.vld ⟨#[105,110,116]⟩ (av.getD i 0)=true:=h4
     repeat' (first
      |(with_reducible first|refine t_seq fun K=>?_|refine nx ?_|refine t_br (fun hc=>?_) fun hc=>?_)|exact kpd
      |((with_reducible first|refine ny ?_|refine t_kLF ?_ ?_|refine t_region fun K=>?_|refine t_cond fun A B=>?_|refine t_drawE (id:=15) (fun _=>true) [(0,1),(1,1),(2,1),(3,1),(4,1),(5,0),(6,0),(7,1),(8,1),(9,1),(10,1),(11,1)] (by kernel_rfl) fun K=>?_|refine t_dw (h:=fun K=>?_));(try (refine nh ?_;intro KL));simp only [go_sem,geff,kp11,g3,h4',Int.toNat_natCast,Bool.not_true])
      |simp only [thenQ,blockQ,scopeQ,Nat.reduceEqDiff,reduceIte]|(with_reducible first|refine And.intro ?_ ?_|intro vr))
     all_goals try exact nd
     refine ⟨⟨i+1,by omega,hF⟩,by first|(simp only;omega)|omega,?_⟩
     simp only [updL_nil,updL_cons,delF_top,delF_upd,Nat.reduceEqDiff,reduceIte]
     refine Le.frameS (by first|rfl|(simp only [go_sem];try rfl)) ?_
     repeat' (first|exact leF_top _|exact (fun _=>LeR.refl _)|(with_reducible refine leF_sl ?_ ?_)|(refine leF_upd ?_ ?_))
     all_goals (first|exact LeR.top _|exact LeR.refl _|(refine LeR.of_eq ?_;(try simp only [go_sem]);try rfl)|((try simp only [go_sem]);try rfl))
   ·have g3:decide ((i:Int)<(av.length:Int))=false:=decide_eq_false (by omega)
    rw [List.drop_eq_nil_of_le hc,List.any_nil] at hF
    rw [if_neg (by rw [←hF];decide)] at hR
    generalize hG:runG c av=G at hR
    repeat' (first
     |(with_reducible first|refine t_seq fun K=>?_|refine nx ?_|refine t_br (fun hc=>?_) fun hc=>?_)|exact kpd
     |((with_reducible first|refine ny ?_|refine t_kLF ?_ ?_|refine t_region fun K=>?_|refine t_cond fun A B=>?_|refine t_drawE (id:=15) (fun _=>true) [(0,1),(1,1),(2,1),(3,1),(4,1),(5,0),(6,0),(7,1),(8,1),(9,1),(10,1),(11,1)] (by kernel_rfl) fun K=>?_|refine t_dw (h:=fun K=>?_));(try (refine nh ?_;intro KL));simp only [go_sem,geff,kp11,g3,Int.toNat_natCast,stps_length,List.take_length])
     |simp only [thenQ,blockQ,scopeQ,Nat.reduceEqDiff,reduceIte]|(with_reducible first|refine And.intro ?_ ?_|intro vr))
    all_goals try exact nd
    refine t_loopF (ι:=Rv c av G) (fun x=>[(36,.lit (.int .i64 x.i)),(8,rvS x)]) (fun x=>rvO x) (fun x=>c.length - x.i) ⟨0,none,av,by omega,fun _=>rfl,nofun,by simp,hG⟩ ?_ ?_
    ·simp only [rvS,rvO,updL_nil,updL_cons,delF_top,delF_upd,Nat.reduceEqDiff,reduceIte]
     refine Le.frameS (by first|rfl|(simp only [go_sem];try rfl)) ?_
     repeat' (first|exact leF_top _|exact (fun _=>LeR.refl _)|(with_reducible refine leF_sl ?_ ?_)|(refine leF_upd ?_ ?_))
     all_goals (first|exact LeR.top _|exact LeR.refl _|(refine LeR.of_eq ?_;(try simp only [go_sem]);try rfl)|((try simp only [go_sem]);try rfl))
    rintro ⟨i,o,vs,hi,h0,hl,hn,hF⟩ K0
    have hap:∀ n:Int,ints .i64 vs++[.lit (.int .i64 n)]=ints .i64 (vs++[n]):=fun n=>ints_append1 _ _ _
    cases o with
    |none=>
     simp only [rvS,rvO]
     rcases Nat.lt_or_ge i c.length with hc|hc
     ·rw [drop_getD nilStp hc,runG] at hF
      have g3:decide ((i:Int)<(c.length:Int))=true:=decide_eq_true (by omega)
      have hag:=allV_args hall i hc
      have hx:=hc0.2 _ (getD_mem nilStp hc)
      generalize hs:c.getD i nilStp=s at hF hx hag
      cases h5:isNum s with
      |true=>
       rw [show stepS s vs=some s.num by unfold stepS;rw [if_pos h5]] at hF
       simp only at hF
       have h5':(!eqS s.op ⟨#[99,111,110,115,116]⟩&& !eqS s.op ⟨#[116,114,117,116,104]⟩)=false:=by
         rw [←Bool.not_or];show (!isNum s)=false;rw [h5];rfl
       repeat' (first
        |(with_reducible first|refine t_seq fun K=>?_|refine nx ?_|refine t_br (fun hc=>?_) fun hc=>?_)|exact kpd
        |((with_reducible first|refine ny ?_|refine t_kLF ?_ ?_|refine t_region fun K=>?_|refine t_cond fun A B=>?_|refine t_drawE (id:=15) (fun _=>true) [(0,1),(1,1),(2,1),(3,1),(4,1),(5,0),(6,0),(7,1),(8,1),(9,1),(10,1),(11,1)] (by kernel_rfl) fun K=>?_|refine t_dw (h:=fun K=>?_));(try (refine nh ?_;intro KL));simp only [go_sem,geff,kp11,g3,hs,h5',hap,stpV,Int.toNat_natCast,stps_length])
        |simp only [thenQ,blockQ,scopeQ,Nat.reduceEqDiff,reduceIte]|(with_reducible first|refine And.intro ?_ ?_|intro vr))
       all_goals try exact nd
       refine ⟨⟨i+1,some ([.box 78 [.lit (.string s.op),.lit (.int .i64 s.num),.sl false 1 (ints .i64 s.args)]],0),vs++[s.num],by omega,nofun,?_,by rw [List.length_append,hn];simp;omega,hF⟩,by show c.length - (i+1)<c.length - i;omega,?_⟩
       ·intro p hp m
        cases hp;rfl
       ·simp only [rvS,rvO,updL_nil,updL_cons,delF_top,delF_upd,Nat.reduceEqDiff,reduceIte,List.cons_append,List.nil_append,List.length_cons,List.length_nil]
        refine Le.frameS (by first|rfl|(simp only [go_sem];try rfl)) ?_
        repeat' (first|exact leF_top _|exact (fun _=>LeR.refl _)|(with_reducible refine leF_sl ?_ ?_)|(refine leF_upd ?_ ?_))
        all_goals (first|exact LeR.top _|exact LeR.refl _|(refine LeR.of_eq ?_;(try simp only [go_sem]);try rfl)|((try simp only [go_sem]);try rfl))
      |false=>
       rw [show stepS s vs=El.applyS s.op (pickI vs s.args) by unfold stepS;rw [if_neg (by rw [h5];decide)]] at hF
       have h5':(!eqS s.op ⟨#[99,111,110,115,116]⟩&& !eqS s.op ⟨#[116,114,117,116,104]⟩)=true:=by
         rw [←Bool.not_or];show (!isNum s)=true;rw [h5];rfl
       have hag':∀ a∈s.args,0≤a∧a<(vs.length:Int):=fun a ha=>by have:=hag h5 a ha;omega
       cases hA:El.applyS s.op (pickI vs s.args) with
       |none=>
        rw [hA] at hF
        simp only at hF
        rw [←hF] at hR
        repeat' (first
         |(with_reducible first|refine t_seq fun K=>?_|refine nx ?_|refine t_br (fun hc=>?_) fun hc=>?_)|exact kpd
         |((with_reducible first|refine ny ?_|refine t_kLF ?_ ?_|refine t_region fun K=>?_|refine t_cond fun A B=>?_|refine t_drawE (id:=15) (fun _=>true) [(0,1),(1,1),(2,1),(3,1),(4,1),(5,0),(6,0),(7,1),(8,1),(9,1),(10,1),(11,1)] (by kernel_rfl) fun K=>?_|refine t_dw (h:=fun K=>?_));(try (refine nh ?_;intro KL));simp only [go_sem,geff,kp11,g3,hs,h5',hap,hA,applyV_none,stpV,Int.toNat_natCast,stps_length,Bool.not_false])
         |simp only [thenQ,blockQ,scopeQ,Nat.reduceEqDiff,reduceIte]|(with_reducible first|refine And.intro ?_ ?_|intro vr))
        all_goals try exact nd
        all_goals try exact (hag' _ (by assumption)).1
        all_goals try exact (hag' _ (by assumption)).2
        all_goals ((first|refine end_retE ?_|refine end_normE ?_);simp only [fin,go_sem])
        exact run_of hR.symm
       |some n=>
        rw [hA] at hF
        simp only at hF
        repeat' (first
         |(with_reducible first|refine t_seq fun K=>?_|refine nx ?_|refine t_br (fun hc=>?_) fun hc=>?_)|exact kpd
         |((with_reducible first|refine ny ?_|refine t_kLF ?_ ?_|refine t_region fun K=>?_|refine t_cond fun A B=>?_|refine t_drawE (id:=15) (fun _=>true) [(0,1),(1,1),(2,1),(3,1),(4,1),(5,0),(6,0),(7,1),(8,1),(9,1),(10,1),(11,1)] (by kernel_rfl) fun K=>?_|refine t_dw (h:=fun K=>?_));(try (refine nh ?_;intro KL));simp only [go_sem,geff,kp11,g3,hs,h5',hap,hA,applyV_some,stpV,Int.toNat_natCast,stps_length,Bool.not_true])
         |simp only [thenQ,blockQ,scopeQ,Nat.reduceEqDiff,reduceIte]|(with_reducible first|refine And.intro ?_ ?_|intro vr))
        all_goals try exact nd
        all_goals try exact (hag' _ (by assumption)).1
        all_goals try exact (hag' _ (by assumption)).2
        refine ⟨⟨i+1,some ([.box 78 [.lit (.string s.op),.lit (.int .i64 s.num),.sl false 1 (ints .i64 s.args)],.arr 3 1 (ints .i64 (pickI vs s.args)) vr false],0),vs++[n],by omega,nofun,?_,by rw [List.length_append,hn];simp;omega,hF⟩,by show c.length - (i+1)<c.length - i;omega,?_⟩
        ·intro p hp m
         cases hp;rfl
        ·simp only [rvS,rvO,updL_nil,updL_cons,delF_top,delF_upd,Nat.reduceEqDiff,reduceIte,List.cons_append,List.nil_append,List.length_cons,List.length_nil]
         refine Le.frameS (by first|rfl|(simp only [go_sem];try rfl)) ?_
         repeat' (first|exact leF_top _|exact (fun _=>LeR.refl _)|(with_reducible refine leF_sl ?_ ?_)|(refine leF_upd ?_ ?_))
         all_goals (first|exact LeR.top _|exact LeR.refl _|(refine LeR.of_eq ?_;(try simp only [go_sem]);try rfl)|((try simp only [go_sem]);try rfl))
     ·have g3:decide ((i:Int)<(c.length:Int))=false:=decide_eq_false (by omega)
      rw [List.drop_eq_nil_of_le hc,runG] at hF
      rw [←hF] at hR
      simp only at hR
      have hv0:1≤vs.length:=by
        have: ¬ ((av.length:Int)+(c.length:Int)=0):=fun e=>by
          unfold badN at hb;simp [e] at hb
        omega
      have e1:((vs.length:Int) - 1).toNat=vs.length - 1:=by omega
      repeat' (first
       |(with_reducible first|refine t_seq fun K=>?_|refine nx ?_|refine t_br (fun hc=>?_) fun hc=>?_)|exact kpd
       |((with_reducible first|refine ny ?_|refine t_kLF ?_ ?_|refine t_region fun K=>?_|refine t_cond fun A B=>?_|refine t_drawE (id:=15) (fun _=>true) [(0,1),(1,1),(2,1),(3,1),(4,1),(5,0),(6,0),(7,1),(8,1),(9,1),(10,1),(11,1)] (by kernel_rfl) fun K=>?_|refine t_dw (h:=fun K=>?_));(try (refine nh ?_;intro KL));simp only [go_sem,geff,kp11,g3,e1,Int.toNat_natCast,stps_length,yes])
       |simp only [thenQ,blockQ,scopeQ,Nat.reduceEqDiff,reduceIte]|(with_reducible first|refine And.intro ?_ ?_|intro vr))
      all_goals try exact nd
      all_goals ((first|refine end_retE ?_|refine end_normE ?_);simp only [fin,go_sem])
      exact run_of (by rw [←hR];rfl)
    |some p=>
     obtain ⟨pre,v⟩:=p
     have hpre:=hl _ rfl
     simp only at hpre
     simp only [rvS,rvO]
     rcases Nat.lt_or_ge i c.length with hc|hc
     ·rw [drop_getD nilStp hc,runG] at hF
      have g3:decide ((i:Int)<(c.length:Int))=true:=decide_eq_true (by omega)
      have hag:=allV_args hall i hc
      have hx:=hc0.2 _ (getD_mem nilStp hc)
      generalize hs:c.getD i nilStp=s at hF hx hag
      cases h5:isNum s with
      |true=>
       rw [show stepS s vs=some s.num by unfold stepS;rw [if_pos h5]] at hF
       simp only at hF
       have h5':(!eqS s.op ⟨#[99,111,110,115,116]⟩&& !eqS s.op ⟨#[116,114,117,116,104]⟩)=false:=by
         rw [←Bool.not_or];show (!isNum s)=false;rw [h5];rfl
       repeat' (first
        |(with_reducible first|refine t_seq fun K=>?_|refine nx ?_|refine t_br (fun hc=>?_) fun hc=>?_)|exact kpd
        |((with_reducible first|refine ny ?_|refine t_kLF ?_ ?_|refine t_region fun K=>?_|refine t_cond fun A B=>?_|refine t_drawE (id:=15) (fun _=>true) [(0,1),(1,1),(2,1),(3,1),(4,1),(5,0),(6,0),(7,1),(8,1),(9,1),(10,1),(11,1)] (by kernel_rfl) fun K=>?_|refine t_dw (h:=fun K=>?_));(try (refine nh ?_;intro KL));simp only [go_sem,geff,kp11,g3,hs,h5',hap,stpV,Int.toNat_natCast,stps_length])
        |simp only [thenQ,blockQ,scopeQ,Nat.reduceEqDiff,reduceIte]|(with_reducible first|refine And.intro ?_ ?_|intro vr))
       all_goals try exact nd
       refine ⟨⟨i+1,some (pre,v+1),vs++[s.num],by omega,nofun,?_,by rw [List.length_append,hn];simp;omega,hF⟩,by show c.length - (i+1)<c.length - i;omega,?_⟩
       ·intro p hp m
        cases hp;exact hpre m
       ·simp only [rvS,rvO,updL_nil,updL_cons,delF_top,delF_upd,Nat.reduceEqDiff,reduceIte]
        refine le_backD (σ:=pre++[.arr 3 1 (ints .i64 (vs++[s.num])) (v+1) false,.box 78 [.lit (.string s.op),.lit (.int .i64 s.num),.sl false 1 (ints .i64 s.args)]]) (l:=pre++[.arr 3 1 (ints .i64 (vs++[s.num])) (v+1) false]) (ob:= .box 78 [.lit (.string s.op),.lit (.int .i64 s.num),.sl false 1 (ints .i64 s.args)]) (by simp) (Nat.zero_le _) (by rw [List.all_append,hpre];rfl) ?_ ?_
        ·repeat' (first|exact low_top|(refine low_upd ?_ ?_))
         all_goals (first|rfl|(simp only [low_arr,decide_eq_true_eq];simp))
        repeat' (first|exact leF_top _|exact (fun _=>LeR.refl _)|(with_reducible refine leF_sl ?_ ?_)|(refine leF_upd ?_ ?_))
        all_goals (first|exact LeR.top _|exact LeR.refl _|(refine LeR.of_eq ?_;(try simp only [go_sem]);try rfl)|((try simp only [go_sem]);try rfl))
      |false=>
       rw [show stepS s vs=El.applyS s.op (pickI vs s.args) by unfold stepS;rw [if_neg (by rw [h5];decide)]] at hF
       have h5':(!eqS s.op ⟨#[99,111,110,115,116]⟩&& !eqS s.op ⟨#[116,114,117,116,104]⟩)=true:=by
         rw [←Bool.not_or];show (!isNum s)=true;rw [h5];rfl
       have hag':∀ a∈s.args,0≤a∧a<(vs.length:Int):=fun a ha=>by have:=hag h5 a ha;omega
       cases hA:El.applyS s.op (pickI vs s.args) with
       |none=>
        rw [hA] at hF
        simp only at hF
        rw [←hF] at hR
        repeat' (first
         |(with_reducible first|refine t_seq fun K=>?_|refine nx ?_|refine t_br (fun hc=>?_) fun hc=>?_)|exact kpd
         |((with_reducible first|refine ny ?_|refine t_kLF ?_ ?_|refine t_region fun K=>?_|refine t_cond fun A B=>?_|refine t_drawE (id:=15) (fun _=>true) [(0,1),(1,1),(2,1),(3,1),(4,1),(5,0),(6,0),(7,1),(8,1),(9,1),(10,1),(11,1)] (by kernel_rfl) fun K=>?_|refine t_dw (h:=fun K=>?_));(try (refine nh ?_;intro KL));simp only [go_sem,geff,kp11,g3,hs,h5',hap,hA,applyV_none,stpV,Int.toNat_natCast,stps_length,Bool.not_false])
         |simp only [thenQ,blockQ,scopeQ,Nat.reduceEqDiff,reduceIte]|(with_reducible first|refine And.intro ?_ ?_|intro vr))
        all_goals try exact nd
        all_goals try exact (hag' _ (by assumption)).1
        all_goals try exact (hag' _ (by assumption)).2
        all_goals ((first|refine end_retE ?_|refine end_normE ?_);simp only [fin,go_sem])
        exact run_of hR.symm
       |some n=>
        rw [hA] at hF
        simp only at hF
        repeat' (first
         |(with_reducible first|refine t_seq fun K=>?_|refine nx ?_|refine t_br (fun hc=>?_) fun hc=>?_)|exact kpd
         |((with_reducible first|refine ny ?_|refine t_kLF ?_ ?_|refine t_region fun K=>?_|refine t_cond fun A B=>?_|refine t_drawE (id:=15) (fun _=>true) [(0,1),(1,1),(2,1),(3,1),(4,1),(5,0),(6,0),(7,1),(8,1),(9,1),(10,1),(11,1)] (by kernel_rfl) fun K=>?_|refine t_dw (h:=fun K=>?_));(try (refine nh ?_;intro KL));simp only [go_sem,geff,kp11,g3,hs,h5',hap,hA,applyV_some,stpV,Int.toNat_natCast,stps_length,Bool.not_true])
         |simp only [thenQ,blockQ,scopeQ,Nat.reduceEqDiff,reduceIte]|(with_reducible first|refine And.intro ?_ ?_|intro vr))
        all_goals try exact nd
        all_goals try exact (hag' _ (by assumption)).1
        all_goals try exact (hag' _ (by assumption)).2
        refine ⟨⟨i+1,some (pre,v+1),vs++[n],by omega,nofun,?_,by rw [List.length_append,hn];simp;omega,hF⟩,by show c.length - (i+1)<c.length - i;omega,?_⟩
        ·intro p hp m
         cases hp;exact hpre m
        ·simp only [rvS,rvO,updL_nil,updL_cons,delF_top,delF_upd,Nat.reduceEqDiff,reduceIte]
         refine le_two (σ:=pre++[.arr 3 1 (ints .i64 (vs++[n])) (v+1) false,.box 78 [.lit (.string s.op),.lit (.int .i64 s.num),.sl false 1 (ints .i64 s.args)],.arr 3 1 (ints .i64 (pickI vs s.args)) vr false]) (l:=pre++[.arr 3 1 (ints .i64 (vs++[n])) (v+1) false]) (a:= .box 78 [.lit (.string s.op),.lit (.int .i64 s.num),.sl false 1 (ints .i64 s.args)]) (b:= .arr 3 1 (ints .i64 (pickI vs s.args)) vr false) (by simp) (Nat.zero_le _) (fun m=>by rw [List.all_append,hpre];rfl) (fun m=>rfl) ?_ ?_
         ·intro m hm
          repeat' (first|exact low_top|(refine low_upd ?_ ?_))
          all_goals (first|rfl|(simp only [low_arr,decide_eq_true_eq];simp at hm;omega))
         repeat' (first|exact leF_top _|exact (fun _=>LeR.refl _)|(with_reducible refine leF_sl ?_ ?_)|(refine leF_upd ?_ ?_))
         all_goals (first|exact LeR.top _|exact LeR.refl _|(refine LeR.of_eq ?_;(try simp only [go_sem]);try rfl)|((try simp only [go_sem]);try rfl))
     ·have g3:decide ((i:Int)<(c.length:Int))=false:=decide_eq_false (by omega)
      rw [List.drop_eq_nil_of_le hc,runG] at hF
      rw [←hF] at hR
      simp only at hR
      have hv0:1≤vs.length:=by
        have: ¬ ((av.length:Int)+(c.length:Int)=0):=fun e=>by
          unfold badN at hb;simp [e] at hb
        omega
      have e1:((vs.length:Int) - 1).toNat=vs.length - 1:=by omega
      repeat' (first
       |(with_reducible first|refine t_seq fun K=>?_|refine nx ?_|refine t_br (fun hc=>?_) fun hc=>?_)|exact kpd
       |((with_reducible first|refine ny ?_|refine t_kLF ?_ ?_|refine t_region fun K=>?_|refine t_cond fun A B=>?_|refine t_drawE (id:=15) (fun _=>true) [(0,1),(1,1),(2,1),(3,1),(4,1),(5,0),(6,0),(7,1),(8,1),(9,1),(10,1),(11,1)] (by kernel_rfl) fun K=>?_|refine t_dw (h:=fun K=>?_));(try (refine nh ?_;intro KL));simp only [go_sem,geff,kp11,g3,e1,Int.toNat_natCast,stps_length,yes])
       |simp only [thenQ,blockQ,scopeQ,Nat.reduceEqDiff,reduceIte]|(with_reducible first|refine And.intro ?_ ?_|intro vr))
      all_goals try exact nd
      all_goals ((first|refine end_retE ?_|refine end_normE ?_);simp only [fin,go_sem])
      exact run_of (by rw [←hR];rfl)
noncomputable def con11:PCon Tryz.prog where
  f:=11
  c:=fun
   |[xc,xav]=>match stpsOf xc,slK .i64 xav with|some c,some av=>some (okC c∧av.length≤1000000,runV (runS c av))|_,_=>none
   |_=>none
  ok:=by
   intro args p r hc hp
   split at hc
   ·split at hc
    ·rename_i hc hav
     cases hc
     exact PC.weak ((fun hp:_∧_=>run_pc hp.1 hp.2) hp) ⟨stpsOf_le hc,slK_le hav,trivial⟩
    ·cases hc
   ·cases hc
  fk:=fk11
theorem con11_f:con11.f=11:=rfl
theorem con11_c {xc:AV} {xav:AV}:con11.c [xc,xav]=match stpsOf xc,slK .i64 xav with|some c,some av=>some (okC c∧av.length≤1000000,runV (runS c av))|_,_=>none:=rfl
attribute [go_sem] con11_f con11_c
end Go.Proofs.YtcpjahmajkhchaaGreat

namespace Go.Proofs.YtcpjahmajkhchaaGreat
open Go Go.Fw
set_option maxRecDepth 20000
structure Rx (c:List Stp) (av:List Int) (G:Option (List Int)) where
  i:Nat
  v:Nat
  vs:List Int
  hi:i≤c.length
  hn:vs.length=av.length+i
  hF:runG (c.drop i) vs=G
theorem take_app {l:List Int} {i:Nat} (h:i<l.length):l.take i++[l.getD i 0]=l.take (i+1):=by
  rw [List.take_add_one,List.getElem?_eq_getElem h,List.getD_eq_getElem?_getD,List.getElem?_eq_getElem h];rfl
attribute [go_sem] El.con39_f El.con39_c
noncomputable def A6:Env:=envJ (P:=Tryz.prog) jkR zer (fun _=>false) (fun _=>false) [con14,El.con38,El.con39] []
theorem A6_ok:EnvOk Tryz.prog A6:=envJOk zer_ok
set_option maxHeartbeats 8000000 in
theorem rrun_pc {c:List Stp} {av:List Int} (hc0:okC c) (ha0:av.length≤1000000):PC Tryz.prog 12 [.sl false 3 (stps c),.sl false 1 (ints .i64 av)] (runV (runS c av)):=by
  generalize hR:runS c av=R
  unfold runS at hR
  cases h1:validC c av.length with
  |false=>
   rw [if_pos h1] at hR
   refine pcR A6_ok (kp12) Tryz.func12 [.tmp 4,.tmp 5] (h:=fun KF=>?_)
   unfold A6
   repeat' (first
    |(with_reducible first|refine t_seq fun K=>?_|refine nx ?_|refine t_br (fun hc=>?_) fun hc=>?_)|exact kpd
    |((with_reducible first|refine ny ?_|refine t_kLF ?_ ?_|refine t_region fun K=>?_|refine t_cond fun A B=>?_|refine t_dw (h:=fun K=>?_));(try (refine nh ?_;intro KL));simp only [go_sem,geff,kp12,h1,stpsOf_sl,Bool.not_false])
    |simp only [thenQ,blockQ,scopeQ,Nat.reduceEqDiff,reduceIte]|(with_reducible first|refine And.intro ?_ ?_|intro vr))
   all_goals try exact nd
   all_goals ((first|refine end_retE ?_|refine end_normE ?_);simp only [fin,go_sem])
   exact run_of hR.symm
  |true=>
   rw [if_neg (by rw [h1];decide)] at hR
   have hb:badN c av.length=false:=by
     cases hb:badN c av.length with
     |false=>rfl
     |true=>unfold validC at h1;rw [if_pos hb] at h1;cases h1
   have hall:allV c av.length=true:=by
     unfold validC at h1;rw [if_neg (by rw [hb];decide)] at h1;exact h1
   obtain ⟨b1,b2,b3⟩:=badN_no hb
   refine pcR A6_ok (kp12) Tryz.func12 [.tmp 4,.tmp 5] (h:=fun KF=>?_)
   unfold A6
   repeat' (first
    |(with_reducible first|refine t_seq fun K=>?_|refine nx ?_|refine t_br (fun hc=>?_) fun hc=>?_)|exact kpd
    |((with_reducible first|refine ny ?_|refine t_kLF ?_ ?_|refine t_region fun K=>?_|refine t_cond fun A B=>?_|refine t_dw (h:=fun K=>?_));(try (refine nh ?_;intro KL));simp only [go_sem,geff,kp12,h1,stpsOf_sl,Bool.not_true])
    |simp only [thenQ,blockQ,scopeQ,Nat.reduceEqDiff,reduceIte]|(with_reducible first|refine And.intro ?_ ?_|intro vr))
   all_goals try exact nd
   refine t_loopF (ι:={p:Nat×Nat // p.1≤av.length∧(av.drop p.1).any (fun n=> !vld sInt n)=av.any (fun n=> !vld sInt n)}) (fun i=>[(7,.lit (.int .i64 i.1.1)),(6,.arr 0 i.1.2)]) (fun i=>[.arr 3 1 (ints .i64 (av.take i.1.1)) i.1.2 false]) (fun i=>av.length - i.1.1) ⟨(0,0),by simp⟩ ?_ ?_
   ·refine (le_nil 6 3 1 rfl).trans ?_
    simp only [updL_nil,updL_cons,delF_top,delF_upd,Nat.reduceEqDiff,reduceIte]
    refine Le.frameS (by first|rfl|(simp only [go_sem];try rfl)) ?_
    repeat' (first|exact leF_top _|exact (fun _=>LeR.refl _)|(with_reducible refine leF_sl ?_ ?_)|(refine leF_upd ?_ ?_))
    all_goals (first|exact LeR.top _|exact LeR.refl _|(refine LeR.of_eq ?_;(try simp only [go_sem]);try rfl)|((try simp only [go_sem]);try rfl))
   rintro ⟨⟨i,v⟩,hi,hF⟩ K0
   simp only at hi hF
   rcases Nat.lt_or_ge i av.length with hc|hc
   ·rw [drop_getD 0 hc,List.any_cons] at hF
    have g3:decide ((i:Int)<(av.length:Int))=true:=decide_eq_true (by omega)
    have hta:=take_app hc
    have hlt:(av.take i).length=i:=by rw [List.length_take];omega
    cases h4:vld sInt (av.getD i 0) with
    |false=>
     rw [h4,Bool.not_false,Bool.true_or] at hF
     rw [if_pos hF.symm] at hR
     have h4':El.vld ⟨#[105,110,116]⟩ (av.getD i 0)=false:=h4
     repeat' (first
      |(with_reducible first|refine t_seq fun K=>?_|refine nx ?_|refine t_br (fun hc=>?_) fun hc=>?_)|exact kpd
      |((with_reducible first|refine ny ?_|refine t_kLF ?_ ?_|refine t_region fun K=>?_|refine t_cond fun A B=>?_|refine t_dw (h:=fun K=>?_));(try (refine nh ?_;intro KL));simp only [go_sem,geff,kp12,g3,h4',Int.toNat_natCast,Bool.not_false])
      |simp only [thenQ,blockQ,scopeQ,Nat.reduceEqDiff,reduceIte]|(with_reducible first|refine And.intro ?_ ?_|intro vr))
     all_goals try exact nd
     all_goals ((first|refine end_retE ?_|refine end_normE ?_);simp only [fin,go_sem])
     exact run_of hR.symm
    |true=>
     rw [h4,Bool.not_true,Bool.false_or] at hF
     have h4':El.vld ⟨#[105,110,116]⟩ (av.getD i 0)=true:=h4
     repeat' (first
      |(with_reducible first|refine t_seq fun K=>?_|refine nx ?_|refine t_br (fun hc=>?_) fun hc=>?_)|exact kpd
      |((with_reducible first|refine ny ?_|refine t_kLF ?_ ?_|refine t_region fun K=>?_|refine t_cond fun A B=>?_|refine t_dw (h:=fun K=>?_));(try (refine nh ?_;intro KL));simp only [go_sem,geff,kp12,g3,h4',hta,Int.toNat_natCast,Bool.not_true])
      |simp only [thenQ,blockQ,scopeQ,Nat.reduceEqDiff,reduceIte]|(with_reducible first|refine And.intro ?_ ?_|intro vr))
     all_goals try exact nd
     refine ⟨⟨(i+1,v+1),by omega,hF⟩,by first|(simp only;omega)|omega,?_⟩
     simp only [updL_nil,updL_cons,delF_top,delF_upd,Nat.reduceEqDiff,reduceIte]
     refine Le.frameS (by first|rfl|(simp only [go_sem];try rfl)) ?_
     repeat' (first|exact leF_top _|exact (fun _=>LeR.refl _)|(with_reducible refine leF_sl ?_ ?_)|(refine leF_upd ?_ ?_))
     all_goals (first|exact LeR.top _|exact LeR.refl _|(refine LeR.of_eq ?_;(try simp only [go_sem]);try rfl)|((try simp only [go_sem]);try rfl))
   ·have g3:decide ((i:Int)<(av.length:Int))=false:=decide_eq_false (by omega)
    rw [List.drop_eq_nil_of_le hc,List.any_nil] at hF
    rw [if_neg (by rw [←hF];decide)] at hR
    generalize hG:runG c av=G at hR
    have e0:av.take i=av:=List.take_of_length_le hc
    repeat' (first
     |(with_reducible first|refine t_seq fun K=>?_|refine nx ?_|refine t_br (fun hc=>?_) fun hc=>?_)|exact kpd
     |((with_reducible first|refine ny ?_|refine t_kLF ?_ ?_|refine t_region fun K=>?_|refine t_cond fun A B=>?_|refine t_dw (h:=fun K=>?_));(try (refine nh ?_;intro KL));simp only [go_sem,geff,kp12,g3,e0,Int.toNat_natCast,stps_length])
     |simp only [thenQ,blockQ,scopeQ,Nat.reduceEqDiff,reduceIte]|(with_reducible first|refine And.intro ?_ ?_|intro vr))
    all_goals try exact nd
    refine t_loopF (ι:=Rx c av G) (fun i=>[(8,.lit (.int .i64 i.i)),(6,.arr 0 i.v)]) (fun i=>[.arr 3 1 (ints .i64 i.vs) i.v false]) (fun i=>c.length - i.i) ⟨0,v,av,by omega,by simp,hG⟩ ?_ ?_
    ·simp only [updL_nil,updL_cons,delF_top,delF_upd,Nat.reduceEqDiff,reduceIte]
     refine Le.frameS (by first|rfl|(simp only [go_sem];try rfl)) ?_
     repeat' (first|exact leF_top _|exact (fun _=>LeR.refl _)|(with_reducible refine leF_sl ?_ ?_)|(refine leF_upd ?_ ?_))
     all_goals (first|exact LeR.top _|exact LeR.refl _|(refine LeR.of_eq ?_;(try simp only [go_sem]);try rfl)|((try simp only [go_sem]);try rfl))
    rintro ⟨i,v,vs,hi,hn,hF⟩ K1
    rcases Nat.lt_or_ge i c.length with hc|hc
    ·rw [drop_getD nilStp hc,runG] at hF
     have g3:decide ((i:Int)<(c.length:Int))=true:=decide_eq_true (by omega)
     have hag:=allV_args hall i hc
     have hx:=hc0.2 _ (getD_mem nilStp hc)
     generalize hs:c.getD i nilStp=s at hF hx hag
     cases h5:isNum s with
     |true=>
      rw [show stepS s vs=some s.num by unfold stepS;rw [if_pos h5]] at hF
      simp only at hF
      have h5':(eqS s.op ⟨#[99,111,110,115,116]⟩||eqS s.op ⟨#[116,114,117,116,104]⟩)=true:=h5
      repeat' (first
       |(with_reducible first|refine t_seq fun K=>?_|refine nx ?_|refine t_br (fun hc=>?_) fun hc=>?_)|exact kpd
       |((with_reducible first|refine ny ?_|refine t_kLF ?_ ?_|refine t_region fun K=>?_|refine t_cond fun A B=>?_|refine t_dw (h:=fun K=>?_));(try (refine nh ?_;intro KL));simp only [go_sem,geff,kp12,g3,hs,h5',stpV,Int.toNat_natCast,stps_length])
       |simp only [thenQ,blockQ,scopeQ,Nat.reduceEqDiff,reduceIte]|(with_reducible first|refine And.intro ?_ ?_|intro vr))
      all_goals try exact nd
      refine ⟨⟨i+1,v+1,vs++[s.num],by omega,by rw [List.length_append,hn];simp;omega,hF⟩,by first|(simp only;omega)|omega,?_⟩
      simp only [updL_nil,updL_cons,delF_top,delF_upd,Nat.reduceEqDiff,reduceIte]
      refine Le.frameS (by first|rfl|(simp only [go_sem];try rfl)) ?_
      repeat' (first|exact leF_top _|exact (fun _=>LeR.refl _)|(with_reducible refine leF_sl ?_ ?_)|(refine leF_upd ?_ ?_))
      all_goals (first|exact LeR.top _|exact LeR.refl _|(refine LeR.of_eq ?_;(try simp only [go_sem]);try rfl)|((try simp only [go_sem]);try rfl))
     |false=>
      rw [show stepS s vs=El.applyS s.op (pickI vs s.args) by unfold stepS;rw [if_neg (by rw [h5];decide)]] at hF
      have h5':(eqS s.op ⟨#[99,111,110,115,116]⟩||eqS s.op ⟨#[116,114,117,116,104]⟩)=false:=h5
      have hag':∀ a∈s.args,0≤a∧a<(vs.length:Int):=fun a ha=>by have:=hag h5 a ha;omega
      repeat' (first
       |(with_reducible first|refine t_seq fun K=>?_|refine nx ?_|refine t_br (fun hc=>?_) fun hc=>?_)|exact kpd
       |((with_reducible first|refine ny ?_|refine t_kLF ?_ ?_|refine t_region fun K=>?_|refine t_cond fun A B=>?_|refine t_dw (h:=fun K=>?_));(try (refine nh ?_;intro KL));simp only [go_sem,geff,kp12,g3,hs,h5',stpV,Int.toNat_natCast,stps_length])
       |simp only [thenQ,blockQ,scopeQ,Nat.reduceEqDiff,reduceIte]|(with_reducible first|refine And.intro ?_ ?_|intro vr))
      all_goals try exact nd
      refine t_loopF (ι:={p:Nat×Nat // p.1≤s.args.length}) (fun i=>[(10,.lit (.int .i64 i.1.1)),(9,.arr 1 i.1.2)]) (fun i=>[.arr 3 1 (ints .i64 vs) v false,.arr 3 1 (ints .i64 (pickI vs (s.args.take i.1.1))) i.1.2 false]) (fun i=>s.args.length - i.1.1) ⟨(0,0),by simp⟩ ?_ ?_
      ·refine (le_nil 9 3 1 rfl).trans ?_
       simp only [updL_nil,updL_cons,delF_top,delF_upd,Nat.reduceEqDiff,reduceIte]
       refine Le.frameS (by first|rfl|(simp only [go_sem];try rfl)) ?_
       repeat' (first|exact leF_top _|exact (fun _=>LeR.refl _)|(with_reducible refine leF_sl ?_ ?_)|(refine leF_upd ?_ ?_))
       all_goals (first|exact LeR.top _|exact LeR.refl _|(refine LeR.of_eq ?_;(try simp only [go_sem]);try rfl)|((try simp only [go_sem]);try rfl))
      rintro ⟨⟨j,w⟩,hj⟩ K2
      simp only at hj
      rcases Nat.lt_or_ge j s.args.length with hc2|hc2
      ·have g4:decide ((j:Int)<(s.args.length:Int))=true:=decide_eq_true (by omega)
       have hq:=hag' _ (getD_mem 0 hc2)
       have hps:=pickI_succ (vs:=vs) hc2
       have hpl:=pickI_len (vs:=vs) (ats:=s.args.take j)
       rw [List.length_take] at hpl
       repeat' (first
        |(with_reducible first|refine t_seq fun K=>?_|refine nx ?_|refine t_br (fun hc=>?_) fun hc=>?_)|exact kpd
        |((with_reducible first|refine ny ?_|refine t_kLF ?_ ?_|refine t_region fun K=>?_|refine t_cond fun A B=>?_|refine t_dw (h:=fun K=>?_));(try (refine nh ?_;intro KL));simp only [go_sem,geff,kp12,g4,hs,stpV,←hps,Int.toNat_natCast,stps_length,yes])
        |simp only [thenQ,blockQ,scopeQ,Nat.reduceEqDiff,reduceIte]|(with_reducible first|refine And.intro ?_ ?_|intro vr))
       all_goals try exact nd
       refine ⟨⟨(j+1,w+1),by omega⟩,by first|(simp only;omega)|omega,?_⟩
       simp only [updL_nil,updL_cons,delF_top,delF_upd,Nat.reduceEqDiff,reduceIte]
       refine Le.frameS (by first|rfl|(simp only [go_sem];try rfl)) ?_
       repeat' (first|exact leF_top _|exact (fun _=>LeR.refl _)|(with_reducible refine leF_sl ?_ ?_)|(refine leF_upd ?_ ?_))
       all_goals (first|exact LeR.top _|exact LeR.refl _|(refine LeR.of_eq ?_;(try simp only [go_sem]);try rfl)|((try simp only [go_sem]);try rfl))
      ·have g4:decide ((j:Int)<(s.args.length:Int))=false:=decide_eq_false (by omega)
       have e1:s.args.take j=s.args:=List.take_of_length_le hc2
       cases hA:El.applyS s.op (pickI vs s.args) with
       |none=>
        rw [hA] at hF
        simp only at hF
        rw [←hF] at hR
        repeat' (first
         |(with_reducible first|refine t_seq fun K=>?_|refine nx ?_|refine t_br (fun hc=>?_) fun hc=>?_)|exact kpd
         |((with_reducible first|refine ny ?_|refine t_kLF ?_ ?_|refine t_region fun K=>?_|refine t_cond fun A B=>?_|refine t_dw (h:=fun K=>?_));(try (refine nh ?_;intro KL));simp only [go_sem,geff,kp12,g4,hs,stpV,e1,hA,applyV_none,Int.toNat_natCast,stps_length,Bool.not_false])
         |simp only [thenQ,blockQ,scopeQ,Nat.reduceEqDiff,reduceIte]|(with_reducible first|refine And.intro ?_ ?_|intro vr))
        all_goals try exact nd
        all_goals ((first|refine end_retE ?_|refine end_normE ?_);simp only [fin,go_sem])
        exact run_of hR.symm
       |some n=>
        rw [hA] at hF
        simp only at hF
        repeat' (first
         |(with_reducible first|refine t_seq fun K=>?_|refine nx ?_|refine t_br (fun hc=>?_) fun hc=>?_)|exact kpd
         |((with_reducible first|refine ny ?_|refine t_kLF ?_ ?_|refine t_region fun K=>?_|refine t_cond fun A B=>?_|refine t_dw (h:=fun K=>?_));(try (refine nh ?_;intro KL));simp only [go_sem,geff,kp12,g4,hs,stpV,e1,hA,applyV_some,Int.toNat_natCast,stps_length,Bool.not_true])
         |simp only [thenQ,blockQ,scopeQ,Nat.reduceEqDiff,reduceIte]|(with_reducible first|refine And.intro ?_ ?_|intro vr))
        all_goals try exact nd
        refine ⟨⟨i+1,v+1,vs++[n],by omega,by rw [List.length_append,hn];simp;omega,hF⟩,by first|(simp only;omega)|omega,?_⟩
        simp only [updL_nil,updL_cons,delF_top,delF_upd,Nat.reduceEqDiff,reduceIte]
        refine le_backD (by first|rfl|(simp only [go_sem];try rfl)) (by first|exact Nat.zero_le _|simp) (by first|rfl|simp [lowO,low_lit,low_sl,low_ref,low_arr]) ?_ ?_
        ·repeat' (first|exact low_top|(refine low_upd rfl ?_))
        repeat' (first|exact leF_top _|exact (fun _=>LeR.refl _)|(with_reducible refine leF_sl ?_ ?_)|(refine leF_upd ?_ ?_))
        all_goals (first|exact LeR.top _|exact LeR.refl _|(refine LeR.of_eq ?_;(try simp only [go_sem]);try rfl)|((try simp only [go_sem]);try rfl))
    ·have g3:decide ((i:Int)<(c.length:Int))=false:=decide_eq_false (by omega)
     rw [List.drop_eq_nil_of_le hc,runG] at hF
     rw [←hF] at hR
     simp only at hR
     have hv0:1≤vs.length:=by
       have: ¬ ((av.length:Int)+(c.length:Int)=0):=fun e=>by
         unfold badN at hb;simp [e] at hb
       omega
     have e1:((vs.length:Int) - 1).toNat=vs.length - 1:=by omega
     repeat' (first
      |(with_reducible first|refine t_seq fun K=>?_|refine nx ?_|refine t_br (fun hc=>?_) fun hc=>?_)|exact kpd
      |((with_reducible first|refine ny ?_|refine t_kLF ?_ ?_|refine t_region fun K=>?_|refine t_cond fun A B=>?_|refine t_dw (h:=fun K=>?_));(try (refine nh ?_;intro KL));simp only [go_sem,geff,kp12,g3,e1,Int.toNat_natCast,stps_length,yes])
      |simp only [thenQ,blockQ,scopeQ,Nat.reduceEqDiff,reduceIte]|(with_reducible first|refine And.intro ?_ ?_|intro vr))
     all_goals try exact nd
     all_goals ((first|refine end_retE ?_|refine end_normE ?_);simp only [fin,go_sem])
     exact run_of (by rw [←hR];rfl)
noncomputable def con12:PCon Tryz.prog where
  f:=12
  c:=fun
   |[xc,xav]=>match stpsOf xc,slK .i64 xav with|some c,some av=>some (okC c∧av.length≤1000000,runV (runS c av))|_,_=>none
   |_=>none
  ok:=by
   intro args p r hc hp
   split at hc
   ·split at hc
    ·rename_i hc hav
     cases hc
     exact PC.weak ((fun hp:_∧_=>rrun_pc hp.1 hp.2) hp) ⟨stpsOf_le hc,slK_le hav,trivial⟩
    ·cases hc
   ·cases hc
  fk:=fk12
theorem con12_f:con12.f=12:=rfl
theorem con12_c {xc:AV} {xav:AV}:con12.c [xc,xav]=match stpsOf xc,slK .i64 xav with|some c,some av=>some (okC c∧av.length≤1000000,runV (runS c av))|_,_=>none:=rfl
attribute [go_sem] con12_f con12_c
end Go.Proofs.YtcpjahmajkhchaaGreat

namespace Go.Proofs.YtcpjahmajkhchaaGreat
open Go Go.Fw
set_option maxRecDepth 20000
structure Tv (c:List Stp) (av:List ByteArray) (G:Option (List ByteArray)) where
  i:Nat
  o:Option (List AObj×Nat)
  vs:List ByteArray
  hi:i≤c.length
  h0:o=none→vs=av
  hl:∀ p,o=some p→∀ m,p.1.all (lowO m)=true
  hn:vs.length=av.length+i
  hF:typG (c.drop i) vs=G
def tvS {c:List Stp} {av:List ByteArray} {G:Option (List ByteArray)} (x:Tv c av G):AV:=match x.o with
  |none=> .sl true 1 (strs x.vs)
  |some p=> .arr p.1.length p.2
def tvO {c:List Stp} {av:List ByteArray} {G:Option (List ByteArray)} (x:Tv c av G):List AObj:=match x.o with
  |none=>[]
  |some p=>p.1++[.arr 9 1 (strs x.vs) p.2 false]
attribute [go_sem] El.con63_f El.con63_c ecn64_f ecn64_c rdS_at rdS_sl strsOf_strs
theorem rsV_some {n:ByteArray}:El.rsV (some n)= .tup [.lit (.string n),.lit (.bool true)]:=rfl
theorem rsV_none:El.rsV none= .tup [.lit (.string ⟨#[]⟩),.lit (.bool false)]:=rfl
theorem typ_of {a:ByteArray} {b:Bool} {r:ByteArray×Bool} (h:r=(a,b)):LeA (.tup [.lit (.string a),.lit (.bool b)]) (.tup [.lit (.string r.1),.lit (.bool r.2)]):=by subst h;exact LeA.refl _
def typV (r:ByteArray×Bool):AV:= .tup [.lit (.string r.1),.lit (.bool r.2)]
noncomputable def A7:Env:=envJ (P:=Tryz.prog) jkR zer (fun _=>false) (fun _=>false) [con13,El.con63] [ecn64]
theorem A7_ok:EnvOk Tryz.prog A7:=envJOk zer_ok
set_option maxHeartbeats 8000000 in
theorem typ_pc {c:List Stp} {av:List ByteArray} (hc0:okC c) (ha0:av.length≤1000000):PC Tryz.prog 33 [.sl false 3 (stps c),.sl false 1 (strs av)] (typV (typS c av)):=by
  generalize hR:typS c av=R
  unfold typS at hR
  cases h1:validC c av.length with
  |false=>
   rw [if_pos h1] at hR
   refine pcR A7_ok (kp33) Tryz.func33 [.tmp 4,.tmp 5] (h:=fun KF=>?_)
   unfold A7
   repeat' (first
    |(with_reducible first|refine t_seq fun K=>?_|refine nx ?_|refine t_br (fun hc=>?_) fun hc=>?_)|exact kpd
    |((with_reducible first|refine ny ?_|refine t_kLF ?_ ?_|refine t_region fun K=>?_|refine t_cond fun A B=>?_|refine t_drawE (id:=15) (fun _=>true) [(0,1),(1,1),(2,1),(3,1),(4,1),(5,0),(6,0),(7,1),(8,1),(9,1),(10,1),(11,1)] (by kernel_rfl) fun K=>?_|refine t_dw (h:=fun K=>?_));(try (refine nh ?_;intro KL));simp only [go_sem,geff,kp33,h1,stpsOf_sl,Bool.not_false])
    |simp only [thenQ,blockQ,scopeQ,Nat.reduceEqDiff,reduceIte]|(with_reducible first|refine And.intro ?_ ?_|intro vr))
   all_goals try exact nd
   all_goals ((first|refine end_retE ?_|refine end_normE ?_);simp only [fin,go_sem])
   exact typ_of hR.symm
  |true=>
   rw [if_neg (by rw [h1];decide)] at hR
   have hb:badN c av.length=false:=by
     cases hb:badN c av.length with
     |false=>rfl
     |true=>unfold validC at h1;rw [if_pos hb] at h1;cases h1
   have hall:allV c av.length=true:=by
     unfold validC at h1;rw [if_neg (by rw [hb];decide)] at h1;exact h1
   obtain ⟨b1,b2,b3⟩:=badN_no hb
   refine pcR A7_ok (kp33) Tryz.func33 [.tmp 4,.tmp 5] (h:=fun KF=>?_)
   unfold A7
   repeat' (first
    |(with_reducible first|refine t_seq fun K=>?_|refine nx ?_|refine t_br (fun hc=>?_) fun hc=>?_)|exact kpd
    |((with_reducible first|refine ny ?_|refine t_kLF ?_ ?_|refine t_region fun K=>?_|refine t_cond fun A B=>?_|refine t_drawE (id:=15) (fun _=>true) [(0,1),(1,1),(2,1),(3,1),(4,1),(5,0),(6,0),(7,1),(8,1),(9,1),(10,1),(11,1)] (by kernel_rfl) fun K=>?_|refine t_dw (h:=fun K=>?_));(try (refine nh ?_;intro KL));simp only [go_sem,geff,kp33,h1,stpsOf_sl,Bool.not_true])
    |simp only [thenQ,blockQ,scopeQ,Nat.reduceEqDiff,reduceIte]|(with_reducible first|refine And.intro ?_ ?_|intro vr))
   all_goals try exact nd
   refine t_loopF (ι:={i:Nat // i≤av.length∧(av.drop i).any (fun t=> !tyOk t)=av.any (fun t=> !tyOk t)}) (fun i=>[(20,.lit (.int .i64 i.1))]) (fun i=>[]) (fun i=>av.length - i.1) ⟨0,by omega,rfl⟩ ?_ ?_
   ·simp only [updL_nil,updL_cons,delF_top,delF_upd,Nat.reduceEqDiff,reduceIte]
    refine Le.frameS (by first|rfl|(simp only [go_sem];try rfl)) ?_
    repeat' (first|exact leF_top _|exact (fun _=>LeR.refl _)|(with_reducible refine leF_sl ?_ ?_)|(refine leF_upd ?_ ?_))
    all_goals (first|exact LeR.top _|exact LeR.refl _|(refine LeR.of_eq ?_;(try simp only [go_sem]);try rfl)|((try simp only [go_sem]);try rfl))
   rintro ⟨i,hi,hF⟩ K0
   rcases Nat.lt_or_ge i av.length with hc|hc
   ·rw [drop_getD ⟨#[]⟩ hc,List.any_cons] at hF
    have g3:decide ((i:Int)<(av.length:Int))=true:=decide_eq_true (by omega)
    cases h4:tyOk (av.getD i ⟨#[]⟩) with
    |false=>
     rw [h4,Bool.not_false,Bool.true_or] at hF
     rw [if_pos hF.symm] at hR
     have h4':(!eqS (av.getD i ByteArray.empty) ⟨#[105,110,116]⟩&& !eqS (av.getD i ByteArray.empty) ⟨#[98,111,111,108]⟩)=true:=by rw [←Bool.not_or];show (!tyOk (av.getD i ⟨#[]⟩))=true;rw [h4];rfl
     repeat' (first
      |(with_reducible first|refine t_seq fun K=>?_|refine nx ?_|refine t_br (fun hc=>?_) fun hc=>?_)|exact kpd
      |((with_reducible first|refine ny ?_|refine t_kLF ?_ ?_|refine t_region fun K=>?_|refine t_cond fun A B=>?_|refine t_drawE (id:=15) (fun _=>true) [(0,1),(1,1),(2,1),(3,1),(4,1),(5,0),(6,0),(7,1),(8,1),(9,1),(10,1),(11,1)] (by kernel_rfl) fun K=>?_|refine t_dw (h:=fun K=>?_));(try (refine nh ?_;intro KL));simp only [go_sem,geff,kp33,g3,h4',Int.toNat_natCast,Bool.not_false])
      |simp only [thenQ,blockQ,scopeQ,Nat.reduceEqDiff,reduceIte]|(with_reducible first|refine And.intro ?_ ?_|intro vr))
     all_goals try exact nd
     all_goals ((first|refine end_retE ?_|refine end_normE ?_);simp only [fin,go_sem])
     exact typ_of hR.symm
    |true=>
     rw [h4,Bool.not_true,Bool.false_or] at hF
     have h4':(!eqS (av.getD i ByteArray.empty) ⟨#[105,110,116]⟩&& !eqS (av.getD i ByteArray.empty) ⟨#[98,111,111,108]⟩)=false:=by rw [←Bool.not_or];show (!tyOk (av.getD i ⟨#[]⟩))=false;rw [h4];rfl
     repeat' (first
      |(with_reducible first|refine t_seq fun K=>?_|refine nx ?_|refine t_br (fun hc=>?_) fun hc=>?_)|exact kpd
      |((with_reducible first|refine ny ?_|refine t_kLF ?_ ?_|refine t_region fun K=>?_|refine t_cond fun A B=>?_|refine t_drawE (id:=15) (fun _=>true) [(0,1),(1,1),(2,1),(3,1),(4,1),(5,0),(6,0),(7,1),(8,1),(9,1),(10,1),(11,1)] (by kernel_rfl) fun K=>?_|refine t_dw (h:=fun K=>?_));(try (refine nh ?_;intro KL));simp only [go_sem,geff,kp33,g3,h4',Int.toNat_natCast,Bool.not_true])
      |simp only [thenQ,blockQ,scopeQ,Nat.reduceEqDiff,reduceIte]|(with_reducible first|refine And.intro ?_ ?_|intro vr))
     all_goals try exact nd
     refine ⟨⟨i+1,by omega,hF⟩,by first|(simp only;omega)|omega,?_⟩
     simp only [updL_nil,updL_cons,delF_top,delF_upd,Nat.reduceEqDiff,reduceIte]
     refine Le.frameS (by first|rfl|(simp only [go_sem];try rfl)) ?_
     repeat' (first|exact leF_top _|exact (fun _=>LeR.refl _)|(with_reducible refine leF_sl ?_ ?_)|(refine leF_upd ?_ ?_))
     all_goals (first|exact LeR.top _|exact LeR.refl _|(refine LeR.of_eq ?_;(try simp only [go_sem]);try rfl)|((try simp only [go_sem]);try rfl))
   ·have g3:decide ((i:Int)<(av.length:Int))=false:=decide_eq_false (by omega)
    rw [List.drop_eq_nil_of_le hc,List.any_nil] at hF
    rw [if_neg (by rw [←hF];decide)] at hR
    generalize hG:typG c av=G at hR
    have htk:List.take av.length (strs av)=strs av:=by
      have:=List.take_length (l:=strs av)
      rwa [strs_length] at this
    repeat' (first
     |(with_reducible first|refine t_seq fun K=>?_|refine nx ?_|refine t_br (fun hc=>?_) fun hc=>?_)|exact kpd
     |((with_reducible first|refine ny ?_|refine t_kLF ?_ ?_|refine t_region fun K=>?_|refine t_cond fun A B=>?_|refine t_drawE (id:=15) (fun _=>true) [(0,1),(1,1),(2,1),(3,1),(4,1),(5,0),(6,0),(7,1),(8,1),(9,1),(10,1),(11,1)] (by kernel_rfl) fun K=>?_|refine t_dw (h:=fun K=>?_));(try (refine nh ?_;intro KL));simp only [go_sem,geff,kp33,g3,Int.toNat_natCast,stps_length,htk])
     |simp only [thenQ,blockQ,scopeQ,Nat.reduceEqDiff,reduceIte]|(with_reducible first|refine And.intro ?_ ?_|intro vr))
    all_goals try exact nd
    refine t_loopF (ι:=Tv c av G) (fun x=>[(39,.lit (.int .i64 x.i)),(8,tvS x)]) (fun x=>tvO x) (fun x=>c.length - x.i) ⟨0,none,av,by omega,fun _=>rfl,nofun,by simp,hG⟩ ?_ ?_
    ·simp only [tvS,tvO,updL_nil,updL_cons,delF_top,delF_upd,Nat.reduceEqDiff,reduceIte]
     refine Le.frameS (by first|rfl|(simp only [go_sem];try rfl)) ?_
     repeat' (first|exact leF_top _|exact (fun _=>LeR.refl _)|(with_reducible refine leF_sl ?_ ?_)|(refine leF_upd ?_ ?_))
     all_goals (first|exact LeR.top _|exact LeR.refl _|(refine LeR.of_eq ?_;(try simp only [go_sem]);try rfl)|((try simp only [go_sem]);try rfl))
    rintro ⟨i,o,vs,hi,h0,hl,hn,hF⟩ K0
    have hap:∀ n:ByteArray,strs vs++[.lit (.string n)]=strs (vs++[n]):=fun n=>by simp [strs]
    cases o with
    |none=>
     simp only [tvS,tvO]
     rcases Nat.lt_or_ge i c.length with hc|hc
     ·rw [drop_getD nilStp hc,typG] at hF
      have g3:decide ((i:Int)<(c.length:Int))=true:=decide_eq_true (by omega)
      have hag:=allV_args hall i hc
      have hx:=hc0.2 _ (getD_mem nilStp hc)
      generalize hs:c.getD i nilStp=s at hF hx hag
      cases h6:eqS s.op sConst with
      |true=>
       rw [show stepT s vs=some ⟨#[105,110,116]⟩ by unfold stepT;rw [if_pos h6];rfl] at hF
       simp only at hF
       have h6':eqS s.op ⟨#[99,111,110,115,116]⟩=true:=h6
       repeat' (first
        |(with_reducible first|refine t_seq fun K=>?_|refine nx ?_|refine t_br (fun hc=>?_) fun hc=>?_)|exact kpd
        |((with_reducible first|refine ny ?_|refine t_kLF ?_ ?_|refine t_region fun K=>?_|refine t_cond fun A B=>?_|refine t_drawE (id:=15) (fun _=>true) [(0,1),(1,1),(2,1),(3,1),(4,1),(5,0),(6,0),(7,1),(8,1),(9,1),(10,1),(11,1)] (by kernel_rfl) fun K=>?_|refine t_dw (h:=fun K=>?_));(try (refine nh ?_;intro KL));simp only [go_sem,geff,kp33,g3,hs,h6',hap,stpV,Int.toNat_natCast,stps_length])
        |simp only [thenQ,blockQ,scopeQ,Nat.reduceEqDiff,reduceIte]|(with_reducible first|refine And.intro ?_ ?_|intro vr))
       all_goals try exact nd
       refine ⟨⟨i+1,some ([.box 78 [.lit (.string s.op),.lit (.int .i64 s.num),.sl false 1 (ints .i64 s.args)]],0),vs++[⟨#[105,110,116]⟩],by omega,nofun,?_,by rw [List.length_append,hn];simp;omega,hF⟩,by show c.length - (i+1)<c.length - i;omega,?_⟩
       ·intro p hp m
        cases hp;rfl
       ·simp only [tvS,tvO,updL_nil,updL_cons,delF_top,delF_upd,Nat.reduceEqDiff,reduceIte,List.cons_append,List.nil_append,List.length_cons,List.length_nil]
        refine Le.frameS (by first|rfl|(simp only [go_sem];try rfl)) ?_
        repeat' (first|exact leF_top _|exact (fun _=>LeR.refl _)|(with_reducible refine leF_sl ?_ ?_)|(refine leF_upd ?_ ?_))
        all_goals (first|exact LeR.top _|exact LeR.refl _|(refine LeR.of_eq ?_;(try simp only [go_sem]);try rfl)|((try simp only [go_sem]);try rfl))
      |false=>
       cases h7:eqS s.op sTruth with
       |true=>
        rw [show stepT s vs=some ⟨#[98,111,111,108]⟩ by unfold stepT;rw [if_neg (by rw [h6];decide),if_pos h7];rfl] at hF
        simp only at hF
        have h6':eqS s.op ⟨#[99,111,110,115,116]⟩=false:=h6
        have h7':eqS s.op ⟨#[116,114,117,116,104]⟩=true:=h7
        repeat' (first
         |(with_reducible first|refine t_seq fun K=>?_|refine nx ?_|refine t_br (fun hc=>?_) fun hc=>?_)|exact kpd
         |((with_reducible first|refine ny ?_|refine t_kLF ?_ ?_|refine t_region fun K=>?_|refine t_cond fun A B=>?_|refine t_drawE (id:=15) (fun _=>true) [(0,1),(1,1),(2,1),(3,1),(4,1),(5,0),(6,0),(7,1),(8,1),(9,1),(10,1),(11,1)] (by kernel_rfl) fun K=>?_|refine t_dw (h:=fun K=>?_));(try (refine nh ?_;intro KL));simp only [go_sem,geff,kp33,g3,hs,h6',h7',hap,stpV,Int.toNat_natCast,stps_length])
         |simp only [thenQ,blockQ,scopeQ,Nat.reduceEqDiff,reduceIte]|(with_reducible first|refine And.intro ?_ ?_|intro vr))
        all_goals try exact nd
        refine ⟨⟨i+1,some ([.box 78 [.lit (.string s.op),.lit (.int .i64 s.num),.sl false 1 (ints .i64 s.args)]],0),vs++[⟨#[98,111,111,108]⟩],by omega,nofun,?_,by rw [List.length_append,hn];simp;omega,hF⟩,by show c.length - (i+1)<c.length - i;omega,?_⟩
        ·intro p hp m
         cases hp;rfl
        ·simp only [tvS,tvO,updL_nil,updL_cons,delF_top,delF_upd,Nat.reduceEqDiff,reduceIte,List.cons_append,List.nil_append,List.length_cons,List.length_nil]
         refine Le.frameS (by first|rfl|(simp only [go_sem];try rfl)) ?_
         repeat' (first|exact leF_top _|exact (fun _=>LeR.refl _)|(with_reducible refine leF_sl ?_ ?_)|(refine leF_upd ?_ ?_))
         all_goals (first|exact LeR.top _|exact LeR.refl _|(refine LeR.of_eq ?_;(try simp only [go_sem]);try rfl)|((try simp only [go_sem]);try rfl))
       |false=>
        have h5:isNum s=false:=by unfold isNum;rw [h6,h7];rfl
        rw [show stepT s vs=El.resS s.op (pickB vs s.args) by unfold stepT;rw [if_neg (by rw [h6];decide),if_neg (by rw [h7];decide)]] at hF
        have h6':eqS s.op ⟨#[99,111,110,115,116]⟩=false:=h6
        have h7':eqS s.op ⟨#[116,114,117,116,104]⟩=false:=h7
        have hag':∀ a∈s.args,0≤a∧a<(vs.length:Int):=fun a ha=>by have:=hag h5 a ha;omega
        have hpl:=pickB_len (vs:=vs) (ats:=s.args)
        cases hA:El.resS s.op (pickB vs s.args) with
        |none=>
         rw [hA] at hF
         simp only at hF
         rw [←hF] at hR
         repeat' (first
          |(with_reducible first|refine t_seq fun K=>?_|refine nx ?_|refine t_br (fun hc=>?_) fun hc=>?_)|exact kpd
          |((with_reducible first|refine ny ?_|refine t_kLF ?_ ?_|refine t_region fun K=>?_|refine t_cond fun A B=>?_|refine t_drawE (id:=15) (fun _=>true) [(0,1),(1,1),(2,1),(3,1),(4,1),(5,0),(6,0),(7,1),(8,1),(9,1),(10,1),(11,1)] (by kernel_rfl) fun K=>?_|refine t_dw (h:=fun K=>?_));(try (refine nh ?_;intro KL));simp only [go_sem,geff,kp33,g3,hs,h6',h7',hap,hA,rsV_none,stpV,Int.toNat_natCast,stps_length,Bool.not_false])
          |simp only [thenQ,blockQ,scopeQ,Nat.reduceEqDiff,reduceIte]|(with_reducible first|refine And.intro ?_ ?_|intro vr))
         all_goals try exact nd
         all_goals try exact (hag' _ (by assumption)).1
         all_goals try exact (hag' _ (by assumption)).2
         all_goals ((first|refine end_retE ?_|refine end_normE ?_);simp only [fin,go_sem])
         exact typ_of hR.symm
        |some n=>
         rw [hA] at hF
         simp only at hF
         repeat' (first
          |(with_reducible first|refine t_seq fun K=>?_|refine nx ?_|refine t_br (fun hc=>?_) fun hc=>?_)|exact kpd
          |((with_reducible first|refine ny ?_|refine t_kLF ?_ ?_|refine t_region fun K=>?_|refine t_cond fun A B=>?_|refine t_drawE (id:=15) (fun _=>true) [(0,1),(1,1),(2,1),(3,1),(4,1),(5,0),(6,0),(7,1),(8,1),(9,1),(10,1),(11,1)] (by kernel_rfl) fun K=>?_|refine t_dw (h:=fun K=>?_));(try (refine nh ?_;intro KL));simp only [go_sem,geff,kp33,g3,hs,h6',h7',hap,hA,rsV_some,stpV,Int.toNat_natCast,stps_length,Bool.not_true])
          |simp only [thenQ,blockQ,scopeQ,Nat.reduceEqDiff,reduceIte]|(with_reducible first|refine And.intro ?_ ?_|intro vr))
         all_goals try exact nd
         all_goals try exact (hag' _ (by assumption)).1
         all_goals try exact (hag' _ (by assumption)).2
         refine ⟨⟨i+1,some ([.box 78 [.lit (.string s.op),.lit (.int .i64 s.num),.sl false 1 (ints .i64 s.args)],.arr 9 1 (strs (pickB vs s.args)) vr false],0),vs++[n],by omega,nofun,?_,by rw [List.length_append,hn];simp;omega,hF⟩,by show c.length - (i+1)<c.length - i;omega,?_⟩
         ·intro p hp m
          cases hp;rfl
         ·simp only [tvS,tvO,updL_nil,updL_cons,delF_top,delF_upd,Nat.reduceEqDiff,reduceIte,List.cons_append,List.nil_append,List.length_cons,List.length_nil]
          refine Le.frameS (by first|rfl|(simp only [go_sem];try rfl)) ?_
          repeat' (first|exact leF_top _|exact (fun _=>LeR.refl _)|(with_reducible refine leF_sl ?_ ?_)|(refine leF_upd ?_ ?_))
          all_goals (first|exact LeR.top _|exact LeR.refl _|(refine LeR.of_eq ?_;(try simp only [go_sem]);try rfl)|((try simp only [go_sem]);try rfl))
     ·have g3:decide ((i:Int)<(c.length:Int))=false:=decide_eq_false (by omega)
      rw [List.drop_eq_nil_of_le hc,typG] at hF
      rw [←hF] at hR
      simp only at hR
      have hv0:1≤vs.length:=by
        have: ¬ ((av.length:Int)+(c.length:Int)=0):=fun e=>by
          unfold badN at hb;simp [e] at hb
        omega
      have e1:((vs.length:Int) - 1).toNat=vs.length - 1:=by omega
      repeat' (first
       |(with_reducible first|refine t_seq fun K=>?_|refine nx ?_|refine t_br (fun hc=>?_) fun hc=>?_)|exact kpd
       |((with_reducible first|refine ny ?_|refine t_kLF ?_ ?_|refine t_region fun K=>?_|refine t_cond fun A B=>?_|refine t_drawE (id:=15) (fun _=>true) [(0,1),(1,1),(2,1),(3,1),(4,1),(5,0),(6,0),(7,1),(8,1),(9,1),(10,1),(11,1)] (by kernel_rfl) fun K=>?_|refine t_dw (h:=fun K=>?_));(try (refine nh ?_;intro KL));simp only [go_sem,geff,kp33,g3,e1,Int.toNat_natCast,stps_length,yes])
       |simp only [thenQ,blockQ,scopeQ,Nat.reduceEqDiff,reduceIte]|(with_reducible first|refine And.intro ?_ ?_|intro vr))
      all_goals try exact nd
      all_goals ((first|refine end_retE ?_|refine end_normE ?_);simp only [fin,go_sem])
      exact typ_of (by rw [←hR];rfl)
    |some p=>
     obtain ⟨pre,v⟩:=p
     have hpre:=hl _ rfl
     simp only at hpre
     simp only [tvS,tvO]
     rcases Nat.lt_or_ge i c.length with hc|hc
     ·rw [drop_getD nilStp hc,typG] at hF
      have g3:decide ((i:Int)<(c.length:Int))=true:=decide_eq_true (by omega)
      have hag:=allV_args hall i hc
      have hx:=hc0.2 _ (getD_mem nilStp hc)
      generalize hs:c.getD i nilStp=s at hF hx hag
      cases h6:eqS s.op sConst with
      |true=>
       rw [show stepT s vs=some ⟨#[105,110,116]⟩ by unfold stepT;rw [if_pos h6];rfl] at hF
       simp only at hF
       have h6':eqS s.op ⟨#[99,111,110,115,116]⟩=true:=h6
       repeat' (first
        |(with_reducible first|refine t_seq fun K=>?_|refine nx ?_|refine t_br (fun hc=>?_) fun hc=>?_)|exact kpd
        |((with_reducible first|refine ny ?_|refine t_kLF ?_ ?_|refine t_region fun K=>?_|refine t_cond fun A B=>?_|refine t_drawE (id:=15) (fun _=>true) [(0,1),(1,1),(2,1),(3,1),(4,1),(5,0),(6,0),(7,1),(8,1),(9,1),(10,1),(11,1)] (by kernel_rfl) fun K=>?_|refine t_dw (h:=fun K=>?_));(try (refine nh ?_;intro KL));simp only [go_sem,geff,kp33,g3,hs,h6',hap,stpV,Int.toNat_natCast,stps_length])
        |simp only [thenQ,blockQ,scopeQ,Nat.reduceEqDiff,reduceIte]|(with_reducible first|refine And.intro ?_ ?_|intro vr))
       all_goals try exact nd
       refine ⟨⟨i+1,some (pre,v+1),vs++[⟨#[105,110,116]⟩],by omega,nofun,?_,by rw [List.length_append,hn];simp;omega,hF⟩,by show c.length - (i+1)<c.length - i;omega,?_⟩
       ·intro p hp m
        cases hp;exact hpre m
       ·simp only [tvS,tvO,updL_nil,updL_cons,delF_top,delF_upd,Nat.reduceEqDiff,reduceIte]
        refine le_backD (σ:=pre++[.arr 9 1 (strs (vs++[⟨#[105,110,116]⟩])) (v+1) false,.box 78 [.lit (.string s.op),.lit (.int .i64 s.num),.sl false 1 (ints .i64 s.args)]]) (l:=pre++[.arr 9 1 (strs (vs++[⟨#[105,110,116]⟩])) (v+1) false]) (ob:= .box 78 [.lit (.string s.op),.lit (.int .i64 s.num),.sl false 1 (ints .i64 s.args)]) (by simp) (Nat.zero_le _) (by rw [List.all_append,hpre];rfl) ?_ ?_
        ·repeat' (first|exact low_top|(refine low_upd ?_ ?_))
         all_goals (first|rfl|(simp only [low_arr,decide_eq_true_eq];simp))
        repeat' (first|exact leF_top _|exact (fun _=>LeR.refl _)|(with_reducible refine leF_sl ?_ ?_)|(refine leF_upd ?_ ?_))
        all_goals (first|exact LeR.top _|exact LeR.refl _|(refine LeR.of_eq ?_;(try simp only [go_sem]);try rfl)|((try simp only [go_sem]);try rfl))
      |false=>
       cases h7:eqS s.op sTruth with
       |true=>
        rw [show stepT s vs=some ⟨#[98,111,111,108]⟩ by unfold stepT;rw [if_neg (by rw [h6];decide),if_pos h7];rfl] at hF
        simp only at hF
        have h6':eqS s.op ⟨#[99,111,110,115,116]⟩=false:=h6
        have h7':eqS s.op ⟨#[116,114,117,116,104]⟩=true:=h7
        repeat' (first
         |(with_reducible first|refine t_seq fun K=>?_|refine nx ?_|refine t_br (fun hc=>?_) fun hc=>?_)|exact kpd
         |((with_reducible first|refine ny ?_|refine t_kLF ?_ ?_|refine t_region fun K=>?_|refine t_cond fun A B=>?_|refine t_drawE (id:=15) (fun _=>true) [(0,1),(1,1),(2,1),(3,1),(4,1),(5,0),(6,0),(7,1),(8,1),(9,1),(10,1),(11,1)] (by kernel_rfl) fun K=>?_|refine t_dw (h:=fun K=>?_));(try (refine nh ?_;intro KL));simp only [go_sem,geff,kp33,g3,hs,h6',h7',hap,stpV,Int.toNat_natCast,stps_length])
         |simp only [thenQ,blockQ,scopeQ,Nat.reduceEqDiff,reduceIte]|(with_reducible first|refine And.intro ?_ ?_|intro vr))
        all_goals try exact nd
        refine ⟨⟨i+1,some (pre,v+1),vs++[⟨#[98,111,111,108]⟩],by omega,nofun,?_,by rw [List.length_append,hn];simp;omega,hF⟩,by show c.length - (i+1)<c.length - i;omega,?_⟩
        ·intro p hp m
         cases hp;exact hpre m
        ·simp only [tvS,tvO,updL_nil,updL_cons,delF_top,delF_upd,Nat.reduceEqDiff,reduceIte]
         refine le_backD (σ:=pre++[.arr 9 1 (strs (vs++[⟨#[98,111,111,108]⟩])) (v+1) false,.box 78 [.lit (.string s.op),.lit (.int .i64 s.num),.sl false 1 (ints .i64 s.args)]]) (l:=pre++[.arr 9 1 (strs (vs++[⟨#[98,111,111,108]⟩])) (v+1) false]) (ob:= .box 78 [.lit (.string s.op),.lit (.int .i64 s.num),.sl false 1 (ints .i64 s.args)]) (by simp) (Nat.zero_le _) (by rw [List.all_append,hpre];rfl) ?_ ?_
         ·repeat' (first|exact low_top|(refine low_upd ?_ ?_))
          all_goals (first|rfl|(simp only [low_arr,decide_eq_true_eq];simp))
         repeat' (first|exact leF_top _|exact (fun _=>LeR.refl _)|(with_reducible refine leF_sl ?_ ?_)|(refine leF_upd ?_ ?_))
         all_goals (first|exact LeR.top _|exact LeR.refl _|(refine LeR.of_eq ?_;(try simp only [go_sem]);try rfl)|((try simp only [go_sem]);try rfl))
       |false=>
        have h5:isNum s=false:=by unfold isNum;rw [h6,h7];rfl
        rw [show stepT s vs=El.resS s.op (pickB vs s.args) by unfold stepT;rw [if_neg (by rw [h6];decide),if_neg (by rw [h7];decide)]] at hF
        have h6':eqS s.op ⟨#[99,111,110,115,116]⟩=false:=h6
        have h7':eqS s.op ⟨#[116,114,117,116,104]⟩=false:=h7
        have hag':∀ a∈s.args,0≤a∧a<(vs.length:Int):=fun a ha=>by have:=hag h5 a ha;omega
        have hpl:=pickB_len (vs:=vs) (ats:=s.args)
        cases hA:El.resS s.op (pickB vs s.args) with
        |none=>
         rw [hA] at hF
         simp only at hF
         rw [←hF] at hR
         repeat' (first
          |(with_reducible first|refine t_seq fun K=>?_|refine nx ?_|refine t_br (fun hc=>?_) fun hc=>?_)|exact kpd
          |((with_reducible first|refine ny ?_|refine t_kLF ?_ ?_|refine t_region fun K=>?_|refine t_cond fun A B=>?_|refine t_drawE (id:=15) (fun _=>true) [(0,1),(1,1),(2,1),(3,1),(4,1),(5,0),(6,0),(7,1),(8,1),(9,1),(10,1),(11,1)] (by kernel_rfl) fun K=>?_|refine t_dw (h:=fun K=>?_));(try (refine nh ?_;intro KL));simp only [go_sem,geff,kp33,g3,hs,h6',h7',hap,hA,rsV_none,stpV,Int.toNat_natCast,stps_length,Bool.not_false])
          |simp only [thenQ,blockQ,scopeQ,Nat.reduceEqDiff,reduceIte]|(with_reducible first|refine And.intro ?_ ?_|intro vr))
         all_goals try exact nd
         all_goals try exact (hag' _ (by assumption)).1
         all_goals try exact (hag' _ (by assumption)).2
         all_goals ((first|refine end_retE ?_|refine end_normE ?_);simp only [fin,go_sem])
         exact typ_of hR.symm
        |some n=>
         rw [hA] at hF
         simp only at hF
         repeat' (first
          |(with_reducible first|refine t_seq fun K=>?_|refine nx ?_|refine t_br (fun hc=>?_) fun hc=>?_)|exact kpd
          |((with_reducible first|refine ny ?_|refine t_kLF ?_ ?_|refine t_region fun K=>?_|refine t_cond fun A B=>?_|refine t_drawE (id:=15) (fun _=>true) [(0,1),(1,1),(2,1),(3,1),(4,1),(5,0),(6,0),(7,1),(8,1),(9,1),(10,1),(11,1)] (by kernel_rfl) fun K=>?_|refine t_dw (h:=fun K=>?_));(try (refine nh ?_;intro KL));simp only [go_sem,geff,kp33,g3,hs,h6',h7',hap,hA,rsV_some,stpV,Int.toNat_natCast,stps_length,Bool.not_true])
          |simp only [thenQ,blockQ,scopeQ,Nat.reduceEqDiff,reduceIte]|(with_reducible first|refine And.intro ?_ ?_|intro vr))
         all_goals try exact nd
         all_goals try exact (hag' _ (by assumption)).1
         all_goals try exact (hag' _ (by assumption)).2
         refine ⟨⟨i+1,some (pre,v+1),vs++[n],by omega,nofun,?_,by rw [List.length_append,hn];simp;omega,hF⟩,by show c.length - (i+1)<c.length - i;omega,?_⟩
         ·intro p hp m
          cases hp;exact hpre m
         ·simp only [tvS,tvO,updL_nil,updL_cons,delF_top,delF_upd,Nat.reduceEqDiff,reduceIte]
          refine le_two (σ:=pre++[.arr 9 1 (strs (vs++[n])) (v+1) false,.box 78 [.lit (.string s.op),.lit (.int .i64 s.num),.sl false 1 (ints .i64 s.args)],.arr 9 1 (strs (pickB vs s.args)) vr false]) (l:=pre++[.arr 9 1 (strs (vs++[n])) (v+1) false]) (a:= .box 78 [.lit (.string s.op),.lit (.int .i64 s.num),.sl false 1 (ints .i64 s.args)]) (b:= .arr 9 1 (strs (pickB vs s.args)) vr false) (by simp) (Nat.zero_le _) (fun m=>by rw [List.all_append,hpre];rfl) (fun m=>rfl) ?_ ?_
          ·intro m hm
           repeat' (first|exact low_top|(refine low_upd ?_ ?_))
           all_goals (first|rfl|(simp only [low_arr,decide_eq_true_eq];simp at hm;omega))
          repeat' (first|exact leF_top _|exact (fun _=>LeR.refl _)|(with_reducible refine leF_sl ?_ ?_)|(refine leF_upd ?_ ?_))
          all_goals (first|exact LeR.top _|exact LeR.refl _|(refine LeR.of_eq ?_;(try simp only [go_sem]);try rfl)|((try simp only [go_sem]);try rfl))
     ·have g3:decide ((i:Int)<(c.length:Int))=false:=decide_eq_false (by omega)
      rw [List.drop_eq_nil_of_le hc,typG] at hF
      rw [←hF] at hR
      simp only at hR
      have hv0:1≤vs.length:=by
        have: ¬ ((av.length:Int)+(c.length:Int)=0):=fun e=>by
          unfold badN at hb;simp [e] at hb
        omega
      have e1:((vs.length:Int) - 1).toNat=vs.length - 1:=by omega
      repeat' (first
       |(with_reducible first|refine t_seq fun K=>?_|refine nx ?_|refine t_br (fun hc=>?_) fun hc=>?_)|exact kpd
       |((with_reducible first|refine ny ?_|refine t_kLF ?_ ?_|refine t_region fun K=>?_|refine t_cond fun A B=>?_|refine t_drawE (id:=15) (fun _=>true) [(0,1),(1,1),(2,1),(3,1),(4,1),(5,0),(6,0),(7,1),(8,1),(9,1),(10,1),(11,1)] (by kernel_rfl) fun K=>?_|refine t_dw (h:=fun K=>?_));(try (refine nh ?_;intro KL));simp only [go_sem,geff,kp33,g3,e1,Int.toNat_natCast,stps_length,yes])
       |simp only [thenQ,blockQ,scopeQ,Nat.reduceEqDiff,reduceIte]|(with_reducible first|refine And.intro ?_ ?_|intro vr))
      all_goals try exact nd
      all_goals ((first|refine end_retE ?_|refine end_normE ?_);simp only [fin,go_sem])
      exact typ_of (by rw [←hR];rfl)
noncomputable def con33:PCon Tryz.prog where
  f:=33
  c:=fun
   |[xc,xav]=>match stpsOf xc,slS xav with|some c,some av=>some (okC c∧av.length≤1000000,typV (typS c av))|_,_=>none
   |_=>none
  ok:=by
   intro args p r hc hp
   split at hc
   ·split at hc
    ·rename_i hc hav
     cases hc
     exact PC.weak ((fun hp:_∧_=>typ_pc hp.1 hp.2) hp) ⟨stpsOf_le hc,slS_le hav,trivial⟩
    ·cases hc
   ·cases hc
  fk:=fk33
theorem con33_f:con33.f=33:=rfl
theorem con33_c {xc:AV} {xav:AV}:con33.c [xc,xav]=match stpsOf xc,slS xav with|some c,some av=>some (okC c∧av.length≤1000000,typV (typS c av))|_,_=>none:=rfl
attribute [go_sem] con33_f con33_c
end Go.Proofs.YtcpjahmajkhchaaGreat

namespace Go.Proofs.YtcpjahmajkhchaaGreat
open Go Go.Fw
set_option maxRecDepth 20000
structure Tx (c:List Stp) (av:List ByteArray) (G:Option (List ByteArray)) where
  i:Nat
  v:Nat
  vs:List ByteArray
  hi:i≤c.length
  hn:vs.length=av.length+i
  hF:typG (c.drop i) vs=G
theorem take_appB {l:List ByteArray} {i:Nat} (h:i<l.length):l.take i++[l.getD i ByteArray.empty]=l.take (i+1):=by
  rw [List.take_add_one,List.getElem?_eq_getElem h,List.getD_eq_getElem?_getD,List.getElem?_eq_getElem h];rfl
attribute [go_sem] El.con49_f El.con49_c
noncomputable def A8:Env:=envJ (P:=Tryz.prog) jkR zer (fun _=>false) (fun _=>false) [con14,El.con49] []
theorem A8_ok:EnvOk Tryz.prog A8:=envJOk zer_ok
set_option maxHeartbeats 8000000 in
theorem rtyp_pc {c:List Stp} {av:List ByteArray} (hc0:okC c) (ha0:av.length≤1000000):PC Tryz.prog 21 [.sl false 3 (stps c),.sl false 1 (strs av)] (typV (typS c av)):=by
  generalize hR:typS c av=R
  unfold typS at hR
  cases h1:validC c av.length with
  |false=>
   rw [if_pos h1] at hR
   refine pcR A8_ok (kp21) Tryz.func21 [.tmp 4,.tmp 5] (h:=fun KF=>?_)
   unfold A8
   repeat' (first
    |(with_reducible first|refine t_seq fun K=>?_|refine nx ?_|refine t_br (fun hc=>?_) fun hc=>?_)|exact kpd
    |((with_reducible first|refine ny ?_|refine t_kLF ?_ ?_|refine t_region fun K=>?_|refine t_cond fun A B=>?_|refine t_dw (h:=fun K=>?_));(try (refine nh ?_;intro KL));simp only [go_sem,geff,kp21,h1,stpsOf_sl,Bool.not_false])
    |simp only [thenQ,blockQ,scopeQ,Nat.reduceEqDiff,reduceIte]|(with_reducible first|refine And.intro ?_ ?_|intro vr))
   all_goals try exact nd
   all_goals ((first|refine end_retE ?_|refine end_normE ?_);simp only [fin,go_sem])
   exact typ_of hR.symm
  |true=>
   rw [if_neg (by rw [h1];decide)] at hR
   have hb:badN c av.length=false:=by
     cases hb:badN c av.length with
     |false=>rfl
     |true=>unfold validC at h1;rw [if_pos hb] at h1;cases h1
   have hall:allV c av.length=true:=by
     unfold validC at h1;rw [if_neg (by rw [hb];decide)] at h1;exact h1
   obtain ⟨b1,b2,b3⟩:=badN_no hb
   refine pcR A8_ok (kp21) Tryz.func21 [.tmp 4,.tmp 5] (h:=fun KF=>?_)
   unfold A8
   repeat' (first
    |(with_reducible first|refine t_seq fun K=>?_|refine nx ?_|refine t_br (fun hc=>?_) fun hc=>?_)|exact kpd
    |((with_reducible first|refine ny ?_|refine t_kLF ?_ ?_|refine t_region fun K=>?_|refine t_cond fun A B=>?_|refine t_dw (h:=fun K=>?_));(try (refine nh ?_;intro KL));simp only [go_sem,geff,kp21,h1,stpsOf_sl,Bool.not_true])
    |simp only [thenQ,blockQ,scopeQ,Nat.reduceEqDiff,reduceIte]|(with_reducible first|refine And.intro ?_ ?_|intro vr))
   all_goals try exact nd
   refine t_loopF (ι:={p:Nat×Nat // p.1≤av.length∧(av.drop p.1).any (fun t=> !tyOk t)=av.any (fun t=> !tyOk t)}) (fun i=>[(7,.lit (.int .i64 i.1.1)),(6,.arr 0 i.1.2)]) (fun i=>[.arr 9 1 (strs (av.take i.1.1)) i.1.2 false]) (fun i=>av.length - i.1.1) ⟨(0,0),by simp⟩ ?_ ?_
   ·refine (le_nil 6 9 1 rfl).trans ?_
    simp only [updL_nil,updL_cons,delF_top,delF_upd,Nat.reduceEqDiff,reduceIte]
    refine Le.frameS (by first|rfl|(simp only [go_sem];try rfl)) ?_
    repeat' (first|exact leF_top _|exact (fun _=>LeR.refl _)|(with_reducible refine leF_sl ?_ ?_)|(refine leF_upd ?_ ?_))
    all_goals (first|exact LeR.top _|exact LeR.refl _|(refine LeR.of_eq ?_;(try simp only [go_sem]);try rfl)|((try simp only [go_sem]);try rfl))
   rintro ⟨⟨i,v⟩,hi,hF⟩ K0
   simp only at hi hF
   rcases Nat.lt_or_ge i av.length with hc|hc
   ·rw [drop_getD ⟨#[]⟩ hc,List.any_cons] at hF
    have g3:decide ((i:Int)<(av.length:Int))=true:=decide_eq_true (by omega)
    have hta:=take_appB hc
    have hlt:(av.take i).length=i:=by rw [List.length_take];omega
    cases h4:tyOk (av.getD i ⟨#[]⟩) with
    |false=>
     rw [h4,Bool.not_false,Bool.true_or] at hF
     rw [if_pos hF.symm] at hR
     have h4':(!eqS (av.getD i ByteArray.empty) ⟨#[105,110,116]⟩&& !eqS (av.getD i ByteArray.empty) ⟨#[98,111,111,108]⟩)=true:=by rw [←Bool.not_or];show (!tyOk (av.getD i ⟨#[]⟩))=true;rw [h4];rfl
     repeat' (first
      |(with_reducible first|refine t_seq fun K=>?_|refine nx ?_|refine t_br (fun hc=>?_) fun hc=>?_)|exact kpd
      |((with_reducible first|refine ny ?_|refine t_kLF ?_ ?_|refine t_region fun K=>?_|refine t_cond fun A B=>?_|refine t_dw (h:=fun K=>?_));(try (refine nh ?_;intro KL));simp only [go_sem,geff,kp21,g3,h4',Int.toNat_natCast,Bool.not_false])
      |simp only [thenQ,blockQ,scopeQ,Nat.reduceEqDiff,reduceIte]|(with_reducible first|refine And.intro ?_ ?_|intro vr))
     all_goals try exact nd
     all_goals ((first|refine end_retE ?_|refine end_normE ?_);simp only [fin,go_sem])
     exact typ_of hR.symm
    |true=>
     rw [h4,Bool.not_true,Bool.false_or] at hF
     have h4':(!eqS (av.getD i ByteArray.empty) ⟨#[105,110,116]⟩&& !eqS (av.getD i ByteArray.empty) ⟨#[98,111,111,108]⟩)=false:=by rw [←Bool.not_or];show (!tyOk (av.getD i ⟨#[]⟩))=false;rw [h4];rfl
     repeat' (first
      |(with_reducible first|refine t_seq fun K=>?_|refine nx ?_|refine t_br (fun hc=>?_) fun hc=>?_)|exact kpd
      |((with_reducible first|refine ny ?_|refine t_kLF ?_ ?_|refine t_region fun K=>?_|refine t_cond fun A B=>?_|refine t_dw (h:=fun K=>?_));(try (refine nh ?_;intro KL));simp only [go_sem,geff,kp21,g3,h4',hta,Int.toNat_natCast,Bool.not_true])
      |simp only [thenQ,blockQ,scopeQ,Nat.reduceEqDiff,reduceIte]|(with_reducible first|refine And.intro ?_ ?_|intro vr))
     all_goals try exact nd
     refine ⟨⟨(i+1,v+1),by omega,hF⟩,by first|(simp only;omega)|omega,?_⟩
     simp only [updL_nil,updL_cons,delF_top,delF_upd,Nat.reduceEqDiff,reduceIte]
     refine Le.frameS (by first|rfl|(simp only [go_sem];try rfl)) ?_
     repeat' (first|exact leF_top _|exact (fun _=>LeR.refl _)|(with_reducible refine leF_sl ?_ ?_)|(refine leF_upd ?_ ?_))
     all_goals (first|exact LeR.top _|exact LeR.refl _|(refine LeR.of_eq ?_;(try simp only [go_sem]);try rfl)|((try simp only [go_sem]);try rfl))
   ·have g3:decide ((i:Int)<(av.length:Int))=false:=decide_eq_false (by omega)
    rw [List.drop_eq_nil_of_le hc,List.any_nil] at hF
    rw [if_neg (by rw [←hF];decide)] at hR
    generalize hG:typG c av=G at hR
    have e0:av.take i=av:=List.take_of_length_le hc
    repeat' (first
     |(with_reducible first|refine t_seq fun K=>?_|refine nx ?_|refine t_br (fun hc=>?_) fun hc=>?_)|exact kpd
     |((with_reducible first|refine ny ?_|refine t_kLF ?_ ?_|refine t_region fun K=>?_|refine t_cond fun A B=>?_|refine t_dw (h:=fun K=>?_));(try (refine nh ?_;intro KL));simp only [go_sem,geff,kp21,g3,e0,Int.toNat_natCast,stps_length])
     |simp only [thenQ,blockQ,scopeQ,Nat.reduceEqDiff,reduceIte]|(with_reducible first|refine And.intro ?_ ?_|intro vr))
    all_goals try exact nd
    refine t_loopF (ι:=Tx c av G) (fun i=>[(8,.lit (.int .i64 i.i)),(6,.arr 0 i.v)]) (fun i=>[.arr 9 1 (strs i.vs) i.v false]) (fun i=>c.length - i.i) ⟨0,v,av,by omega,by simp,hG⟩ ?_ ?_
    ·simp only [updL_nil,updL_cons,delF_top,delF_upd,Nat.reduceEqDiff,reduceIte]
     refine Le.frameS (by first|rfl|(simp only [go_sem];try rfl)) ?_
     repeat' (first|exact leF_top _|exact (fun _=>LeR.refl _)|(with_reducible refine leF_sl ?_ ?_)|(refine leF_upd ?_ ?_))
     all_goals (first|exact LeR.top _|exact LeR.refl _|(refine LeR.of_eq ?_;(try simp only [go_sem]);try rfl)|((try simp only [go_sem]);try rfl))
    rintro ⟨i,v,vs,hi,hn,hF⟩ K1
    rcases Nat.lt_or_ge i c.length with hc|hc
    ·rw [drop_getD nilStp hc,typG] at hF
     have g3:decide ((i:Int)<(c.length:Int))=true:=decide_eq_true (by omega)
     have hag:=allV_args hall i hc
     have hx:=hc0.2 _ (getD_mem nilStp hc)
     generalize hs:c.getD i nilStp=s at hF hx hag
     cases h6:eqS s.op sConst with
     |true=>
      rw [show stepT s vs=some ⟨#[105,110,116]⟩ by unfold stepT;rw [if_pos h6];rfl] at hF
      simp only at hF
      have h6':eqS s.op ⟨#[99,111,110,115,116]⟩=true:=h6
      repeat' (first
       |(with_reducible first|refine t_seq fun K=>?_|refine nx ?_|refine t_br (fun hc=>?_) fun hc=>?_)|exact kpd
       |((with_reducible first|refine ny ?_|refine t_kLF ?_ ?_|refine t_region fun K=>?_|refine t_cond fun A B=>?_|refine t_dw (h:=fun K=>?_));(try (refine nh ?_;intro KL));simp only [go_sem,geff,kp21,g3,hs,h6',stpV,Int.toNat_natCast,stps_length])
       |simp only [thenQ,blockQ,scopeQ,Nat.reduceEqDiff,reduceIte]|(with_reducible first|refine And.intro ?_ ?_|intro vr))
      all_goals try exact nd
      refine ⟨⟨i+1,v+1,vs++[⟨#[105,110,116]⟩],by omega,by rw [List.length_append,hn];simp;omega,hF⟩,by first|(simp only;omega)|omega,?_⟩
      simp only [updL_nil,updL_cons,delF_top,delF_upd,Nat.reduceEqDiff,reduceIte]
      refine Le.frameS (by first|rfl|(simp only [go_sem];try rfl)) ?_
      repeat' (first|exact leF_top _|exact (fun _=>LeR.refl _)|(with_reducible refine leF_sl ?_ ?_)|(refine leF_upd ?_ ?_))
      all_goals (first|exact LeR.top _|exact LeR.refl _|(refine LeR.of_eq ?_;(try simp only [go_sem]);try rfl)|((try simp only [go_sem]);try rfl))
     |false=>
      cases h7:eqS s.op sTruth with
      |true=>
       rw [show stepT s vs=some ⟨#[98,111,111,108]⟩ by unfold stepT;rw [if_neg (by rw [h6];decide),if_pos h7];rfl] at hF
       simp only at hF
       have h6':eqS s.op ⟨#[99,111,110,115,116]⟩=false:=h6
       have h7':eqS s.op ⟨#[116,114,117,116,104]⟩=true:=h7
       repeat' (first
        |(with_reducible first|refine t_seq fun K=>?_|refine nx ?_|refine t_br (fun hc=>?_) fun hc=>?_)|exact kpd
        |((with_reducible first|refine ny ?_|refine t_kLF ?_ ?_|refine t_region fun K=>?_|refine t_cond fun A B=>?_|refine t_dw (h:=fun K=>?_));(try (refine nh ?_;intro KL));simp only [go_sem,geff,kp21,g3,hs,h6',h7',stpV,Int.toNat_natCast,stps_length])
        |simp only [thenQ,blockQ,scopeQ,Nat.reduceEqDiff,reduceIte]|(with_reducible first|refine And.intro ?_ ?_|intro vr))
       all_goals try exact nd
       refine ⟨⟨i+1,v+1,vs++[⟨#[98,111,111,108]⟩],by omega,by rw [List.length_append,hn];simp;omega,hF⟩,by first|(simp only;omega)|omega,?_⟩
       simp only [updL_nil,updL_cons,delF_top,delF_upd,Nat.reduceEqDiff,reduceIte]
       refine Le.frameS (by first|rfl|(simp only [go_sem];try rfl)) ?_
       repeat' (first|exact leF_top _|exact (fun _=>LeR.refl _)|(with_reducible refine leF_sl ?_ ?_)|(refine leF_upd ?_ ?_))
       all_goals (first|exact LeR.top _|exact LeR.refl _|(refine LeR.of_eq ?_;(try simp only [go_sem]);try rfl)|((try simp only [go_sem]);try rfl))
      |false=>
       have h5:isNum s=false:=by unfold isNum;rw [h6,h7];rfl
       rw [show stepT s vs=El.resS s.op (pickB vs s.args) by unfold stepT;rw [if_neg (by rw [h6];decide),if_neg (by rw [h7];decide)]] at hF
       have h6':eqS s.op ⟨#[99,111,110,115,116]⟩=false:=h6
       have h7':eqS s.op ⟨#[116,114,117,116,104]⟩=false:=h7
       have hag':∀ a∈s.args,0≤a∧a<(vs.length:Int):=fun a ha=>by have:=hag h5 a ha;omega
       repeat' (first
        |(with_reducible first|refine t_seq fun K=>?_|refine nx ?_|refine t_br (fun hc=>?_) fun hc=>?_)|exact kpd
        |((with_reducible first|refine ny ?_|refine t_kLF ?_ ?_|refine t_region fun K=>?_|refine t_cond fun A B=>?_|refine t_dw (h:=fun K=>?_));(try (refine nh ?_;intro KL));simp only [go_sem,geff,kp21,g3,hs,h6',h7',stpV,Int.toNat_natCast,stps_length])
        |simp only [thenQ,blockQ,scopeQ,Nat.reduceEqDiff,reduceIte]|(with_reducible first|refine And.intro ?_ ?_|intro vr))
       all_goals try exact nd
       refine t_loopF (ι:={p:Nat×Nat // p.1≤s.args.length}) (fun i=>[(10,.lit (.int .i64 i.1.1)),(9,.arr 1 i.1.2)]) (fun i=>[.arr 9 1 (strs vs) v false,.arr 9 1 (strs (pickB vs (s.args.take i.1.1))) i.1.2 false]) (fun i=>s.args.length - i.1.1) ⟨(0,0),by simp⟩ ?_ ?_
       ·refine (le_nil 9 9 1 rfl).trans ?_
        simp only [updL_nil,updL_cons,delF_top,delF_upd,Nat.reduceEqDiff,reduceIte]
        refine Le.frameS (by first|rfl|(simp only [go_sem];try rfl)) ?_
        repeat' (first|exact leF_top _|exact (fun _=>LeR.refl _)|(with_reducible refine leF_sl ?_ ?_)|(refine leF_upd ?_ ?_))
        all_goals (first|exact LeR.top _|exact LeR.refl _|(refine LeR.of_eq ?_;(try simp only [go_sem]);try rfl)|((try simp only [go_sem]);try rfl))
       rintro ⟨⟨j,w⟩,hj⟩ K2
       simp only at hj
       rcases Nat.lt_or_ge j s.args.length with hc2|hc2
       ·have g4:decide ((j:Int)<(s.args.length:Int))=true:=decide_eq_true (by omega)
        have hq:=hag' _ (getD_mem 0 hc2)
        have hps:pickB vs (s.args.take (j+1))=pickB vs (s.args.take j)++[vs.getD (s.args.getD j 0).toNat ByteArray.empty]:=pickB_succ (vs:=vs) hc2
        have hpl:=pickB_len (vs:=vs) (ats:=s.args.take j)
        rw [List.length_take] at hpl
        repeat' (first
         |(with_reducible first|refine t_seq fun K=>?_|refine nx ?_|refine t_br (fun hc=>?_) fun hc=>?_)|exact kpd
         |((with_reducible first|refine ny ?_|refine t_kLF ?_ ?_|refine t_region fun K=>?_|refine t_cond fun A B=>?_|refine t_dw (h:=fun K=>?_));(try (refine nh ?_;intro KL));simp only [go_sem,geff,kp21,g4,hs,stpV,←hps,Int.toNat_natCast,stps_length,yes])
         |simp only [thenQ,blockQ,scopeQ,Nat.reduceEqDiff,reduceIte]|(with_reducible first|refine And.intro ?_ ?_|intro vr))
        all_goals try exact nd
        refine ⟨⟨(j+1,w+1),by omega⟩,by first|(simp only;omega)|omega,?_⟩
        simp only [updL_nil,updL_cons,delF_top,delF_upd,Nat.reduceEqDiff,reduceIte]
        refine Le.frameS (by first|rfl|(simp only [go_sem];try rfl)) ?_
        repeat' (first|exact leF_top _|exact (fun _=>LeR.refl _)|(with_reducible refine leF_sl ?_ ?_)|(refine leF_upd ?_ ?_))
        all_goals (first|exact LeR.top _|exact LeR.refl _|(refine LeR.of_eq ?_;(try simp only [go_sem]);try rfl)|((try simp only [go_sem]);try rfl))
       ·have g4:decide ((j:Int)<(s.args.length:Int))=false:=decide_eq_false (by omega)
        have hpq:=pickB_len (vs:=vs) (ats:=s.args)
        have e1:s.args.take j=s.args:=List.take_of_length_le hc2
        cases hA:El.resS s.op (pickB vs s.args) with
        |none=>
         rw [hA] at hF
         simp only at hF
         rw [←hF] at hR
         repeat' (first
          |(with_reducible first|refine t_seq fun K=>?_|refine nx ?_|refine t_br (fun hc=>?_) fun hc=>?_)|exact kpd
          |((with_reducible first|refine ny ?_|refine t_kLF ?_ ?_|refine t_region fun K=>?_|refine t_cond fun A B=>?_|refine t_dw (h:=fun K=>?_));(try (refine nh ?_;intro KL));simp only [go_sem,geff,kp21,g4,hs,stpV,e1,hA,rsV_none,Int.toNat_natCast,stps_length,Bool.not_false])
          |simp only [thenQ,blockQ,scopeQ,Nat.reduceEqDiff,reduceIte]|(with_reducible first|refine And.intro ?_ ?_|intro vr))
         all_goals try exact nd
         all_goals ((first|refine end_retE ?_|refine end_normE ?_);simp only [fin,go_sem])
         exact typ_of hR.symm
        |some n=>
         rw [hA] at hF
         simp only at hF
         repeat' (first
          |(with_reducible first|refine t_seq fun K=>?_|refine nx ?_|refine t_br (fun hc=>?_) fun hc=>?_)|exact kpd
          |((with_reducible first|refine ny ?_|refine t_kLF ?_ ?_|refine t_region fun K=>?_|refine t_cond fun A B=>?_|refine t_dw (h:=fun K=>?_));(try (refine nh ?_;intro KL));simp only [go_sem,geff,kp21,g4,hs,stpV,e1,hA,rsV_some,Int.toNat_natCast,stps_length,Bool.not_true])
          |simp only [thenQ,blockQ,scopeQ,Nat.reduceEqDiff,reduceIte]|(with_reducible first|refine And.intro ?_ ?_|intro vr))
         all_goals try exact nd
         refine ⟨⟨i+1,v+1,vs++[n],by omega,by rw [List.length_append,hn];simp;omega,hF⟩,by first|(simp only;omega)|omega,?_⟩
         simp only [updL_nil,updL_cons,delF_top,delF_upd,Nat.reduceEqDiff,reduceIte]
         refine le_backD (by first|rfl|(simp only [go_sem];try rfl)) (by first|exact Nat.zero_le _|simp) (by first|rfl|simp [lowO,low_lit,low_sl,low_ref,low_arr]) ?_ ?_
         ·repeat' (first|exact low_top|(refine low_upd rfl ?_))
         repeat' (first|exact leF_top _|exact (fun _=>LeR.refl _)|(with_reducible refine leF_sl ?_ ?_)|(refine leF_upd ?_ ?_))
         all_goals (first|exact LeR.top _|exact LeR.refl _|(refine LeR.of_eq ?_;(try simp only [go_sem]);try rfl)|((try simp only [go_sem]);try rfl))
    ·have g3:decide ((i:Int)<(c.length:Int))=false:=decide_eq_false (by omega)
     rw [List.drop_eq_nil_of_le hc,typG] at hF
     rw [←hF] at hR
     simp only at hR
     have hv0:1≤vs.length:=by
       have: ¬ ((av.length:Int)+(c.length:Int)=0):=fun e=>by
         unfold badN at hb;simp [e] at hb
       omega
     have e1:((vs.length:Int) - 1).toNat=vs.length - 1:=by omega
     repeat' (first
      |(with_reducible first|refine t_seq fun K=>?_|refine nx ?_|refine t_br (fun hc=>?_) fun hc=>?_)|exact kpd
      |((with_reducible first|refine ny ?_|refine t_kLF ?_ ?_|refine t_region fun K=>?_|refine t_cond fun A B=>?_|refine t_dw (h:=fun K=>?_));(try (refine nh ?_;intro KL));simp only [go_sem,geff,kp21,g3,e1,Int.toNat_natCast,stps_length,yes])
      |simp only [thenQ,blockQ,scopeQ,Nat.reduceEqDiff,reduceIte]|(with_reducible first|refine And.intro ?_ ?_|intro vr))
     all_goals try exact nd
     all_goals ((first|refine end_retE ?_|refine end_normE ?_);simp only [fin,go_sem])
     exact typ_of (by rw [←hR];rfl)
noncomputable def con21:PCon Tryz.prog where
  f:=21
  c:=fun
   |[xc,xav]=>match stpsOf xc,slS xav with|some c,some av=>some (okC c∧av.length≤1000000,typV (typS c av))|_,_=>none
   |_=>none
  ok:=by
   intro args p r hc hp
   split at hc
   ·split at hc
    ·rename_i hc hav
     cases hc
     exact PC.weak ((fun hp:_∧_=>rtyp_pc hp.1 hp.2) hp) ⟨stpsOf_le hc,slS_le hav,trivial⟩
    ·cases hc
   ·cases hc
  fk:=fk21
theorem con21_f:con21.f=21:=rfl
theorem con21_c {xc:AV} {xav:AV}:con21.c [xc,xav]=match stpsOf xc,slS xav with|some c,some av=>some (okC c∧av.length≤1000000,typV (typS c av))|_,_=>none:=rfl
attribute [go_sem] con21_f con21_c
end Go.Proofs.YtcpjahmajkhchaaGreat

namespace Go.Proofs.YtcpjahmajkhchaaGreat
open Go Go.Fw
set_option maxRecDepth 20000
theorem dself {α:Type} [DecidableEq α] (a:α):decide (a=a)=true:=decide_eq_true rfl
end Go.Proofs.YtcpjahmajkhchaaGreat

namespace Go.Proofs.YtcpjahmajkhchaaGreat
open Go Go.Fw
set_option maxRecDepth 20000
structure Lc (f own:List Int) (G:Option Int) where
  i:Nat
  k:Int
  hi:i≤own.length
  hk:0≤k
  hk':k<prI (f.take i)
  hp:∀ x∈f.take i,1≤x
  hF:atS (f.drop i) (own.drop i) k=G
theorem take_pos {f:List Int} {i:Nat} (h:i<f.length) (hp:∀ x∈f.take i,1≤x) (h1:1≤f.getD i 0):∀ x∈f.take (i+1),1≤x:=by
  intro x hx
  rw [List.take_add_one,List.mem_append] at hx
  rcases hx with hx|hx
  ·exact hp x hx
  ·rw [List.getElem?_eq_getElem h] at hx
   simp only [Option.toList_some,List.mem_singleton] at hx
   rw [List.getD_eq_getElem?_getD,List.getElem?_eq_getElem h] at h1
   rw [hx];simpa using h1
noncomputable def E19:Env:=envOf (P:=Tryz.prog) zer (fun _=>false) (fun _=>false) [con77,con71] []
theorem E19_ok:EnvOk Tryz.prog E19:=envOk zer_ok
set_option maxRecDepth 20000 in
set_option maxHeartbeats 4000000 in
theorem cell_pc {a:Arr} {r:Int} {own:List Int} (ha:okA a) (hr:inI64 r) (hl:own.length≤1000000):PC Tryz.prog 56 [arrV a,.lit (.int .i64 r),.sl false 1 (ints .i64 own)] (aeV (cellS a r own)):=by
  unfold cellS
  have hsl:=splitS_len r ha
  have ha1:=ha.1
  have ha2:=ha.2
  generalize hS:splitS a r=s at hsl
  obtain ⟨f,c,er⟩:=s
  simp only at hsl
  by_cases e0:er=0
  ·subst e0
   obtain ⟨h0,hd,hr0,hrl⟩:=splitS_inv hS
   rw [if_neg (by simp)]
   by_cases hn:own.length=f.length
   ·have n1:((own.length:Int) !=(f.length:Int))=false:=by rw [bne_eq_false_iff_eq];omega
    rw [if_neg (by simpa using hn)]
    simp only
    have hsz:=(ofE_inv h0).2.1
    have hbd:∀ i,i≤f.length→0≤prI (f.take i)∧prI (f.take i)≤1152921504606846976:=fun i hi=>by
      have:=part_bd hsz 0 i
      rwa [hd,List.drop_zero,List.take_append_of_le_length hi] at this
    generalize hG:atS f own 0=G
    refine pcO E19_ok (fun _=>[1,2,3,6,7,8,9,10,11,12,13,14,16,25,32,34,35,36,37,50,61,62,63,64]) Tryz.func56 (h:=fun KF=>?_)
    unfold E19
    repeat' (first
     |(with_reducible first|refine t_seq fun K=>?_|refine nx ?_|refine t_br (fun hc=>?_) fun hc=>?_)|exact kpd
     |((with_reducible first|refine ny ?_|refine t_kLF ?_ ?_|refine t_region fun K=>?_|refine t_cond fun A B=>?_|refine t_drawE (id:=20) (fun i=>i==0) [(0,1),(1,1),(2,1),(3,1),(4,1),(5,1),(6,1),(7,1),(8,1),(9,1),(10,1),(11,1),(12,1),(13,0),(14,1),(15,0),(16,1)] (by kernel_rfl) fun K=>?_|refine t_dw (h:=fun K=>?_));simp only [go_sem,geff,con77_f,con77_c,con71_f,con71_c,arrV_def,arrOf_agg,slK_sl,hS,spV_def,szV_def,aeV_def,n1,bne_self_eq_false])
     |simp only [thenQ,blockQ,scopeQ,Nat.reduceEqDiff,reduceIte]|(with_reducible first|refine And.intro ?_ ?_|intro vr))
    all_goals try exact om
    all_goals try exact ha
    all_goals try exact hr
    refine t_loop (ι:=Lc f own G) (fun i=>⟨upd (upd (upd (upd (upd (upd (upd (upd (upd topF 36 (.lit (.int .i64 i.i))) 35 (.lit (.int .i64 own.length))) 34 (.sl false 1 (ints .i64 own))) 12 (.lit (.int .i64 1))) 11 (.lit (.int .i64 i.k))) 9 (.sl false 1 (ints .i64 c))) 8 (.sl false 1 (ints .i64 f))) 6 (.ref 1 0)) 3 (.ref 0 0),[AObj.box 31 [.lit (.string a.e),.sl false 1 (ints .i64 a.d),.sl false 1 (ints .i64 a.x)],AObj.box 31 [AV.lit (Value.string ByteArray.empty),AV.sl true 1 [],AV.sl true 1 []]]⟩) (fun i=>own.length - i.i) ⟨0,0,by omega,by omega,by simp [prI],by simp,hG⟩ ?_ ?_
    ·skip
     (refine Le.frame ?_;repeat' (first|exact leF_top _|(with_reducible refine leF_sl ?_ ?_)|(refine leF_upd (LeR.of_eq ?_) ?_)))<;>(try (simp only [go_sem];try rfl))
    ·rintro ⟨i,k,hi,hk,hk',hp,hF⟩ K0
     rcases Nat.lt_or_ge i own.length with hc|hc
     ·have hcf:i<f.length:=by omega
      have g1:decide ((i:Int)<(own.length:Int))=true:=decide_eq_true (by omega)
      have g2:=ints_getD .i64 own i hc
      have g3:=ints_getD .i64 f i hcf
      have hnx:=prI_take_succ hcf
      have hb1:=hbd (i+1) (by omega)
      have htp:=take_pos hcf hp
      rw [drop_getD 0 hcf,drop_getD 0 hc,atS] at hF
      generalize own.getD i 0=n at g2 hF
      generalize f.getD i 0=d at g3 hF hnx htp
      by_cases n0:n<0
      ·have n0':decide (n<0)=true:=decide_eq_true n0
       rw [if_pos (.inl n0)] at hF
       subst hF
       repeat' (first
        |(with_reducible first|refine t_seq fun K=>?_|refine nx ?_|refine t_br (fun hc=>?_) fun hc=>?_)|exact kpd
        |((with_reducible first|refine ny ?_|refine t_kLF ?_ ?_|refine t_region fun K=>?_|refine t_cond fun A B=>?_|refine t_drawE (id:=20) (fun i=>i==0) [(0,1),(1,1),(2,1),(3,1),(4,1),(5,1),(6,1),(7,1),(8,1),(9,1),(10,1),(11,1),(12,1),(13,0),(14,1),(15,0),(16,1)] (by kernel_rfl) fun K=>?_|refine t_dw (h:=fun K=>?_));simp only [go_sem,geff,con77_f,con77_c,con71_f,con71_c,g1,g2,g3,n0',Int.toNat_natCast])
        |simp only [thenQ,blockQ,scopeQ,Nat.reduceEqDiff,reduceIte]|(with_reducible first|refine And.intro ?_ ?_|intro vr))
       all_goals try exact om
       refine end_ret rfl ?_
       simp only [fin,go_sem]
       exact nilAe_le
      ·have n0':decide (n<0)=false:=decide_eq_false n0
       by_cases n2:n≥d
       ·have n2':decide (n≥d)=true:=decide_eq_true n2
        rw [if_pos (.inr n2)] at hF
        subst hF
        repeat' (first
         |(with_reducible first|refine t_seq fun K=>?_|refine nx ?_|refine t_br (fun hc=>?_) fun hc=>?_)|exact kpd
         |((with_reducible first|refine ny ?_|refine t_kLF ?_ ?_|refine t_region fun K=>?_|refine t_cond fun A B=>?_|refine t_drawE (id:=20) (fun i=>i==0) [(0,1),(1,1),(2,1),(3,1),(4,1),(5,1),(6,1),(7,1),(8,1),(9,1),(10,1),(11,1),(12,1),(13,0),(14,1),(15,0),(16,1)] (by kernel_rfl) fun K=>?_|refine t_dw (h:=fun K=>?_));simp only [go_sem,geff,con77_f,con77_c,con71_f,con71_c,g1,g2,g3,n0',n2',Int.toNat_natCast])
         |simp only [thenQ,blockQ,scopeQ,Nat.reduceEqDiff,reduceIte]|(with_reducible first|refine And.intro ?_ ?_|intro vr))
        all_goals try exact om
        refine end_ret rfl ?_
        simp only [fin,go_sem]
        exact nilAe_le
       ·have n2':decide (n≥d)=false:=decide_eq_false n2
        rw [if_neg (by omega)] at hF
        have hst:=at_step hk hk' (show 0≤n by omega) (show n<d by omega)
        rw [hnx] at hb1
        generalize prI (f.take i)*d=pd at hb1 hst hnx
        repeat' (first
         |(with_reducible first|refine t_seq fun K=>?_|refine nx ?_|refine t_br (fun hc=>?_) fun hc=>?_)|exact kpd
         |((with_reducible first|refine ny ?_|refine t_kLF ?_ ?_|refine t_region fun K=>?_|refine t_cond fun A B=>?_|refine t_drawE (id:=20) (fun i=>i==0) [(0,1),(1,1),(2,1),(3,1),(4,1),(5,1),(6,1),(7,1),(8,1),(9,1),(10,1),(11,1),(12,1),(13,0),(14,1),(15,0),(16,1)] (by kernel_rfl) fun K=>?_|refine t_dw (h:=fun K=>?_));simp only [go_sem,geff,con77_f,con77_c,con71_f,con71_c,g1,g2,g3,n0',n2',Int.toNat_natCast])
         |simp only [thenQ,blockQ,scopeQ,Nat.reduceEqDiff,reduceIte]|(with_reducible first|refine And.intro ?_ ?_|intro vr))
        all_goals try exact om
        refine ⟨⟨i+1,k*d+n,by omega,by omega,by omega,htp (by omega),hF⟩,by simp only;omega,?_⟩
        (refine Le.frame ?_;repeat' (first|exact leF_top _|(with_reducible refine leF_sl ?_ ?_)|(refine leF_upd (LeR.of_eq ?_) ?_)))<;>(try (simp only [go_sem];try rfl))
     ·have g1:decide ((i:Int)<(own.length:Int))=false:=decide_eq_false (by omega)
      rw [List.drop_eq_nil_of_le hc,List.drop_eq_nil_of_le (by omega),atS] at hF
      ·subst hF
       rw [List.take_of_length_le (by omega)] at hk' hp
       obtain ⟨hcs,hc0,hkc,hkl,hxl,hO⟩:=cell_ok h0 hd hp hk hk'
       replace hO:=ofS_ok hO
       have hq:(a.x.take (k*prI c+prI c).toNat).drop (k*prI c).toNat=(a.x.drop (k*prI c).toNat).take (prI c).toNat:=by
         rw [List.drop_take];congr 1;omega
       simp only
       have hX:∀ j,j≤c.length→0≤prI (c.take j)∧prI (c.take j)≤1152921504606846976:=fun j hj=>by
         have:=part_bd hsz f.length j
         rwa [hd,List.drop_left] at this
       repeat' (first
        |(with_reducible first|refine t_seq fun K=>?_|refine nx ?_|refine t_br (fun hc=>?_) fun hc=>?_)|exact kpd
        |((with_reducible first|refine ny ?_|refine t_kLF ?_ ?_|refine t_region fun K=>?_|refine t_cond fun A B=>?_|refine t_drawE (id:=20) (fun i=>i==0) [(0,1),(1,1),(2,1),(3,1),(4,1),(5,1),(6,1),(7,1),(8,1),(9,1),(10,1),(11,1),(12,1),(13,0),(14,1),(15,0),(16,1)] (by kernel_rfl) fun K=>?_|refine t_dw (h:=fun K=>?_));simp only [go_sem,geff,con77_f,con77_c,con71_f,con71_c,arrV_def,arrOf_agg,slK_sl,hS,spV_def,szV_def,aeV_def,g1])
        |simp only [thenQ,blockQ,scopeQ,Nat.reduceEqDiff,reduceIte]|(with_reducible first|refine And.intro ?_ ?_|intro vr))
       all_goals try exact om
       refine t_loop (ι:={p:Nat×Int // p.1≤c.length∧p.2=prI (c.take p.1)}) (fun i=>⟨upd (upd (upd (upd (upd (upd (upd (upd topF 63 (.lit (.int .i64 i.1.1))) 62 (.lit (.int .i64 c.length))) 61 (.sl false 1 (ints .i64 c))) 12 (.lit (.int .i64 i.1.2))) 11 (.lit (.int .i64 k))) 9 (.sl false 1 (ints .i64 c))) 6 (.ref 1 0)) 3 (.ref 0 0),[AObj.box 31 [.lit (.string a.e),.sl false 1 (ints .i64 a.d),.sl false 1 (ints .i64 a.x)],AObj.box 31 [AV.lit (Value.string ByteArray.empty),AV.sl true 1 [],AV.sl true 1 []]]⟩) (fun i=>c.length - i.1.1) ⟨(0,1),by simp,by simp [prI]⟩ ?_ ?_
       ·skip
        (refine Le.frame ?_;repeat' (first|exact leF_top _|(with_reducible refine leF_sl ?_ ?_)|(refine leF_upd (LeR.of_eq ?_) ?_)))<;>(try (simp only [go_sem];try rfl))
       ·rintro ⟨⟨j,m⟩,hj,hmj⟩ K1
        simp only at hj hmj
        rcases Nat.lt_or_ge j c.length with hc|hc
        ·have g1:decide ((j:Int)<(c.length:Int))=true:=decide_eq_true (by omega)
         have g2:=ints_getD .i64 c j hc
         have hnx:=prI_take_succ hc
         have hX1:=hX (j+1) (by omega)
         rw [hnx,←hmj] at hX1
         rw [←hmj] at hnx
         generalize c.getD j 0=d at g2 hnx hX1
         repeat' (first
          |(with_reducible first|refine t_seq fun K=>?_|refine nx ?_|refine t_br (fun hc=>?_) fun hc=>?_)|exact kpd
          |((with_reducible first|refine ny ?_|refine t_kLF ?_ ?_|refine t_region fun K=>?_|refine t_cond fun A B=>?_|refine t_drawE (id:=20) (fun i=>i==0) [(0,1),(1,1),(2,1),(3,1),(4,1),(5,1),(6,1),(7,1),(8,1),(9,1),(10,1),(11,1),(12,1),(13,0),(14,1),(15,0),(16,1)] (by kernel_rfl) fun K=>?_|refine t_dw (h:=fun K=>?_));simp only [go_sem,geff,con77_f,con77_c,con71_f,con71_c,g1,g2,Int.toNat_natCast])
          |simp only [thenQ,blockQ,scopeQ,Nat.reduceEqDiff,reduceIte]|(with_reducible first|refine And.intro ?_ ?_|intro vr))
         all_goals try exact om
         refine ⟨⟨(j+1,m*d),by simp only;omega,hnx.symm⟩,by simp only;omega,?_⟩
         (refine Le.frame ?_;repeat' (first|exact leF_top _|(with_reducible refine leF_sl ?_ ?_)|(refine leF_upd (LeR.of_eq ?_) ?_)))<;>(try (simp only [go_sem];try rfl))
        ·have g1:decide ((j:Int)<(c.length:Int))=false:=decide_eq_false (by omega)
         rw [List.take_of_length_le hc] at hmj
         subst hmj
         repeat' (first
          |(with_reducible first|refine t_seq fun K=>?_|refine nx ?_|refine t_br (fun hc=>?_) fun hc=>?_)|exact kpd
          |((with_reducible first|refine ny ?_|refine t_kLF ?_ ?_|refine t_region fun K=>?_|refine t_cond fun A B=>?_|refine t_drawE (id:=20) (fun i=>i==0) [(0,1),(1,1),(2,1),(3,1),(4,1),(5,1),(6,1),(7,1),(8,1),(9,1),(10,1),(11,1),(12,1),(13,0),(14,1),(15,0),(16,1)] (by kernel_rfl) fun K=>?_|refine t_dw (h:=fun K=>?_));simp only [go_sem,geff,con77_f,con77_c,con71_f,con71_c,arrV_def,arrOf_agg,slK_sl,hS,spV_def,szV_def,aeV_def,g1,hq,List.length_take,List.length_drop])
          |simp only [thenQ,blockQ,scopeQ,Nat.reduceEqDiff,reduceIte]|(with_reducible first|refine And.intro ?_ ?_|intro vr))
         all_goals try exact om
         all_goals try exact trivial
         refine end_ret rfl ?_
         simp only [fin,go_sem]
         exact LeA.refl _
      ·intro _ _ _ _ h;cases h
   ·have n1:((own.length:Int) !=(f.length:Int))=true:=by rw [bne_iff_ne];omega
    rw [if_pos hn]
    refine pcO E19_ok (fun _=>[1,2,3,6,7,8,9,10,11,12,13,14,16,25,32,34,35,36,37,50,61,62,63,64]) Tryz.func56 (h:=fun KF=>?_)
    unfold E19
    repeat' (first
     |(with_reducible first|refine t_seq fun K=>?_|refine nx ?_|refine t_br (fun hc=>?_) fun hc=>?_)|exact kpd
     |((with_reducible first|refine ny ?_|refine t_kLF ?_ ?_|refine t_region fun K=>?_|refine t_cond fun A B=>?_|refine t_drawE (id:=20) (fun i=>i==0) [(0,1),(1,1),(2,1),(3,1),(4,1),(5,1),(6,1),(7,1),(8,1),(9,1),(10,1),(11,1),(12,1),(13,0),(14,1),(15,0),(16,1)] (by kernel_rfl) fun K=>?_|refine t_dw (h:=fun K=>?_));simp only [go_sem,geff,con77_f,con77_c,con71_f,con71_c,arrV_def,arrOf_agg,slK_sl,hS,spV_def,szV_def,aeV_def,n1,bne_self_eq_false])
     |simp only [thenQ,blockQ,scopeQ,Nat.reduceEqDiff,reduceIte]|(with_reducible first|refine And.intro ?_ ?_|intro vr))
    all_goals try exact om
    all_goals try exact ha
    all_goals try exact hr
    refine end_ret rfl ?_
    simp only [fin,go_sem]
    exact nilAe_le
  ·have e1:(er !=0)=true:=by rw [bne_iff_ne];exact e0
   rw [if_pos (by simpa using e0)]
   refine pcO E19_ok (fun _=>[1,2,3,6,7,8,9,10,11,12,13,14,16,25,32,34,35,36,37,50,61,62,63,64]) Tryz.func56 (h:=fun KF=>?_)
   unfold E19
   repeat' (first
    |(with_reducible first|refine t_seq fun K=>?_|refine nx ?_|refine t_br (fun hc=>?_) fun hc=>?_)|exact kpd
    |((with_reducible first|refine ny ?_|refine t_kLF ?_ ?_|refine t_region fun K=>?_|refine t_cond fun A B=>?_|refine t_drawE (id:=20) (fun i=>i==0) [(0,1),(1,1),(2,1),(3,1),(4,1),(5,1),(6,1),(7,1),(8,1),(9,1),(10,1),(11,1),(12,1),(13,0),(14,1),(15,0),(16,1)] (by kernel_rfl) fun K=>?_|refine t_dw (h:=fun K=>?_));simp only [go_sem,geff,con77_f,con77_c,con71_f,con71_c,arrV_def,arrOf_agg,slK_sl,hS,spV_def,szV_def,aeV_def,e1])
    |simp only [thenQ,blockQ,scopeQ,Nat.reduceEqDiff,reduceIte]|(with_reducible first|refine And.intro ?_ ?_|intro vr))
   all_goals try exact om
   all_goals try exact ha
   all_goals try exact hr
   refine end_ret rfl ?_
   simp only [fin,go_sem]
   exact nilAe_le
noncomputable def con56:PCon Tryz.prog where
  f:=56
  c:=fun
   |[xa,.lit (.int .i64 r),xown]=>match arrOf xa,slK .i64 xown with|some a,some own=>some (okA a∧inI64 r∧own.length≤1000000,aeV (cellS a r own))|_,_=>none
   |_=>none
  ok:=by
   intro args p r hc hp
   split at hc
   ·split at hc
    ·rename_i ha hown
     cases hc
     exact PC.weak ((fun hp:_∧_∧_=>cell_pc hp.1 hp.2.1 hp.2.2) hp) ⟨arrOf_le ha,LeA.refl _,slK_le hown,trivial⟩
    ·cases hc
   ·cases hc
  fk:=fk56
theorem con56_f:con56.f=56:=rfl
theorem con56_c {xa:AV} {r:Int} {xown:AV}:con56.c [xa,.lit (.int .i64 r),xown]=match arrOf xa,slK .i64 xown with|some a,some own=>some (okA a∧inI64 r∧own.length≤1000000,aeV (cellS a r own))|_,_=>none:=rfl
end Go.Proofs.YtcpjahmajkhchaaGreat

namespace Go.Proofs.YtcpjahmajkhchaaGreat
open Go Go.Fw
set_option maxRecDepth 20000
def eqA (a b:Arr):Bool:=eqS a.e b.e&&(decide (a.d=b.d)&&decide (a.x=b.x))
theorem eqA_refl (a:Arr):eqA a a=true:=by unfold eqA;rw [eqS_refl,dself,dself];rfl
noncomputable def E21:Env:=envOf (P:=Tryz.prog) zer (fun _=>false) (fun _=>false) [con26] []
theorem E21_ok:EnvOk Tryz.prog E21:=envOk zer_ok
set_option maxRecDepth 20000 in
set_option maxHeartbeats 1000000 in
theorem eqa_pc {a b:Arr} (ha:okA a):PC Tryz.prog 20 [arrV a,arrV b] (.lit (.bool (eqA a b))):=by
  have ha1:=ha.1
  have ha2:=ha.2
  unfold eqA
  by_cases h1:eqS a.e b.e=true
  ·by_cases h2:a.d=b.d
   ·have d2:decide (a.d=b.d)=true:=decide_eq_true h2
    rw [h1,d2]
    refine pcO E21_ok (fun _=>[2,3,4]) Tryz.func20 (h:=fun KF=>?_)
    unfold E21
    repeat' (first
     |(with_reducible first|refine t_seq fun K=>?_|refine nx ?_|refine t_br (fun hc=>?_) fun hc=>?_)|exact kpd
     |((with_reducible first|refine ny ?_|refine t_kLF ?_ ?_|refine t_region fun K=>?_|refine t_cond fun A B=>?_|refine t_dw (h:=fun K=>?_));simp only [go_sem,geff,con26_f,con26_c,arrV_def,slK_sl,h1,d2])
     |simp only [thenQ,blockQ,scopeQ,Nat.reduceEqDiff,reduceIte]|(with_reducible first|refine And.intro ?_ ?_|intro vr))
    all_goals try exact om
    refine end_ret rfl ?_
    simp only [fin,go_sem]
    exact LeA.refl _
   ·have d2:decide (a.d=b.d)=false:=decide_eq_false h2
    rw [h1,d2]
    refine pcO E21_ok (fun _=>[2,3,4]) Tryz.func20 (h:=fun KF=>?_)
    unfold E21
    repeat' (first
     |(with_reducible first|refine t_seq fun K=>?_|refine nx ?_|refine t_br (fun hc=>?_) fun hc=>?_)|exact kpd
     |((with_reducible first|refine ny ?_|refine t_kLF ?_ ?_|refine t_region fun K=>?_|refine t_cond fun A B=>?_|refine t_dw (h:=fun K=>?_));simp only [go_sem,geff,con26_f,con26_c,arrV_def,slK_sl,h1,d2])
     |simp only [thenQ,blockQ,scopeQ,Nat.reduceEqDiff,reduceIte]|(with_reducible first|refine And.intro ?_ ?_|intro vr))
    all_goals try exact om
    refine end_ret rfl ?_
    simp only [fin,go_sem]
    exact LeA.refl _
  ·have h1':eqS a.e b.e=false:=by simpa using h1
   rw [h1']
   refine pcO E21_ok (fun _=>[2,3,4]) Tryz.func20 (h:=fun KF=>?_)
   unfold E21
   repeat' (first
    |(with_reducible first|refine t_seq fun K=>?_|refine nx ?_|refine t_br (fun hc=>?_) fun hc=>?_)|exact kpd
    |((with_reducible first|refine ny ?_|refine t_kLF ?_ ?_|refine t_region fun K=>?_|refine t_cond fun A B=>?_|refine t_dw (h:=fun K=>?_));simp only [go_sem,geff,con26_f,con26_c,arrV_def,slK_sl,h1'])
    |simp only [thenQ,blockQ,scopeQ,Nat.reduceEqDiff,reduceIte]|(with_reducible first|refine And.intro ?_ ?_|intro vr))
   all_goals try exact om
   refine end_ret rfl ?_
   simp only [fin,go_sem]
   exact LeA.refl _
noncomputable def con20:PCon Tryz.prog where
  f:=20
  c:=fun
   |[xa,xb]=>match arrOf xa,arrOf xb with|some a,some b=>some (okA a,.lit (.bool (eqA a b)))|_,_=>none
   |_=>none
  ok:=by
   intro args p r hc hp
   split at hc
   ·split at hc
    ·rename_i ha hb
     cases hc
     exact PC.weak (eqa_pc hp) ⟨arrOf_le ha,arrOf_le hb,trivial⟩
    ·cases hc
   ·cases hc
  fk:=fk20
theorem con20_f:con20.f=20:=rfl
theorem con20_c {xa:AV} {xb:AV}:con20.c [xa,xb]=match arrOf xa,arrOf xb with|some a,some b=>some (okA a,.lit (.bool (eqA a b)))|_,_=>none:=rfl
theorem okA_nil:okA nilA:=⟨by simp [nilA],by simp [nilA]⟩
end Go.Proofs.YtcpjahmajkhchaaGreat

namespace Go.Proofs.YtcpjahmajkhchaaGreat
open Go Go.Fw
set_option maxRecDepth 20000
def digR:List Int→Int→List Int
  |[],_=>[]
  |d::t,o=>o.tmod d::digR t (o.tdiv d)
def idxS (d:List Int) (o:Int):List Int×Int:=if (sizeS d).2≠0 then ([],(sizeS d).2) else if o<0∨o≥(sizeS d).1 then ([],2) else ((digR d.reverse o).reverse,0)
def ixV (p:List Int×Int):AV:= .tup [.sl false 1 (ints .i64 p.1),.lit (.int .i64 p.2)]
theorem ixE_le {e:Int}:LeA (.tup [.lit (.slice none 0 0),.lit (.int .i64 e)]) (ixV ([],e)):=LeA.tup ⟨LeA.nil _ _,LeA.refl _,trivial⟩
theorem digR_len:∀ (l:List Int) (o:Int),(digR l o).length=l.length
  |[],_=>rfl
  |d::t,o=>by simp [digR,digR_len t]
theorem ints_set (l:List Int) (i:Nat) (v:Int):(ints .i64 l).set i (.lit (.int .i64 v))=ints .i64 (l.set i v):=by simp [ints,List.map_set]
theorem set_rep (m:Nat) (T:List Int) (v:Int):(List.replicate (m+1) 0++T).set m v=List.replicate m 0++v::T:=by
  rw [List.replicate_succ',List.append_assoc,List.set_append_right _ _ (by simp)]
  simp
theorem tdm {o d:Int} (ho:0≤o) (hd:1≤d):0≤o.tdiv d∧o.tdiv d≤o∧0≤o.tmod d∧o.tmod d<d:=by
  rw [Int.tdiv_eq_ediv_of_nonneg ho,Int.tmod_eq_emod_of_nonneg ho]
  exact ⟨Int.ediv_nonneg ho (by omega),Int.ediv_le_self _ ho,Int.emod_nonneg _ (by omega),Int.emod_lt_of_pos _ (by omega)⟩
theorem dims_pos {d:List Int} {n o:Int} (hS:sizeS d=(n,0)) (ho:0≤o) (hn:o<n):∀ x∈d,1≤x:=by
  obtain ⟨_,h2,h3,_⟩:=sizeS_ok hS
  exact not_any_zero h2 fun h=>by rw [h3,prI_zero h] at hn;omega
structure Li (d:List Int) (G:List Int) where
  i:Nat
  o:Int
  T:List Int
  hi:i≤d.length
  ho:0≤o∧o≤4096
  hT:T.length=i
  hF:(digR (d.reverse.drop i) o).reverse++T=G
noncomputable def E72:Env:=envOf (P:=Tryz.prog) zer (fun _=>false) (fun _=>false) [con69] []
theorem E72_ok:EnvOk Tryz.prog E72:=envOk zer_ok
set_option maxRecDepth 20000 in
set_option maxHeartbeats 4000000 in
theorem idx_pc {d:List Int} {o:Int} (hl:d.length≤1000000):PC Tryz.prog 110 [.sl false 1 (ints .i64 d),.lit (.int .i64 o)] (ixV (idxS d o)):=by
  unfold idxS
  generalize hS:sizeS d=s
  obtain ⟨n,er⟩:=s
  simp only
  by_cases e0:er=0
  ·subst e0
   rw [if_neg (by simp)]
   by_cases o1:o<0
   ·have o1':decide (o<0)=true:=decide_eq_true o1
    rw [if_pos (.inl o1)]
    refine pcO E72_ok (fun _=>[0,1,4,5,6,7,8,9,10,17,25,30,31,32]) Tryz.func110 (h:=fun KF=>?_)
    unfold E72
    repeat' (first
     |(with_reducible first|refine t_seq fun K=>?_|refine nx ?_|refine t_br (fun hc=>?_) fun hc=>?_)|exact kpd
     |((with_reducible first|refine ny ?_|refine t_kLF ?_ ?_|refine t_region fun K=>?_|refine t_cond fun A B=>?_|refine t_dw (h:=fun K=>?_));simp only [go_sem,geff,con69_f,con69_c,slK_sl,hS,szV_def,o1'])
     |simp only [thenQ,blockQ,scopeQ,Nat.reduceEqDiff,reduceIte]|(with_reducible first|refine And.intro ?_ ?_|intro vr))
    all_goals try exact om
    refine end_ret rfl ?_
    simp only [fin,go_sem]
    exact ixE_le
   ·have o1':decide (o<0)=false:=decide_eq_false o1
    by_cases o2:o≥n
    ·have o2':decide (o≥n)=true:=decide_eq_true o2
     rw [if_pos (.inr o2)]
     refine pcO E72_ok (fun _=>[0,1,4,5,6,7,8,9,10,17,25,30,31,32]) Tryz.func110 (h:=fun KF=>?_)
     unfold E72
     repeat' (first
      |(with_reducible first|refine t_seq fun K=>?_|refine nx ?_|refine t_br (fun hc=>?_) fun hc=>?_)|exact kpd
      |((with_reducible first|refine ny ?_|refine t_kLF ?_ ?_|refine t_region fun K=>?_|refine t_cond fun A B=>?_|refine t_dw (h:=fun K=>?_));simp only [go_sem,geff,con69_f,con69_c,slK_sl,hS,szV_def,o1',o2'])
      |simp only [thenQ,blockQ,scopeQ,Nat.reduceEqDiff,reduceIte]|(with_reducible first|refine And.intro ?_ ?_|intro vr))
     all_goals try exact om
     refine end_ret rfl ?_
     simp only [fin,go_sem]
     exact ixE_le
    ·have o2':decide (o≥n)=false:=decide_eq_false o2
     rw [if_neg (by omega)]
     have hn:=(sizeS_ok hS).2.2.2
     have hp:=dims_pos hS (by omega) (show o<n by omega)
     generalize hG:(digR d.reverse o).reverse=G
     refine pcO E72_ok (fun _=>[0,1,4,5,6,7,8,9,10,17,25,30,31,32]) Tryz.func110 (h:=fun KF=>?_)
     unfold E72
     repeat' (first
      |(with_reducible first|refine t_seq fun K=>?_|refine nx ?_|refine t_br (fun hc=>?_) fun hc=>?_)|exact kpd
      |((with_reducible first|refine ny ?_|refine t_kLF ?_ ?_|refine t_region fun K=>?_|refine t_cond fun A B=>?_|refine t_dw (h:=fun K=>?_));simp only [go_sem,geff,con69_f,con69_c,slK_sl,hS,szV_def,o1',o2',rep_ints,Int.toNat_natCast])
      |simp only [thenQ,blockQ,scopeQ,Nat.reduceEqDiff,reduceIte]|(with_reducible first|refine And.intro ?_ ?_|intro vr))
     all_goals try exact om
     refine t_loop (ι:=Li d G) (fun i=>⟨upd (upd (upd (upd (upd topF 8 (.arr 0 0)) 1 (.lit (.int .i64 i.o))) 0 (.sl false 1 (ints .i64 d))) 31 (.lit (.int .i64 i.i))) 30 (.lit (.int .i64 d.length)),[.arr 3 1 (ints .i64 (List.replicate (d.length - i.i) 0++i.T)) 0 false]⟩) (fun i=>d.length - i.i) ⟨0,o,[],by omega,by omega,rfl,by simpa using hG⟩ ?_ ?_
     ·skip
      (refine Le.frameS ?gs1 ?_;rotate_left;repeat' (first|exact leF_top _|(with_reducible refine leF_sl ?_ ?_)|(refine leF_upd (LeR.of_eq ?_) ?_)))<;>(try (simp only [go_sem];try rfl))
      all_goals (first|omega|simp)
     ·rintro ⟨i,v,T,hi,hv,hT,hF⟩ K0
      rcases Nat.lt_or_ge i d.length with hc|hc
      ·have g1:decide ((i:Int)<(d.length:Int))=true:=decide_eq_true (by omega)
       have hi1:((d.length:Int) - 1 - (i:Int)).toNat=d.length - 1 - i:=by omega
       have g2:=ints_getD .i64 d (d.length - 1 - i) (by omega)
       have hq:=hp _ (getD_mem 0 (show d.length - 1 - i<d.length by omega))
       have hrv:d.reverse.drop i=d.getD (d.length - 1 - i) 0::d.reverse.drop (i+1):=by
         rw [List.drop_eq_getElem_cons (by simpa using hc),List.getElem_reverse,List.getD_eq_getElem?_getD,List.getElem?_eq_getElem (by omega)]
         rfl
       rw [hrv,digR,List.reverse_cons,List.append_assoc] at hF
       generalize d.getD (d.length - 1 - i) 0=q at g2 hq hF
       have z1:(q==0)=false:=by rw [beq_eq_false_iff_ne];omega
       have ht:=tdm hv.1 hq
       have hst:(List.replicate (d.length - i) 0++T).set (d.length - 1 - i) (v.tmod q)=List.replicate (d.length - (i+1)) 0++v.tmod q::T:=by
         have:=set_rep (d.length - 1 - i) T (v.tmod q)
         rwa [show d.length - 1 - i+1=d.length - i by omega,show List.replicate (d.length - 1 - i) (0:Int)=List.replicate (d.length - (i+1)) 0 by congr 1;omega] at this
       have hln:(List.replicate (d.length - i) (0:Int)++T).length=d.length:=by simp [hT];omega
       repeat' (first
        |(with_reducible first|refine t_seq fun K=>?_|refine nx ?_|refine t_br (fun hc=>?_) fun hc=>?_)|exact kpd
        |((with_reducible first|refine ny ?_|refine t_kLF ?_ ?_|refine t_region fun K=>?_|refine t_cond fun A B=>?_|refine t_dw (h:=fun K=>?_));simp only [go_sem,geff,con69_f,g1,hi1,g2,z1,ints_set,hst,hln,ints_length,Int.toNat_natCast])
        |simp only [thenQ,blockQ,scopeQ,Nat.reduceEqDiff,reduceIte]|(with_reducible first|refine And.intro ?_ ?_|intro vr))
       all_goals try exact om
       refine ⟨⟨i+1,v.tdiv q,v.tmod q::T,by omega,by omega,by simp [hT],hF⟩,by simp only;omega,?_⟩
       (refine Le.frame ?_;repeat' (first|exact leF_top _|(with_reducible refine leF_sl ?_ ?_)|(refine leF_upd (LeR.of_eq ?_) ?_)))<;>(try (simp only [go_sem];try rfl))
      ·have g1:decide ((i:Int)<(d.length:Int))=false:=decide_eq_false (by omega)
       have:i=d.length:=by omega
       subst this
       rw [List.drop_eq_nil_of_le (by simp),digR] at hF
       simp only [List.reverse_nil,List.nil_append] at hF
       subst hF
       repeat' (first
        |(with_reducible first|refine t_seq fun K=>?_|refine nx ?_|refine t_br (fun hc=>?_) fun hc=>?_)|exact kpd
        |((with_reducible first|refine ny ?_|refine t_kLF ?_ ?_|refine t_region fun K=>?_|refine t_cond fun A B=>?_|refine t_dw (h:=fun K=>?_));simp only [go_sem,geff,con69_f,g1,Nat.sub_self,List.replicate_zero])
        |simp only [thenQ,blockQ,scopeQ,Nat.reduceEqDiff,reduceIte]|(with_reducible first|refine And.intro ?_ ?_|intro vr))
       refine end_ret rfl ?_
       simp only [fin,go_sem]
       exact LeA.refl _
  ·have e1:(er !=0)=true:=bne_iff_ne.2 e0
   rw [if_pos e0]
   refine pcO E72_ok (fun _=>[0,1,4,5,6,7,8,9,10,17,25,30,31,32]) Tryz.func110 (h:=fun KF=>?_)
   unfold E72
   repeat' (first
    |(with_reducible first|refine t_seq fun K=>?_|refine nx ?_|refine t_br (fun hc=>?_) fun hc=>?_)|exact kpd
    |((with_reducible first|refine ny ?_|refine t_kLF ?_ ?_|refine t_region fun K=>?_|refine t_cond fun A B=>?_|refine t_dw (h:=fun K=>?_));simp only [go_sem,geff,con69_f,con69_c,slK_sl,hS,szV_def,e1])
    |simp only [thenQ,blockQ,scopeQ,Nat.reduceEqDiff,reduceIte]|(with_reducible first|refine And.intro ?_ ?_|intro vr))
   all_goals try exact om
   refine end_ret rfl ?_
   simp only [fin,go_sem]
   exact ixE_le
noncomputable def E73:Env:=envOf (P:=Tryz.prog) zer (fun _=>false) (fun _=>false) [con50] []
theorem E73_ok:EnvOk Tryz.prog E73:=envOk zer_ok
set_option maxRecDepth 20000 in
set_option maxHeartbeats 4000000 in
theorem ridx_pc {d:List Int} {o:Int} (hl:d.length≤1000000):PC Tryz.prog 60 [.sl false 1 (ints .i64 d),.lit (.int .i64 o)] (ixV (idxS d o)):=by
  unfold idxS
  generalize hS:sizeS d=s
  obtain ⟨n,er⟩:=s
  simp only
  by_cases e0:er=0
  ·subst e0
   rw [if_neg (by simp)]
   by_cases o1:o<0
   ·have o1':decide (o<0)=true:=decide_eq_true o1
    rw [if_pos (.inl o1)]
    refine pcO E73_ok (fun _=>[0,1,4,5,6,7,8,9,16,24,32]) Tryz.func60 (h:=fun KF=>?_)
    unfold E73
    repeat' (first
     |(with_reducible first|refine t_seq fun K=>?_|refine nx ?_|refine t_br (fun hc=>?_) fun hc=>?_)|exact kpd
     |((with_reducible first|refine ny ?_|refine t_kLF ?_ ?_|refine t_region fun K=>?_|refine t_cond fun A B=>?_|refine t_dw (h:=fun K=>?_));simp only [go_sem,geff,con50_f,con50_c,slK_sl,hS,szV_def,o1'])
     |simp only [thenQ,blockQ,scopeQ,Nat.reduceEqDiff,reduceIte]|(with_reducible first|refine And.intro ?_ ?_|intro vr))
    all_goals try exact om
    refine end_ret rfl ?_
    simp only [fin,go_sem]
    exact ixE_le
   ·have o1':decide (o<0)=false:=decide_eq_false o1
    by_cases o2:o≥n
    ·have o2':decide (o≥n)=true:=decide_eq_true o2
     rw [if_pos (.inr o2)]
     refine pcO E73_ok (fun _=>[0,1,4,5,6,7,8,9,16,24,32]) Tryz.func60 (h:=fun KF=>?_)
     unfold E73
     repeat' (first
      |(with_reducible first|refine t_seq fun K=>?_|refine nx ?_|refine t_br (fun hc=>?_) fun hc=>?_)|exact kpd
      |((with_reducible first|refine ny ?_|refine t_kLF ?_ ?_|refine t_region fun K=>?_|refine t_cond fun A B=>?_|refine t_dw (h:=fun K=>?_));simp only [go_sem,geff,con50_f,con50_c,slK_sl,hS,szV_def,o1',o2'])
      |simp only [thenQ,blockQ,scopeQ,Nat.reduceEqDiff,reduceIte]|(with_reducible first|refine And.intro ?_ ?_|intro vr))
     all_goals try exact om
     refine end_ret rfl ?_
     simp only [fin,go_sem]
     exact ixE_le
    ·have o2':decide (o≥n)=false:=decide_eq_false o2
     rw [if_neg (by omega)]
     have hn:=(sizeS_ok hS).2.2.2
     have hp:=dims_pos hS (by omega) (show o<n by omega)
     generalize hG:(digR d.reverse o).reverse=G
     refine pcO E73_ok (fun _=>[0,1,4,5,6,7,8,9,16,24,32]) Tryz.func60 (h:=fun KF=>?_)
     unfold E73
     repeat' (first
      |(with_reducible first|refine t_seq fun K=>?_|refine nx ?_|refine t_br (fun hc=>?_) fun hc=>?_)|exact kpd
      |((with_reducible first|refine ny ?_|refine t_kLF ?_ ?_|refine t_region fun K=>?_|refine t_cond fun A B=>?_|refine t_dw (h:=fun K=>?_));simp only [go_sem,geff,con50_f,con50_c,slK_sl,hS,szV_def,o1',o2',rep_ints,Int.toNat_natCast])
      |simp only [thenQ,blockQ,scopeQ,Nat.reduceEqDiff,reduceIte]|(with_reducible first|refine And.intro ?_ ?_|intro vr))
     all_goals try exact om
     refine t_loop (ι:=Li d G) (fun i=>⟨upd (upd (upd (upd topF 8 (.arr 0 0)) 1 (.lit (.int .i64 i.o))) 0 (.sl false 1 (ints .i64 d))) 9 (.lit (.int .i64 ((d.length:Int) - 1 - i.i))),[.arr 3 1 (ints .i64 (List.replicate (d.length - i.i) 0++i.T)) 0 false]⟩) (fun i=>d.length - i.i) ⟨0,o,[],by omega,by omega,rfl,by simpa using hG⟩ ?_ ?_
     ·skip
      (refine Le.frameS ?gs2 ?_;rotate_left;repeat' (first|exact leF_top _|(with_reducible refine leF_sl ?_ ?_)|(refine leF_upd (LeR.of_eq ?_) ?_)))<;>(try (simp only [go_sem];try rfl))
      all_goals (first|omega|simp)
     ·rintro ⟨i,v,T,hi,hv,hT,hF⟩ K0
      rcases Nat.lt_or_ge i d.length with hc|hc
      ·have g1:decide ((d.length:Int) - 1 - (i:Int)≥0)=true:=decide_eq_true (by omega)
       have hi1:((d.length:Int) - 1 - (i:Int)).toNat=d.length - 1 - i:=by omega
       have g2:=ints_getD .i64 d (d.length - 1 - i) (by omega)
       have hq:=hp _ (getD_mem 0 (show d.length - 1 - i<d.length by omega))
       have hrv:d.reverse.drop i=d.getD (d.length - 1 - i) 0::d.reverse.drop (i+1):=by
         rw [List.drop_eq_getElem_cons (by simpa using hc),List.getElem_reverse,List.getD_eq_getElem?_getD,List.getElem?_eq_getElem (by omega)]
         rfl
       rw [hrv,digR,List.reverse_cons,List.append_assoc] at hF
       generalize d.getD (d.length - 1 - i) 0=q at g2 hq hF
       have z1:(q==0)=false:=by rw [beq_eq_false_iff_ne];omega
       have ht:=tdm hv.1 hq
       have hst:(List.replicate (d.length - i) 0++T).set (d.length - 1 - i) (v.tmod q)=List.replicate (d.length - (i+1)) 0++v.tmod q::T:=by
         have:=set_rep (d.length - 1 - i) T (v.tmod q)
         rwa [show d.length - 1 - i+1=d.length - i by omega,show List.replicate (d.length - 1 - i) (0:Int)=List.replicate (d.length - (i+1)) 0 by congr 1;omega] at this
       have hln:(List.replicate (d.length - i) (0:Int)++T).length=d.length:=by simp [hT];omega
       repeat' (first
        |(with_reducible first|refine t_seq fun K=>?_|refine nx ?_|refine t_br (fun hc=>?_) fun hc=>?_)|exact kpd
        |((with_reducible first|refine ny ?_|refine t_kLF ?_ ?_|refine t_region fun K=>?_|refine t_cond fun A B=>?_|refine t_dw (h:=fun K=>?_));simp only [go_sem,geff,con50_f,g1,hi1,g2,z1,ints_set,hst,hln,ints_length,Int.toNat_natCast])
        |simp only [thenQ,blockQ,scopeQ,Nat.reduceEqDiff,reduceIte]|(with_reducible first|refine And.intro ?_ ?_|intro vr))
       all_goals try exact om
       refine ⟨⟨i+1,v.tdiv q,v.tmod q::T,by omega,by omega,by simp [hT],hF⟩,by simp only;omega,?_⟩
       (refine Le.frame ?_;repeat' (first|exact leF_top _|(with_reducible refine leF_sl ?_ ?_)|(refine leF_upd (LeR.of_eq ?_) ?_)))<;>(try (simp only [go_sem];try rfl))
       omega
      ·have g1:decide ((d.length:Int) - 1 - (i:Int)≥0)=false:=decide_eq_false (by omega)
       have:i=d.length:=by omega
       subst this
       rw [List.drop_eq_nil_of_le (by simp),digR] at hF
       simp only [List.reverse_nil,List.nil_append] at hF
       subst hF
       repeat' (first
        |(with_reducible first|refine t_seq fun K=>?_|refine nx ?_|refine t_br (fun hc=>?_) fun hc=>?_)|exact kpd
        |((with_reducible first|refine ny ?_|refine t_kLF ?_ ?_|refine t_region fun K=>?_|refine t_cond fun A B=>?_|refine t_dw (h:=fun K=>?_));simp only [go_sem,geff,con50_f,g1,Nat.sub_self,List.replicate_zero])
        |simp only [thenQ,blockQ,scopeQ,Nat.reduceEqDiff,reduceIte]|(with_reducible first|refine And.intro ?_ ?_|intro vr))
       refine end_ret rfl ?_
       simp only [fin,go_sem]
       exact LeA.refl _
  ·have e1:(er !=0)=true:=bne_iff_ne.2 e0
   rw [if_pos e0]
   refine pcO E73_ok (fun _=>[0,1,4,5,6,7,8,9,16,24,32]) Tryz.func60 (h:=fun KF=>?_)
   unfold E73
   repeat' (first
    |(with_reducible first|refine t_seq fun K=>?_|refine nx ?_|refine t_br (fun hc=>?_) fun hc=>?_)|exact kpd
    |((with_reducible first|refine ny ?_|refine t_kLF ?_ ?_|refine t_region fun K=>?_|refine t_cond fun A B=>?_|refine t_dw (h:=fun K=>?_));simp only [go_sem,geff,con50_f,con50_c,slK_sl,hS,szV_def,e1])
    |simp only [thenQ,blockQ,scopeQ,Nat.reduceEqDiff,reduceIte]|(with_reducible first|refine And.intro ?_ ?_|intro vr))
   all_goals try exact om
   refine end_ret rfl ?_
   simp only [fin,go_sem]
   exact ixE_le
noncomputable def con60:PCon Tryz.prog where
  f:=60
  c:=fun
   |[xd,.lit (.int .i64 o)]=>match slK .i64 xd with|some d=>some (d.length≤1000000,ixV (idxS d o))|_=>none
   |_=>none
  ok:=by
   intro args p r hc hp
   split at hc
   ·split at hc
    ·rename_i hd
     cases hc
     exact PC.weak ((fun hp:_=>ridx_pc hp) hp) ⟨slK_le hd,LeA.refl _,trivial⟩
    ·cases hc
   ·cases hc
  fk:=fk60
theorem con60_f:con60.f=60:=rfl
theorem con60_c {xd:AV} {o:Int}:con60.c [xd,.lit (.int .i64 o)]=match slK .i64 xd with|some d=>some (d.length≤1000000,ixV (idxS d o))|_=>none:=rfl
end Go.Proofs.YtcpjahmajkhchaaGreat

namespace Go.Proofs.YtcpjahmajkhchaaGreat
open Go Go.Fw
set_option maxRecDepth 20000
set_option maxRecDepth 20000
def inds (fr:List Int) (k:Nat):List (List Int):=(List.range k).map fun j:Nat=>(idxS fr (j:Int)).1
def indicesS (fr:List Int):List (List Int)×Int:=if (sizeS fr).2≠0 then ([],(sizeS fr).2) else (inds fr (sizeS fr).1.toNat,0)
def inV (p:List (List Int)×Int):AV:= .tup [.sl false 1 (ils p.1),.lit (.int .i64 p.2)]
theorem inds_len (fr:List Int) (k:Nat):(inds fr k).length=k:=by simp [inds]
theorem ilsl_len (a:List (List Int)):(ils a).length=a.length:=by simp [ils]
attribute [go_sem] ils_app ilsl_len con60_f con60_c con50_f con50_c ixV szV inds_len
end Go.Proofs.YtcpjahmajkhchaaGreat

namespace Go.Proofs.YtcpjahmajkhchaaGreat
open Go Go.Fw
set_option maxRecDepth 20000
set_option maxRecDepth 20000
attribute [go_sem] con45_f con45_c arrOf_agg slK_sl
noncomputable def E75:Env:=envJ (P:=Tryz.prog) jk zer (fun _=>false) (fun _=>false) [con45] []
theorem E75_ok:EnvOk Tryz.prog E75:=envJOk zer_ok
theorem inval_pc {a:Arr} (h:okA a):PC Tryz.prog 79 [arrV a] (.lit (.bool (!(ofE a==0)))):=by
  obtain ⟨h1,h2⟩:=h
  simp only [arrV]
  refine pcR E75_ok (kp79) Tryz.func79 [.tmp 2] (h:=fun KF=>?_)
  unfold E75
  repeat' (first
   |(with_reducible first|refine t_seq fun K=>?_|refine nx ?_|refine t_br (fun hc=>?_) fun hc=>?_)|exact kpd
   |((with_reducible first|refine ny ?_|refine t_kLF ?_ ?_|refine t_region fun K=>?_|refine t_cond fun A B=>?_|refine t_dw (h:=fun K=>?_));(try (refine nh ?_;intro KL));simp only [go_sem,geff,kp79])
   |simp only [thenQ,blockQ,scopeQ,Nat.reduceEqDiff,reduceIte]|(with_reducible first|refine And.intro ?_ ?_|intro vr))
  all_goals try exact nd
  all_goals ((first|refine end_retE ?_|refine end_normE ?_);simp only [fin,go_sem])
  exact LeA.refl _
noncomputable def con79:PCon Tryz.prog where
  f:=79
  c:=fun
   |[xa]=>match arrOf xa with|some a=>some (okA a,.lit (.bool (!(ofE a==0))))|_=>none
   |_=>none
  ok:=by
   intro args p r hc hp
   split at hc
   ·split at hc
    ·rename_i ha
     cases hc
     exact PC.weak (inval_pc hp) ⟨arrOf_le ha,trivial⟩
    ·cases hc
   ·cases hc
  fk:=fk79
theorem con79_f:con79.f=79:=rfl
theorem con79_c {xa:AV}:con79.c [xa]=match arrOf xa with|some a=>some (okA a,.lit (.bool (!(ofE a==0))))|_=>none:=rfl
def idxA (p:Arr→Bool):List Arr→Int→Int
  |[],_=> -1
  |d::t,i=>if p d=true then i else idxA p t (i+1)
theorem idxA_any (p:Arr→Bool):∀ (l:List Arr) (i:Int),0≤i→decide (idxA p l i≥0)=l.any p
  |[],_,_=>rfl
  |d::t,i,hi=>by
   unfold idxA
   by_cases h:p d=true
   ·rw [if_pos h,List.any_cons,h,decide_eq_true hi];rfl
   ·rw [if_neg h,idxA_any p t (i+1) (by omega),List.any_cons]
    simp only [Bool.not_eq_true] at h
    rw [h];rfl
def invA (a:Arr):Bool:= !(ofE a==0)
noncomputable def E76:Env:=envJ (P:=Tryz.prog) jk zer (fun _=>false) (fun _=>false) [con79] []
theorem E76_ok:EnvOk Tryz.prog E76:=envJOk zer_ok
attribute [go_sem] con79_f con79_c
theorem idxa_pc {l:List Arr} (hl:l.length≤1000000) (hk:∀ a∈l,okA a):PC Tryz.prog 111 [.sl false 3 (arrs l),.fn (.func 79) [] []] (.lit (.int .i64 (idxA invA l 0))):=by
  generalize hR:idxA invA l 0=R
  refine pcR E76_ok (kp111) Tryz.func111 [.tmp 4] (h:=fun KF=>?_)
  unfold E76
  repeat' (first
   |(with_reducible first|refine t_seq fun K=>?_|refine nx ?_|refine t_br (fun hc=>?_) fun hc=>?_)|exact kpd
   |((with_reducible first|refine ny ?_|refine t_kLF ?_ ?_|refine t_region fun K=>?_|refine t_cond fun A B=>?_|refine t_dw (h:=fun K=>?_));(try (refine nh ?_;intro KL));simp only [go_sem,geff,kp111,arrs_length])
   |simp only [thenQ,blockQ,scopeQ,Nat.reduceEqDiff,reduceIte]|(with_reducible first|refine And.intro ?_ ?_|intro vr))
  all_goals try exact nd
  refine t_loopF (ι:={i:Nat // i≤l.length∧idxA invA (l.drop i) i=R}) (fun i=>[(8,.lit (.int .i64 i.1))]) (fun i=>[]) (fun i=>l.length - i.1) ⟨0,by omega,hR⟩ ?_ ?_
  ·simp only [updL_nil,updL_cons,delF_top,delF_upd,Nat.reduceEqDiff,reduceIte]
   refine Le.frameS (by first|rfl|(simp only [go_sem];try rfl)) ?_
   repeat' (first|exact leF_top _|exact (fun _=>LeR.refl _)|(with_reducible refine leF_sl ?_ ?_)|(refine leF_upd ?_ ?_))
   all_goals (first|exact LeR.top _|exact LeR.refl _|(refine LeR.of_eq ?_;(try simp only [go_sem]);try rfl)|((try simp only [go_sem]);try rfl))
  rintro ⟨i,hi,hF⟩ K0
  rcases Nat.lt_or_ge i l.length with hc|hc
  ·rw [drop_getD nilA hc,idxA] at hF
   have g3:decide ((i:Int)<(l.length:Int))=true:=decide_eq_true (by omega)
   have hm:okA (l.getD i nilA):=hk _ (getD_mem nilA hc)
   cases h4:(ofE (l.getD i nilA)==0) with
   |true=>
    rw [if_neg (by unfold invA;rw [h4];decide)] at hF
    repeat' (first
     |(with_reducible first|refine t_seq fun K=>?_|refine nx ?_|refine t_br (fun hc=>?_) fun hc=>?_)|exact kpd
     |((with_reducible first|refine ny ?_|refine t_kLF ?_ ?_|refine t_region fun K=>?_|refine t_cond fun A B=>?_|refine t_dw (h:=fun K=>?_));(try (refine nh ?_;intro KL));simp only [go_sem,geff,kp111,g3,Int.toNat_natCast,arrs_length,arrV,arrOf_agg,slK_sl,h4,Bool.not_true])
     |simp only [thenQ,blockQ,scopeQ,Nat.reduceEqDiff,reduceIte]|(with_reducible first|refine And.intro ?_ ?_|intro vr))
    all_goals try exact nd
    refine ⟨⟨i+1,by omega,by rw [←hF];congr 1⟩,by first|(simp only;omega)|omega,?_⟩
    simp only [updL_nil,updL_cons,delF_top,delF_upd,Nat.reduceEqDiff,reduceIte]
    refine Le.frameS (by first|rfl|(simp only [go_sem];try rfl)) ?_
    repeat' (first|exact leF_top _|exact (fun _=>LeR.refl _)|(with_reducible refine leF_sl ?_ ?_)|(refine leF_upd ?_ ?_))
    all_goals (first|exact LeR.top _|exact LeR.refl _|(refine LeR.of_eq ?_;(try simp only [go_sem]);try rfl)|((try simp only [go_sem]);try rfl))
   |false=>
    rw [if_pos (by unfold invA;rw [h4];decide)] at hF
    repeat' (first
     |(with_reducible first|refine t_seq fun K=>?_|refine nx ?_|refine t_br (fun hc=>?_) fun hc=>?_)|exact kpd
     |((with_reducible first|refine ny ?_|refine t_kLF ?_ ?_|refine t_region fun K=>?_|refine t_cond fun A B=>?_|refine t_dw (h:=fun K=>?_));(try (refine nh ?_;intro KL));simp only [go_sem,geff,kp111,g3,Int.toNat_natCast,arrs_length,arrV,arrOf_agg,slK_sl,h4,Bool.not_false])
     |simp only [thenQ,blockQ,scopeQ,Nat.reduceEqDiff,reduceIte]|(with_reducible first|refine And.intro ?_ ?_|intro vr))
    all_goals try exact nd
    all_goals ((first|refine end_retE ?_|refine end_normE ?_);simp only [fin,go_sem])
    exact LeA.of_eq (by rw [←hF])
  ·have g3:decide ((i:Int)<(l.length:Int))=false:=decide_eq_false (by omega)
   rw [List.drop_eq_nil_of_le (by omega),idxA] at hF
   repeat' (first
    |(with_reducible first|refine t_seq fun K=>?_|refine nx ?_|refine t_br (fun hc=>?_) fun hc=>?_)|exact kpd
    |((with_reducible first|refine ny ?_|refine t_kLF ?_ ?_|refine t_region fun K=>?_|refine t_cond fun A B=>?_|refine t_dw (h:=fun K=>?_));(try (refine nh ?_;intro KL));simp only [go_sem,geff,kp111,g3,Int.toNat_natCast,arrs_length])
    |simp only [thenQ,blockQ,scopeQ,Nat.reduceEqDiff,reduceIte]|(with_reducible first|refine And.intro ?_ ?_|intro vr))
   all_goals try exact nd
   all_goals ((first|refine end_retE ?_|refine end_normE ?_);simp only [fin,go_sem])
   exact LeA.of_eq (by rw [←hF])
noncomputable def con111:PCon Tryz.prog where
  f:=111
  c:=fun
   |[x,.fn (.func 79) [] []]=>match arrsOf x with|some l=>some (l.length≤1000000∧∀ a∈l,okA a,.lit (.int .i64 (idxA invA l 0)))|_=>none
   |_=>none
  ok:=by
   intro args p r hc hp
   split at hc
   ·split at hc
    ·rename_i hx
     cases hc
     exact PC.weak (idxa_pc hp.1 hp.2) ⟨arrsOf_le hx,LeA.refl _,trivial⟩
    ·cases hc
   ·cases hc
  fk:=fk111
theorem con111_f:con111.f=111:=rfl
theorem con111_c {x:AV}:con111.c [x,.fn (.func 79) [] []]=match arrsOf x with|some l=>some (l.length≤1000000∧∀ a∈l,okA a,.lit (.int .i64 (idxA invA l 0)))|_=>none:=rfl
attribute [go_sem] con111_f con111_c
noncomputable def E77:Env:=envJ (P:=Tryz.prog) jk zer (fun _=>false) (fun _=>false) [con111] []
theorem E77_ok:EnvOk Tryz.prog E77:=envJOk zer_ok
theorem anya_pc {l:List Arr} (hl:l.length≤1000000) (hk:∀ a∈l,okA a):PC Tryz.prog 78 [.sl false 3 (arrs l),.fn (.func 79) [] []] (.lit (.bool (l.any invA))):=by
  rw [←idxA_any invA l 0 (by omega)]
  refine pcR E77_ok (kp78) Tryz.func78 [.tmp 4] (h:=fun KF=>?_)
  unfold E77
  repeat' (first
   |(with_reducible first|refine t_seq fun K=>?_|refine nx ?_|refine t_br (fun hc=>?_) fun hc=>?_)|exact kpd
   |((with_reducible first|refine ny ?_|refine t_kLF ?_ ?_|refine t_region fun K=>?_|refine t_cond fun A B=>?_|refine t_dw (h:=fun K=>?_));(try (refine nh ?_;intro KL));simp only [go_sem,geff,kp78,arrsOf_sl])
   |simp only [thenQ,blockQ,scopeQ,Nat.reduceEqDiff,reduceIte]|(with_reducible first|refine And.intro ?_ ?_|intro vr))
  all_goals try exact nd
  all_goals try exact hk _ (by assumption)
  all_goals ((first|refine end_retE ?_|refine end_normE ?_);simp only [fin,go_sem])
  exact LeA.refl _
noncomputable def con78:PCon Tryz.prog where
  f:=78
  c:=fun
   |[x,.fn (.func 79) [] []]=>match arrsOf x with|some l=>some (l.length≤1000000∧∀ a∈l,okA a,.lit (.bool (l.any invA)))|_=>none
   |_=>none
  ok:=by
   intro args p r hc hp
   split at hc
   ·split at hc
    ·rename_i hx
     cases hc
     exact PC.weak (anya_pc hp.1 hp.2) ⟨arrsOf_le hx,LeA.refl _,trivial⟩
    ·cases hc
   ·cases hc
  fk:=fk78
theorem con78_f:con78.f=78:=rfl
theorem con78_c {x:AV}:con78.c [x,.fn (.func 79) [] []]=match arrsOf x with|some l=>some (l.length≤1000000∧∀ a∈l,okA a,.lit (.bool (l.any invA)))|_=>none:=rfl
attribute [go_sem] con78_f con78_c
end Go.Proofs.YtcpjahmajkhchaaGreat

set_option linter.unusedVariables false
namespace Go.Proofs
open Go.RowKit
set_option maxHeartbeats 2000000 in
set_option maxRecDepth 100000 in
theorem Tryz.grow_run (n:Nat) (h0:0<n) (h63:n≤1000000) (w:World):
    Calls Tryz.prog 112 #[.slice none 0 0,.int .i64 n] w fun e w'=>e= .returned (.slice (some ⟨w.heap.size,0,none⟩) 0 (grownCap w n 0 3))∧∃ cur,cur.size=grownCap w n 0 3∧w'=w.drew.alloc (.cells cur 3):=by
  obtain ⟨i0,hi,hz0,hz1,hz2⟩:=info_parts (show (Tryz.prog.info? 3).map (fun i=>(i.zero,i.size,i.bytes))=some (some (.int .i64 0),1,8) from by kernel_rfl)
  have h:=Lib.run_append_nil_zeros (P:=Tryz.prog) w 23 3 23 3 i0 (.int .i64 0) .i64 .i64 Tryz.underlying23 Tryz.underlying3 hi hz0 n h0 (by omega) (by omega) (by rw [hz2];omega)
  go_enter Tryz.func112,Tryz.ntmps112
  go_wp2_with (at_builtin;refine Lib.wpList_append_run _ rfl _ _ _ _ rfl _ _ rfl rfl _ _ h ?_)
  go_ret
  exact ⟨rfl,_,by have:=grownCap_ge w n 0 3;simp [size_zeroCells];omega,rfl⟩
set_option maxHeartbeats 2000000 in
set_option maxRecDepth 100000 in
theorem Tryz.grow_zero (w:World):Calls Tryz.prog 112 #[.slice none 0 0,.int .i64 0] w fun e w'=>e= .returned (.slice none 0 0)∧w'=w:=by
  go_enter Tryz.func112,Tryz.ntmps112
  go_wp2
  go_ret
  exact ⟨rfl,rfl⟩
namespace YtcpjahmajkhchaaGreat
open Go.Fw
theorem grow_ec {n:Nat} (h0:0<n) (hn:n≤1000000) {σ:List AObj} {k:AV→List AObj→Prop} (hk:k (.arr σ.length 0) (σ++[.arr 3 1 [] 0 false])):EC Tryz.prog 112 [.lit (.slice none 0 0),.lit (.int .i64 n)] σ k:=by
  intro cx G w vs hr hl
  obtain ⟨h1,h2⟩:=hl
  match vs,h1 with
  |[a,b],_=>
   have ha:=(show R G (.lit (.slice none 0 0)) a from h2 0 (by simp)).lit_inv
   have hb:=(show R G (.lit (.int .i64 n)) b from h2 1 (by simp)).lit_inv
   subst ha;subst hb
   refine (Tryz.grow_run n h0 hn w).mono ?_
   rintro e w' ⟨rfl,cur,hc,rfl⟩
   have hge:=grownCap_ge w n 0 3
   obtain ⟨G',g1,g2,g3⟩:=(hr.more (More.drawn w (w.drawn+1))).newArr 3 1 (xs:=[]) (cur:=cur) (cap:=grownCap w n 0 3) (fz:=(0,0)) ⟨by simp,by simp,by simp⟩ (by omega) (by simp) (grownCap_le_maxLen w n 0 3 (by unfold maxLen;omega)) (by omega) ⟨Nat.le_refl _,fun off _ h=>by simp at h⟩
   exact ⟨_,G',_,_,rfl,g1,g2,g3,hk⟩
theorem grow_ec0 {σ:List AObj} {k:AV→List AObj→Prop} (hk:k (.lit (.slice none 0 0)) σ):EC Tryz.prog 112 [.lit (.slice none 0 0),.lit (.int .i64 0)] σ k:=by
  intro cx G w vs hr hl
  obtain ⟨h1,h2⟩:=hl
  match vs,h1 with
  |[a,b],_=>
   have ha:=(show R G (.lit (.slice none 0 0)) a from h2 0 (by simp)).lit_inv
   have hb:=(show R G (.lit (.int .i64 0)) b from h2 1 (by simp)).lit_inv
   subst ha;subst hb
   refine (Tryz.grow_zero w).mono ?_
   rintro e w' ⟨rfl,rfl⟩
   exact ⟨_,G,_,_,rfl,Gh.le.refl G,hr,.clo _ _ (.lit _),hk⟩
end YtcpjahmajkhchaaGreat
end Go.Proofs

namespace Go.Proofs.YtcpjahmajkhchaaGreat
open Go Go.Fw
set_option maxRecDepth 20000
set_option maxRecDepth 20000
noncomputable def ecn112:ECon Tryz.prog where
  f:=112
  c:=fun args σ k=>match args with
   |[.lit (.slice none 0 0),.lit (.int .i64 n)]=>0≤n∧n≤1000000∧(n=0→k (.lit (.slice none 0 0)) σ)∧(n≠0→k (.arr σ.length 0) (σ++[.arr 3 1 [] 0 false]))
   |_=>False
  ok:=by
   intro args σ k h
   split at h
   ·rename_i n
    obtain ⟨m,rfl⟩:∃ m:Nat,n=m:=⟨n.toNat,by omega⟩
    rcases Nat.eq_zero_or_pos m with rfl|hm
    ·exact grow_ec0 (h.2.2.1 rfl)
    ·exact grow_ec hm (by omega) (h.2.2.2 (by omega))
   ·exact h.elim
  fk:=fk112
theorem ecn112_f:ecn112.f=112:=rfl
theorem ecn112_c {n:Int} {σ:List AObj} {k:AV→List AObj→Prop}:ecn112.c [.lit (.slice none 0 0),.lit (.int .i64 n)] σ k=(0≤n∧n≤1000000∧(n=0→k (.lit (.slice none 0 0)) σ)∧(n≠0→k (.arr σ.length 0) (σ++[.arr 3 1 [] 0 false]))):=rfl
attribute [go_sem] ecn112_f ecn112_c
noncomputable def E78:Env:=envJ (P:=Tryz.prog) jk zer (fun _=>false) (fun _=>false) [] [ecn112]
theorem E78_ok:EnvOk Tryz.prog E78:=envJOk zer_ok
theorem flat_take {L:List (List Int)} {i:Nat} (h:i<L.length):(L.take (i+1)).flatten=(L.take i).flatten++L.getD i []:=by
  rw [List.take_add_one,List.getElem?_eq_getElem h,List.getD_eq_getElem?_getD,List.getElem?_eq_getElem h,List.flatten_append];simp
theorem flat_le (L:List (List Int)) (i:Nat):(L.take i).flatten.length≤L.flatten.length:=by
  have h:L.flatten=(L.take i).flatten++(L.drop i).flatten:=by rw [←List.flatten_append,List.take_append_drop]
  rw [h,List.length_append];omega
set_option maxHeartbeats 4000000 in
theorem concat_pc {L:List (List Int)} (hl:L.flatten.length≤1000000) (hL:L.length≤1000000):PC Tryz.prog 80 [.sl false 1 (ils L)] (.sl false 1 (ints .i64 L.flatten)):=by
  refine pcR E78_ok (kp80) Tryz.func80 [.tmp 2] (h:=fun KF=>?_)
  unfold E78
  repeat' (first
   |(with_reducible first|refine t_seq fun K=>?_|refine nx ?_|refine t_br (fun hc=>?_) fun hc=>?_)|exact kpd
   |((with_reducible first|refine ny ?_|refine t_kLF ?_ ?_|refine t_region fun K=>?_|refine t_cond fun A B=>?_|refine t_dw (h:=fun K=>?_));(try (refine nh ?_;intro KL));simp only [go_sem,geff,kp80])
   |simp only [thenQ,blockQ,scopeQ,Nat.reduceEqDiff,reduceIte]|(with_reducible first|refine And.intro ?_ ?_|intro vr))
  all_goals try exact nd
  refine t_loopF (ι:={i:Nat // i≤L.length}) (fun i=>[(11,.lit (.int .i64 i.1)),(3,.lit (.int .i64 (L.take i.1).flatten.length))]) (fun i=>[]) (fun i=>L.length - i.1) ⟨0,by omega⟩ ?_ ?_
  ·simp only [updL_nil,updL_cons,delF_top,delF_upd,Nat.reduceEqDiff,reduceIte]
   refine Le.frameS (by first|rfl|(simp only [go_sem];try rfl)) ?_
   repeat' (first|exact leF_top _|exact (fun _=>LeR.refl _)|(with_reducible refine leF_sl ?_ ?_)|(refine leF_upd ?_ ?_))
   all_goals (first|exact LeR.top _|exact LeR.refl _|(refine LeR.of_eq ?_;(try simp only [go_sem]);try rfl)|((try simp only [go_sem]);try rfl))
  rintro ⟨i,hi⟩ K0
  rcases Nat.lt_or_ge i L.length with hc|hc
  ·have g3:decide ((i:Int)<(L.length:Int))=true:=decide_eq_true (by omega)
   have hf:=flat_take hc
   have hle:=flat_le L (i+1)
   have hlen:=congrArg List.length hf
   rw [List.length_append] at hlen
   have g8:((L.take i).flatten.length:Int)+((L.getD i []).length:Int)=((L.take (i+1)).flatten.length:Nat):=by omega
   have g9:decide ((((L.take (i+1)).flatten.length:Nat):Int)<0)=false:=decide_eq_false (by omega)
   repeat' (first
    |(with_reducible first|refine t_seq fun K=>?_|refine nx ?_|refine t_br (fun hc=>?_) fun hc=>?_)|exact kpd
    |((with_reducible first|refine ny ?_|refine t_kLF ?_ ?_|refine t_region fun K=>?_|refine t_cond fun A B=>?_|refine t_dw (h:=fun K=>?_));(try (refine nh ?_;intro KL));simp only [go_sem,geff,kp80,updL_cons,updL_nil,Int.toNat_natCast,g3,g8,g9])
    |simp only [thenQ,blockQ,scopeQ,Nat.reduceEqDiff,reduceIte]|(with_reducible first|refine And.intro ?_ ?_|intro vr))
   all_goals try exact nd
   refine ⟨⟨i+1,by omega⟩,by first|(simp only;omega)|omega,?_⟩
   simp only [updL_nil,updL_cons,delF_top,delF_upd,Nat.reduceEqDiff,reduceIte]
   refine Le.frameS (by first|rfl|(simp only [go_sem];try rfl)) ?_
   repeat' (first|exact leF_top _|exact (fun _=>LeR.refl _)|(with_reducible refine leF_sl ?_ ?_)|(refine leF_upd ?_ ?_))
   all_goals (first|exact LeR.top _|exact LeR.refl _|(refine LeR.of_eq ?_;(try simp only [go_sem]);try rfl)|((try simp only [go_sem]);try rfl))
  ·have g3:decide ((i:Int)<(L.length:Int))=false:=decide_eq_false (by omega)
   have e:L.take i=L:=List.take_of_length_le hc
   have z0:L.take 0=[]:=List.take_zero
   rcases Nat.eq_zero_or_pos L.flatten.length with ht|ht
   ·have g4:((L.flatten.length:Nat):Int)=0:=by omega
    repeat' (first
     |(with_reducible first|refine t_seq fun K=>?_|refine nx ?_|refine t_br (fun hc=>?_) fun hc=>?_)|exact kpd
     |((with_reducible first|refine ny ?_|refine t_kLF ?_ ?_|refine t_region fun K=>?_|refine t_cond fun A B=>?_|refine t_dw (h:=fun K=>?_));(try (refine nh ?_;intro KL));simp only [go_sem,geff,kp80,updL_cons,updL_nil,Int.toNat_natCast,g3,e,g4,true_imp_iff,ne_eq,not_true_eq_false,false_imp_iff])
     |simp only [thenQ,blockQ,scopeQ,Nat.reduceEqDiff,reduceIte]|(with_reducible first|refine And.intro ?_ ?_|intro vr))
    all_goals try exact nd
    refine t_loopF (ι:={p:Nat×Nat // p.1≤L.length}) (fun i=>[(27,.lit (.int .i64 i.1.1)),(6,.arr 0 i.1.2)]) (fun i=>[.arr 3 1 (ints .i64 (L.take i.1.1).flatten) i.1.2 false]) (fun i=>L.length - i.1.1) ⟨(0,0),by simp⟩ ?_ ?_
    ·refine (le_nil 6 3 1 rfl).trans ?_
     simp only [updL_nil,updL_cons,delF_top,delF_upd,Nat.reduceEqDiff,reduceIte]
     refine Le.frameS (by first|rfl|(simp only [go_sem];try rfl)) ?_
     repeat' (first|exact leF_top _|exact (fun _=>LeR.refl _)|(with_reducible refine leF_sl ?_ ?_)|(refine leF_upd ?_ ?_))
     all_goals (first|exact LeR.top _|exact LeR.refl _|(refine LeR.of_eq ?_;(try simp only [go_sem]);try rfl)|((try simp only [go_sem]);try rfl))
    rintro ⟨⟨i,ver⟩,hi⟩ K1
    simp only at hi
    rcases Nat.lt_or_ge i L.length with hc|hc
    ·have g3:decide ((i:Int)<(L.length:Int))=true:=decide_eq_true (by omega)
     have hf:=flat_take hc
     have hle:=flat_le L (i+1)
     have hlen:=congrArg List.length hf
     rw [List.length_append] at hlen
     repeat' (first
      |(with_reducible first|refine t_seq fun K=>?_|refine nx ?_|refine t_br (fun hc=>?_) fun hc=>?_)|exact kpd
      |((with_reducible first|refine ny ?_|refine t_kLF ?_ ?_|refine t_region fun K=>?_|refine t_cond fun A B=>?_|refine t_dw (h:=fun K=>?_));(try (refine nh ?_;intro KL));simp only [go_sem,geff,kp80,updL_cons,updL_nil,Int.toNat_natCast,g3,ints_append,←hf])
      |simp only [thenQ,blockQ,scopeQ,Nat.reduceEqDiff,reduceIte]|(with_reducible first|refine And.intro ?_ ?_|intro vr))
     all_goals try (first|(with_reducible assumption)|(intros;(try simp only [Bool.and_eq_true,Bool.or_eq_true,Bool.or_eq_false_iff,Bool.not_eq_true',Bool.not_eq_false',decide_eq_true_eq,decide_eq_false_iff_not,beq_iff_eq,beq_eq_false_iff_ne,bne_iff_ne,bne_eq_false_iff_eq,ne_eq,inI64,ints_length] at*)<;>omega)|(intros;(with_reducible first|refine impB_ofR ?_|refine and_ofB ?_ ?_)<;>with_reducible first|assumption|(refine impB_ofR ?_;assumption))|((try simp only [Bool.and_eq_true] at vr);simp only [impB,vr,Bool.or_true,Bool.true_or,Bool.and_self,Bool.not_true,Bool.not_false,Bool.and_true];done))
     refine ⟨⟨(i+1,ver+1),by simp only;omega⟩,by first|(simp only;omega)|omega,?_⟩
     simp only [updL_nil,updL_cons,delF_top,delF_upd,Nat.reduceEqDiff,reduceIte]
     refine Le.frameS (by first|rfl|(simp only [go_sem];try rfl)) ?_
     repeat' (first|exact leF_top _|exact (fun _=>LeR.refl _)|(with_reducible refine leF_sl ?_ ?_)|(refine leF_upd ?_ ?_))
     all_goals (first|exact LeR.top _|exact LeR.refl _|(refine LeR.of_eq ?_;(try simp only [go_sem]);try rfl)|((try simp only [go_sem]);try rfl))
    ·have g3:decide ((i:Int)<(L.length:Int))=false:=decide_eq_false (by omega)
     have e:L.take i=L:=List.take_of_length_le hc
     repeat' (first
      |(with_reducible first|refine t_seq fun K=>?_|refine nx ?_|refine t_br (fun hc=>?_) fun hc=>?_)|exact kpd
      |((with_reducible first|refine ny ?_|refine t_kLF ?_ ?_|refine t_region fun K=>?_|refine t_cond fun A B=>?_|refine t_dw (h:=fun K=>?_));(try (refine nh ?_;intro KL));simp only [go_sem,geff,kp80,updL_cons,updL_nil,Int.toNat_natCast,g3,e])
      |simp only [thenQ,blockQ,scopeQ,Nat.reduceEqDiff,reduceIte]|(with_reducible first|refine And.intro ?_ ?_|intro vr))
     all_goals try exact nd
     all_goals ((first|refine end_retE ?_|refine end_normE ?_);simp only [fin,go_sem])
     exact LeA.refl _
   ·have g4:(((L.flatten.length:Nat):Int)=0)=False:=eq_false (by omega)
    repeat' (first
     |(with_reducible first|refine t_seq fun K=>?_|refine nx ?_|refine t_br (fun hc=>?_) fun hc=>?_)|exact kpd
     |((with_reducible first|refine ny ?_|refine t_kLF ?_ ?_|refine t_region fun K=>?_|refine t_cond fun A B=>?_|refine t_dw (h:=fun K=>?_));(try (refine nh ?_;intro KL));simp only [go_sem,geff,kp80,updL_cons,updL_nil,Int.toNat_natCast,g3,e,g4,true_imp_iff,ne_eq,not_false_eq_true,false_imp_iff])
     |simp only [thenQ,blockQ,scopeQ,Nat.reduceEqDiff,reduceIte]|(with_reducible first|refine And.intro ?_ ?_|intro vr))
    all_goals try exact nd
    refine t_loopF (ι:={p:Nat×Nat // p.1≤L.length}) (fun i=>[(27,.lit (.int .i64 i.1.1)),(6,.arr 0 i.1.2)]) (fun i=>[.arr 3 1 (ints .i64 (L.take i.1.1).flatten) i.1.2 false]) (fun i=>L.length - i.1.1) ⟨(0,0),by simp⟩ ?_ ?_
    ·simp only [updL_nil,updL_cons,delF_top,delF_upd,Nat.reduceEqDiff,reduceIte]
     refine Le.frameS (by first|rfl|(simp only [go_sem];try rfl)) ?_
     repeat' (first|exact leF_top _|exact (fun _=>LeR.refl _)|(with_reducible refine leF_sl ?_ ?_)|(refine leF_upd ?_ ?_))
     all_goals (first|exact LeR.top _|exact LeR.refl _|(refine LeR.of_eq ?_;(try simp only [go_sem]);try rfl)|((try simp only [go_sem]);try rfl))
    rintro ⟨⟨i,ver⟩,hi⟩ K1
    simp only at hi
    rcases Nat.lt_or_ge i L.length with hc|hc
    ·have g3:decide ((i:Int)<(L.length:Int))=true:=decide_eq_true (by omega)
     have hf:=flat_take hc
     have hle:=flat_le L (i+1)
     have hlen:=congrArg List.length hf
     rw [List.length_append] at hlen
     repeat' (first
      |(with_reducible first|refine t_seq fun K=>?_|refine nx ?_|refine t_br (fun hc=>?_) fun hc=>?_)|exact kpd
      |((with_reducible first|refine ny ?_|refine t_kLF ?_ ?_|refine t_region fun K=>?_|refine t_cond fun A B=>?_|refine t_dw (h:=fun K=>?_));(try (refine nh ?_;intro KL));simp only [go_sem,geff,kp80,updL_cons,updL_nil,Int.toNat_natCast,g3,ints_append,←hf])
      |simp only [thenQ,blockQ,scopeQ,Nat.reduceEqDiff,reduceIte]|(with_reducible first|refine And.intro ?_ ?_|intro vr))
     all_goals try (first|(with_reducible assumption)|(intros;(try simp only [Bool.and_eq_true,Bool.or_eq_true,Bool.or_eq_false_iff,Bool.not_eq_true',Bool.not_eq_false',decide_eq_true_eq,decide_eq_false_iff_not,beq_iff_eq,beq_eq_false_iff_ne,bne_iff_ne,bne_eq_false_iff_eq,ne_eq,inI64,ints_length] at*)<;>omega)|(intros;(with_reducible first|refine impB_ofR ?_|refine and_ofB ?_ ?_)<;>with_reducible first|assumption|(refine impB_ofR ?_;assumption))|((try simp only [Bool.and_eq_true] at vr);simp only [impB,vr,Bool.or_true,Bool.true_or,Bool.and_self,Bool.not_true,Bool.not_false,Bool.and_true];done))
     refine ⟨⟨(i+1,ver+1),by simp only;omega⟩,by first|(simp only;omega)|omega,?_⟩
     simp only [updL_nil,updL_cons,delF_top,delF_upd,Nat.reduceEqDiff,reduceIte]
     refine Le.frameS (by first|rfl|(simp only [go_sem];try rfl)) ?_
     repeat' (first|exact leF_top _|exact (fun _=>LeR.refl _)|(with_reducible refine leF_sl ?_ ?_)|(refine leF_upd ?_ ?_))
     all_goals (first|exact LeR.top _|exact LeR.refl _|(refine LeR.of_eq ?_;(try simp only [go_sem]);try rfl)|((try simp only [go_sem]);try rfl))
    ·have g3:decide ((i:Int)<(L.length:Int))=false:=decide_eq_false (by omega)
     have e:L.take i=L:=List.take_of_length_le hc
     repeat' (first
      |(with_reducible first|refine t_seq fun K=>?_|refine nx ?_|refine t_br (fun hc=>?_) fun hc=>?_)|exact kpd
      |((with_reducible first|refine ny ?_|refine t_kLF ?_ ?_|refine t_region fun K=>?_|refine t_cond fun A B=>?_|refine t_dw (h:=fun K=>?_));(try (refine nh ?_;intro KL));simp only [go_sem,geff,kp80,updL_cons,updL_nil,Int.toNat_natCast,g3,e])
      |simp only [thenQ,blockQ,scopeQ,Nat.reduceEqDiff,reduceIte]|(with_reducible first|refine And.intro ?_ ?_|intro vr))
     all_goals try exact nd
     all_goals ((first|refine end_retE ?_|refine end_normE ?_);simp only [fin,go_sem])
     exact LeA.refl _
end Go.Proofs.YtcpjahmajkhchaaGreat

namespace Go.Fw
open Go Go.RowKit
variable {F:Fence} {n:Nat} {P:Program}
def SeqW {α:Type} (F:Fence) (n:Nat) (P:Program) (g:Nat) (lb:Array Value) (encs:α→Array Value) (Kp:World→World→Prop) (A:List α→α→World→World→Prop) (S:List α→Prop) (w:World):Prop:=
  ∀ (l:Nat) (J:List α→World→Prop) (W:World),Below w.heap.size w W→AbidesFrom W.heap.size J→
    (∀ pre x W0 W1,J pre W0→W0.grownBy W1 none→A pre x W0 W1→YieldAt F (n - 1) P l (encs x) W1 fun e W'=>e= .returned (.bool true)∧J (pre++[x]) W'∧Kp W1 W')→
    J [] W→CallsIn F n P g (#[.func (.yield l) #[] #[]]++lb) W fun e W'=>(∃ v,e= .returned v)∧∃ xs,S xs∧J xs W'
theorem wpIn_rangeW {α:Type} {g:Operand} {ps:Array Tmp} {assign body:Code} {Q:Exit→Act→World→Prop} {a:Act} {w:World}
    (hro:F.round=none) (h1:1≤n) {gf:Nat} {lb:Array Value} (hg:a.eval g= .func (.func gf) #[] lb) (hFg:F.fn gf) (eg:∀ args w,(callFunc gf args).run P w= .ok (.enter gf args) w)
    {encs:α→Array Value} {Kp:World→World→Prop} {A:List α→α→World→World→Prop} {S:List α→Prop} (hseq:SeqW F (n - 1) P gf lb encs Kp A S w)
    (hKp:∀ (W W':World) (o o':Obj),w.heap.size≤W.heap.size→W.heap[w.heap.size+1]? =some o→o.isCells=false→o.isWalk=false→
      KeepsOthers (W.putObj (w.heap.size+1) o') W'→∀ o2 o3,W'.heap[w.heap.size+1]? =some o2→o2.isCells=false→o2.isWalk=false→Kp (W.putObj (w.heap.size+1) o') W'→Kp W (W'.putObj (w.heap.size+1) o3))
    (hps:∀ x,(encs x).size=ps.size)
    (I:List α→World→Prop) (hI:OwnFrom w.heap.size I) (hA:∀ pre x W0,OwnFrom w.heap.size (fun (_:Unit)=>A pre x W0)) (h0:I [] w) (a₁:α→Act)
    (hassign:∀ (l:Nat) (x:α) (W:World) (K:Act→World→Prop),K (a₁ x) W→
      assign.wpIn (F.inRound l) (n - 1 - 1) P (Exit.then K (fun _ _ _=>False)) {tmps:=(ps.zip (encs x)).foldl (fun t (p,v)=>t.setIfInBounds p v) a.tmps,defers:=[]} W)
    (hbody:∀ (l:Nat) (pre:List α) (x:α) (W0 W:World),w.heap.size≤l→I pre W0→I pre W→W0.heap.size≤W.heap.size→(∀ p v,W0.cell? p=some v→W.cell? p=some v)→A pre x W0 W→
      body.wpIn (F.inRound l) (n - 1 - 1) P (fun e _ W'=>match e with|.normal=>KeepsOthers W W'∧Kp W W'∧I (pre++[x]) W'|_=>False) (a₁ x) W)
    (hdone:∀ (D:Nat) (xs:List α) (W:World),w.heap.size≤D→S xs→I xs W→W.heap[D]? =some (.deferred (some []))→Q .normal {a with defers:={target:= .collected D,args:= #[]}::a.defers} W):
    (Code.rangeFunc g ps assign body).wpIn F n P Q a w:=by
  refine wpIn_rangeFunc fun fn hfn=>?_
  rw [hro]
  let rec0:LoopState→Loop:=fun st=>{state:=st,pending:=none,fn,tmps:=a.tmps,params:=ps,assign,body,defers:=w.heap.size}
  let W1:=(w.alloc (.deferred (some []))).alloc (.loop (rec0 .ready))
  have hL1:W1.heap[w.heap.size+1]? =some (.loop (rec0 .ready)):=by
    have:=World.alloc_heap_new (w.alloc (.deferred (some []))) (.loop (rec0 .ready))
    rwa [World.size_alloc] at this
  have hK1:W1.heap[w.heap.size]? =some (.deferred (some [])):=(Below.heap_alloc _ _ _ (by simp)).trans (World.alloc_heap_new w _)
  have hb1:Below w.heap.size w W1:=((Below.refl _ w).alloc (Nat.le_refl _) _).alloc (by simp) _
  let B:List α→World→Prop:=fun pre W=>I pre W∧W.heap[w.heap.size+1]? =some (.loop (rec0 .ready))∧W.heap[w.heap.size]? =some (.deferred (some []))
  refine ⟨w.heap.size+1,[{target:= .collected w.heap.size,args:= #[]}],W1,{target:= .fn (.func gf) lb,args:= #[.func (.yield (w.heap.size+1)) #[] #[]]},W1,gf,
    #[.func (.yield (w.heap.size+1)) #[] #[]]++lb,W1,run_enterLoop_outer _ _ _ _ _,?_,?_,?_,fun _=>h1,?_⟩
  ·simp only [resolve,hg];simp [go_sem]
  ·intro f' hf';simp [Target.leads] at hf';subst hf';exact hFg
  ·simp [invoke,go_sem,eg]
  have hJ:AbidesFrom W1.heap.size B:=by
    rintro s A' B' row ⟨q1,q2,q3⟩ hgr hr
    have hnw:∀ r,row=some r→∃ o:Obj,A'.heap[r]? =some o∧o.isCells=false:=fun r e=>by
      obtain ⟨_,o,ho,hw⟩:=hr r e;exact ⟨o,ho,Obj.not_cells_of_walk hw⟩
    exact ⟨hI s A' B' row q1 hgr (fun r e=>⟨Nat.le_trans hb1.size (hr r e).1,(hnw r e)⟩),(grownBy_keeps hgr (fun r e=>(hr r e).2) q2 rfl).trans q2,(grownBy_keeps hgr (fun r e=>(hr r e).2) q3 rfl).trans q3⟩
  refine (hseq (w.heap.size+1) B W1 hb1 hJ ?_ ⟨hI.alloc _ (hI.alloc _ h0),hL1,hK1⟩).mono ?_
  ·rintro pre x W0 W ⟨hi0,hl0,hk0⟩ hgr ha
   obtain ⟨hi,hl,hk⟩:=hJ pre W0 W none ⟨hi0,hl0,hk0⟩ hgr (fun r e=>by cases e)
   have hlt:w.heap.size+1<W.heap.size:=(Array.getElem?_eq_some_iff.1 hl).1
   refine ⟨fn,_,assign,body,run_yield (P:=P) (args:=encs x) hl (hps x),roundIn_of_wpIn hfn (hassign _ x W _ ⟨_,run_beginRound hl rfl,?_⟩)⟩
   have hl2:(W.putObj (w.heap.size+1) (.loop (rec0 .busy))).heap[w.heap.size+1]? =some (.loop (rec0 .busy)):=World.putObj_heap_same hlt
   have hk2:(W.putObj (w.heap.size+1) (.loop (rec0 .busy))).heap[w.heap.size]? =some (.deferred (some [])):=(World.putObj_heap_other (by omega)).trans hk
   refine wpIn_mono (hbody _ pre x W0 _ (by omega) hi0 (hI.putObj _ hi (by omega) hl rfl) (by simpa using hgr.size) (fun p v hv=>cell_kept (cell_kept hv hgr (fun r e=>by cases e)) (grownBy_putObj' W _ _) (fun r e=>by cases e;exact ⟨_,hl,rfl⟩)) ((hA pre x W0).putObj (s:=()) _ ha (by omega) hl rfl)) ?_
   intro e a3 W3 hp
   cases e with
   |normal=>
    obtain ⟨hk3,hkp3,hi3⟩:=hp
    have hl3:=hk3.same _ _ hl2 rfl
    refine ⟨_,_,run_endRound (P:=P) none hl3,rfl,⟨hI.putObj _ hi3 (by omega) hl3 rfl,World.putObj_heap_same (Array.getElem?_eq_some_iff.1 hl3).1,(World.putObj_heap_other (by omega)).trans (hk3.same _ _ hk2 rfl)⟩,?_⟩
    exact hKp W W3 _ _ (by omega) hl rfl rfl hk3 _ _ hl3 rfl rfl hkp3
   |_=>exact hp.elim
  ·rintro e W2 ⟨⟨v,rfl⟩,xs,hS',hi,hl,hk⟩
   exact ⟨none,_,run_endLoop (P:=P) hl (by simp [rec0]),hdone _ xs _ (Nat.le_refl _) hS' (hI.putObj _ hi (by omega) hl rfl) ((World.putObj_heap_other (by omega)).trans hk)⟩
end Go.Fw

namespace Go.Proofs.YtcpjahmajkhchaaGreat
open Go Go.Fw Go.RowKit Go.Shelf
attribute [local go_sem] Oper.semAt_some
def CW (n0 n:Nat) (C:Nat→Nat→Option Value) (W:World):Nat→Nat→Option Value:=fun k o=>if k<n0 then C k o else if k<n then none else W.cell? ⟨k,o,none⟩
def KpX (n0 B:Nat) (W W':World):Prop:=Below n0 W W'∧∀ v,W.cell? ⟨B,0,none⟩=some v→W'.cell? ⟨B,0,none⟩=some v
theorem rc_tup2 {C:Nat→Nat→Option Value} {x y:AV} {v:Value} (h:RC C (.tup [x,y]) v):∃ a b,v= .tuple #[a,b]∧RC C x a∧RC C y b:=by
  cases h with
  |tup _ vs hl h=>
   match vs,hl with
   |[a,b],_=>exact ⟨a,b,rfl,h 0 (by simp),h 1 (by simp)⟩
theorem rc_lit {C:Nat→Nat→Option Value} {u v:Value} (h:RC C (.lit u) v):v=u:=by cases h;rfl
theorem more_grown {w w':World} (h:More w w'):w.grownBy w' none:=⟨h.os,h.tape,h.output,h.size,fun k hk _=>h.block k hk⟩
theorem RL_two {C:Nat→Nat→Option Value} {x y:AV} {a b:Value} (h:RC C x a) (h':RC C y b):RL C [x,y] [a,b]:=⟨rfl,fun i hi=>match i,hi with
  |0,_=>h
  |1,_=>h'⟩
theorem RL_one {C:Nat→Nat→Option Value} {x:AV} {a:Value} (h:RC C x a):RL C [x] [a]:=⟨rfl,fun i hi=>match i,hi with
  |0,_=>h⟩
theorem rc_CW {n0:Nat} {C C2:Nat→Nat→Option Value} {w wr w2:World} {x:AV} {v:Value} (h:RC C2 x v) (hC:∀ k o u,C k o=some u→k<n0∧w.cell? ⟨k,o,none⟩=some u)
    (hold:∀ k,k<wr.heap.size→∀ j,C2 k j=C k j) (hin:inW C2 w2) (hn:n0≤wr.heap.size):RC (CW n0 wr.heap.size C w2) x v:=by
  refine h.mono fun k o u hu=>?_
  unfold CW
  split
  ·rename_i hk
   rw [←hold k (by omega) o];exact hu
  ·split
   ·rename_i hk hk'
    rw [hold k hk' o] at hu
    exact absurd (hC k o u hu).1 hk
   ·exact hin k o u hu
theorem rc_slice {C:Nat→Nat→Option Value} {fl:Bool} {sz:Nat} {xs:List AV} {v:Value} (h:RC C (.sl fl sz xs) v):∃ a len cap,v= .slice a len cap:=by
  cases h with
  |nil=>exact ⟨_,_,_,rfl⟩
  |sl=>exact ⟨_,_,_,rfl⟩
def AX (n0:Nat) (C:Nat→Nat→Option Value) (fr:List Int) (m:Nat) (pre:List Value) (x:Value) (W0 W1:World):Prop:=
  pre.length<m∧RC (CW n0 W0.heap.size C W1) (.sl false 1 (ints .i64 (idxS fr pre.length).1)) x
set_option maxRecDepth 100000 in
set_option maxHeartbeats 2000000 in
theorem all1_seq {n n0 B m:Nat} {C:Nat→Nat→Option Value} {fr:List Int} {fv:Value} {w:World} (h1:1≤n) (hfr:fr.length≤1000000) (hS:sizeS fr=((m:Int),0)) (hm:m≤1000000) (hB:B<w.heap.size) (hn0:n0≤w.heap.size)
    (hb:w.cell? ⟨B,0,none⟩=some fv) (hf:RC C (.sl false 1 (ints .i64 fr)) fv) (hC:∀ k o u,C k o=some u→k<n0∧w.cell? ⟨k,o,none⟩=some u):
    SeqW Fence.wide n Tryz.prog 109 #[.pointer (some ⟨B,0,none⟩)] (fun x:Value=> #[x]) (KpX n0 B) (AX n0 C fr m) (fun xs=>xs.length=m) w:=by
  intro l J W hW hJ hY h0
  have hbW:W.cell? ⟨B,0,none⟩=some fv:=(hW.cell (p:=⟨B,0,none⟩) hB).trans hb
  have hCW:∀ W',Below n0 W W'→inW C W':=fun W' hb' k o u hu=>by
    obtain ⟨q1,q2⟩:=hC k o u hu
    exact (hb'.cell (p:=⟨k,o,none⟩) q1).trans ((hW.cell (p:=⟨k,o,none⟩) (show k<w.heap.size by omega)).trans q2)
  refine callsIn_of_wp Tryz.func109 rfl trivial ?_ rfl
  simp only [Tryz.ntmps109,List.size_toArray,List.length_cons,List.length_nil,Nat.reduceAdd,Nat.reduceSub,Array.replicate_succ,Array.replicate_zero,List.push_toArray,List.append_toArray,List.nil_append,List.cons_append]
  have c65:=(callsIn_wide (n:=n - 1)).2 (size_pc hfr C W [fv] (RL_one hf) (hCW W (Below.refl _ _)))
  rw [hS] at c65
  gi_wp2_with (refine ⟨trivial,?_⟩;gi_at_call 69;refine c65.mono ?_;rintro e w1 ⟨v,C',rfl,hle,hrc,hin,hmore,hold⟩;obtain ⟨a,b,rfl,ha,hb2⟩:=rc_tup2 hrc;obtain rfl:=rc_lit ha;obtain rfl:=rc_lit hb2)
  have hJ1:J [] w1:=hJ [] W w1 none h0 (more_grown hmore) (fun r e=>by cases e)
  have hb1:Below n0 W w1:=hmore.below.mono (Nat.le_trans hn0 hW.size)
  have hbox:w1.cell? ⟨B,0,none⟩=some fv:=hmore.cell hbW
  gi_loopw [14] (fun i wr=>∃ xs:List Value,i= .int .i64 xs.length∧xs.length≤m∧J xs wr∧wr.cell? ⟨B,0,none⟩=some fv∧Below n0 W wr) (fun i _=>m - (intOf i).toNat)
  case atStart=>exact ⟨[],rfl,Nat.zero_le _,hJ1,hbox,hb1⟩
  case round=>
    obtain ⟨xs,rfl,hk,hJs,hbx,hbl⟩:=hrel
    have hnr:n0≤wr.heap.size:=Nat.le_trans (Nat.le_trans hn0 hW.size) hbl.size
    by_cases hlt:xs.length<m
    ·have c95:=(callsIn_wide (n:=n - 1)).2 (idx_pc (o:=xs.length) hfr C wr [fv,.int .i64 xs.length] (RL_two hf (.lit _)) (hCW wr hbl))
     gi_wp2_with (refine ⟨trivial,?_⟩;gi_at_call 110;refine c95.mono ?_;rintro e w2 ⟨v,C2,rfl,hle2,hrc2,hin2,hmore2,hold2⟩;obtain ⟨x,e2,rfl,hx,he2⟩:=rc_tup2 hrc2;obtain rfl:=rc_lit he2;obtain ⟨fn,tmps,assign,body,hy,hR⟩:=hY xs x wr w2 hJs (more_grown hmore2) ⟨hlt,rc_CW hx hC hold2 hin2 hnr⟩)
     refine hR.mono ?_
     rintro e W3 ⟨rfl,hJ3,hk3⟩
     gi_wp2
     go_roundw
     case rel=>exact ⟨xs++[x],by simp,by simp;omega,hJ3,hk3.2 _ (hmore2.cell hbx),(hbl.trans (hmore2.below.mono hnr)).trans hk3.1⟩
     case measure=>simp [intOf];omega
    ·obtain rfl:xs.length=m:=by omega
     gi_wp2
     go_end0
     exact ⟨⟨_,rfl⟩,xs,rfl,hJs⟩
set_option maxHeartbeats 1000000 in
theorem all_in (n:Nat) (a:Option Addr) (len cap:Nat) (w:World):
    CallsIn Fence.wide n Tryz.prog 76 #[.slice a len cap] w fun e w'=>e= .returned (.func (.func 109) #[] #[.pointer (some ⟨w.heap.size,0,none⟩)])∧w'=w.alloc (.cells #[.slice a len cap] 23):=by
  refine callsIn_of_wp Tryz.func76 rfl trivial ?_ rfl
  simp only [Tryz.ntmps76,List.size_toArray,List.length_cons,List.length_nil,Nat.reduceAdd,Nat.reduceSub,Array.replicate_succ,Array.replicate_zero,List.push_toArray,List.append_toArray,List.nil_append,List.cons_append]
  gi_wp2
  go_ret
  exact ⟨rfl,rfl⟩
def IX (C:Nat→Nat→Option Value) (fr:List Int) (w1:World) (pre:List Value) (W:World):Prop:=
  Below w1.heap.size w1 W∧∃ v C',Boxed W w1.heap.size 50 v∧W.ownsRow w1.heap.size 23 1 v pre.length pre∧(v= .slice none 0 0 ↔ pre=[])∧v.ownBlock≠some (w1.heap.size+1)∧inW C' W∧(∀ k,k<w1.heap.size→∀ j,C' k j=C k j)∧(∀ j,C' w1.heap.size j=none)∧
    (∀ g,v.ownBlock=some g→∀ j,C' g j=none)∧∀ i,i<pre.length→RC C' (.sl false 1 (ints .i64 (idxS fr i).1)) (pre.getD i undef)
theorem ix_own {C:Nat→Nat→Option Value} {fr:List Int} {w1:World} {B:Nat} (hB:w1.heap.size≤B):OwnFrom B (IX C fr w1):=by
  rintro s W W' row ⟨hb,v,C',h1,h2,h3,h3',h4,h5⟩ hg hr
  refine ⟨hb.grown hg (by have:=h1.lt;omega) (fun k e=>Nat.le_trans hB (hr k e).1),v,C',h1.kept hg (fun e'=>?_),h2.kept hg ?_,h3,h3',fun k o u hu=>cell_kept (h4 k o u hu) hg (fun r e=>(hr r e).2),h5⟩
  ·obtain ⟨_,o,ho,hc⟩:=hr _ e'.symm
   rw [show W.heap[w1.heap.size]? =_ from h1] at ho;cases ho;cases hc
  ·rcases h2.2 with ⟨rfl,_⟩|⟨g,cap,cur,rfl,_,hgb,_⟩
   ·exact .inl rfl
   ·refine .inr fun e'=>?_
    obtain ⟨_,o,ho,hc⟩:=hr g (by simpa [Value.ownBlock] using e'.symm)
    rw [hgb] at ho;cases ho;cases hc
theorem ax_own {n0 B m:Nat} {C:Nat→Nat→Option Value} {fr:List Int} (pre:List Value) (x:Value) (W0:World):OwnFrom B (fun (_:Unit)=>AX n0 C fr m pre x W0):=by
  rintro s W W' row ⟨h1,h2⟩ hg hr
  refine ⟨h1,h2.mono fun k o u hu=>?_⟩
  unfold CW at hu ⊢
  split
  ·rename_i hk
   rwa [if_pos hk] at hu
  ·rename_i hk
   rw [if_neg hk] at hu
   split
   ·rename_i hk2
    rwa [if_pos hk2] at hu
   ·rename_i hk2
    rw [if_neg hk2] at hu
    exact cell_kept hu hg (fun r e=>(hr r e).2)
theorem info23:(Tryz.prog.info? 23).map (fun i=>(i.zero,i.size,i.bytes))=some (some (.slice none 0 0),1,24):=by kernel_rfl
theorem flat_ils:∀ (L:List (List Int)),flat (ils L)=ils L
  |[]=>rfl
  |l::L=>by
   show AV.cells (ilA l)++flat (ils L)=ilA l::ils L
   rw [flat_ils L];rfl
theorem getD_left {α:Type} {l:List α} {x d:α} {i:Nat} (h:i<l.length):(l++[x]).getD i d=l.getD i d:=by
  rw [List.getD_eq_getElem?_getD,List.getD_eq_getElem?_getD,List.getElem?_append_left h]
theorem getD_end {α:Type} {l:List α} {x d:α}:(l++[x]).getD l.length d=x:=by simp
set_option maxRecDepth 100000 in
set_option maxHeartbeats 2000000 in
theorem indices_pc {fr:List Int} (hfr:fr.length≤1000000):PC Tryz.prog 54 [.sl false 1 (ints .i64 fr)] (inV (indicesS fr)):=by
  intro C w vs hr hin
  obtain ⟨hl,hr⟩:=hr
  match vs,hl with
  |[fv],_=>
  have hf:RC C (.sl false 1 (ints .i64 fr)) fv:=hr 0 (by simp)
  have ⟨a,len,cap,hfv⟩:∃ a len cap,fv= .slice a len cap:=by
    exact rc_slice hf
  subst hfv
  obtain ⟨i0,hi,hz0,hz1,hz2⟩:=info_parts info23
  refine (callsIn_wide (n:=4)).1 ?_
  unfold indicesS
  generalize hS:sizeS fr=s
  obtain ⟨m,er⟩:=s
  simp only
  have c65:=(callsIn_wide (n:=4 - 1)).2 (size_pc hfr C w [.slice a len cap] (RL_one hf) hin)
  rw [hS] at c65
  by_cases e0:er=0
  ·subst e0
   obtain ⟨_,hdk,hpr,hm⟩:=sizeS_ok hS
   obtain ⟨m,rfl⟩:∃ k:Nat,m=k:=⟨m.toNat,by have:=prI_nonneg hdk;omega⟩
   clear hpr hdk
   rw [if_neg (by simp),Int.toNat_natCast]
   refine callsIn_of_wp_marks Tryz.func54 rfl trivial ?_ rfl
   simp only [Tryz.ntmps54,List.size_toArray,List.length_cons,List.length_nil,Nat.reduceAdd,Nat.reduceSub,Array.replicate_succ,Array.replicate_zero,List.push_toArray,List.append_toArray,List.nil_append,List.cons_append]
   gi_wp2_with (first|(refine ⟨trivial,?_⟩;gi_at_call 69;refine c65.mono ?_;clear c65;rintro e w1 ⟨v,C',rfl,_,hrc,_,hmore,_⟩;obtain ⟨a,b,rfl,ha,hb2⟩:=rc_tup2 hrc;obtain rfl:=rc_lit ha;obtain rfl:=rc_lit hb2;clear hrc ha hb2)|(refine ⟨trivial,?_⟩;gi_at_call 76;refine (all_in _ _ _ _ _).mono ?_;rintro e w2 ⟨rfl,rfl⟩))
   have hs:=hmore.size
   have hCd:∀ k o u,C k o=some u→k<w1.heap.size∧w1.cell? ⟨k,o,none⟩=some u:=fun k o u hu=>by
     have hc:=hmore.cell (hin k o u hu)
     exact ⟨World.block_lt_of_cell? w1 _ hc,hc⟩
   have bO:=Boxed.new w1 50 (.slice none 0 0)
   have bN:=Boxed.new (w1.alloc (.cells #[.slice none 0 0] 50)) 23 (.slice a len cap)
   rw [World.size_alloc] at bN
   have hB0:Below w1.heap.size w1 ((w1.alloc (.cells #[.slice none 0 0] 50)).alloc (.cells #[.slice a len cap] 23)):=((Below.refl _ w1).alloc (Nat.le_refl _) _).alloc (by simp) _
   refine wpIn_rangeW (n:=4) rfl (by omega) (gf:=109) (lb:= #[.pointer (some ⟨w1.heap.size+1,0,none⟩)]) rfl trivial (enters_of Tryz.func109 (by kernel_rfl) rfl)
     (all1_seq (by omega) hfr hS (by omega) (B:=w1.heap.size+1) (n0:=w1.heap.size) (by simp) (by simp;omega) bN.cell hf (fun k o u hu=>⟨(hCd k o u hu).1,(hB0.cell (p:=⟨k,o,none⟩) (hCd k o u hu).1).trans (hCd k o u hu).2⟩))
     ?hkp (fun _=>rfl) (IX C fr w1) (ix_own (by simp;omega)) (fun pre x W0=>ax_own pre x W0) ?h0
     (fun x=>{tmps:= #[.slice a len cap,undef,.slice none 0 0,.int .i64 0,.int .i64 m,.int .i64 0,.pointer (some ⟨w1.heap.size,0,none⟩),x,.tuple #[.int .i64 m,.int .i64 0],.slice a len cap,.tuple #[.int .i64 m,.int .i64 0],.int .i64 m,.int .i64 0,.int .i64 0,.bool false,undef,.slice a len cap,.func (.func 109) #[] #[.pointer (some ⟨w1.heap.size+1,0,none⟩)],x,undef,undef,undef,undef,undef],defers:=[]}) ?assign ?body ?done
   case hkp=>
     intro W W' o o' hs1 hl hc hw _ o2 o3 hl2 hc2 hw2 hk
     have q1:=belowK_b (n₀:=w1.heap.size) (w:=(w1.alloc (.cells #[.slice none 0 0] 50)).alloc (.cells #[.slice a len cap] 23)) (by simp;omega) W _ o o' (Nat.le_succ _) hl hc hw
     have q2:=belowK_b (n₀:=w1.heap.size) (w:=(w1.alloc (.cells #[.slice none 0 0] 50)).alloc (.cells #[.slice a len cap] 23)) (by simp;omega) W' _ o2 o3 (Nat.le_succ _) hl2 hc2 hw2
     refine ⟨(q1.trans hk.1).trans q2,fun v hv=>?_⟩
     exact cell_kept (hk.2 v (cell_kept hv (grownBy_putObj' W _ o') (fun r e=>by cases e;exact ⟨_,hl,hc⟩))) (grownBy_putObj' W' _ o3) (fun r e=>by cases e;exact ⟨_,hl2,hc2⟩)
   case h0=>
     refine ⟨hB0,.slice none 0 0,C,bO.alloc _,World.ownsRow_nil _ _ _ _,by simp,by simp [Value.ownBlock],fun k o u hu=>(hB0.cell (p:=⟨k,o,none⟩) (hCd k o u hu).1).trans (hCd k o u hu).2,fun _ _ _=>rfl,fun j=>?_,by simp [Value.ownBlock],by simp⟩
     cases h:C w1.heap.size j with
     |none=>rfl
     |some u=>exact absurd (hCd _ _ u h).1 (by omega)
   case assign=>
     intro l x W K hK
     gi_wp2
     exact hK
   case body=>
     rintro l pre x W0 W hl ⟨hb0,v0,C0,g1,g2,g3,g3',g4,g5,g6,g7,g8⟩ ⟨hb,v,C1,h1,h2,h3,_⟩ hsz hcell ⟨hlt,hx⟩
     obtain ⟨ax,nx,cx,rfl⟩:=rc_slice hx
     have ev:v0=v:=by
       have q1:=hcell _ _ g1.cell
       rw [h1.cell] at q1
       exact (Option.some.inj q1).symm
     subst ev
     have hc:=h1.cell
     have hwb:=hb.size
     gi_wp2_with (gi_at_builtin;refine wpListIn_append_own_at _ rfl _ _ 50 rfl w1.heap.size 23 i0 (.slice none 0 0) 1 24 u50 hi hz0 hz1 hz2 rfl (by decide) _ _ _ rfl (h2.alloc _) ⟨W.heap.size,0,none⟩ 1 1 [.slice ax nx cx] rfl rfl (cell_one_new _ _ _) (by simp [Value.oneCell']) (by unfold maxLen;omega) (by omega) (by simp;omega) ?_;intro v' w3 hown' hgrow _ hob;obtain ⟨g',cap',rfl⟩:=ownsRow_succ hown';obtain ⟨hv1,hv2,hr2,hk2,hb2⟩:=h1.appended (by decide) h2 hb.size (Nat.le_refl _) hown' hgrow;have hc1:=hv1.cell;have hf1:=hv1.frozen)
     have hgb:∀ g,v0.ownBlock=some g→g<W0.heap.size:=fun g e=>by
       rcases g2.2 with ⟨rfl,_⟩|⟨g',cap,cur,rfl,_,hgb,_⟩
       ·cases e
       ·obtain rfl:g'=g:=by simpa [Value.ownBlock] using e
        exact (Array.getElem?_eq_some_iff.1 hgb).1
     have hB0l:=g1.lt
     have hst:∀ k o u,k≠w1.heap.size→v0.ownBlock≠some k→W.cell? ⟨k,o,none⟩=some u→(w3.setCell ⟨w1.heap.size,0,none⟩ (.slice (some ⟨g',0,none⟩) (pre.length+1) cap')).cell? ⟨k,o,none⟩=some u:=fun k o u e1 e2 hu=>by
       have hk:=World.block_lt_of_cell? W _ hu
       have a1:(W.alloc (.cells #[.slice ax nx cx] 23)).cell? ⟨k,o,none⟩=some u:=(World.cell?_of_block (Below.heap_alloc W _ k hk)).trans hu
       have a2:w3.cell? ⟨k,o,none⟩=some u:=(World.cell?_of_block (hgrow.block k (by simp at hk ⊢;omega) (fun e=>e2 e.symm))).trans a1
       exact (World.cell?_of_block (Below.heap_setCell _ _ _ k e1)).trans a2
     have hkp:KpX w1.heap.size (w1.heap.size+1) W (w3.setCell ⟨w1.heap.size,0,none⟩ (.slice (some ⟨g',0,none⟩) (pre.length+1) cap')):=by
       exact ⟨hb2,fun u hu=>hst _ _ u (by omega) g3' hu⟩
     refine ⟨hkp,hb.trans hb2,_,fun k o=>if k<W0.heap.size then C0 k o else W.cell? ⟨k,o,none⟩,hv2,by simpa using hr2,by simp,?_,?_,?_,?_,?_,?_⟩
     ·rcases hob with e'|e'
      ·rw [e'];exact g3'
      ·rw [e'];simp;omega
     ·intro k o u hu
      simp only at hu
      split at hu
      ·refine hst k o u (fun e=>?_) (fun e=>?_) (hcell _ _ (g4 k o u hu))
       ·rw [e,g6] at hu;cases hu
       ·rw [g7 k e] at hu;cases hu
      ·rename_i hk
       refine hst k o u (by omega) (fun e=>?_) hu
       exact hk (hgb k e)
     ·intro k hk j
      simp only
      rw [if_pos (by omega)];exact g5 k hk j
     ·intro j
      simp only
      rw [if_pos hB0l];exact g6 j
     ·intro g e j
      simp only
      rcases hob with e'|e'
      ·rw [e'] at e
       rw [if_pos (hgb g e)];exact g7 g e j
      ·rw [e'] at e
       obtain rfl:=Option.some.inj e
       rw [if_neg (by simp;omega)]
       cases h:W.cell? ⟨(W.alloc (.cells #[.slice ax nx cx] 23)).heap.size,j,none⟩ with
       |none=>rfl
       |some u=>have:=World.block_lt_of_cell? W _ h;simp at this;omega
     ·intro i hi
      rw [List.length_append] at hi
      rcases Nat.lt_or_ge i pre.length with hc2|hc2
      ·rw [getD_left hc2]
       refine (g8 i hc2).mono fun k o u hu=>?_
       show (if k<W0.heap.size then C0 k o else W.cell? ⟨k,o,none⟩)=some u
       rw [if_pos (World.block_lt_of_cell? W0 _ (g4 k o u hu))];exact hu
      ·obtain rfl:i=pre.length:=by simp at hi;omega
       rw [getD_end]
       refine hx.mono fun k o u hu=>?_
       unfold CW at hu
       show (if k<W0.heap.size then C0 k o else W.cell? ⟨k,o,none⟩)=some u
       split at hu
       ·rw [if_pos (by omega),g5 k (by assumption) o];exact hu
       ·split at hu
        ·cases hu
        ·rename_i hk
         rw [if_neg hk];exact hu
   case done=>
     rintro D ys W hD hy ⟨hb,v,C',h1,h2,h3,h3',h4,h5,h6,h7,h8⟩ hK
     have hc:=h1.cell
     gi_wp2
     refine ⟨by simp,.inl ⟨_,_,rfl,run_takeDeferred hK,?_⟩⟩
     have hck:∀ p u,W.cell? p=some u→(W.putObj D (.deferred none)).cell? p=some u:=fun p u hu=>cell_kept hu (grownBy_putObj' W D _) (fun r e=>by cases e;exact ⟨_,hK,rfl⟩)
     have hbD:Below w1.heap.size w1 (W.putObj D (.deferred none)):=hb.trans (belowK_b (w:=w1) (Nat.le_refl _) W D _ _ (by simp at hD;omega) hK rfl rfl)
     refine ⟨_,results_tmp2 rfl _ _ _,.tuple #[v,.int .i64 0],fun k o=>if v.ownBlock=some k then W.cell? ⟨k,o,none⟩ else C' k o,rfl,?_,?_,?_,?_,?_⟩
     ·intro k o u hu
      have hk:=(hCd k o u hu).1
      have e:=h5 k hk o
      show (if v.ownBlock=some k then W.cell? ⟨k,o,none⟩ else C' k o)=some u
      rw [if_neg (fun e'=>by rw [h7 k e' o,hu] at e;cases e),e];exact hu
     ·have hCC:CLe C' (fun k o=>if v.ownBlock=some k then W.cell? ⟨k,o,none⟩ else C' k o):=fun k o u hu=>by
        show (if v.ownBlock=some k then W.cell? ⟨k,o,none⟩ else C' k o)=some u
        rw [if_neg (fun e'=>by rw [h7 k e' o] at hu;cases hu)];exact hu
      unfold inV
      refine RC.tup _ [v,.int .i64 0] rfl fun i hi=>?_
      match i,hi with
      |1,_=>exact .lit _
      |0,_=>
       show RC _ (.sl false 1 (ils (inds fr m))) v
       rcases h2.2 with ⟨rfl,h0⟩|⟨g,cap,cur,rfl,hg1,hg2,hg3,hg4,hg5,hg6⟩
       ·rw [hy] at h0
        subst h0
        exact .nil _ _ _
       ·have hlen:ys.length=(ils (inds fr m)).length:=by rw [ils_length,inds_len,hy]
        have hget:∀ j,j<ys.length→cur[j]? =some (ys.getD j undef):=fun j hj=>by
          have:cur.toList[j]? =some (ys.getD j undef):=by
            rw [←hg6] at hj ⊢
            rw [List.length_take] at hj
            rw [List.getD_eq_getElem?_getD,List.getElem?_take_of_lt (by omega),List.getElem?_eq_getElem (by omega)];rfl
          simpa using this
        rw [hlen]
        refine .sl false 1 _ g 0 cap (fun j=>ys.getD j undef) (by omega) hg4 (by simp) ?_ ?_ ?_ ?_
        ·intro x hx
         obtain ⟨l,_,rfl⟩:=List.mem_map.1 hx;rfl
        all_goals (intro j hj;rw [flat_ils,←hlen] at hj)
        ·show (if (Value.slice (some ⟨g,0,none⟩) ys.length cap).ownBlock=some g then W.cell? ⟨g,0+j,none⟩ else C' g (0+j))=_
         rw [if_pos (show (Value.slice (some ⟨g,0,none⟩) ys.length cap).ownBlock=some g from rfl),Nat.zero_add]
         simp [World.cell?,hg2,hget j hj]
        ·obtain ⟨a,b,c,e⟩:=rc_slice (h8 j hj)
         rw [e];rfl
        ·rw [flat_ils,ils_getD _ _ (by rw [inds_len];omega)]
         have e:(inds fr m).getD j []=(idxS fr j).1:=by simp [inds,List.getD,show j<m by omega]
         rw [e]
         exact (h8 j hj).mono hCC
     ·intro k o u hu
      simp only at hu
      split at hu
      ·exact hck _ _ hu
      ·exact hck _ _ (h4 k o u hu)
     ·exact hmore.trans (More.of_below hbD)
     ·intro k hk j
      show (if v.ownBlock=some k then W.cell? ⟨k,j,none⟩ else C' k j)=C k j
      rw [if_neg,h5 k (by omega)]
      intro e
      rcases h2.2 with ⟨rfl,_⟩|⟨g,cap,cur,rfl,hg1,_⟩
      ·cases e
      ·obtain rfl:g=k:=by simpa [Value.ownBlock] using e
       omega
  ·have e1:er≠0:=e0
   rw [if_pos e0]
   refine callsIn_of_wp_marks Tryz.func54 rfl trivial ?_ rfl
   simp only [Tryz.ntmps54,List.size_toArray,List.length_cons,List.length_nil,Nat.reduceAdd,Nat.reduceSub,Array.replicate_succ,Array.replicate_zero,List.push_toArray,List.append_toArray,List.nil_append,List.cons_append]
   gi_wp2_with (refine ⟨trivial,?_⟩;gi_at_call 69;refine c65.mono ?_;clear c65;rintro e w1 ⟨v,C',rfl,_,hrc,_,hmore,_⟩;obtain ⟨a,b,rfl,ha,hb2⟩:=rc_tup2 hrc;obtain rfl:=rc_lit ha;obtain rfl:=rc_lit hb2;clear hrc ha hb2)
   refine ⟨_,results_tmp2 rfl _ _ _,.tuple #[.slice none 0 0,.int .i64 er],C,rfl,CLe.refl _,?_,fun k o u hu=>hmore.cell (hin k o u hu),hmore,fun _ _ _=>rfl⟩
   unfold inV
   refine RC.tup _ [.slice none 0 0,.int .i64 er] rfl fun i hi=>?_
   match i,hi with
   |1,_=>exact .lit _
   |0,_=>exact .nil _ _ _
end Go.Proofs.YtcpjahmajkhchaaGreat

namespace Go.Proofs.YtcpjahmajkhchaaGreat
open Go Go.Fw
set_option maxRecDepth 20000
set_option maxRecDepth 20000
theorem ilsOf_two {b:Bool} {x y:List Int}:ilsOf (.sl b 1 [.sl false 1 (ints .i64 x),.sl false 1 (ints .i64 y)])=some [x,y]:=ilsOf_sl (b:=b) (l:=[x,y])
theorem flat_two {x y:List Int}:[x,y].flatten=x++y:=by simp
noncomputable def con80:PCon Tryz.prog where
  f:=80
  c:=fun
   |[xL]=>match ilsOf xL with|some L=>some (L.flatten.length≤1000000∧L.length≤1000000,.sl false 1 (ints .i64 L.flatten))|_=>none
   |_=>none
  ok:=by
   intro args p r hc hp
   split at hc
   ·split at hc
    ·rename_i hL
     cases hc
     exact PC.weak ((fun hp:_∧_=>concat_pc hp.1 hp.2) hp) ⟨ilsOf_le hL,trivial⟩
    ·cases hc
   ·cases hc
  fk:=fk80
theorem con80_f:con80.f=80:=rfl
theorem con80_c {xL:AV}:con80.c [xL]=match ilsOf xL with|some L=>some (L.flatten.length≤1000000∧L.length≤1000000,.sl false 1 (ints .i64 L.flatten))|_=>none:=rfl
theorem ae_of {e:ByteArray} {x y:AV} {n:Int} {d w:List Int} {r:Arr×Int} (hx:slK .i64 x=some d) (hy:slK .i64 y=some w) (h:r=(⟨e,d,w⟩,n)):LeA (.tup [.agg [.lit (.string e),x,y],.lit (.int .i64 n)]) (aeV r):=by
  subst h
  exact LeA.tup ⟨LeA.agg ⟨LeA.refl _,slK_le hx,slK_le hy,trivial⟩,LeA.refl _,trivial⟩
def jnG (sm:Arr):List Arr→List Int→List Int×Int
  |[],acc=>(acc,0)
  |c::t,acc=>if (!(eqS c.e sm.e))=true then ([],12) else if decide (c.d=sm.d)=false then ([],14) else jnG sm t (acc++c.x)
def joinS (fr:List Int) (L:List Arr) (sm:Arr):Arr×Int:=
  if (!(ofE sm==0)||L.any invA)=true then (nilA,1) else if (sizeS fr).2≠0 then (nilA,(sizeS fr).2) else if (L.length:Int)≠(sizeS fr).1 then (nilA,1) else
   if (jnG sm L []).2≠0 then (nilA,(jnG sm L []).2) else if (sizeS (fr++sm.d)).2≠0 then (nilA,(sizeS (fr++sm.d)).2) else (⟨sm.e,fr++sm.d,(jnG sm L []).1⟩,0)
structure Jl (sm:Arr) (L:List Arr) (G:List Int×Int) where
  i:Nat
  v:Nat
  acc:List Int
  hi:i≤L.length
  ha:acc.length≤i*4096
  hF:jnG sm (L.drop i) acc=G
attribute [go_sem] con45_f con45_c con69_f con69_c con80_f con80_c con81_f con81_c arrOf_agg slK_sl ilsOf_two flat_two szV_def
noncomputable def E79:Env:=envJ (P:=Tryz.prog) jk zer (fun _=>false) (fun _=>false) [con45,con69,con78,con80,con81] []
theorem E79_ok:EnvOk Tryz.prog E79:=envJOk zer_ok
set_option maxHeartbeats 4000000 in
theorem join_pc {fr:List Int} {L:List Arr} {sm:Arr} (hfr:fr.length≤1000000) (hL:L.length≤1000000) (ho:∀ a∈L,okA a) (hs:okA sm):PC Tryz.prog 57 [.sl false 1 (ints .i64 fr),.sl false 3 (arrs L),arrV sm] (aeV (joinS fr L sm)):=by
  generalize hR:joinS fr L sm=R
  unfold joinS at hR
  obtain ⟨s1,s2⟩:=hs
  cases h1:(ofE sm==0) with
  |false=>
   rw [if_pos (by simp [h1])] at hR
   simp only [arrV]
   refine pcR E79_ok (kp57) Tryz.func57 [.cell 6 31,.tmp 7] (h:=fun KF=>?_)
   unfold E79
   repeat' (first
    |(with_reducible first|refine t_seq fun K=>?_|refine nx ?_|refine t_br (fun hc=>?_) fun hc=>?_)|exact kpd
    |((with_reducible first|refine ny ?_|refine t_kLF ?_ ?_|refine t_region fun K=>?_|refine t_cond fun A B=>?_|refine t_drawE (id:=8) (fun i=>i==0) [(0,1),(1,1),(2,1),(3,1),(4,1),(5,1),(6,1),(7,1),(8,0),(9,0)] (by kernel_rfl) fun K=>?_|refine t_dw (h:=fun K=>?_));(try (refine nh ?_;intro KL));simp only [go_sem,geff,kp57,h1,Bool.not_false])
    |simp only [thenQ,blockQ,scopeQ,Nat.reduceEqDiff,reduceIte]|(with_reducible first|refine And.intro ?_ ?_|intro vr))
   all_goals try exact nd
   all_goals ((first|refine end_retE ?_|refine end_normE ?_);simp only [fin,go_sem])
   exact ae_of rfl rfl hR.symm
  |true=>
   simp only [h1,Bool.not_true,Bool.false_or] at hR
   cases h2:L.any invA with
   |true=>
    rw [if_pos h2] at hR
    simp only [arrV]
    refine pcR E79_ok (kp57) Tryz.func57 [.cell 6 31,.tmp 7] (h:=fun KF=>?_)
    unfold E79
    repeat' (first
     |(with_reducible first|refine t_seq fun K=>?_|refine nx ?_|refine t_br (fun hc=>?_) fun hc=>?_)|exact kpd
     |((with_reducible first|refine ny ?_|refine t_kLF ?_ ?_|refine t_region fun K=>?_|refine t_cond fun A B=>?_|refine t_drawE (id:=8) (fun i=>i==0) [(0,1),(1,1),(2,1),(3,1),(4,1),(5,1),(6,1),(7,1),(8,0),(9,0)] (by kernel_rfl) fun K=>?_|refine t_dw (h:=fun K=>?_));(try (refine nh ?_;intro KL));simp only [go_sem,geff,kp57,h1,h2,Bool.not_true,arrsOf_sl])
     |simp only [thenQ,blockQ,scopeQ,Nat.reduceEqDiff,reduceIte]|(with_reducible first|refine And.intro ?_ ?_|intro vr))
    all_goals try exact nd
    all_goals try exact ho _ (by assumption)
    all_goals ((first|refine end_retE ?_|refine end_normE ?_);simp only [fin,go_sem])
    exact ae_of rfl rfl hR.symm
   |false=>
    rw [if_neg (by rw [h2];decide)] at hR
    generalize hS:sizeS fr=q at hR
    obtain ⟨n,er⟩:=q
    simp only at hR
    by_cases e0:er=0
    ·subst e0
     rw [if_neg (by simp)] at hR
     obtain ⟨p1,p2,p3,p4⟩:=sizeS_ok hS
     by_cases h3:(L.length:Int)=n
     ·rw [if_neg (by simp [h3])] at hR
      have h3':((L.length:Int) !=n)=false:=by rw [bne_eq_false_iff_eq];exact h3
      have hsd:=(ofE_inv (beq_iff_eq.1 h1)).2.1
      have hrow:∀ i,i<L.length→(L.getD i nilA).x.length≤4096:=fun i hi=>by
        have hv:invA (L.getD i nilA)=false:=by
          cases h:invA (L.getD i nilA) with
          |false=>rfl
          |true=>exact absurd (List.any_eq_true.2 ⟨_,getD_mem nilA hi,h⟩) (by rw [h2];decide)
        have h0:ofE (L.getD i nilA)=0:=by simpa [invA] using hv
        have:=(sizeS_ok (ofE_inv h0).2.1).2.2.2
        omega
      have hd6:=(sizeS_ok hsd).1
      generalize hG:jnG sm L []=G at hR
      obtain ⟨w,e2⟩:=G
      simp only at hR
      have hfl:([fr,sm.d]:List (List Int)).flatten.length≤1000000:=by rw [flat_two,List.length_append];omega
      simp only [arrV]
      refine pcR E79_ok (kp57) Tryz.func57 [.cell 6 31,.tmp 7] (h:=fun KF=>?_)
      unfold E79
      repeat' (first
       |(with_reducible first|refine t_seq fun K=>?_|refine nx ?_|refine t_br (fun hc=>?_) fun hc=>?_)|exact kpd
       |((with_reducible first|refine ny ?_|refine t_kLF ?_ ?_|refine t_region fun K=>?_|refine t_cond fun A B=>?_|refine t_drawE (id:=8) (fun i=>i==0) [(0,1),(1,1),(2,1),(3,1),(4,1),(5,1),(6,1),(7,1),(8,0),(9,0)] (by kernel_rfl) fun K=>?_|refine t_dw (h:=fun K=>?_));(try (refine nh ?_;intro KL));simp only [go_sem,geff,kp57,h1,h2,Bool.not_true,arrsOf_sl,hS,h3',arrs_length])
       |simp only [thenQ,blockQ,scopeQ,Nat.reduceEqDiff,reduceIte]|(with_reducible first|refine And.intro ?_ ?_|intro vr))
      all_goals try exact nd
      all_goals try exact ho _ (by assumption)
      all_goals try (simp only [List.length_append];omega)
      refine t_loopF (ι:=Jl sm L (w,e2)) (fun i=>[(49,.lit (.int .i64 i.i))]) (fun i=>[.box 31 [.lit (.string sm.e),.sl false 1 (ints .i64 sm.d),.sl false 1 (ints .i64 sm.x)],.box 31 [.lit (.string ByteArray.empty),.sl true 1 [],.sl true 1 []],.box 31 [.lit (.string sm.e),.sl false 1 (ints .i64 (fr++sm.d)),.arr 3 i.v],.arr 3 1 (ints .i64 i.acc) i.v false]) (fun i=>L.length - i.i) ⟨0,0,[],by omega,by simp,hG⟩ ?_ ?_
      ·refine (le_nilB 2 2 3 1 (cs:=[.lit (.string sm.e),.sl false 1 (ints .i64 (fr++sm.d)),.sl true 1 []]) rfl (by simp) nil_sl).trans ?_
       simp only [updL_nil,updL_cons,delF_top,delF_upd,Nat.reduceEqDiff,reduceIte]
       simp only [ints_nil]
       refine Le.frameS (by first|rfl|(simp only [go_sem];try rfl)) ?_
       repeat' (first|exact leF_top _|exact (fun _=>LeR.refl _)|(with_reducible refine leF_sl ?_ ?_)|(refine leF_upd ?_ ?_))
       all_goals (first|exact LeR.top _|exact LeR.refl _|(refine LeR.of_eq ?_;(try simp only [go_sem]);try rfl)|((try simp only [go_sem]);try rfl))
      rintro ⟨i,v,acc,hi,ha,hF⟩ K0
      rcases Nat.lt_or_ge i L.length with hc|hc
      ·rw [drop_getD nilA hc,jnG] at hF
       have g3:decide ((i:Int)<(L.length:Int))=true:=decide_eq_true (by omega)
       have hx:=hrow i hc
       have o1:=ho _ (getD_mem nilA hc)
       have o1':=o1.1
       cases h5:eqS (L.getD i nilA).e sm.e with
       |false=>
        rw [if_pos (by rw [h5];rfl)] at hF
        cases hF
        rw [if_pos (by decide)] at hR
        repeat' (first
         |(with_reducible first|refine t_seq fun K=>?_|refine nx ?_|refine t_br (fun hc=>?_) fun hc=>?_)|exact kpd
         |((with_reducible first|refine ny ?_|refine t_kLF ?_ ?_|refine t_region fun K=>?_|refine t_cond fun A B=>?_|refine t_drawE (id:=8) (fun i=>i==0) [(0,1),(1,1),(2,1),(3,1),(4,1),(5,1),(6,1),(7,1),(8,0),(9,0)] (by kernel_rfl) fun K=>?_|refine t_dw (h:=fun K=>?_));(try (refine nh ?_;intro KL));simp only [go_sem,geff,kp57,g3,h5,Int.toNat_natCast,arrs_length,arrV,Bool.not_false])
         |simp only [thenQ,blockQ,scopeQ,Nat.reduceEqDiff,reduceIte]|(with_reducible first|refine And.intro ?_ ?_|intro vr))
        all_goals try exact nd
        all_goals ((first|refine end_retE ?_|refine end_normE ?_);simp only [fin,go_sem])
        exact ae_of rfl rfl hR.symm
       |true=>
        rw [if_neg (by rw [h5];decide)] at hF
        cases h6:decide ((L.getD i nilA).d=sm.d) with
        |false=>
         rw [if_pos h6] at hF
         cases hF
         rw [if_pos (by decide)] at hR
         repeat' (first
          |(with_reducible first|refine t_seq fun K=>?_|refine nx ?_|refine t_br (fun hc=>?_) fun hc=>?_)|exact kpd
          |((with_reducible first|refine ny ?_|refine t_kLF ?_ ?_|refine t_region fun K=>?_|refine t_cond fun A B=>?_|refine t_drawE (id:=8) (fun i=>i==0) [(0,1),(1,1),(2,1),(3,1),(4,1),(5,1),(6,1),(7,1),(8,0),(9,0)] (by kernel_rfl) fun K=>?_|refine t_dw (h:=fun K=>?_));(try (refine nh ?_;intro KL));simp only [go_sem,geff,kp57,g3,h5,h6,Int.toNat_natCast,arrs_length,arrV,Bool.not_false,Bool.not_true])
          |simp only [thenQ,blockQ,scopeQ,Nat.reduceEqDiff,reduceIte]|(with_reducible first|refine And.intro ?_ ?_|intro vr))
         all_goals try exact nd
         all_goals ((first|refine end_retE ?_|refine end_normE ?_);simp only [fin,go_sem])
         exact ae_of rfl rfl hR.symm
        |true=>
         rw [if_neg (by rw [h6];decide)] at hF
         repeat' (first
          |(with_reducible first|refine t_seq fun K=>?_|refine nx ?_|refine t_br (fun hc=>?_) fun hc=>?_)|exact kpd
          |((with_reducible first|refine ny ?_|refine t_kLF ?_ ?_|refine t_region fun K=>?_|refine t_cond fun A B=>?_|refine t_drawE (id:=8) (fun i=>i==0) [(0,1),(1,1),(2,1),(3,1),(4,1),(5,1),(6,1),(7,1),(8,0),(9,0)] (by kernel_rfl) fun K=>?_|refine t_dw (h:=fun K=>?_));(try (refine nh ?_;intro KL));simp only [go_sem,geff,kp57,g3,h5,h6,Int.toNat_natCast,arrs_length,arrV,Bool.not_false,Bool.not_true,ints_append])
          |simp only [thenQ,blockQ,scopeQ,Nat.reduceEqDiff,reduceIte]|(with_reducible first|refine And.intro ?_ ?_|intro vr))
         all_goals try exact nd
         refine ⟨⟨i+1,v+1,acc++(L.getD i nilA).x,by omega,by rw [List.length_append];omega,hF⟩,by first|(simp only;omega)|omega,?_⟩
         simp only [updL_nil,updL_cons,delF_top,delF_upd,Nat.reduceEqDiff,reduceIte]
         refine le_backD (by first|rfl|(simp only [go_sem];try rfl)) (by first|exact Nat.zero_le _|simp) (by first|rfl|simp [lowO,low_lit,low_sl,low_ref,low_arr]) ?_ ?_
         ·repeat' (first|exact low_top|(refine low_upd rfl ?_))
         repeat' (first|exact leF_top _|exact (fun _=>LeR.refl _)|(with_reducible refine leF_sl ?_ ?_)|(refine leF_upd ?_ ?_))
         all_goals (first|exact LeR.top _|exact LeR.refl _|(refine LeR.of_eq ?_;(try simp only [go_sem]);try rfl)|((try simp only [go_sem]);try rfl))
      ·have g3:decide ((i:Int)<(L.length:Int))=false:=decide_eq_false (by omega)
       rw [List.drop_eq_nil_of_le hc,jnG] at hF
       cases hF
       rw [if_neg (by simp)] at hR
       have hl2:(fr++sm.d).length≤1000000:=by rw [List.length_append];omega
       generalize hS2:sizeS (fr++sm.d)=q2 at hR
       obtain ⟨n2,er2⟩:=q2
       simp only at hR
       by_cases e3:er2=0
       ·subst e3
        rw [if_neg (by simp)] at hR
        repeat' (first
         |(with_reducible first|refine t_seq fun K=>?_|refine nx ?_|refine t_br (fun hc=>?_) fun hc=>?_)|exact kpd
         |((with_reducible first|refine ny ?_|refine t_kLF ?_ ?_|refine t_region fun K=>?_|refine t_cond fun A B=>?_|refine t_drawE (id:=8) (fun i=>i==0) [(0,1),(1,1),(2,1),(3,1),(4,1),(5,1),(6,1),(7,1),(8,0),(9,0)] (by kernel_rfl) fun K=>?_|refine t_dw (h:=fun K=>?_));(try (refine nh ?_;intro KL));simp only [go_sem,geff,kp57,g3,hS2,Int.toNat_natCast,arrs_length])
         |simp only [thenQ,blockQ,scopeQ,Nat.reduceEqDiff,reduceIte]|(with_reducible first|refine And.intro ?_ ?_|intro vr))
        all_goals try exact nd
        all_goals ((first|refine end_retE ?_|refine end_normE ?_);simp only [fin,go_sem])
        exact ae_of slK_sl slK_sl hR.symm
       ·rw [if_pos e3] at hR
        have e4:(er2 !=0)=true:=bne_iff_ne.2 e3
        repeat' (first
         |(with_reducible first|refine t_seq fun K=>?_|refine nx ?_|refine t_br (fun hc=>?_) fun hc=>?_)|exact kpd
         |((with_reducible first|refine ny ?_|refine t_kLF ?_ ?_|refine t_region fun K=>?_|refine t_cond fun A B=>?_|refine t_drawE (id:=8) (fun i=>i==0) [(0,1),(1,1),(2,1),(3,1),(4,1),(5,1),(6,1),(7,1),(8,0),(9,0)] (by kernel_rfl) fun K=>?_|refine t_dw (h:=fun K=>?_));(try (refine nh ?_;intro KL));simp only [go_sem,geff,kp57,g3,hS2,e4,Int.toNat_natCast,arrs_length])
         |simp only [thenQ,blockQ,scopeQ,Nat.reduceEqDiff,reduceIte]|(with_reducible first|refine And.intro ?_ ?_|intro vr))
        all_goals try exact nd
        all_goals ((first|refine end_retE ?_|refine end_normE ?_);simp only [fin,go_sem])
        exact ae_of rfl rfl hR.symm
     ·rw [if_pos h3] at hR
      have h3':((L.length:Int) !=n)=true:=bne_iff_ne.2 h3
      simp only [arrV]
      refine pcR E79_ok (kp57) Tryz.func57 [.cell 6 31,.tmp 7] (h:=fun KF=>?_)
      unfold E79
      repeat' (first
       |(with_reducible first|refine t_seq fun K=>?_|refine nx ?_|refine t_br (fun hc=>?_) fun hc=>?_)|exact kpd
       |((with_reducible first|refine ny ?_|refine t_kLF ?_ ?_|refine t_region fun K=>?_|refine t_cond fun A B=>?_|refine t_drawE (id:=8) (fun i=>i==0) [(0,1),(1,1),(2,1),(3,1),(4,1),(5,1),(6,1),(7,1),(8,0),(9,0)] (by kernel_rfl) fun K=>?_|refine t_dw (h:=fun K=>?_));(try (refine nh ?_;intro KL));simp only [go_sem,geff,kp57,h1,h2,Bool.not_true,arrsOf_sl,hS,h3',arrs_length])
       |simp only [thenQ,blockQ,scopeQ,Nat.reduceEqDiff,reduceIte]|(with_reducible first|refine And.intro ?_ ?_|intro vr))
      all_goals try exact nd
      all_goals try exact ho _ (by assumption)
      all_goals ((first|refine end_retE ?_|refine end_normE ?_);simp only [fin,go_sem])
      exact ae_of rfl rfl hR.symm
    ·rw [if_pos e0] at hR
     have e1:(er !=0)=true:=bne_iff_ne.2 e0
     simp only [arrV]
     refine pcR E79_ok (kp57) Tryz.func57 [.cell 6 31,.tmp 7] (h:=fun KF=>?_)
     unfold E79
     repeat' (first
      |(with_reducible first|refine t_seq fun K=>?_|refine nx ?_|refine t_br (fun hc=>?_) fun hc=>?_)|exact kpd
      |((with_reducible first|refine ny ?_|refine t_kLF ?_ ?_|refine t_region fun K=>?_|refine t_cond fun A B=>?_|refine t_drawE (id:=8) (fun i=>i==0) [(0,1),(1,1),(2,1),(3,1),(4,1),(5,1),(6,1),(7,1),(8,0),(9,0)] (by kernel_rfl) fun K=>?_|refine t_dw (h:=fun K=>?_));(try (refine nh ?_;intro KL));simp only [go_sem,geff,kp57,h1,h2,Bool.not_true,arrsOf_sl,hS,e1])
      |simp only [thenQ,blockQ,scopeQ,Nat.reduceEqDiff,reduceIte]|(with_reducible first|refine And.intro ?_ ?_|intro vr))
     all_goals try exact nd
     all_goals try exact ho _ (by assumption)
     all_goals ((first|refine end_retE ?_|refine end_normE ?_);simp only [fin,go_sem])
     exact ae_of rfl rfl hR.symm
noncomputable def con57:PCon Tryz.prog where
  f:=57
  c:=fun
   |[xfr,xL,xsm]=>match slK .i64 xfr,arrsOf xL,arrOf xsm with|some fr,some L,some sm=>some (fr.length≤1000000∧L.length≤1000000∧(∀ a∈L,okA a)∧okA sm,aeV (joinS fr L sm))|_,_,_=>none
   |_=>none
  ok:=by
   intro args p r hc hp
   split at hc
   ·split at hc
    ·rename_i hfr hL hsm
     cases hc
     exact PC.weak ((fun hp:_∧_∧_∧_=>join_pc hp.1 hp.2.1 hp.2.2.1 hp.2.2.2) hp) ⟨slK_le hfr,arrsOf_le hL,arrOf_le hsm,trivial⟩
    ·cases hc
   ·cases hc
  fk:=fk57
theorem con57_f:con57.f=57:=rfl
theorem con57_c {xfr:AV} {xL:AV} {xsm:AV}:con57.c [xfr,xL,xsm]=match slK .i64 xfr,arrsOf xL,arrOf xsm with|some fr,some L,some sm=>some (fr.length≤1000000∧L.length≤1000000∧(∀ a∈L,okA a)∧okA sm,aeV (joinS fr L sm))|_,_,_=>none:=rfl
end Go.Proofs.YtcpjahmajkhchaaGreat

namespace Go.Proofs.YtcpjahmajkhchaaGreat
open Go Go.Fw
set_option maxRecDepth 20000
def iota (n:Nat):List Int:=(List.range n).map fun k:Nat=>(k:Int)
theorem iota_succ (n:Nat):iota (n+1)=iota n++[(n:Int)]:=by simp [iota,List.range_succ]
theorem iota_len (n:Nat):(iota n).length=n:=by simp [iota]
theorem iota_zero:iota 0=[]:=rfl
def primS (op:ByteArray):List Stp×Bool:=match El.typesS op with
  |none=>([],false)
  |some r=>([⟨op,0,iota r.ps.length⟩],true)
def prV (p:List Stp×Bool):AV:= .tup [.sl false 3 (stps p.1),.lit (.bool p.2)]
theorem types_len {op:ByteArray} {r:El.Rw} (h:El.typesS op=some r):r.ps.length≤3:=El.rows_ps r (List.mem_of_find?_eq_some h)
theorem types_pos {op:ByteArray} {r:El.Rw} (h:El.typesS op=some r):1≤r.ps.length:=
  (show ∀ r∈El.rowsL,1≤r.ps.length by decide) r (List.mem_of_find?_eq_some h)
theorem le_frz {n0:Nat} {f:Nat→AV} {σ:List AObj} {o e sz ver:Nat} {xs:List AV} (ho:σ[o]? =some (.arr e sz xs ver false)):Le n0 ⟨f,σ⟩ ⟨f,σ.set o (.arr e sz xs ver true)⟩:=by
  intro cx G w N a _ hr hf
  obtain ⟨G',h1,h2⟩:=Rel.freezeO hr o
  have e1:Fw.freezeO σ o=σ.set o (.arr e sz xs ver true):=by unfold Fw.freezeO;rw [ho]
  rw [e1] at h2
  exact ⟨G',h2,hf.size,hf.defers,fun j=>(hf.rel j).mono h1⟩
theorem slS_two {b:Bool} {x y:ByteArray}:slS (.sl b 1 [.lit (.string x),.lit (.string y)])=some [x,y]:=rfl
theorem slK_two {b:Bool} {x y:Int}:slK .i64 (.sl b 1 [.lit (.int .i64 x),.lit (.int .i64 y)])=some [x,y]:=rfl
theorem slK_one {b:Bool} {x:Int}:slK .i64 (.sl b 1 [.lit (.int .i64 x)])=some [x]:=rfl
theorem stp_one {p:AV} {op:ByteArray} {n:Int} {l:List Int} (h:slK .i64 p=some l):LeA (.tup [.sl true 3 [.agg [.lit (.string op),.lit (.int .i64 n),p]],.lit (.bool true)]) (prV ([⟨op,n,l⟩],true)):=
  LeA.tup ⟨stpsOf_le (by simp [stpsOf,slA,stpL,stpOf,h]),LeA.refl _,trivial⟩
attribute [go_sem] slS_two slK_two slK_one
noncomputable def A9:Env:=envJ (P:=Tryz.prog) jkR zer (fun _=>false) (fun _=>false) [El.con65] []
theorem A9_ok:EnvOk Tryz.prog A9:=envJOk zer_ok
set_option maxHeartbeats 4000000 in
theorem prim_pc {op:ByteArray}:PC Tryz.prog 34 [.lit (.string op)] (prV (primS op)):=by
  generalize hR:primS op=R
  unfold primS at hR
  cases hT:El.typesS op with
  |none=>
   rw [hT] at hR
   simp only at hR
   refine pcR A9_ok (kp34) Tryz.func34 [.tmp 2,.tmp 3] (h:=fun KF=>?_)
   unfold A9
   repeat' (first
    |(with_reducible first|refine t_seq fun K=>?_|refine nx ?_|refine t_br (fun hc=>?_) fun hc=>?_)|exact kpd
    |((with_reducible first|refine ny ?_|refine t_kLF ?_ ?_|refine t_region fun K=>?_|refine t_cond fun A B=>?_|refine t_dw (h:=fun K=>?_));(try (refine nh ?_;intro KL));simp only [go_sem,geff,kp34,hT,Bool.not_false])
    |simp only [thenQ,blockQ,scopeQ,Nat.reduceEqDiff,reduceIte]|(with_reducible first|refine And.intro ?_ ?_|intro vr))
   all_goals try exact nd
   all_goals ((first|refine end_retE ?_|refine end_normE ?_);simp only [fin,go_sem])
   rw [←hR]
   exact LeA.tup ⟨LeA.nil _ _,LeA.refl _,trivial⟩
  |some r=>
   rw [hT] at hR
   simp only at hR
   have hr:=types_len hT
   have hr1:=types_pos hT
   have z0:decide (0=r.ps.length)=false:=decide_eq_false (by omega)
   refine pcR A9_ok (kp34) Tryz.func34 [.tmp 2,.tmp 3] (h:=fun KF=>?_)
   unfold A9
   repeat' (first
    |(with_reducible first|refine t_seq fun K=>?_|refine nx ?_|refine t_br (fun hc=>?_) fun hc=>?_)|exact kpd
    |((with_reducible first|refine ny ?_|refine t_kLF ?_ ?_|refine t_region fun K=>?_|refine t_cond fun A B=>?_|refine t_dw (h:=fun K=>?_));(try (refine nh ?_;intro KL));simp only [go_sem,geff,kp34,hT,Bool.not_true,strs_length])
    |simp only [thenQ,blockQ,scopeQ,Nat.reduceEqDiff,reduceIte]|(with_reducible first|refine And.intro ?_ ?_|intro vr))
   all_goals try exact nd
   refine t_loopF (ι:={p:Nat×Nat // p.1≤r.ps.length}) (fun i=>[(21,.lit (.int .i64 i.1.1))]) (fun i=>[.box 78 [.lit (.string op),.lit (.int .i64 0),.arr 1 i.1.2],.arr 3 1 (ints .i64 (iota i.1.1)) i.1.2 (decide (i.1.1=r.ps.length))]) (fun i=>r.ps.length - i.1.1) ⟨(0,0),by simp⟩ ?_ ?_
   ·refine (le_nilB 0 2 3 1 (cs:=[.lit (.string op),.lit (.int .i64 0),.sl true 1 []]) rfl (by simp) nil_sl).trans ?_
    simp only [updL_nil,updL_cons,delF_top,delF_upd,Nat.reduceEqDiff,reduceIte]
    simp only [iota_zero,ints_nil,z0]
    refine Le.frameS (by first|rfl|(simp only [go_sem];try rfl)) ?_
    repeat' (first|exact leF_top _|exact (fun _=>LeR.refl _)|(with_reducible refine leF_sl ?_ ?_)|(refine leF_upd ?_ ?_))
    all_goals (first|exact LeR.top _|exact LeR.refl _|(refine LeR.of_eq ?_;(try simp only [go_sem]);try rfl)|((try simp only [go_sem]);try rfl))
   rintro ⟨⟨i,v⟩,hi⟩ K0
   simp only at hi
   have hil:=iota_len i
   rcases Nat.lt_or_ge i r.ps.length with hc|hc
   ·have g3:decide ((i:Int)<(r.ps.length:Int))=true:=decide_eq_true (by omega)
    have z1:decide (i=r.ps.length)=false:=decide_eq_false (by omega)
    repeat' (first
     |(with_reducible first|refine t_seq fun K=>?_|refine nx ?_|refine t_br (fun hc=>?_) fun hc=>?_)|exact kpd
     |((with_reducible first|refine ny ?_|refine t_kLF ?_ ?_|refine t_region fun K=>?_|refine t_cond fun A B=>?_|refine t_dw (h:=fun K=>?_));(try (refine nh ?_;intro KL));simp only [go_sem,geff,kp34,g3,z1,Int.toNat_natCast,←iota_succ])
     |simp only [thenQ,blockQ,scopeQ,Nat.reduceEqDiff,reduceIte]|(with_reducible first|refine And.intro ?_ ?_|intro vr))
    all_goals try exact nd
    refine ⟨⟨(i+1,v+1),by omega⟩,by show r.ps.length - (i+1)<r.ps.length - i;omega,?_⟩
    by_cases hz:i+1=r.ps.length
    ·refine (le_frz (o:=1) rfl).trans ?_
     have z2:decide (i+1=r.ps.length)=true:=decide_eq_true hz
     simp only [updL_nil,updL_cons,delF_top,delF_upd,Nat.reduceEqDiff,reduceIte,z2,List.set_cons_zero,List.set_cons_succ]
     refine Le.frameS (by first|rfl|(simp only [go_sem];try rfl)) ?_
     repeat' (first|exact leF_top _|exact (fun _=>LeR.refl _)|(with_reducible refine leF_sl ?_ ?_)|(refine leF_upd ?_ ?_))
     all_goals (first|exact LeR.top _|exact LeR.refl _|(refine LeR.of_eq ?_;(try simp only [go_sem]);try rfl)|((try simp only [go_sem]);try rfl))
    ·have z2:decide (i+1=r.ps.length)=false:=decide_eq_false hz
     simp only [updL_nil,updL_cons,delF_top,delF_upd,Nat.reduceEqDiff,reduceIte,z2]
     refine Le.frameS (by first|rfl|(simp only [go_sem];try rfl)) ?_
     repeat' (first|exact leF_top _|exact (fun _=>LeR.refl _)|(with_reducible refine leF_sl ?_ ?_)|(refine leF_upd ?_ ?_))
     all_goals (first|exact LeR.top _|exact LeR.refl _|(refine LeR.of_eq ?_;(try simp only [go_sem]);try rfl)|((try simp only [go_sem]);try rfl))
   ·have g3:decide ((i:Int)<(r.ps.length:Int))=false:=decide_eq_false (by omega)
    have e:i=r.ps.length:=by omega
    have z1:decide (i=r.ps.length)=true:=decide_eq_true e
    repeat' (first
     |(with_reducible first|refine t_seq fun K=>?_|refine nx ?_|refine t_br (fun hc=>?_) fun hc=>?_)|exact kpd
     |((with_reducible first|refine ny ?_|refine t_kLF ?_ ?_|refine t_region fun K=>?_|refine t_cond fun A B=>?_|refine t_dw (h:=fun K=>?_));(try (refine nh ?_;intro KL));simp only [go_sem,geff,kp34,g3,z1,Int.toNat_natCast])
     |simp only [thenQ,blockQ,scopeQ,Nat.reduceEqDiff,reduceIte]|(with_reducible first|refine And.intro ?_ ?_|intro vr))
    all_goals try exact nd
    all_goals ((first|refine end_retE ?_|refine end_normE ?_);simp only [fin,go_sem])
    rw [←hR,←e]
    exact stp_one slK_sl
noncomputable def con34:PCon Tryz.prog where
  f:=34
  c:=fun
   |[.lit (.string op)]=>some (True,prV (primS op))
   |_=>none
  ok:=by
   intro args p r hc hp
   split at hc
   ·cases hc;exact prim_pc
   ·cases hc
  fk:=fk34
theorem con34_f:con34.f=34:=rfl
theorem con34_c {op:ByteArray}:con34.c [.lit (.string op)]=some (True,prV (primS op)):=rfl
def fitsS (c:List Stp) (init:ByteArray) (x:Arr) (b:Bool):Int:=
  if (!b||(x.d.length:Int) !=1)=true then 13 else if (!(typS c [init,x.e]).2|| !eqS (typS c [init,x.e]).1 init)=true then 12 else 0
noncomputable def A10:Env:=envJ (P:=Tryz.prog) jkR zer (fun _=>false) (fun _=>false) [con33] []
theorem A10_ok:EnvOk Tryz.prog A10:=envJOk zer_ok
attribute [go_sem] typV
set_option maxHeartbeats 4000000 in
theorem fits_pc {c:List Stp} {init:ByteArray} {x:Arr} {b:Bool} (hc:okC c):PC Tryz.prog 46 [.sl false 3 (stps c),.lit (.string init),arrV x,.lit (.bool b)] (.lit (.int .i64 (fitsS c init x b))):=by
  generalize hR:fitsS c init x b=R
  unfold fitsS at hR
  simp only [arrV]
  cases h1:(!b||(x.d.length:Int) !=1) with
  |true=>
   rw [if_pos h1] at hR
   refine pcR A10_ok (kp46) Tryz.func46 [.tmp 8] (h:=fun KF=>?_)
   unfold A10
   repeat' (first
    |(with_reducible first|refine t_seq fun K=>?_|refine nx ?_|refine t_br (fun hc=>?_) fun hc=>?_)|exact kpd
    |((with_reducible first|refine ny ?_|refine t_kLF ?_ ?_|refine t_region fun K=>?_|refine t_cond fun A B=>?_|refine t_dw (h:=fun K=>?_));(try (refine nh ?_;intro KL));simp only [go_sem,geff,kp46,h1,stpsOf_sl])
    |simp only [thenQ,blockQ,scopeQ,Nat.reduceEqDiff,reduceIte]|(with_reducible first|refine And.intro ?_ ?_|intro vr))
   all_goals try exact nd
   all_goals ((first|refine end_retE ?_|refine end_normE ?_);simp only [fin,go_sem])
   exact LeA.of_eq (by rw [←hR])
  |false=>
   rw [if_neg (by rw [h1];decide)] at hR
   cases h2:(!(typS c [init,x.e]).2|| !eqS (typS c [init,x.e]).1 init) with
   |true=>
    rw [if_pos h2] at hR
    refine pcR A10_ok (kp46) Tryz.func46 [.tmp 8] (h:=fun KF=>?_)
    unfold A10
    repeat' (first
     |(with_reducible first|refine t_seq fun K=>?_|refine nx ?_|refine t_br (fun hc=>?_) fun hc=>?_)|exact kpd
     |((with_reducible first|refine ny ?_|refine t_kLF ?_ ?_|refine t_region fun K=>?_|refine t_cond fun A B=>?_|refine t_dw (h:=fun K=>?_));(try (refine nh ?_;intro KL));simp only [go_sem,geff,kp46,h1,h2,stpsOf_sl])
     |simp only [thenQ,blockQ,scopeQ,Nat.reduceEqDiff,reduceIte]|(with_reducible first|refine And.intro ?_ ?_|intro vr))
    all_goals try exact nd
    all_goals ((first|refine end_retE ?_|refine end_normE ?_);simp only [fin,go_sem])
    exact LeA.of_eq (by rw [←hR])
   |false=>
    rw [if_neg (by rw [h2];decide)] at hR
    refine pcR A10_ok (kp46) Tryz.func46 [.tmp 8] (h:=fun KF=>?_)
    unfold A10
    repeat' (first
     |(with_reducible first|refine t_seq fun K=>?_|refine nx ?_|refine t_br (fun hc=>?_) fun hc=>?_)|exact kpd
     |((with_reducible first|refine ny ?_|refine t_kLF ?_ ?_|refine t_region fun K=>?_|refine t_cond fun A B=>?_|refine t_dw (h:=fun K=>?_));(try (refine nh ?_;intro KL));simp only [go_sem,geff,kp46,h1,h2,stpsOf_sl])
     |simp only [thenQ,blockQ,scopeQ,Nat.reduceEqDiff,reduceIte]|(with_reducible first|refine And.intro ?_ ?_|intro vr))
    all_goals try exact nd
    all_goals ((first|refine end_retE ?_|refine end_normE ?_);simp only [fin,go_sem])
    exact LeA.of_eq (by rw [←hR])
noncomputable def con46:PCon Tryz.prog where
  f:=46
  c:=fun
   |[xc,.lit (.string init),xx,.lit (.bool b)]=>match stpsOf xc,arrOf xx with|some c,some x=>some (okC c,.lit (.int .i64 (fitsS c init x b)))|_,_=>none
   |_=>none
  ok:=by
   intro args p r hc hp
   split at hc
   ·split at hc
    ·rename_i hc hx
     cases hc
     exact PC.weak (fits_pc hp) ⟨stpsOf_le hc,LeA.refl _,arrOf_le hx,LeA.refl _,trivial⟩
    ·cases hc
   ·cases hc
  fk:=fk46
theorem con46_f:con46.f=46:=rfl
theorem con46_c {xc:AV} {init:ByteArray} {xx:AV} {b:Bool}:con46.c [xc,.lit (.string init),xx,.lit (.bool b)]=match stpsOf xc,arrOf xx with|some c,some x=>some (okC c,.lit (.int .i64 (fitsS c init x b)))|_,_=>none:=rfl
attribute [go_sem] con34_f con34_c con46_f con46_c
end Go.Proofs.YtcpjahmajkhchaaGreat

namespace Go.Proofs.YtcpjahmajkhchaaGreat
open Go Go.Fw
set_option maxRecDepth 20000
def foldG (c:List Stp):List Int→Int→Int
  |[],n=>n
  |k::t,n=>foldG c t (runS c [n,k]).1
def foldS (c:List Stp) (a x:Arr):Arr×Int:=
  if (!(ofE a==0)|| !(ofE x==0)|| !validC c 2)=true then (nilA,1)
  else if fitsS c a.e x ((a.d.length:Int)==0)≠0 then (nilA,fitsS c a.e x ((a.d.length:Int)==0)) else ofS ⟨a.e,[],[foldG c x.x (a.x.getD 0 0)]⟩
theorem fits_zero {c:List Stp} {e:ByteArray} {x:Arr} {b:Bool} (h:fitsS c e x b=0):b=true∧x.d.length=1∧(typS c [e,x.e]).2=true∧eqS (typS c [e,x.e]).1 e=true:=by
  unfold fitsS at h
  split at h
  ·cases h
  ·rename_i h1
   split at h
   ·cases h
   ·rename_i h2
    simp only [Bool.or_eq_true,not_or,Bool.not_eq_true',Bool.not_eq_false,bne_iff_ne,ne_eq,Decidable.not_not] at h1 h2
    exact ⟨h1.1,by omega,h2.1,h2.2⟩
theorem one_datum {a:Arr} (h0:ofE a=0) (hd:((a.d.length:Int)==0)=true):a.x.length=1:=by
  have:a.d=[]:=List.eq_nil_of_length_eq_zero (by simpa using hd)
  have hs:=(ofE_inv h0).2.1
  rw [this] at hs
  have:sizeS []=(1,0):=by decide
  rw [this] at hs
  have:=congrArg Prod.fst hs
  simp only at this;omega
attribute [go_sem] con45_f con45_c con47_f con47_c slK_nil runV aeV_def
noncomputable def A11:Env:=envJ (P:=Tryz.prog) jkR zer (fun _=>false) (fun _=>false) [con45,con13,con46,con11,con47] []
theorem A11_ok:EnvOk Tryz.prog A11:=envJOk zer_ok
set_option maxHeartbeats 4000000 in
theorem fold_pc {c:List Stp} {a x:Arr} (hc0:okC c) (ha:okA a) (hx:okA x):PC Tryz.prog 16 [.sl false 3 (stps c),arrV a,arrV x] (aeV (foldS c a x)):=by
  generalize hR:foldS c a x=R
  unfold foldS at hR
  obtain ⟨a1,a2⟩:=ha
  obtain ⟨x1,x2⟩:=hx
  simp only [arrV]
  cases h1:(!(ofE a==0)|| !(ofE x==0)|| !validC c 2) with
  |true=>
   rw [if_pos h1] at hR
   have h1':(!(ofE ⟨a.e,a.d,a.x⟩==0)|| !(ofE ⟨x.e,x.d,x.x⟩==0)|| !validC c 2)=true:=h1
   refine pcR A11_ok (kp16) Tryz.func16 [.cell 6 31,.tmp 7] (h:=fun KF=>?_)
   unfold A11
   repeat' (first
    |(with_reducible first|refine t_seq fun K=>?_|refine nx ?_|refine t_br (fun hc=>?_) fun hc=>?_)|exact kpd
    |((with_reducible first|refine ny ?_|refine t_kLF ?_ ?_|refine t_region fun K=>?_|refine t_cond fun A B=>?_|refine t_dw (h:=fun K=>?_));(try (refine nh ?_;intro KL));simp only [go_sem,geff,kp16,h1',stpsOf_sl])
    |simp only [thenQ,blockQ,scopeQ,Nat.reduceEqDiff,reduceIte]|(with_reducible first|refine And.intro ?_ ?_|intro vr))
   all_goals try exact nd
   all_goals ((first|refine end_retE ?_|refine end_normE ?_);simp only [fin,go_sem])
   exact ae_of rfl rfl hR.symm
  |false=>
   rw [if_neg (by rw [h1];decide)] at hR
   have h1':(!(ofE ⟨a.e,a.d,a.x⟩==0)|| !(ofE ⟨x.e,x.d,x.x⟩==0)|| !validC c 2)=false:=h1
   have hq:(ofE a=0∧ofE x=0)∧validC c 2=true:=by
     simp only [Bool.or_eq_false_iff,Bool.not_eq_false',beq_iff_eq] at h1;exact h1
   generalize hE:fitsS c a.e x ((a.d.length:Int)==0)=e at hR
   have hE':fitsS c a.e ⟨x.e,x.d,x.x⟩ ((a.d.length:Int)==0)=e:=hE
   by_cases h2:e=0
   ·subst h2
    rw [if_neg (by simp)] at hR
    obtain ⟨f1,f2,f3,f4⟩:=fits_zero hE
    have hl1:=one_datum hq.1.1 f1
    generalize hG:foldG c x.x (a.x.getD 0 0)=G at hR
    generalize hO:ofS ⟨a.e,[],[G]⟩=O at hR
    obtain ⟨oa,oe⟩:=O
    refine pcR A11_ok (kp16) Tryz.func16 [.cell 6 31,.tmp 7] (h:=fun KF=>?_)
    unfold A11
    repeat' (first
     |(with_reducible first|refine t_seq fun K=>?_|refine nx ?_|refine t_br (fun hc=>?_) fun hc=>?_)|exact kpd
     |((with_reducible first|refine ny ?_|refine t_kLF ?_ ?_|refine t_region fun K=>?_|refine t_cond fun A B=>?_|refine t_dw (h:=fun K=>?_));(try (refine nh ?_;intro KL));simp only [go_sem,geff,kp16,h1',hE',stpsOf_sl])
     |simp only [thenQ,blockQ,scopeQ,Nat.reduceEqDiff,reduceIte]|(with_reducible first|refine And.intro ?_ ?_|intro vr))
    all_goals try exact nd
    refine t_loopF (ι:={p:Nat×Int // p.1≤x.x.length∧foldG c (x.x.drop p.1) p.2=G}) (fun i=>[(46,.lit (.int .i64 i.1.1)),(9,.lit (.int .i64 i.1.2))]) (fun i=>[.box 31 [.lit (.string a.e),.sl false 1 (ints .i64 a.d),.sl false 1 (ints .i64 a.x)],.box 31 [.lit (.string x.e),.sl false 1 (ints .i64 x.d),.sl false 1 (ints .i64 x.x)],.box 31 [.lit (.string ByteArray.empty),.sl true 1 [],.sl true 1 []]]) (fun i=>x.x.length - i.1.1) ⟨(0,a.x.getD 0 0),by simpa using hG⟩ ?_ ?_
    ·simp only [updL_nil,updL_cons,delF_top,delF_upd,Nat.reduceEqDiff,reduceIte]
     refine Le.frameS (by first|rfl|(simp only [go_sem];try rfl)) ?_
     repeat' (first|exact leF_top _|exact (fun _=>LeR.refl _)|(with_reducible refine leF_sl ?_ ?_)|(refine leF_upd ?_ ?_))
     all_goals (first|exact LeR.top _|exact LeR.refl _|(refine LeR.of_eq ?_;(try simp only [go_sem]);try rfl)|((try simp only [go_sem]);try rfl))
    rintro ⟨⟨i,n⟩,hi,hF⟩ K0
    simp only at hi hF
    rcases Nat.lt_or_ge i x.x.length with hc|hc
    ·rw [drop_getD 0 hc,foldG] at hF
     have g3:decide ((i:Int)<(x.x.length:Int))=true:=decide_eq_true (by omega)
     repeat' (first
      |(with_reducible first|refine t_seq fun K=>?_|refine nx ?_|refine t_br (fun hc=>?_) fun hc=>?_)|exact kpd
      |((with_reducible first|refine ny ?_|refine t_kLF ?_ ?_|refine t_region fun K=>?_|refine t_cond fun A B=>?_|refine t_dw (h:=fun K=>?_));(try (refine nh ?_;intro KL));simp only [go_sem,geff,kp16,g3,stpsOf_sl,Int.toNat_natCast])
      |simp only [thenQ,blockQ,scopeQ,Nat.reduceEqDiff,reduceIte]|(with_reducible first|refine And.intro ?_ ?_|intro vr))
     all_goals try exact nd
     refine ⟨⟨(i+1,(runS c [n,x.x.getD i 0]).1),by omega,hF⟩,by first|(simp only;omega)|omega,?_⟩
     simp only [updL_nil,updL_cons,delF_top,delF_upd,Nat.reduceEqDiff,reduceIte]
     refine Le.frameS (by first|rfl|(simp only [go_sem];try rfl)) ?_
     repeat' (first|exact leF_top _|exact (fun _=>LeR.refl _)|(with_reducible refine leF_sl ?_ ?_)|(refine leF_upd ?_ ?_))
     all_goals (first|exact LeR.top _|exact LeR.refl _|(refine LeR.of_eq ?_;(try simp only [go_sem]);try rfl)|((try simp only [go_sem]);try rfl))
    ·have g3:decide ((i:Int)<(x.x.length:Int))=false:=decide_eq_false (by omega)
     rw [List.drop_eq_nil_of_le hc,foldG] at hF
     subst hF
     repeat' (first
      |(with_reducible first|refine t_seq fun K=>?_|refine nx ?_|refine t_br (fun hc=>?_) fun hc=>?_)|exact kpd
      |((with_reducible first|refine ny ?_|refine t_kLF ?_ ?_|refine t_region fun K=>?_|refine t_cond fun A B=>?_|refine t_dw (h:=fun K=>?_));(try (refine nh ?_;intro KL));simp only [go_sem,geff,kp16,g3,hO,arrV,Int.toNat_natCast])
      |simp only [thenQ,blockQ,scopeQ,Nat.reduceEqDiff,reduceIte]|(with_reducible first|refine And.intro ?_ ?_|intro vr))
     all_goals try exact nd
     all_goals ((first|refine end_retE ?_|refine end_normE ?_);simp only [fin,go_sem])
     exact ae_of slK_sl slK_sl hR.symm
   ·rw [if_pos h2] at hR
    have h2':(e !=0)=true:=bne_iff_ne.2 h2
    refine pcR A11_ok (kp16) Tryz.func16 [.cell 6 31,.tmp 7] (h:=fun KF=>?_)
    unfold A11
    repeat' (first
     |(with_reducible first|refine t_seq fun K=>?_|refine nx ?_|refine t_br (fun hc=>?_) fun hc=>?_)|exact kpd
     |((with_reducible first|refine ny ?_|refine t_kLF ?_ ?_|refine t_region fun K=>?_|refine t_cond fun A B=>?_|refine t_dw (h:=fun K=>?_));(try (refine nh ?_;intro KL));simp only [go_sem,geff,kp16,h1',hE',h2',stpsOf_sl])
     |simp only [thenQ,blockQ,scopeQ,Nat.reduceEqDiff,reduceIte]|(with_reducible first|refine And.intro ?_ ?_|intro vr))
    all_goals try exact nd
    all_goals ((first|refine end_retE ?_|refine end_normE ?_);simp only [fin,go_sem])
    exact ae_of rfl rfl hR.symm
noncomputable def con16:PCon Tryz.prog where
  f:=16
  c:=fun
   |[xc,xa,xx]=>match stpsOf xc,arrOf xa,arrOf xx with|some c,some a,some x=>some (okC c∧okA a∧okA x,aeV (foldS c a x))|_,_,_=>none
   |_=>none
  ok:=by
   intro args p r hc hp
   split at hc
   ·split at hc
    ·rename_i hc ha hx
     cases hc
     exact PC.weak ((fun hp:_∧_∧_=>fold_pc hp.1 hp.2.1 hp.2.2) hp) ⟨stpsOf_le hc,arrOf_le ha,arrOf_le hx,trivial⟩
    ·cases hc
   ·cases hc
  fk:=fk16
theorem con16_f:con16.f=16:=rfl
theorem con16_c {xc:AV} {xa:AV} {xx:AV}:con16.c [xc,xa,xx]=match stpsOf xc,arrOf xa,arrOf xx with|some c,some a,some x=>some (okC c∧okA a∧okA x,aeV (foldS c a x))|_,_,_=>none:=rfl
attribute [go_sem] con16_f con16_c
end Go.Proofs.YtcpjahmajkhchaaGreat

namespace Go.Proofs.YtcpjahmajkhchaaGreat
open Go Go.Fw
set_option maxRecDepth 20000
attribute [go_sem] con22_f con22_c con48_f con48_c
noncomputable def A12:Env:=envJ (P:=Tryz.prog) jkR zer (fun _=>false) (fun _=>false) [con22,con14,con21,con12,con48] []
theorem A12_ok:EnvOk Tryz.prog A12:=envJOk zer_ok
set_option maxHeartbeats 4000000 in
theorem rfold_pc {c:List Stp} {a x:Arr} (hc0:okC c) (ha:okA a) (hx:okA x):PC Tryz.prog 17 [.sl false 3 (stps c),arrV a,arrV x] (aeV (foldS c a x)):=by
  generalize hR:foldS c a x=R
  unfold foldS at hR
  obtain ⟨a1,a2⟩:=ha
  obtain ⟨x1,x2⟩:=hx
  simp only [arrV]
  cases h1:(!(ofE a==0)|| !(ofE x==0)|| !validC c 2) with
  |true=>
   rw [if_pos h1] at hR
   have h1':(!(ofE ⟨a.e,a.d,a.x⟩==0)|| !(ofE ⟨x.e,x.d,x.x⟩==0)|| !validC c 2)=true:=h1
   refine pcR A12_ok (kp17) Tryz.func17 [.cell 6 31,.tmp 7] (h:=fun KF=>?_)
   unfold A12
   repeat' (first
    |(with_reducible first|refine t_seq fun K=>?_|refine nx ?_|refine t_br (fun hc=>?_) fun hc=>?_)|exact kpd
    |((with_reducible first|refine ny ?_|refine t_kLF ?_ ?_|refine t_region fun K=>?_|refine t_cond fun A B=>?_|refine t_dw (h:=fun K=>?_));(try (refine nh ?_;intro KL));simp only [go_sem,geff,kp17,h1',stpsOf_sl])
    |simp only [thenQ,blockQ,scopeQ,Nat.reduceEqDiff,reduceIte]|(with_reducible first|refine And.intro ?_ ?_|intro vr))
   all_goals try exact nd
   all_goals ((first|refine end_retE ?_|refine end_normE ?_);simp only [fin,go_sem])
   exact ae_of rfl rfl hR.symm
  |false=>
   rw [if_neg (by rw [h1];decide)] at hR
   have h1':(!(ofE ⟨a.e,a.d,a.x⟩==0)|| !(ofE ⟨x.e,x.d,x.x⟩==0)|| !validC c 2)=false:=h1
   have hq:(ofE a=0∧ofE x=0)∧validC c 2=true:=by
     simp only [Bool.or_eq_false_iff,Bool.not_eq_false',beq_iff_eq] at h1;exact h1
   cases h3:(((a.d.length:Int) !=0)||((x.d.length:Int) !=1)) with
   |true=>
    have hE:fitsS c a.e x ((a.d.length:Int)==0)=13:=by unfold fitsS;exact if_pos h3
    rw [if_pos (by rw [hE];decide),hE] at hR
    refine pcR A12_ok (kp17) Tryz.func17 [.cell 6 31,.tmp 7] (h:=fun KF=>?_)
    unfold A12
    repeat' (first
     |(with_reducible first|refine t_seq fun K=>?_|refine nx ?_|refine t_br (fun hc=>?_) fun hc=>?_)|exact kpd
     |((with_reducible first|refine ny ?_|refine t_kLF ?_ ?_|refine t_region fun K=>?_|refine t_cond fun A B=>?_|refine t_dw (h:=fun K=>?_));(try (refine nh ?_;intro KL));simp only [go_sem,geff,kp17,h1',h3,stpsOf_sl])
     |simp only [thenQ,blockQ,scopeQ,Nat.reduceEqDiff,reduceIte]|(with_reducible first|refine And.intro ?_ ?_|intro vr))
    all_goals try exact nd
    all_goals ((first|refine end_retE ?_|refine end_normE ?_);simp only [fin,go_sem])
    exact ae_of rfl rfl hR.symm
   |false=>
    cases h4:(!(typS c [a.e,x.e]).2|| !eqS (typS c [a.e,x.e]).1 a.e) with
    |true=>
     have hE:fitsS c a.e x ((a.d.length:Int)==0)=12:=by
       unfold fitsS
       exact (if_neg (by rw [show (!((a.d.length:Int)==0)||((x.d.length:Int) !=1))=false from h3];decide)).trans (if_pos h4)
     rw [if_pos (by rw [hE];decide),hE] at hR
     refine pcR A12_ok (kp17) Tryz.func17 [.cell 6 31,.tmp 7] (h:=fun KF=>?_)
     unfold A12
     repeat' (first
      |(with_reducible first|refine t_seq fun K=>?_|refine nx ?_|refine t_br (fun hc=>?_) fun hc=>?_)|exact kpd
      |((with_reducible first|refine ny ?_|refine t_kLF ?_ ?_|refine t_region fun K=>?_|refine t_cond fun A B=>?_|refine t_dw (h:=fun K=>?_));(try (refine nh ?_;intro KL));simp only [go_sem,geff,kp17,h1',h3,h4,stpsOf_sl])
      |simp only [thenQ,blockQ,scopeQ,Nat.reduceEqDiff,reduceIte]|(with_reducible first|refine And.intro ?_ ?_|intro vr))
     all_goals try exact nd
     all_goals ((first|refine end_retE ?_|refine end_normE ?_);simp only [fin,go_sem])
     exact ae_of rfl rfl hR.symm
    |false=>
     have hE:fitsS c a.e x ((a.d.length:Int)==0)=0:=by
       unfold fitsS
       exact (if_neg (by rw [show (!((a.d.length:Int)==0)||((x.d.length:Int) !=1))=false from h3];decide)).trans (if_neg (by rw [h4];decide))
     rw [if_neg (by rw [hE];decide)] at hR
     obtain ⟨f1,f2,f3,f4⟩:=fits_zero hE
     have hl1:=one_datum hq.1.1 f1
     generalize hG:foldG c x.x (a.x.getD 0 0)=G at hR
     generalize hO:ofS ⟨a.e,[],[G]⟩=O at hR
     obtain ⟨oa,oe⟩:=O
     refine pcR A12_ok (kp17) Tryz.func17 [.cell 6 31,.tmp 7] (h:=fun KF=>?_)
     unfold A12
     repeat' (first
      |(with_reducible first|refine t_seq fun K=>?_|refine nx ?_|refine t_br (fun hc=>?_) fun hc=>?_)|exact kpd
      |((with_reducible first|refine ny ?_|refine t_kLF ?_ ?_|refine t_region fun K=>?_|refine t_cond fun A B=>?_|refine t_dw (h:=fun K=>?_));(try (refine nh ?_;intro KL));simp only [go_sem,geff,kp17,h1',h3,h4,stpsOf_sl])
      |simp only [thenQ,blockQ,scopeQ,Nat.reduceEqDiff,reduceIte]|(with_reducible first|refine And.intro ?_ ?_|intro vr))
     all_goals try exact nd
     refine t_loopF (ι:={p:Nat×Int // p.1≤x.x.length∧foldG c (x.x.drop p.1) p.2=G}) (fun i=>[(11,.lit (.int .i64 i.1.1)),(10,.lit (.int .i64 i.1.2))]) (fun i=>[.box 31 [.lit (.string a.e),.sl false 1 (ints .i64 a.d),.sl false 1 (ints .i64 a.x)],.box 31 [.lit (.string x.e),.sl false 1 (ints .i64 x.d),.sl false 1 (ints .i64 x.x)],.box 31 [.lit (.string ByteArray.empty),.sl true 1 [],.sl true 1 []]]) (fun i=>x.x.length - i.1.1) ⟨(0,a.x.getD 0 0),by simpa using hG⟩ ?_ ?_
     ·simp only [updL_nil,updL_cons,delF_top,delF_upd,Nat.reduceEqDiff,reduceIte]
      refine Le.frameS (by first|rfl|(simp only [go_sem];try rfl)) ?_
      repeat' (first|exact leF_top _|exact (fun _=>LeR.refl _)|(with_reducible refine leF_sl ?_ ?_)|(refine leF_upd ?_ ?_))
      all_goals (first|exact LeR.top _|exact LeR.refl _|(refine LeR.of_eq ?_;(try simp only [go_sem]);try rfl)|((try simp only [go_sem]);try rfl))
     rintro ⟨⟨i,n⟩,hi,hF⟩ K0
     simp only at hi hF
     rcases Nat.lt_or_ge i x.x.length with hc|hc
     ·rw [drop_getD 0 hc,foldG] at hF
      have g3:decide ((i:Int)<(x.x.length:Int))=true:=decide_eq_true (by omega)
      repeat' (first
       |(with_reducible first|refine t_seq fun K=>?_|refine nx ?_|refine t_br (fun hc=>?_) fun hc=>?_)|exact kpd
       |((with_reducible first|refine ny ?_|refine t_kLF ?_ ?_|refine t_region fun K=>?_|refine t_cond fun A B=>?_|refine t_dw (h:=fun K=>?_));(try (refine nh ?_;intro KL));simp only [go_sem,geff,kp17,g3,stpsOf_sl,Int.toNat_natCast])
       |simp only [thenQ,blockQ,scopeQ,Nat.reduceEqDiff,reduceIte]|(with_reducible first|refine And.intro ?_ ?_|intro vr))
      all_goals try exact nd
      refine ⟨⟨(i+1,(runS c [n,x.x.getD i 0]).1),by omega,hF⟩,by first|(simp only;omega)|omega,?_⟩
      simp only [updL_nil,updL_cons,delF_top,delF_upd,Nat.reduceEqDiff,reduceIte]
      refine Le.frameS (by first|rfl|(simp only [go_sem];try rfl)) ?_
      repeat' (first|exact leF_top _|exact (fun _=>LeR.refl _)|(with_reducible refine leF_sl ?_ ?_)|(refine leF_upd ?_ ?_))
      all_goals (first|exact LeR.top _|exact LeR.refl _|(refine LeR.of_eq ?_;(try simp only [go_sem]);try rfl)|((try simp only [go_sem]);try rfl))
     ·have g3:decide ((i:Int)<(x.x.length:Int))=false:=decide_eq_false (by omega)
      rw [List.drop_eq_nil_of_le hc,foldG] at hF
      subst hF
      repeat' (first
       |(with_reducible first|refine t_seq fun K=>?_|refine nx ?_|refine t_br (fun hc=>?_) fun hc=>?_)|exact kpd
       |((with_reducible first|refine ny ?_|refine t_kLF ?_ ?_|refine t_region fun K=>?_|refine t_cond fun A B=>?_|refine t_dw (h:=fun K=>?_));(try (refine nh ?_;intro KL));simp only [go_sem,geff,kp17,g3,hO,arrV,Int.toNat_natCast])
       |simp only [thenQ,blockQ,scopeQ,Nat.reduceEqDiff,reduceIte]|(with_reducible first|refine And.intro ?_ ?_|intro vr))
      all_goals try exact nd
      all_goals ((first|refine end_retE ?_|refine end_normE ?_);simp only [fin,go_sem])
      exact ae_of slK_sl slK_sl hR.symm
noncomputable def con17:PCon Tryz.prog where
  f:=17
  c:=fun
   |[xc,xa,xx]=>match stpsOf xc,arrOf xa,arrOf xx with|some c,some a,some x=>some (okC c∧okA a∧okA x,aeV (foldS c a x))|_,_,_=>none
   |_=>none
  ok:=by
   intro args p r hc hp
   split at hc
   ·split at hc
    ·rename_i hc ha hx
     cases hc
     exact PC.weak ((fun hp:_∧_∧_=>rfold_pc hp.1 hp.2.1 hp.2.2) hp) ⟨stpsOf_le hc,arrOf_le ha,arrOf_le hx,trivial⟩
    ·cases hc
   ·cases hc
  fk:=fk17
theorem con17_f:con17.f=17:=rfl
theorem con17_c {xc:AV} {xa:AV} {xx:AV}:con17.c [xc,xa,xx]=match stpsOf xc,arrOf xa,arrOf xx with|some c,some a,some x=>some (okC c∧okA a∧okA x,aeV (foldS c a x))|_,_,_=>none:=rfl
attribute [go_sem] con17_f con17_c
end Go.Proofs.YtcpjahmajkhchaaGreat

namespace Go.Proofs.YtcpjahmajkhchaaGreat
open Go Go.Fw
set_option maxRecDepth 20000
def scanG (c:List Stp):List Int→List Int→List Int
  |[],acc=>acc
  |n::t,acc=>scanG c t (acc++[if acc=[] then n else (runS c [lastI acc,n]).1])
def scanR (c:List Stp) (x:Arr):Arr×Int:=
  if (!(ofE x==0)|| !validC c 2)=true then (nilA,1) else if fitsS c x.e x true≠0 then (nilA,fitsS c x.e x true) else ofS ⟨x.e,x.d,scanG c x.x []⟩
def scanP (c:List Stp) (x:Arr):Arr×Int:=
  if (!(ofE x==0)|| !validC c 2)=true then (nilA,1) else if fitsS c x.e x true≠0 then (nilA,fitsS c x.e x true) else (⟨x.e,x.d,scanG c x.x []⟩,0)
theorem scanG_len {c:List Stp}:∀ (l acc:List Int),(scanG c l acc).length=acc.length+l.length
  |[],acc=>rfl
  |n::t,acc=>by rw [scanG,scanG_len t];simp;omega
noncomputable def A13:Env:=envJ (P:=Tryz.prog) jkR zer (fun _=>false) (fun _=>false) [con22,con14,con21,con12,con48] []
theorem A13_ok:EnvOk Tryz.prog A13:=envJOk zer_ok
structure Sc (c:List Stp) (x:List Int) (G:List Int) where
  i:Nat
  v:Nat
  acc:List Int
  hi:i≤x.length
  hn:acc.length=i
  hF:scanG c (x.drop i) acc=G
set_option maxHeartbeats 4000000 in
theorem rscan_pc {c:List Stp} {x:Arr} (hc0:okC c) (hx:okA x):PC Tryz.prog 19 [.sl false 3 (stps c),arrV x] (aeV (scanR c x)):=by
  generalize hR:scanR c x=R
  unfold scanR at hR
  obtain ⟨x1,x2⟩:=hx
  simp only [arrV]
  cases h1:(!(ofE x==0)|| !validC c 2) with
  |true=>
   rw [if_pos h1] at hR
   have h1':(!(ofE ⟨x.e,x.d,x.x⟩==0)|| !validC c 2)=true:=h1
   refine pcR A13_ok (kp19) Tryz.func19 [.cell 4 31,.tmp 5] (h:=fun KF=>?_)
   unfold A13
   repeat' (first
    |(with_reducible first|refine t_seq fun K=>?_|refine nx ?_|refine t_br (fun hc=>?_) fun hc=>?_)|exact kpd
    |((with_reducible first|refine ny ?_|refine t_kLF ?_ ?_|refine t_region fun K=>?_|refine t_cond fun A B=>?_|refine t_dw (h:=fun K=>?_));(try (refine nh ?_;intro KL));simp only [go_sem,geff,kp19,h1',stpsOf_sl])
    |simp only [thenQ,blockQ,scopeQ,Nat.reduceEqDiff,reduceIte]|(with_reducible first|refine And.intro ?_ ?_|intro vr))
   all_goals try exact nd
   all_goals ((first|refine end_retE ?_|refine end_normE ?_);simp only [fin,go_sem])
   exact ae_of rfl rfl hR.symm
  |false=>
   rw [if_neg (by rw [h1];decide)] at hR
   have h1':(!(ofE ⟨x.e,x.d,x.x⟩==0)|| !validC c 2)=false:=h1
   have hq:ofE x=0∧validC c 2=true:=by
     simp only [Bool.or_eq_false_iff,Bool.not_eq_false',beq_iff_eq] at h1;exact h1
   cases h3:((x.d.length:Int) !=1) with
   |true=>
    have hE:fitsS c x.e x true=13:=by unfold fitsS;exact if_pos (by rw [h3];rfl)
    rw [if_pos (by rw [hE];decide),hE] at hR
    refine pcR A13_ok (kp19) Tryz.func19 [.cell 4 31,.tmp 5] (h:=fun KF=>?_)
    unfold A13
    repeat' (first
     |(with_reducible first|refine t_seq fun K=>?_|refine nx ?_|refine t_br (fun hc=>?_) fun hc=>?_)|exact kpd
     |((with_reducible first|refine ny ?_|refine t_kLF ?_ ?_|refine t_region fun K=>?_|refine t_cond fun A B=>?_|refine t_dw (h:=fun K=>?_));(try (refine nh ?_;intro KL));simp only [go_sem,geff,kp19,h1',h3,stpsOf_sl])
     |simp only [thenQ,blockQ,scopeQ,Nat.reduceEqDiff,reduceIte]|(with_reducible first|refine And.intro ?_ ?_|intro vr))
    all_goals try exact nd
    all_goals ((first|refine end_retE ?_|refine end_normE ?_);simp only [fin,go_sem])
    exact ae_of rfl rfl hR.symm
   |false=>
    cases h4:(!(typS c [x.e,x.e]).2|| !eqS (typS c [x.e,x.e]).1 x.e) with
    |true=>
     have hE:fitsS c x.e x true=12:=by
       unfold fitsS
       exact (if_neg (by rw [h3];decide)).trans (if_pos h4)
     rw [if_pos (by rw [hE];decide),hE] at hR
     refine pcR A13_ok (kp19) Tryz.func19 [.cell 4 31,.tmp 5] (h:=fun KF=>?_)
     unfold A13
     repeat' (first
      |(with_reducible first|refine t_seq fun K=>?_|refine nx ?_|refine t_br (fun hc=>?_) fun hc=>?_)|exact kpd
      |((with_reducible first|refine ny ?_|refine t_kLF ?_ ?_|refine t_region fun K=>?_|refine t_cond fun A B=>?_|refine t_dw (h:=fun K=>?_));(try (refine nh ?_;intro KL));simp only [go_sem,geff,kp19,h1',h3,h4,stpsOf_sl])
      |simp only [thenQ,blockQ,scopeQ,Nat.reduceEqDiff,reduceIte]|(with_reducible first|refine And.intro ?_ ?_|intro vr))
     all_goals try exact nd
     all_goals ((first|refine end_retE ?_|refine end_normE ?_);simp only [fin,go_sem])
     exact ae_of rfl rfl hR.symm
    |false=>
     have hE:fitsS c x.e x true=0:=by
       unfold fitsS
       exact (if_neg (by rw [h3];decide)).trans (if_neg (by rw [h4];decide))
     rw [if_neg (by rw [hE];decide)] at hR
     have hxl:x.x.length≤4096:=by have:=(sizeS_ok (ofE_inv hq.1).2.1).2.2.2;omega
     have hsl:=scanG_len (c:=c) x.x []
     generalize hG:scanG c x.x []=G at hR hsl
     generalize hO:ofS ⟨x.e,x.d,G⟩=O at hR
     obtain ⟨oa,oe⟩:=O
     refine pcR A13_ok (kp19) Tryz.func19 [.cell 4 31,.tmp 5] (h:=fun KF=>?_)
     unfold A13
     repeat' (first
      |(with_reducible first|refine t_seq fun K=>?_|refine nx ?_|refine t_br (fun hc=>?_) fun hc=>?_)|exact kpd
      |((with_reducible first|refine ny ?_|refine t_kLF ?_ ?_|refine t_region fun K=>?_|refine t_cond fun A B=>?_|refine t_dw (h:=fun K=>?_));(try (refine nh ?_;intro KL));simp only [go_sem,geff,kp19,h1',h3,h4,stpsOf_sl])
      |simp only [thenQ,blockQ,scopeQ,Nat.reduceEqDiff,reduceIte]|(with_reducible first|refine And.intro ?_ ?_|intro vr))
     all_goals try exact nd
     refine t_loopF (ι:=Sc c x.x G) (fun i=>[(9,.lit (.int .i64 i.i)),(8,.arr 2 i.v)]) (fun i=>[.box 31 [.lit (.string x.e),.sl false 1 (ints .i64 x.d),.sl false 1 (ints .i64 x.x)],.box 31 [.lit (.string ByteArray.empty),.sl true 1 [],.sl true 1 []],.arr 3 1 (ints .i64 i.acc) i.v false]) (fun i=>x.x.length - i.i) ⟨0,0,[],by omega,rfl,by simpa using hG⟩ ?_ ?_
     ·refine (le_nil 8 3 1 rfl).trans ?_
      simp only [updL_nil,updL_cons,delF_top,delF_upd,Nat.reduceEqDiff,reduceIte]
      refine Le.frameS (by first|rfl|(simp only [go_sem];try rfl)) ?_
      repeat' (first|exact leF_top _|exact (fun _=>LeR.refl _)|(with_reducible refine leF_sl ?_ ?_)|(refine leF_upd ?_ ?_))
      all_goals (first|exact LeR.top _|exact LeR.refl _|(refine LeR.of_eq ?_;(try simp only [go_sem]);try rfl)|((try simp only [go_sem]);try rfl))
     rintro ⟨i,v,acc,hi,hn,hF⟩ K0
     rcases Nat.lt_or_ge i x.x.length with hc|hc
     ·rw [drop_getD 0 hc,scanG] at hF
      have g3:decide ((i:Int)<(x.x.length:Int))=true:=decide_eq_true (by omega)
      by_cases hz:i=0
      ·have ha:acc=[]:=List.eq_nil_of_length_eq_zero (by omega)
       rw [if_pos ha] at hF
       have g4:decide ((i:Int)>0)=false:=decide_eq_false (by omega)
       repeat' (first
        |(with_reducible first|refine t_seq fun K=>?_|refine nx ?_|refine t_br (fun hc=>?_) fun hc=>?_)|exact kpd
        |((with_reducible first|refine ny ?_|refine t_kLF ?_ ?_|refine t_region fun K=>?_|refine t_cond fun A B=>?_|refine t_dw (h:=fun K=>?_));(try (refine nh ?_;intro KL));simp only [go_sem,geff,kp19,g3,g4,stpsOf_sl,Int.toNat_natCast])
        |simp only [thenQ,blockQ,scopeQ,Nat.reduceEqDiff,reduceIte]|(with_reducible first|refine And.intro ?_ ?_|intro vr))
       all_goals try exact nd
       refine ⟨⟨i+1,v+1,acc++[x.x.getD i 0],by omega,by simp;omega,hF⟩,by first|(simp only;omega)|omega,?_⟩
       simp only [updL_nil,updL_cons,delF_top,delF_upd,Nat.reduceEqDiff,reduceIte]
       refine Le.frameS (by first|rfl|(simp only [go_sem];try rfl)) ?_
       repeat' (first|exact leF_top _|exact (fun _=>LeR.refl _)|(with_reducible refine leF_sl ?_ ?_)|(refine leF_upd ?_ ?_))
       all_goals (first|exact LeR.top _|exact LeR.refl _|(refine LeR.of_eq ?_;(try simp only [go_sem]);try rfl)|((try simp only [go_sem]);try rfl))
      ·have ha:acc≠[]:=fun e=>by rw [e] at hn;simp at hn;omega
       rw [if_neg ha] at hF
       have g4:decide ((i:Int)>0)=true:=decide_eq_true (by omega)
       have e1:((i:Int) - 1).toNat=acc.length - 1:=by omega
       have hla:acc.getD (acc.length - 1) 0=lastI acc:=rfl
       repeat' (first
        |(with_reducible first|refine t_seq fun K=>?_|refine nx ?_|refine t_br (fun hc=>?_) fun hc=>?_)|exact kpd
        |((with_reducible first|refine ny ?_|refine t_kLF ?_ ?_|refine t_region fun K=>?_|refine t_cond fun A B=>?_|refine t_dw (h:=fun K=>?_));(try (refine nh ?_;intro KL));simp only [go_sem,geff,kp19,g3,g4,e1,hla,stpsOf_sl,Int.toNat_natCast,yes])
        |simp only [thenQ,blockQ,scopeQ,Nat.reduceEqDiff,reduceIte]|(with_reducible first|refine And.intro ?_ ?_|intro vr))
       all_goals try exact nd
       refine ⟨⟨i+1,v+1,acc++[(runS c [lastI acc,x.x.getD i 0]).1],by omega,by simp;omega,hF⟩,by first|(simp only;omega)|omega,?_⟩
       simp only [updL_nil,updL_cons,delF_top,delF_upd,Nat.reduceEqDiff,reduceIte]
       refine Le.frameS (by first|rfl|(simp only [go_sem];try rfl)) ?_
       repeat' (first|exact leF_top _|exact (fun _=>LeR.refl _)|(with_reducible refine leF_sl ?_ ?_)|(refine leF_upd ?_ ?_))
       all_goals (first|exact LeR.top _|exact LeR.refl _|(refine LeR.of_eq ?_;(try simp only [go_sem]);try rfl)|((try simp only [go_sem]);try rfl))
     ·have g3:decide ((i:Int)<(x.x.length:Int))=false:=decide_eq_false (by omega)
      rw [List.drop_eq_nil_of_le hc,scanG] at hF
      subst hF
      repeat' (first
       |(with_reducible first|refine t_seq fun K=>?_|refine nx ?_|refine t_br (fun hc=>?_) fun hc=>?_)|exact kpd
       |((with_reducible first|refine ny ?_|refine t_kLF ?_ ?_|refine t_region fun K=>?_|refine t_cond fun A B=>?_|refine t_dw (h:=fun K=>?_));(try (refine nh ?_;intro KL));simp only [go_sem,geff,kp19,g3,hO,arrV,Int.toNat_natCast])
       |simp only [thenQ,blockQ,scopeQ,Nat.reduceEqDiff,reduceIte]|(with_reducible first|refine And.intro ?_ ?_|intro vr))
      all_goals try exact nd
      all_goals ((first|refine end_retE ?_|refine end_normE ?_);simp only [fin,go_sem])
      exact ae_of slK_sl slK_sl hR.symm
noncomputable def con19:PCon Tryz.prog where
  f:=19
  c:=fun
   |[xc,xx]=>match stpsOf xc,arrOf xx with|some c,some x=>some (okC c∧okA x,aeV (scanR c x))|_,_=>none
   |_=>none
  ok:=by
   intro args p r hc hp
   split at hc
   ·split at hc
    ·rename_i hc hx
     cases hc
     exact PC.weak ((fun hp:_∧_=>rscan_pc hp.1 hp.2) hp) ⟨stpsOf_le hc,arrOf_le hx,trivial⟩
    ·cases hc
   ·cases hc
  fk:=fk19
theorem con19_f:con19.f=19:=rfl
theorem con19_c {xc:AV} {xx:AV}:con19.c [xc,xx]=match stpsOf xc,arrOf xx with|some c,some x=>some (okC c∧okA x,aeV (scanR c x))|_,_=>none:=rfl
attribute [go_sem] con19_f con19_c
end Go.Proofs.YtcpjahmajkhchaaGreat

namespace Go.Proofs.YtcpjahmajkhchaaGreat
open Go Go.Fw
set_option maxRecDepth 20000
noncomputable def A14:Env:=envJ (P:=Tryz.prog) jkR zer (fun _=>false) (fun _=>false) [] []
theorem A14_ok:EnvOk Tryz.prog A14:=envJOk zer_ok
theorem clone_ec {σ:List AObj} {l:List Int} {k:AV→List AObj→Prop} (hl:l.length≤1000000) (hk:k (.arr σ.length 0) (σ++[.arr 3 1 (ints .i64 l) 0 false])):EC Tryz.prog 71 [.sl false 1 (ints .i64 l)] σ k:=by
  refine EC.nilArr 3 1 ?_
  refine ecR A14_ok (kp71) Tryz.func71 [.tmp 2] (h:=fun KF=>?_)
  unfold A14
  repeat' (first
   |(with_reducible first|refine t_seq fun K=>?_|refine nx ?_|refine t_br (fun hc=>?_) fun hc=>?_)|exact kpd
   |((with_reducible first|refine ny ?_|refine t_kLF ?_ ?_|refine t_region fun K=>?_|refine t_cond fun A B=>?_|refine t_dw (h:=fun K=>?_));(try (refine nh ?_;intro KL));simp only [go_sem,geff,kp71])
   |simp only [thenQ,blockQ,scopeQ,Nat.reduceEqDiff,reduceIte]|(with_reducible first|refine And.intro ?_ ?_|intro vr))
  all_goals try exact nd
  all_goals ((first|refine end_retE ?_|refine end_normE ?_);simp only [fin,go_sem])
  ·exact .inr (by simp_all [ints])
  ·exact .inl hk
noncomputable def ecn71:ECon Tryz.prog where
  f:=71
  c:=fun args σ k=>match args with
   |[xl]=>match slK .i64 xl with|some l=>l.length≤1000000∧k (.arr σ.length 0) (σ++[.arr 3 1 (ints .i64 l) 0 false])|_=>False
   |_=>False
  ok:=by
   intro args σ k h
   split at h
   ·split at h
    ·rename_i hl
     exact EC.weak (clone_ec h.1 h.2) (LeRL.cons (slK_leR hl) (LeRL.nil))
    ·exact h.elim
   ·exact h.elim
  fk:=fk71
theorem ecn71_f:ecn71.f=71:=rfl
theorem ecn71_c {xl:AV} {σ:List AObj} {k:AV→List AObj→Prop}:ecn71.c [xl] σ k=match slK .i64 xl with|some l=>l.length≤1000000∧k (.arr σ.length 0) (σ++[.arr 3 1 (ints .i64 l) 0 false])|_=>False:=rfl
attribute [go_sem] con69_f con69_c con70_f con70_c ecn71_f ecn71_c
noncomputable def A15:Env:=envJ (P:=Tryz.prog) jkR zer (fun _=>false) (fun _=>false) [con69,con70] [ecn71]
theorem A15_ok:EnvOk Tryz.prog A15:=envJOk zer_ok
set_option maxHeartbeats 2000000 in
theorem of_ec {σ:List AObj} {e:ByteArray} {d x:List Int} {k:AV→List AObj→Prop} (hd:d.length≤1000000) (hx:x.length≤1000000) (h0:ofE ⟨e,d,x⟩=0)
    (hk:k (.tup [.agg [.lit (.string e),.arr (σ.length+1) 0,.arr (σ.length+2) 0],.lit (.int .i64 0)]) (σ++[.box 31 [.lit (.string e),.arr (σ.length+1) 0,.arr (σ.length+2) 0],.arr 3 1 (ints .i64 d) 0 false,.arr 3 1 (ints .i64 x) 0 false])):
    EC Tryz.prog 47 [.lit (.string e),.sl false 1 (ints .i64 d),.sl false 1 (ints .i64 x)] σ k:=by
  have hz:=sizeS_bd d
  refine ecR A15_ok (kp47) Tryz.func47 [.cell 6 31,.tmp 7] (h:=fun KF=>?_)
  unfold A15
  repeat' (first
   |(with_reducible first|refine t_seq fun K=>?_|refine nx ?_|refine t_br (fun hc=>?_) fun hc=>?_)|exact kpd
   |((with_reducible first|refine ny ?_|refine t_kLF ?_ ?_|refine t_region fun K=>?_|refine t_cond fun A B=>?_|refine t_dw (h:=fun K=>?_));(try (refine nh ?_;intro KL));simp only [go_sem,geff,kp47])
   |simp only [thenQ,blockQ,scopeQ,Nat.reduceEqDiff,reduceIte]|(with_reducible first|refine And.intro ?_ ?_|intro vr))
  all_goals try exact nd
  all_goals ((first|refine end_retE ?_|refine end_normE ?_);simp only [fin,go_sem])
  ·exfalso;simp_all [ofE,sInt,sBool]
  ·exfalso;revert h0;simp_all [ofE,sInt,sBool];split<;>simp_all
  ·exfalso;revert h0;simp_all [ofE,sInt,sBool];split<;>simp_all
  ·exfalso;revert h0;simp_all [ofE,sInt,sBool];split<;>simp_all
  ·exact hk
noncomputable def ecn47:ECon Tryz.prog where
  f:=47
  c:=fun args σ k=>match args with
   |[.lit (.string e),xd,xx]=>match slK .i64 xd,slK .i64 xx with|some d,some x=>d.length≤1000000∧x.length≤1000000∧ofE ⟨e,d,x⟩=0∧k (.tup [.agg [.lit (.string e),.arr (σ.length+1) 0,.arr (σ.length+2) 0],.lit (.int .i64 0)]) (σ++[.box 31 [.lit (.string e),.arr (σ.length+1) 0,.arr (σ.length+2) 0],.arr 3 1 (ints .i64 d) 0 false,.arr 3 1 (ints .i64 x) 0 false])|_,_=>False
   |_=>False
  ok:=by
   intro args σ k h
   split at h
   ·split at h
    ·rename_i hd hx
     exact EC.weak (of_ec h.1 h.2.1 h.2.2.1 h.2.2.2) (LeRL.cons (LeR.refl _) (LeRL.cons (slK_leR hd) (LeRL.cons (slK_leR hx) (LeRL.nil))))
    ·exact h.elim
   ·exact h.elim
  fk:=fk47
theorem ecn47_f:ecn47.f=47:=rfl
theorem ecn47_c {e:ByteArray} {xd:AV} {xx:AV} {σ:List AObj} {k:AV→List AObj→Prop}:ecn47.c [.lit (.string e),xd,xx] σ k=match slK .i64 xd,slK .i64 xx with|some d,some x=>d.length≤1000000∧x.length≤1000000∧ofE ⟨e,d,x⟩=0∧k (.tup [.agg [.lit (.string e),.arr (σ.length+1) 0,.arr (σ.length+2) 0],.lit (.int .i64 0)]) (σ++[.box 31 [.lit (.string e),.arr (σ.length+1) 0,.arr (σ.length+2) 0],.arr 3 1 (ints .i64 d) 0 false,.arr 3 1 (ints .i64 x) 0 false])|_,_=>False:=rfl
attribute [go_sem] ecn47_f ecn47_c ints_set
end Go.Proofs.YtcpjahmajkhchaaGreat

namespace Go.Proofs.YtcpjahmajkhchaaGreat
open Go Go.Fw
set_option maxRecDepth 20000
structure Sd (c:List Stp) (x G:List Int) where
  i:Nat
  acc:List Int
  hi:i≤x.length
  hp:1≤i
  hn:acc.length=i
  hF:scanG c (x.drop i) acc=G
theorem set_mid {acc:List Int} {a:Int} {t:List Int} {v:Int} {i:Nat} (h:acc.length=i):(acc++a::t).set i v=(acc++[v])++t:=by
  subst h;simp
theorem get_mid {acc:List Int} {a:Int} {t:List Int} {i:Nat} (h:acc.length=i):(acc++a::t).getD i 0=a:=by
  subst h;simp
theorem get_pre {acc t:List Int} {i:Nat} (h:acc.length=i) (h1:1≤i):(acc++t).getD (i - 1) 0=lastI acc:=by
  subst h
  unfold lastI
  rw [List.getD_eq_getElem?_getD,List.getD_eq_getElem?_getD,List.getElem?_append_left (by omega)]
noncomputable def A16:Env:=envJ (P:=Tryz.prog) jkR zer (fun _=>false) (fun _=>false) [con45,con13,con46,con11] [ecn47]
theorem A16_ok:EnvOk Tryz.prog A16:=envJOk zer_ok
set_option maxHeartbeats 4000000 in
theorem scan_pc {c:List Stp} {x:Arr} (hc0:okC c) (hx:okA x):PC Tryz.prog 18 [.sl false 3 (stps c),arrV x] (aeV (scanP c x)):=by
  generalize hR:scanP c x=R
  unfold scanP at hR
  obtain ⟨x1,x2⟩:=hx
  simp only [arrV]
  cases h1:(!(ofE x==0)|| !validC c 2) with
  |true=>
   rw [if_pos h1] at hR
   have h1':(!(ofE ⟨x.e,x.d,x.x⟩==0)|| !validC c 2)=true:=h1
   refine pcR A16_ok (kp18) Tryz.func18 [.cell 4 31,.tmp 5] (h:=fun KF=>?_)
   unfold A16
   repeat' (first
    |(with_reducible first|refine t_seq fun K=>?_|refine nx ?_|refine t_br (fun hc=>?_) fun hc=>?_)|exact kpd
    |((with_reducible first|refine ny ?_|refine t_kLF ?_ ?_|refine t_region fun K=>?_|refine t_cond fun A B=>?_|refine t_drawE (id:=10) (fun i=>i==5) [(0,1),(1,1),(2,1),(3,1),(4,1),(5,1),(6,1),(7,1),(8,2),(9,2),(10,1),(11,1),(12,1),(13,2),(14,2),(15,1),(16,1),(17,1),(18,1),(19,1),(20,2),(21,0)] (by kernel_rfl) fun K=>?_|refine t_dw (h:=fun K=>?_));(try (refine nh ?_;intro KL));simp only [go_sem,geff,kp18,h1',stpsOf_sl])
    |simp only [thenQ,blockQ,scopeQ,Nat.reduceEqDiff,reduceIte]|(with_reducible first|refine And.intro ?_ ?_|intro vr))
   all_goals try exact nd
   all_goals ((first|refine end_retE ?_|refine end_normE ?_);simp only [fin,go_sem])
   exact ae_of rfl rfl hR.symm
  |false=>
   rw [if_neg (by rw [h1];decide)] at hR
   have h1':(!(ofE ⟨x.e,x.d,x.x⟩==0)|| !validC c 2)=false:=h1
   have hq:ofE x=0∧validC c 2=true:=by
     simp only [Bool.or_eq_false_iff,Bool.not_eq_false',beq_iff_eq] at h1;exact h1
   generalize hE:fitsS c x.e x true=e at hR
   have hE':fitsS c x.e ⟨x.e,x.d,x.x⟩ true=e:=hE
   by_cases h2:e=0
   ·subst h2
    rw [if_neg (by simp)] at hR
    have hxl:x.x.length≤4096:=by have:=(sizeS_ok (ofE_inv hq.1).2.1).2.2.2;omega
    have hsl:=scanG_len (c:=c) x.x []
    have h0':ofE ⟨x.e,x.d,x.x⟩=0:=hq.1
    have hv2:=hq.2
    rcases Nat.eq_zero_or_pos x.x.length with hz0|hl1
    ·have hX:x.x=[]:=List.eq_nil_of_length_eq_zero hz0
     rw [hX] at hR
     rw [hX] at h1' hE' h0'
     refine pcR A16_ok (kp18) Tryz.func18 [.cell 4 31,.tmp 5] (h:=fun KF=>?_)
     unfold A16
     repeat' (first
      |(with_reducible first|refine t_seq fun K=>?_|refine nx ?_|refine t_br (fun hc=>?_) fun hc=>?_)|exact kpd
      |((with_reducible first|refine ny ?_|refine t_kLF ?_ ?_|refine t_region fun K=>?_|refine t_cond fun A B=>?_|refine t_drawE (id:=10) (fun i=>i==5) [(0,1),(1,1),(2,1),(3,1),(4,1),(5,1),(6,1),(7,1),(8,2),(9,2),(10,1),(11,1),(12,1),(13,2),(14,2),(15,1),(16,1),(17,1),(18,1),(19,1),(20,2),(21,0)] (by kernel_rfl) fun K=>?_|refine t_dw (h:=fun K=>?_));(try (refine nh ?_;intro KL));simp only [go_sem,geff,kp18,hX,h1',hE',h0',hv2,Bool.not_true,beq_self_eq_true,stpsOf_sl,ints_nil])
      |simp only [thenQ,blockQ,scopeQ,Nat.reduceEqDiff,reduceIte]|(with_reducible first|refine And.intro ?_ ?_|intro vr))
     all_goals try exact nd
     refine t_loopF (ι:=Unit) (fun i=>[(9,.lit (.int .i64 1))]) (fun i=>[.box 31 [.lit (.string x.e),.sl false 1 (ints .i64 x.d),.sl false 1 []],.box 31 [.lit (.string ByteArray.empty),.sl true 1 [],.sl true 1 []],.box 31 [.lit (.string x.e),.arr 3 0,.arr 4 0],.arr 3 1 (ints .i64 x.d) 0 false,.arr 3 1 [] 0 false,.box 31 [.lit (.string x.e),.arr 3 0,.arr 4 0]]) (fun i=>0) () ?_ ?_
     ·simp only [updL_nil,updL_cons,delF_top,delF_upd,Nat.reduceEqDiff,reduceIte]
      refine Le.frameS (by first|rfl|(simp only [go_sem];try rfl)) ?_
      repeat' (first|exact leF_top _|exact (fun _=>LeR.refl _)|(with_reducible refine leF_sl ?_ ?_)|(refine leF_upd ?_ ?_))
      all_goals (first|exact LeR.top _|exact LeR.refl _|(refine LeR.of_eq ?_;(try simp only [go_sem]);try rfl)|((try simp only [go_sem]);try rfl))
     rintro _ K0
     repeat' (first
      |(with_reducible first|refine t_seq fun K=>?_|refine nx ?_|refine t_br (fun hc=>?_) fun hc=>?_)|exact kpd
      |((with_reducible first|refine ny ?_|refine t_kLF ?_ ?_|refine t_region fun K=>?_|refine t_cond fun A B=>?_|refine t_drawE (id:=10) (fun i=>i==5) [(0,1),(1,1),(2,1),(3,1),(4,1),(5,1),(6,1),(7,1),(8,2),(9,2),(10,1),(11,1),(12,1),(13,2),(14,2),(15,1),(16,1),(17,1),(18,1),(19,1),(20,2),(21,0)] (by kernel_rfl) fun K=>?_|refine t_dw (h:=fun K=>?_));(try (refine nh ?_;intro KL));simp only [go_sem,geff,kp18,Int.toNat_natCast])
      |simp only [thenQ,blockQ,scopeQ,Nat.reduceEqDiff,reduceIte]|(with_reducible first|refine And.intro ?_ ?_|intro vr))
     all_goals try exact nd
     all_goals ((first|refine end_retE ?_|refine end_normE ?_);simp only [fin,go_sem])
     exact ae_of slK_sl rfl hR.symm
    ·obtain ⟨a0,hX0⟩:∃ a0,x.x=[a0]++x.x.drop 1:=by
       rcases hh:x.x with _|⟨a0,t0⟩
       ·rw [hh] at hl1;simp at hl1
       ·exact ⟨a0,rfl⟩
     generalize hG:scanG c x.x []=G at hR hsl
     have hG1:scanG c (x.x.drop 1) [a0]=G:=by
       rw [←hG]
       conv=>rhs;rw [hX0]
       rfl
     refine pcR A16_ok (kp18) Tryz.func18 [.cell 4 31,.tmp 5] (h:=fun KF=>?_)
     unfold A16
     repeat' (first
      |(with_reducible first|refine t_seq fun K=>?_|refine nx ?_|refine t_br (fun hc=>?_) fun hc=>?_)|exact kpd
      |((with_reducible first|refine ny ?_|refine t_kLF ?_ ?_|refine t_region fun K=>?_|refine t_cond fun A B=>?_|refine t_drawE (id:=10) (fun i=>i==5) [(0,1),(1,1),(2,1),(3,1),(4,1),(5,1),(6,1),(7,1),(8,2),(9,2),(10,1),(11,1),(12,1),(13,2),(14,2),(15,1),(16,1),(17,1),(18,1),(19,1),(20,2),(21,0)] (by kernel_rfl) fun K=>?_|refine t_dw (h:=fun K=>?_));(try (refine nh ?_;intro KL));simp only [go_sem,geff,kp18,h1',hE',h0',hv2,Bool.not_true,beq_self_eq_true,stpsOf_sl])
      |simp only [thenQ,blockQ,scopeQ,Nat.reduceEqDiff,reduceIte]|(with_reducible first|refine And.intro ?_ ?_|intro vr))
     all_goals try exact nd
     refine t_loopF (ι:=Sd c x.x G) (fun i=>[(9,.lit (.int .i64 i.i))]) (fun i=>[.box 31 [.lit (.string x.e),.sl false 1 (ints .i64 x.d),.sl false 1 (ints .i64 x.x)],.box 31 [.lit (.string ByteArray.empty),.sl true 1 [],.sl true 1 []],.box 31 [.lit (.string x.e),.arr 3 0,.arr 4 0],.arr 3 1 (ints .i64 x.d) 0 false,.arr 3 1 (ints .i64 (i.acc++x.x.drop i.i)) 0 false,.box 31 [.lit (.string x.e),.arr 3 0,.arr 4 0]]) (fun i=>x.x.length - i.i) ⟨1,[a0],by omega,by omega,rfl,hG1⟩ ?_ ?_
     ·simp only [updL_nil,updL_cons,delF_top,delF_upd,Nat.reduceEqDiff,reduceIte,←hX0]
      refine Le.frameS (by first|rfl|(simp only [go_sem];try rfl)) ?_
      repeat' (first|exact leF_top _|exact (fun _=>LeR.refl _)|(with_reducible refine leF_sl ?_ ?_)|(refine leF_upd ?_ ?_))
      all_goals (first|exact LeR.top _|exact LeR.refl _|(refine LeR.of_eq ?_;(try simp only [go_sem]);try rfl)|((try simp only [go_sem]);try rfl))
     rintro ⟨i,acc,hi,hp,hn,hF⟩ K0
     simp only
     have hla:(acc++x.x.drop i).length=x.x.length:=by rw [List.length_append,List.length_drop];omega
     rcases Nat.lt_or_ge i x.x.length with hc|hc
     ·have hdr:=drop_getD (0:Int) hc
      have hsc:scanG c (x.x.drop i) acc=scanG c (x.x.drop (i+1)) (acc++[(runS c [lastI acc,x.x.getD i 0]).1]):=by
        rw [hdr,scanG,if_neg (fun e=>by rw [e] at hn;simp at hn;omega)]
      have g3:decide ((i:Int)<(x.x.length:Int))=true:=decide_eq_true (by omega)
      have e1:((i:Int) - 1).toNat=i - 1:=by omega
      have p1:=get_pre (t:=x.x.drop i) hn hp
      have p2:(acc++x.x.drop i).getD i 0=x.x.getD i 0:=by rw [hdr];exact get_mid hn
      have p3:∀ v,(acc++x.x.drop i).set i v=(acc++[v])++x.x.drop (i+1):=fun v=>by rw [hdr];exact set_mid hn
      repeat' (first
       |(with_reducible first|refine t_seq fun K=>?_|refine nx ?_|refine t_br (fun hc=>?_) fun hc=>?_)|exact kpd
       |((with_reducible first|refine ny ?_|refine t_kLF ?_ ?_|refine t_region fun K=>?_|refine t_cond fun A B=>?_|refine t_drawE (id:=10) (fun i=>i==5) [(0,1),(1,1),(2,1),(3,1),(4,1),(5,1),(6,1),(7,1),(8,2),(9,2),(10,1),(11,1),(12,1),(13,2),(14,2),(15,1),(16,1),(17,1),(18,1),(19,1),(20,2),(21,0)] (by kernel_rfl) fun K=>?_|refine t_dw (h:=fun K=>?_));(try (refine nh ?_;intro KL));simp only [go_sem,geff,kp18,g3,hla,e1,p1,p2,p3,stpsOf_sl,Int.toNat_natCast,yes,ints_set])
       |simp only [thenQ,blockQ,scopeQ,Nat.reduceEqDiff,reduceIte]|(with_reducible first|refine And.intro ?_ ?_|intro vr))
      all_goals try exact nd
      all_goals trace_state
      refine ⟨⟨i+1,acc++[(runS c [lastI acc,x.x.getD i 0]).1],by omega,by omega,by simp;omega,by rw [←hsc];exact hF⟩,by first|(simp only;omega)|omega,?_⟩
      simp only [updL_nil,updL_cons,delF_top,delF_upd,Nat.reduceEqDiff,reduceIte]
      refine Le.frameS (by first|rfl|(simp only [go_sem];try rfl)) ?_
      repeat' (first|exact leF_top _|exact (fun _=>LeR.refl _)|(with_reducible refine leF_sl ?_ ?_)|(refine leF_upd ?_ ?_))
      all_goals (first|exact LeR.top _|exact LeR.refl _|(refine LeR.of_eq ?_;(try simp only [go_sem]);try rfl)|((try simp only [go_sem]);try rfl))
     ·have g3:decide ((i:Int)<(x.x.length:Int))=false:=decide_eq_false (by omega)
      rw [List.drop_eq_nil_of_le hc,scanG] at hF
      subst hF
      have p4:acc++x.x.drop i=acc:=by rw [List.drop_eq_nil_of_le hc,List.append_nil]
      rw [p4] at hla
      repeat' (first
       |(with_reducible first|refine t_seq fun K=>?_|refine nx ?_|refine t_br (fun hc=>?_) fun hc=>?_)|exact kpd
       |((with_reducible first|refine ny ?_|refine t_kLF ?_ ?_|refine t_region fun K=>?_|refine t_cond fun A B=>?_|refine t_drawE (id:=10) (fun i=>i==5) [(0,1),(1,1),(2,1),(3,1),(4,1),(5,1),(6,1),(7,1),(8,2),(9,2),(10,1),(11,1),(12,1),(13,2),(14,2),(15,1),(16,1),(17,1),(18,1),(19,1),(20,2),(21,0)] (by kernel_rfl) fun K=>?_|refine t_dw (h:=fun K=>?_));(try (refine nh ?_;intro KL));simp only [go_sem,geff,kp18,g3,hla,p4,Int.toNat_natCast])
       |simp only [thenQ,blockQ,scopeQ,Nat.reduceEqDiff,reduceIte]|(with_reducible first|refine And.intro ?_ ?_|intro vr))
      all_goals try exact nd
      all_goals ((first|refine end_retE ?_|refine end_normE ?_);simp only [fin,go_sem])
      exact ae_of slK_sl slK_sl hR.symm
   ·rw [if_pos h2] at hR
    have h2':(e !=0)=true:=bne_iff_ne.2 h2
    refine pcR A16_ok (kp18) Tryz.func18 [.cell 4 31,.tmp 5] (h:=fun KF=>?_)
    unfold A16
    repeat' (first
     |(with_reducible first|refine t_seq fun K=>?_|refine nx ?_|refine t_br (fun hc=>?_) fun hc=>?_)|exact kpd
     |((with_reducible first|refine ny ?_|refine t_kLF ?_ ?_|refine t_region fun K=>?_|refine t_cond fun A B=>?_|refine t_drawE (id:=10) (fun i=>i==5) [(0,1),(1,1),(2,1),(3,1),(4,1),(5,1),(6,1),(7,1),(8,2),(9,2),(10,1),(11,1),(12,1),(13,2),(14,2),(15,1),(16,1),(17,1),(18,1),(19,1),(20,2),(21,0)] (by kernel_rfl) fun K=>?_|refine t_dw (h:=fun K=>?_));(try (refine nh ?_;intro KL));simp only [go_sem,geff,kp18,h1',hE',h2',stpsOf_sl])
     |simp only [thenQ,blockQ,scopeQ,Nat.reduceEqDiff,reduceIte]|(with_reducible first|refine And.intro ?_ ?_|intro vr))
    all_goals try exact nd
    all_goals ((first|refine end_retE ?_|refine end_normE ?_);simp only [fin,go_sem])
    exact ae_of rfl rfl hR.symm
noncomputable def con18:PCon Tryz.prog where
  f:=18
  c:=fun
   |[xc,xx]=>match stpsOf xc,arrOf xx with|some c,some x=>some (okC c∧okA x,aeV (scanP c x))|_,_=>none
   |_=>none
  ok:=by
   intro args p r hc hp
   split at hc
   ·split at hc
    ·rename_i hc hx
     cases hc
     exact PC.weak ((fun hp:_∧_=>scan_pc hp.1 hp.2) hp) ⟨stpsOf_le hc,arrOf_le hx,trivial⟩
    ·cases hc
   ·cases hc
  fk:=fk18
theorem con18_f:con18.f=18:=rfl
theorem con18_c {xc:AV} {xx:AV}:con18.c [xc,xx]=match stpsOf xc,arrOf xx with|some c,some x=>some (okC c∧okA x,aeV (scanP c x))|_,_=>none:=rfl
attribute [go_sem] con18_f con18_c
end Go.Proofs.YtcpjahmajkhchaaGreat

namespace Go.Proofs.YtcpjahmajkhchaaGreat
open Go Go.Fw
set_option maxRecDepth 20000
noncomputable def A17:Env:=envJ (P:=Tryz.prog) jkR zer (fun _=>false) (fun _=>false) [El.con44] []
theorem A17_ok:EnvOk Tryz.prog A17:=envJOk zer_ok
set_option maxHeartbeats 4000000 in
theorem rprim_pc {op:ByteArray}:PC Tryz.prog 35 [.lit (.string op)] (prV (primS op)):=by
  generalize hR:primS op=R
  unfold primS at hR
  cases hT:El.typesS op with
  |none=>
   rw [hT] at hR
   simp only at hR
   refine pcR A17_ok (kp35) Tryz.func35 [.tmp 2,.tmp 3] (h:=fun KF=>?_)
   unfold A17
   repeat' (first
    |(with_reducible first|refine t_seq fun K=>?_|refine nx ?_|refine t_br (fun hc=>?_) fun hc=>?_)|exact kpd
    |((with_reducible first|refine ny ?_|refine t_kLF ?_ ?_|refine t_region fun K=>?_|refine t_cond fun A B=>?_|refine t_dw (h:=fun K=>?_));(try (refine nh ?_;intro KL));simp only [go_sem,geff,kp35,hT,Bool.not_false])
    |simp only [thenQ,blockQ,scopeQ,Nat.reduceEqDiff,reduceIte]|(with_reducible first|refine And.intro ?_ ?_|intro vr))
   all_goals try exact nd
   all_goals ((first|refine end_retE ?_|refine end_normE ?_);simp only [fin,go_sem])
   rw [←hR]
   exact LeA.tup ⟨LeA.nil _ _,LeA.refl _,trivial⟩
  |some r=>
   rw [hT] at hR
   simp only at hR
   have hr:=types_len hT
   have hr1:=types_pos hT
   have z0:decide (0=r.ps.length)=false:=decide_eq_false (by omega)
   refine pcR A17_ok (kp35) Tryz.func35 [.tmp 2,.tmp 3] (h:=fun KF=>?_)
   unfold A17
   repeat' (first
    |(with_reducible first|refine t_seq fun K=>?_|refine nx ?_|refine t_br (fun hc=>?_) fun hc=>?_)|exact kpd
    |((with_reducible first|refine ny ?_|refine t_kLF ?_ ?_|refine t_region fun K=>?_|refine t_cond fun A B=>?_|refine t_dw (h:=fun K=>?_));(try (refine nh ?_;intro KL));simp only [go_sem,geff,kp35,hT,Bool.not_true,strs_length])
    |simp only [thenQ,blockQ,scopeQ,Nat.reduceEqDiff,reduceIte]|(with_reducible first|refine And.intro ?_ ?_|intro vr))
   all_goals try exact nd
   refine t_loopF (ι:={p:Nat×Nat // p.1≤r.ps.length}) (fun i=>[(8,.lit (.int .i64 i.1.1))]) (fun i=>[.box 78 [.lit (.string op),.lit (.int .i64 0),.arr 1 i.1.2],.arr 3 1 (ints .i64 (iota i.1.1)) i.1.2 (decide (i.1.1=r.ps.length))]) (fun i=>r.ps.length - i.1.1) ⟨(0,0),by simp⟩ ?_ ?_
   ·refine (le_nilB 0 2 3 1 (cs:=[.lit (.string op),.lit (.int .i64 0),.sl true 1 []]) rfl (by simp) nil_sl).trans ?_
    simp only [updL_nil,updL_cons,delF_top,delF_upd,Nat.reduceEqDiff,reduceIte]
    simp only [iota_zero,ints_nil,z0]
    refine Le.frameS (by first|rfl|(simp only [go_sem];try rfl)) ?_
    repeat' (first|exact leF_top _|exact (fun _=>LeR.refl _)|(with_reducible refine leF_sl ?_ ?_)|(refine leF_upd ?_ ?_))
    all_goals (first|exact LeR.top _|exact LeR.refl _|(refine LeR.of_eq ?_;(try simp only [go_sem]);try rfl)|((try simp only [go_sem]);try rfl))
   rintro ⟨⟨i,v⟩,hi⟩ K0
   simp only at hi
   have hil:=iota_len i
   rcases Nat.lt_or_ge i r.ps.length with hc|hc
   ·have g3:decide ((i:Int)<(r.ps.length:Int))=true:=decide_eq_true (by omega)
    have z1:decide (i=r.ps.length)=false:=decide_eq_false (by omega)
    repeat' (first
     |(with_reducible first|refine t_seq fun K=>?_|refine nx ?_|refine t_br (fun hc=>?_) fun hc=>?_)|exact kpd
     |((with_reducible first|refine ny ?_|refine t_kLF ?_ ?_|refine t_region fun K=>?_|refine t_cond fun A B=>?_|refine t_dw (h:=fun K=>?_));(try (refine nh ?_;intro KL));simp only [go_sem,geff,kp35,g3,z1,Int.toNat_natCast,←iota_succ])
     |simp only [thenQ,blockQ,scopeQ,Nat.reduceEqDiff,reduceIte]|(with_reducible first|refine And.intro ?_ ?_|intro vr))
    all_goals try exact nd
    refine ⟨⟨(i+1,v+1),by omega⟩,by show r.ps.length - (i+1)<r.ps.length - i;omega,?_⟩
    by_cases hz:i+1=r.ps.length
    ·refine (le_frz (o:=1) rfl).trans ?_
     have z2:decide (i+1=r.ps.length)=true:=decide_eq_true hz
     simp only [updL_nil,updL_cons,delF_top,delF_upd,Nat.reduceEqDiff,reduceIte,z2,List.set_cons_zero,List.set_cons_succ]
     refine Le.frameS (by first|rfl|(simp only [go_sem];try rfl)) ?_
     repeat' (first|exact leF_top _|exact (fun _=>LeR.refl _)|(with_reducible refine leF_sl ?_ ?_)|(refine leF_upd ?_ ?_))
     all_goals (first|exact LeR.top _|exact LeR.refl _|(refine LeR.of_eq ?_;(try simp only [go_sem]);try rfl)|((try simp only [go_sem]);try rfl))
    ·have z2:decide (i+1=r.ps.length)=false:=decide_eq_false hz
     simp only [updL_nil,updL_cons,delF_top,delF_upd,Nat.reduceEqDiff,reduceIte,z2]
     refine Le.frameS (by first|rfl|(simp only [go_sem];try rfl)) ?_
     repeat' (first|exact leF_top _|exact (fun _=>LeR.refl _)|(with_reducible refine leF_sl ?_ ?_)|(refine leF_upd ?_ ?_))
     all_goals (first|exact LeR.top _|exact LeR.refl _|(refine LeR.of_eq ?_;(try simp only [go_sem]);try rfl)|((try simp only [go_sem]);try rfl))
   ·have g3:decide ((i:Int)<(r.ps.length:Int))=false:=decide_eq_false (by omega)
    have e:i=r.ps.length:=by omega
    have z1:decide (i=r.ps.length)=true:=decide_eq_true e
    repeat' (first
     |(with_reducible first|refine t_seq fun K=>?_|refine nx ?_|refine t_br (fun hc=>?_) fun hc=>?_)|exact kpd
     |((with_reducible first|refine ny ?_|refine t_kLF ?_ ?_|refine t_region fun K=>?_|refine t_cond fun A B=>?_|refine t_dw (h:=fun K=>?_));(try (refine nh ?_;intro KL));simp only [go_sem,geff,kp35,g3,z1,Int.toNat_natCast])
     |simp only [thenQ,blockQ,scopeQ,Nat.reduceEqDiff,reduceIte]|(with_reducible first|refine And.intro ?_ ?_|intro vr))
    all_goals try exact nd
    all_goals ((first|refine end_retE ?_|refine end_normE ?_);simp only [fin,go_sem])
    rw [←hR,←e]
    exact stp_one slK_sl
noncomputable def con35:PCon Tryz.prog where
  f:=35
  c:=fun
   |[.lit (.string op)]=>some (True,prV (primS op))
   |_=>none
  ok:=by
   intro args p r hc hp
   split at hc
   ·cases hc;exact rprim_pc
   ·cases hc
  fk:=fk35
theorem con35_f:con35.f=35:=rfl
theorem con35_c {op:ByteArray}:con35.c [.lit (.string op)]=some (True,prV (primS op)):=rfl
attribute [go_sem] con35_f con35_c
end Go.Proofs.YtcpjahmajkhchaaGreat

namespace Go.Proofs.YtcpjahmajkhchaaGreat
open Go Go.Fw
set_option maxRecDepth 20000
noncomputable def F1:Env:=envJ (P:=Tryz.prog) jk zer (fun _=>false) (fun _=>false) [] []
theorem F1_ok:EnvOk Tryz.prog F1:=envJOk zer_ok
end Go.Proofs.YtcpjahmajkhchaaGreat

namespace Go.Proofs.YtcpjahmajkhchaaGreat
open Go Go.Fw
set_option maxRecDepth 20000
def n_iota:ByteArray:=⟨#[105,111,116,97]⟩
def n_fill:ByteArray:=⟨#[102,105,108,108]⟩
def n_take:ByteArray:=⟨#[116,97,107,101]⟩
def n_drop:ByteArray:=⟨#[100,114,111,112]⟩
def n_reverse:ByteArray:=⟨#[114,101,118,101,114,115,101]⟩
def n_append:ByteArray:=⟨#[97,112,112,101,110,100]⟩
def n_transpose:ByteArray:=⟨#[116,114,97,110,115,112,111,115,101]⟩
def n_diagonal:ByteArray:=⟨#[100,105,97,103,111,110,97,108]⟩
def n_windows:ByteArray:=⟨#[119,105,110,100,111,119,115]⟩
def n_chunk:ByteArray:=⟨#[99,104,117,110,107]⟩
def n_index:ByteArray:=⟨#[105,110,100,101,120]⟩
def n_update:ByteArray:=⟨#[117,112,100,97,116,101]⟩
def n_pack:ByteArray:=⟨#[112,97,99,107]⟩
structure Ent where
  op:ByteArray
  sized:Bool
  ranks:List Int
  dims:Option Nat
  from_:Option Nat
def fnV:Option Nat→AV
  |some g=> .fn (.func g) [] []
  |none=> .lit .nilFunc
def entV (e:Ent):AV:= .agg [.lit (.string e.op),.lit (.bool e.sized),.sl false 1 (ints .i64 e.ranks),fnV e.dims,fnV e.from_]
theorem entV_def {e:Ent}:entV e= .agg [.lit (.string e.op),.lit (.bool e.sized),.sl false 1 (ints .i64 e.ranks),fnV e.dims,fnV e.from_]:=rfl
def entsV (l:List Ent):List AV:=l.map entV
def ent0:Ent:=⟨⟨#[]⟩,false,[],none,none⟩
def jE:AV:=entV ent0
def ents:List Ent:=[⟨n_iota,true,[],some 134,none⟩,
  ⟨n_fill,true,[0],some 134,some 135⟩,
  ⟨n_take,true,[1],some 136,some 138⟩,
  ⟨n_drop,true,[1],some 139,some 140⟩,
  ⟨n_reverse,false,[1],some 141,some 142⟩,
  ⟨n_append,false,[1,1],some 143,none⟩,
  ⟨n_transpose,false,[2],some 144,some 145⟩,
  ⟨n_diagonal,false,[2],some 146,some 147⟩,
  ⟨n_windows,true,[1],some 148,some 149⟩,
  ⟨n_chunk,false,[1],some 150,some 151⟩,
  ⟨n_index,false,[1,0],some 152,none⟩,
  ⟨n_update,false,[1,0,0],some 141,none⟩]
theorem entsV_length (l:List Ent):(entsV l).length=l.length:=by simp [entsV]
theorem entsV_getJ (l:List Ent) (i:Nat):(entsV l).getD i jE=entV (l.getD i ent0):=by
  simp only [entsV,jE,List.getD_eq_getElem?_getD,List.getElem?_map];cases l[i]? <;>rfl
theorem sz140':szT Tryz.prog 140=1:=by kernel_rfl
theorem ag140':aggT Tryz.prog 140=some false:=by kernel_rfl
theorem sz141':szT Tryz.prog 141=1:=by kernel_rfl
theorem ag141':aggT Tryz.prog 141=some false:=by kernel_rfl
attribute [go_sem] sz140' ag140' sz141' ag141'
def jk2:TypeId→AV:=fun t=>if t=143 then jE else jk t
theorem jk2_143:jk2 143=jE:=rfl
theorem jk2_3:jk2 3= .lit (.int .i64 0):=rfl
theorem jk2_9:jk2 9= .lit (.string ByteArray.empty):=rfl
theorem jk2_23:jk2 23=jI:=rfl
theorem jk2_31:jk2 31=jA:=rfl
attribute [go_sem] jk2_143 jk2_3 jk2_9 jk2_23 jk2_31 entsV_getJ
theorem close0_fnV {b:Bool} {σ:List AObj} {o:Option Nat}:close0 b σ (fnV o)=some (fnV o):=by cases o<;>rfl
theorem ids0_fnV {o:Option Nat}:ids0 (fnV o)=[]:=by cases o<;>rfl
theorem cells_fnV {o:Option Nat}:(fnV o).cells=[fnV o]:=by cases o<;>rfl
theorem solid_fnV {o:Option Nat}:(fnV o).solid=true:=by cases o<;>rfl
attribute [go_sem] close0_fnV ids0_fnV cells_fnV solid_fnV
noncomputable def F4:Env:=envJ (P:=Tryz.prog) jk2 zer (fun _=>false) (fun _=>false) [] []
theorem F4_ok:EnvOk Tryz.prog F4:=envJOk zer_ok
set_option maxRecDepth 20000 in
set_option maxHeartbeats 4000000 in
theorem entries_pc:PC Tryz.prog 127 [] (.sl false 5 (entsV ents)):=by
  refine pcR F4_ok (fun _=>[0,1]) Tryz.func127 [.tmp 0] (h:=fun KF=>?_)
  unfold F4
  repeat' (first
   |(with_reducible first|refine t_seq fun K=>?_|refine nx ?_|refine t_br (fun hc=>?_) fun hc=>?_)|exact kpd
   |((with_reducible first|refine ny ?_|refine t_kLF ?_ ?_|refine t_region fun K=>?_|refine t_cond fun A B=>?_|refine t_dw (h:=fun K=>?_));simp only [go_sem,geff])
   |simp only [thenQ,blockQ,scopeQ,Nat.reduceEqDiff,reduceIte]|(with_reducible first|refine And.intro ?_ ?_|intro vr))
  all_goals try exact nd
  all_goals ((first|refine end_retE ?_|refine end_normE ?_);simp only [fin,go_sem])
  refine LeA.sl rfl (by simp [entsV,entV,AV.cells]) ?_
  show LeL _ _
  simp only [flat,entsV,ents,entV,List.map_cons,List.map_nil,List.flatMap_cons,List.flatMap_nil,cells_agg,List.cons_append,List.nil_append,fnV,ints]
  repeat' (first|exact LeL.nil|refine LeL.cons ?_ ?_)
  all_goals first|exact LeA.refl _|exact LeA.full _ _ _|exact LeA.nil _ _
noncomputable def con127:PCon Tryz.prog where
  f:=127
  c:=fun
   |[]=>some (True,.sl false 5 (entsV ents))
   |_=>none
  ok:=by
   intro args p r hc hp
   split at hc
   ·cases hc;exact entries_pc
   ·cases hc
  fk:=fk127
theorem con127_f:con127.f=127:=rfl
theorem con127_c:con127.c []=some (True,.sl false 5 (entsV ents)):=rfl
end Go.Proofs.YtcpjahmajkhchaaGreat

namespace Go.Proofs.YtcpjahmajkhchaaGreat
open Go Go.Fw
def opNames:List ByteArray:=[n_iota,n_fill,n_take,n_drop,n_reverse,n_append,n_transpose,n_diagonal,n_windows,n_chunk,n_index,n_update,n_pack]
def isS (op:ByteArray):Bool:=opNames.any fun s=>eqS s op
theorem eqS_symm (a b:ByteArray):eqS a b=eqS b a:=by
  rw [Bool.eq_iff_iff,eqS_iff,eqS_iff];exact eq_comm
theorem strs_nil':strs []=[]:=rfl
structure Gat where
  i:Nat
  v:Nat
def idxB (p:ByteArray→Bool):List ByteArray→Int→Int
  |[],_=> -1
  |d::t,i=>if p d=true then i else idxB p t (i+1)
theorem idxB_any (p:ByteArray→Bool):∀ (l:List ByteArray) (i:Int),0≤i→decide (idxB p l i≥0)=l.any p
  |[],_,_=>rfl
  |d::t,i,hi=>by
   unfold idxB
   by_cases h:p d=true
   ·rw [if_pos h,List.any_cons,h,decide_eq_true hi];rfl
   ·rw [if_neg h,idxB_any p t (i+1) (by omega),List.any_cons]
    simp only [Bool.not_eq_true] at h
    rw [h];rfl
end Go.Proofs.YtcpjahmajkhchaaGreat
