import Derived.Test.YtcpjahmajkhchaaGreatSD
import Derived.Test.YtcpjahmajkhchaaGreatFwC

set_option linter.all false

namespace Go.Proofs.YtcpjahmajkhchaaGreat
open Go Go.Fw
set_option maxRecDepth 20000
noncomputable def L5:Env:=envJ (P:=Tryz.prog) jkR zer (fun _=>false) (fun _=>false) [con9,con10,con21,con22,con23,con24,con16,con25] []
theorem L5_ok:EnvOk Tryz.prog L5:=envJOk zer_ok
set_option maxHeartbeats 8000000 in
theorem append_law_pc {c:List Stp} {x y:List Int} {n:Int} (hn: -2147483648≤n∧n≤2147483647) (hl:c.length≤9223372036854775807):
    PC Tryz.prog 5 [.sl false 3 (stps c),.agg [.sl false 1 (ints .i64 x),.sl false 1 (ints .i64 y)],.lit (.int .i32 n)] (.lit (.bool true)):=by
  have v1:IntKind.i64.wrap n=n:=wrap_i64 (by unfold inI64;omega)
  cases hg:(!fewC c||decide ((x.length:Int)>30)||decide ((y.length:Int)>30)) with
  |true=>
   refine pcR L5_ok (kp5) Tryz.func5 [.tmp 6] (h:=fun KF=>?_)
   unfold L5
   repeat' (first
    |(with_reducible first|refine t_seq fun K=>?_|refine nx ?_|refine t_br (fun hc=>?_) fun hc=>?_)|exact kpd
    |((with_reducible first|refine ny ?_|refine nk ?_ ?_|refine t_region fun K=>?_|refine t_cond fun A B=>?_|refine t_dw (h:=fun K=>?_));(try (refine nh ?_;intro KL));simp only [go_sem,geff,kp5,hg])
    |simp only [thenQ,blockQ,scopeQ,Nat.reduceEqDiff,reduceIte]|(with_reducible first|refine And.intro ?_ ?_|intro vr))
   all_goals try exact nd
   all_goals ((first|refine end_retE ?_|refine end_normE ?_);simp only [fin,go_sem])
   all_goals exact LeA.refl _
  |false=>
   have hg':=hg
   simp only [Bool.or_eq_false_iff,Bool.not_eq_false',decide_eq_false_iff_not] at hg'
   obtain ⟨⟨g1,g2⟩,g3⟩:=hg'
   have k1:=(fewC_ok g1).1
   have lx:okA (listA x):=okl x (by omega)
   have ly:okA (listA y):=okl y (by omega)
   cases hu:(!(typS c [⟨#[105,110,116]⟩,⟨#[105,110,116]⟩]).2|| !eqS (typS c [⟨#[105,110,116]⟩,⟨#[105,110,116]⟩]).1 ⟨#[105,110,116]⟩|| !(ofE (listA x)==0)|| !(ofE (listA y)==0)) with
   |true=>
    refine pcR L5_ok (kp5) Tryz.func5 [.tmp 6] (h:=fun KF=>?_)
    unfold L5
    repeat' (first
     |(with_reducible first|refine t_seq fun K=>?_|refine nx ?_|refine t_br (fun hc=>?_) fun hc=>?_)|exact kpd
     |((with_reducible first|refine ny ?_|refine nk ?_ ?_|refine t_region fun K=>?_|refine t_cond fun A B=>?_|refine t_dw (h:=fun K=>?_));(try (refine nh ?_;intro KL));simp only [go_sem,geff,kp5,hg,hu,arrV_def',arr_eta,arrOf_agg,slK_sl,Option.map_some])
     |simp only [thenQ,blockQ,scopeQ,Nat.reduceEqDiff,reduceIte]|(with_reducible first|refine And.intro ?_ ?_|intro vr))
    all_goals try (first|exact k1|exact k1.1|exact k1.2|exact lx.1|exact lx.2|exact ly.1|exact ly.2)
    all_goals try exact nd
    all_goals ((first|refine end_retE ?_|refine end_normE ?_);simp only [fin,go_sem])
    all_goals exact LeA.refl _
   |false=>
    have hu':=hu
    simp only [Bool.or_eq_false_iff,Bool.not_eq_false',beq_iff_eq] at hu'
    obtain ⟨⟨⟨t1,t2⟩,vx⟩,vy⟩:=hu'
    have wn:=vld32 hn
    obtain ⟨f1,m1⟩:=fold_ok t1 t2 (by omega) (list_vld vx) wn
    obtain ⟨f2,m2⟩:=fold_ok t1 t2 (by omega) (list_vld vy) m1
    have f3:foldS c (scA n) (listA (x++y))=(scA (foldG c y (foldG c x n)),0):=by
      rw [←foldG_app]
      exact (fold_ok t1 t2 (by simp;omega) (fun k hk=>by rcases List.mem_append.1 hk with hk|hk;exact list_vld vx k hk;exact list_vld vy k hk) wn).1
    have f4:foldS c (scA n) (listA [])=(scA n,0):=(fold_ok t1 t2 (by simp) (by simp) wn).1
    have e1:=same_self (ofE_scal m2)
    have e2:=same_self (ofE_scal wn)
    have lxy:okA (listA (x++y)):=okl _ (by simp;omega)
    have l0:okA (listA []):=okl _ (by simp)
    have s1:=oks n
    have s2:=oks (foldG c x n)
    have s3:=oks (foldG c y (foldG c x n))
    refine pcR L5_ok (kp5) Tryz.func5 [.tmp 6] (h:=fun KF=>?_)
    unfold L5
    repeat' (first
     |(with_reducible first|refine t_seq fun K=>?_|refine nx ?_|refine t_br (fun hc=>?_) fun hc=>?_)|exact kpd
     |((with_reducible first|refine ny ?_|refine nk ?_ ?_|refine t_region fun K=>?_|refine t_cond fun A B=>?_);(try (refine nh ?_;intro KL));simp only [go_sem,geff,kp5,isIntV,hg,hu,v1,f1,f2,f3,f4,e1,e2,arrV_def',arr_eta,arrOf_agg,slK_sl,Option.map_some,ints_append,slK_emp,aeV_def,beq_self_eq_true])
     |simp only [thenQ,blockQ,scopeQ,Nat.reduceEqDiff,reduceIte]|(with_reducible first|refine And.intro ?_ ?_|intro vr))
    all_goals try (first|exact k1|exact k1.1|exact k1.2|exact lx.1|exact lx.2|exact ly.1|exact ly.2|exact lxy.1|exact lxy.2|exact l0.1|exact l0.2|exact s1.1|exact s1.2|exact s2.1|exact s2.2|exact s3.1|exact s3.2)
    all_goals try exact nd
    refine t_drawG (id:=8) (fun i=>i==0) 16 [(0,1),(1,1),(2,1),(3,1),(4,1),(5,1),(6,1),(8,1),(9,1),(7,0),(10,0),(11,0),(12,1),(13,1),(14,1),(15,1),(16,3),(17,0),(18,1)] (by kernel_rfl) (by kernel_rfl) (by kernel_rfl) fun K=>?_
    have keyA:∀ f:Nat→AV,f 0= .sl false 3 (stps c)→f 2= .lit (.int .i32 n)→f 4= .ref 0 0→f 9= .ref 1 0→f 10= .lit (.int .i64 0)→K.k ⟨f,[.box 39 [.sl false 1 (ints .i64 x),.sl false 1 (ints .i64 y)],.box 31 [.lit (.string (scA (foldG c y (foldG c x n))).e),.sl false 1 (ints .i64 (scA (foldG c y (foldG c x n))).d),.sl false 1 (ints .i64 (scA (foldG c y (foldG c x n))).x)],.arr 3 1 (ints .i64 (x++y)) 1 true]⟩:=by
     as_aux_lemma=>
      intro f h0 h2 h4 h9 h10
      repeat' (first
       |(with_reducible first|refine t_seq fun K=>?_|refine nx ?_|refine t_br (fun hc=>?_) fun hc=>?_)|exact kpd
       |((with_reducible first|refine ny ?_|refine nk ?_ ?_|refine t_region fun K=>?_|refine t_cond fun A B=>?_|refine t_drawE (id:=9) (fun i=>i==0) [(0,1),(1,1),(2,1),(3,1),(4,1),(5,1),(6,1),(7,1),(8,1),(9,1),(10,1),(11,0),(12,0),(13,1)] (by kernel_rfl) fun K=>?_|refine t_drawE (id:=10) (fun i=>i==0||i==3) [(0,1),(1,1),(2,1),(3,1),(4,1),(5,1),(6,1),(7,1),(8,1),(9,0),(10,0),(11,1)] (by kernel_rfl) fun K=>?_|refine t_dw (h:=fun K=>?_));(try (refine nh ?_;intro KL));simp only [go_sem,geff,kp5,h0,h2,h4,h9,h10,isIntV,hg,hu,v1,f1,f2,f3,f4,e1,e2,arrV_def',arr_eta,arrOf_agg,slK_sl,Option.map_some,ints_append,slK_emp,aeV_def,beq_self_eq_true])
       |simp only [thenQ,blockQ,scopeQ,Nat.reduceEqDiff,reduceIte]|(with_reducible first|refine And.intro ?_ ?_|intro vr))
      all_goals try (first|exact k1|exact k1.1|exact k1.2|exact lx.1|exact lx.2|exact ly.1|exact ly.2|exact lxy.1|exact lxy.2|exact l0.1|exact l0.2|exact s1.1|exact s1.2|exact s2.1|exact s2.2|exact s3.1|exact s3.2)
      all_goals try exact nd
      all_goals ((first|refine end_retE ?_|refine end_normE ?_);simp only [fin,go_sem])
      all_goals exact LeA.refl _
    have keyB:∀ f:Nat→AV,f 0= .sl false 3 (stps c)→f 2= .lit (.int .i32 n)→f 4= .ref 0 0→f 9= .ref 2 0→f 10= .lit (.int .i64 0)→K.k ⟨f,[.box 39 [.sl false 1 (ints .i64 x),.sl false 1 (ints .i64 y)],.arr 3 1 (ints .i64 (x++y)) 1 true,.box 31 [.lit (.string (scA (foldG c y (foldG c x n))).e),.sl false 1 (ints .i64 (scA (foldG c y (foldG c x n))).d),.sl false 1 (ints .i64 (scA (foldG c y (foldG c x n))).x)]]⟩:=by
     as_aux_lemma=>
      intro f h0 h2 h4 h9 h10
      repeat' (first
       |(with_reducible first|refine t_seq fun K=>?_|refine nx ?_|refine t_br (fun hc=>?_) fun hc=>?_)|exact kpd
       |((with_reducible first|refine ny ?_|refine nk ?_ ?_|refine t_region fun K=>?_|refine t_cond fun A B=>?_|refine t_drawE (id:=9) (fun i=>i==0) [(0,1),(1,1),(2,1),(3,1),(4,1),(5,1),(6,1),(7,1),(8,1),(9,1),(10,1),(11,0),(12,0),(13,1)] (by kernel_rfl) fun K=>?_|refine t_drawE (id:=10) (fun i=>i==0||i==3) [(0,1),(1,1),(2,1),(3,1),(4,1),(5,1),(6,1),(7,1),(8,1),(9,0),(10,0),(11,1)] (by kernel_rfl) fun K=>?_|refine t_dw (h:=fun K=>?_));(try (refine nh ?_;intro KL));simp only [go_sem,geff,kp5,h0,h2,h4,h9,h10,isIntV,hg,hu,v1,f1,f2,f3,f4,e1,e2,arrV_def',arr_eta,arrOf_agg,slK_sl,Option.map_some,ints_append,slK_emp,aeV_def,beq_self_eq_true])
       |simp only [thenQ,blockQ,scopeQ,Nat.reduceEqDiff,reduceIte]|(with_reducible first|refine And.intro ?_ ?_|intro vr))
      all_goals try (first|exact k1|exact k1.1|exact k1.2|exact lx.1|exact lx.2|exact ly.1|exact ly.2|exact lxy.1|exact lxy.2|exact l0.1|exact l0.2|exact s1.1|exact s1.2|exact s2.1|exact s2.2|exact s3.1|exact s3.2)
      all_goals try exact nd
      all_goals ((first|refine end_retE ?_|refine end_normE ?_);simp only [fin,go_sem])
      all_goals exact LeA.refl _
    obtain ⟨k,hk⟩:∃ k:AS→Prop,k=K.k:=⟨_,rfl⟩
    rw [←hk] at keyA keyB ⊢
    simp only [noA,List.filter_cons,List.filter_nil,Nat.reduceBEq,Bool.not_false,Bool.not_true,reduceIte,if_true,Bool.false_eq_true]
    simp only [pickO,List.getElem?_toArray,List.getElem?_cons_zero,List.getElem?_cons_succ,Nat.reduceAdd,Nat.reduceSub,fo_some]
    refine nh ?_
    intro KL
    simp only [go_sem,geff,kp5,isIntV]
    repeat' (first
     |(with_reducible first|refine t_seq fun K=>?_|refine nx ?_|refine t_br (fun hc=>?_) fun hc=>?_)|exact kpd
     |((with_reducible refine t_drawG (id:=99) (fun _=>true) 16 [(0,1)] (by kernel_rfl) (by kernel_rfl) (by kernel_rfl) fun K=>?_);simp only [noA,List.filter_cons,List.filter_nil,Nat.reduceBEq,Bool.not_false,Bool.not_true,reduceIte,if_true,Bool.false_eq_true];simp only [pickO,List.getElem?_toArray,List.getElem?_cons_zero,List.getElem?_cons_succ,Nat.reduceAdd,Nat.reduceSub,fo_some];refine nh ?_;intro KL;simp only [go_sem,geff,kp5,isIntV,hg,hu,v1,f1,f2,f3,f4,e1,e2,arrV_def',arr_eta,arrOf_agg,slK_sl,Option.map_some,ints_append,slK_emp,aeV_def,beq_self_eq_true])
     |((with_reducible first|refine ny ?_|refine nk ?_ ?_|refine t_region fun K=>?_|refine t_cond fun A B=>?_|refine t_dw (h:=fun K=>?_));(try (refine nh ?_;intro KL));simp only [go_sem,geff,kp5,isIntV,hg,hu,v1,f1,f2,f3,f4,e1,e2,arrV_def',arr_eta,arrOf_agg,slK_sl,Option.map_some,ints_append,slK_emp,aeV_def,beq_self_eq_true])
     |simp only [thenQ,blockQ,scopeQ,Nat.reduceEqDiff,reduceIte]|(with_reducible first|refine And.intro ?_ ?_|intro vr))
    all_goals try (first|exact k1|exact k1.1|exact k1.2|exact lx.1|exact lx.2|exact ly.1|exact ly.2|exact lxy.1|exact lxy.2|exact l0.1|exact l0.2|exact s1.1|exact s1.2|exact s2.1|exact s2.2|exact s3.1|exact s3.2)
    all_goals try exact nd
    all_goals first|exact keyA _ rfl rfl rfl rfl rfl|exact keyB _ rfl rfl rfl rfl rfl
theorem append_law:∀ xs,ShL Tryz.prog Tryz.f5.params.toList xs→PC Tryz.prog 5 xs (.lit (.bool true))
  |[x,y,z],h=>by
   obtain ⟨c,rfl,hc⟩:=shv_stps h.1
   obtain ⟨d,rfl,hd⟩:=shv_agg ag39 h.2.1
   obtain ⟨xss,rfl,hl,hx⟩:=sh_array u39 hd
   obtain ⟨n,rfl,hn⟩:=shv_int u21 h.2.2.1
   match xss,hl,hx with
   |[x0,x1],_,hx=>
    obtain ⟨a,rfl,_⟩:=sh_ints u23 u3 sz3 (hx x0 (by simp))
    obtain ⟨b,rfl,_⟩:=sh_ints u23 u3 sz3 (hx x1 (by simp))
    exact append_law_pc (by have:=wf_i32 hn;omega) hc
  |[],h=>h.elim
  |[_],h=>h.2.elim
  |[_,_],h=>h.2.2.elim
  |_::_::_::_::_,h=>h.2.2.2.elim
end Go.Proofs.YtcpjahmajkhchaaGreat
