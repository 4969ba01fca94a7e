/- Texts split at one byte; prefixes. -/
import Derived.Test.YtohiagaclfaolaaDoorSB

set_option linter.all false

namespace Go.Proofs.YtohiagaclfaolaaDoor.Tx
open Go.Proofs.YtohiagaclfaolaaDoor
open Go Go.Fw
set_option maxRecDepth 20000
noncomputable def con33 : PCon Tryd.prog where
  f := 33
  c := fun
    | [.lit (.string s), .lit (.string p)] => if p = bs [10] then some ((ul s).length ≤ 1000000000, cutV 10 (ul s)) else none
    | _ => none
  ok := by
    intro args p r hc hp
    split at hc
    · rename_i s q
      obtain ⟨l, rfl⟩ := bs_ex s
      split at hc
      · rename_i h; subst h; cases hc; rw [ul_bs] at *; exact scut_pc hp
      · cases hc
    · cases hc
  fk := fk33
theorem con33_f : con33.f = 33 := rfl
theorem con33_c {l : List UInt8} : con33.c [.lit (.string (bs l)), .lit (.string (bs [10]))] = some (l.length ≤ 1000000000, cutV 10 l) := by
  show (if bs [10] = bs [10] then some ((ul (bs l)).length ≤ 1000000000, cutV 10 (ul (bs l))) else none) = _
  rw [if_pos rfl, ul_bs]
theorem cutV_some {c : UInt8} {l a b : List UInt8} (h : cutS c l = some (a, b)) : cutV c l = .tup [.lit (.string (bs a)), .lit (.string (bs b)), .lit (.bool true)] := by unfold cutV; rw [h]
theorem cutV_none {c : UInt8} {l : List UInt8} (h : cutS c l = none) : cutV c l = .tup [.lit (.string (bs l)), .lit (.string (bs [])), .lit (.bool false)] := by unfold cutV; rw [h]
attribute [go_sem] con33_f con33_c
noncomputable def X3 : Env := envJ (P := Tryd.prog) jkT zer (fun _ => false) (fun _ => false) [con33, con41] []
theorem X3_ok : EnvOk Tryd.prog X3 := envJOk zer_ok
theorem cut_pc {l : List UInt8} (hs : l.length ≤ 1000000000) : PC Tryd.prog 25 [.lit (.string (bs l)), .lit (.string (bs [10]))] (cutV 10 l) := by
  cases hq : cutS 10 l with
  | none =>
    rw [cutV_none hq]
    refine pcR X3_ok (kp25) Tryd.func25 [.tmp 4, .tmp 5, .tmp 6] (h := fun KF => ?_)
    unfold X3
    repeat' (first
     | (with_reducible first | refine t_seq fun K => ?_ | refine nx ?_ | refine t_br (fun hc => ?_) fun hc => ?_) | exact kpd
     | ((with_reducible first | refine ny ?_ | refine t_kLF ?_ ?_ | refine t_region fun K => ?_ | refine t_cond fun A B => ?_ | refine t_dw (h := fun K => ?_)); (try (refine nh ?_; intro KL)); simp only [go_sem, geff, kp25, cutV_none hq])
     | simp only [thenQ, blockQ, scopeQ, Nat.reduceEqDiff, reduceIte] | (with_reducible first | refine And.intro ?_ ?_ | intro vr))
    all_goals try exact nd
    all_goals ((first | refine end_retE ?_ | refine end_normE ?_); simp only [fin, go_sem])
    exact LeA.refl _
  | some p =>
    obtain ⟨a, b⟩ := p
    rw [cutV_some hq]
    refine pcR X3_ok (kp25) Tryd.func25 [.tmp 4, .tmp 5, .tmp 6] (h := fun KF => ?_)
    unfold X3
    repeat' (first
     | (with_reducible first | refine t_seq fun K => ?_ | refine nx ?_ | refine t_br (fun hc => ?_) fun hc => ?_) | exact kpd
     | ((with_reducible first | refine ny ?_ | refine t_kLF ?_ ?_ | refine t_region fun K => ?_ | refine t_cond fun A B => ?_ | refine t_dw (h := fun K => ?_)); (try (refine nh ?_; intro KL)); simp only [go_sem, geff, kp25, cutV_some hq])
     | simp only [thenQ, blockQ, scopeQ, Nat.reduceEqDiff, reduceIte] | (with_reducible first | refine And.intro ?_ ?_ | intro vr))
    all_goals try exact nd
    all_goals ((first | refine end_retE ?_ | refine end_normE ?_); simp only [fin, go_sem])
    exact LeA.refl _
noncomputable def con25 : PCon Tryd.prog where
  f := 25
  c := fun
    | [.lit (.string s), .lit (.string p)] => if p = bs [10] then some ((ul s).length ≤ 1000000000, cutV 10 (ul s)) else none
    | _ => none
  ok := by
    intro args p r hc hp
    split at hc
    · rename_i s q
      obtain ⟨l, rfl⟩ := bs_ex s
      split at hc
      · rename_i h; subst h; cases hc; rw [ul_bs] at *; exact cut_pc hp
      · cases hc
    · cases hc
  fk := fk25
theorem con25_f : con25.f = 25 := rfl
theorem con25_c {l : List UInt8} : con25.c [.lit (.string (bs l)), .lit (.string (bs [10]))] = some (l.length ≤ 1000000000, cutV 10 l) := by
  show (if bs [10] = bs [10] then some ((ul (bs l)).length ≤ 1000000000, cutV 10 (ul (bs l))) else none) = _
  rw [if_pos rfl, ul_bs]
attribute [go_sem] con25_f con25_c
/-! ### Index, Count -/
theorem index_pc {l : List UInt8} {c : UInt8} : PC Tryd.prog 62 [.lit (.string (bs l)), .lit (.string (bs [c]))] (.lit (.int .i64 (Lib.indexByte l c))) := by
  refine pcR X3_ok (kp62) Tryd.func62 [.tmp 4] (h := fun KF => ?_)
  unfold X3
  repeat' (first
   | (with_reducible first | refine t_seq fun K => ?_ | refine nx ?_ | refine t_br (fun hc => ?_) fun hc => ?_) | exact kpd
   | ((with_reducible first | refine ny ?_ | refine t_kLF ?_ ?_ | refine t_region fun K => ?_ | refine t_cond fun A B => ?_ | refine t_dw (h := fun K => ?_)); (try (refine nh ?_; intro KL)); simp only [go_sem, geff, kp62])
   | simp only [thenQ, blockQ, scopeQ, Nat.reduceEqDiff, reduceIte] | (with_reducible first | refine And.intro ?_ ?_ | intro vr))
  all_goals try exact nd
  all_goals ((first | refine end_retE ?_ | refine end_normE ?_); simp only [fin, go_sem])
  exact LeA.refl _
noncomputable def con62 : PCon Tryd.prog where
  f := 62
  c := fun
    | [.lit (.string s), .lit (.string p)] => match ul p with
      | [c] => some (True, .lit (.int .i64 (Lib.indexByte (ul s) c)))
      | _ => none
    | _ => none
  ok := by
    intro args p r hc hp
    split at hc
    · rename_i s q
      obtain ⟨l, rfl⟩ := bs_ex s
      obtain ⟨m, rfl⟩ := bs_ex q
      rw [ul_bs, ul_bs] at hc
      split at hc
      · cases hc; exact index_pc
      · cases hc
    · cases hc
  fk := fk62
theorem con62_f : con62.f = 62 := rfl
theorem con62_c {l : List UInt8} {c : UInt8} : con62.c [.lit (.string (bs l)), .lit (.string (bs [c]))] = some (True, .lit (.int .i64 (Lib.indexByte l c))) := by
  show (match ul (bs [c]) with
      | [c] => some (True, AV.lit (.int .i64 (Lib.indexByte (ul (bs l)) c)))
      | _ => none) = _
  rw [ul_bs, ul_bs]
theorem count_pc {l : List UInt8} {c : UInt8} : PC Tryd.prog 61 [.lit (.string (bs l)), .lit (.string (bs [c]))] (.lit (.int .i64 (l.count c))) := by
  have g1 : ((1 : Int) == 0) = false := by decide
  have g2 : ((1 : Int) == 1) = true := by decide
  refine pcR X0_ok (kp61) Tryd.func61 [.tmp 4] (h := fun KF => ?_)
  unfold X0
  repeat' (first
   | (with_reducible first | refine t_seq fun K => ?_ | refine nx ?_ | refine t_br (fun hc => ?_) fun hc => ?_) | exact kpd
   | ((with_reducible first | refine ny ?_ | refine t_kLF ?_ ?_ | refine t_region fun K => ?_ | refine t_cond fun A B => ?_ | refine t_dw (h := fun K => ?_)); (try (refine nh ?_; intro KL)); simp only [go_sem, geff, kp61, fam72, g1, g2, Int.toNat_natCast, bt, List.length_cons, List.length_nil, List.getD_cons_zero])
   | simp only [thenQ, blockQ, scopeQ, Nat.reduceEqDiff, reduceIte] | (with_reducible first | refine And.intro ?_ ?_ | intro vr))
  all_goals try exact nd
  all_goals ((first | refine end_retE ?_ | refine end_normE ?_); simp only [fin, go_sem])
  exact LeA.of_eq (by simp [Lib.countByte])
noncomputable def con61 : PCon Tryd.prog where
  f := 61
  c := fun
    | [.lit (.string s), .lit (.string p)] => match ul p with
      | [c] => some (True, .lit (.int .i64 ((ul s).count c)))
      | _ => none
    | _ => none
  ok := by
    intro args p r hc hp
    split at hc
    · rename_i s q
      obtain ⟨l, rfl⟩ := bs_ex s
      obtain ⟨m, rfl⟩ := bs_ex q
      rw [ul_bs, ul_bs] at hc
      split at hc
      · cases hc; exact count_pc
      · cases hc
    · cases hc
  fk := fk61
theorem con61_f : con61.f = 61 := rfl
theorem con61_c {l : List UInt8} {c : UInt8} : con61.c [.lit (.string (bs l)), .lit (.string (bs [c]))] = some (True, .lit (.int .i64 (l.count c))) := by
  show (match ul (bs [c]) with
      | [c] => some (True, AV.lit (.int .i64 ((ul (bs l)).count c)))
      | _ => none) = _
  rw [ul_bs, ul_bs]
attribute [go_sem] con62_f con62_c con61_f con61_c
/-! ### Split -/
def splitW (c : UInt8) : List UInt8 → List (List UInt8)
  | [] => [[]]
  | b :: l => if b = c then [] :: splitW c l else match splitW c l with
    | [] => [[b]]
    | w :: ws => (b :: w) :: ws
theorem splitW_ne (c : UInt8) : ∀ l, splitW c l ≠ []
  | [] => by simp [splitW]
  | b :: l => by
    simp only [splitW]
    split
    · simp
    · split <;> simp
theorem splitW_app {c : UInt8} {r : List UInt8} : ∀ {a : List UInt8}, c ∉ a → splitW c (a ++ c :: r) = a :: splitW c r
  | [], _ => by simp [splitW]
  | b :: a, h => by
    simp only [List.mem_cons, not_or] at h
    simp only [List.cons_append, splitW, if_neg (Ne.symm h.1), splitW_app h.2]
theorem splitW_one {c : UInt8} : ∀ {a : List UInt8}, c ∉ a → splitW c a = [a]
  | [], _ => rfl
  | b :: a, h => by
    simp only [List.mem_cons, not_or] at h
    simp only [splitW, if_neg (Ne.symm h.1), splitW_one h.2]
theorem splitW_len {c : UInt8} : ∀ l : List UInt8, (splitW c l).length = l.count c + 1
  | [] => rfl
  | b :: l => by
    have ih := splitW_len (c := c) l
    simp only [splitW]
    split
    · rename_i h; subst h; simp [ih]
    · rename_i h
      split
      · rename_i e; exact absurd e (splitW_ne c l)
      · rename_i w ws e
        rw [e] at ih
        simp only [List.length_cons] at ih ⊢
        rw [List.count_cons_of_ne h]; exact ih
/-- What stands in the new list behind i turns. -/
structure Sp (l : List UInt8) where
  i : Nat
  done : List (List UInt8)
  rest : List UInt8
  hi : done.length = i
  hs : splitW 32 l = done ++ splitW 32 rest
  hr : rest.length ≤ l.length
theorem Sp.len {l : List UInt8} (h : Sp l) : h.i + h.rest.count 32 = l.count 32 := by
  have := congrArg List.length h.hs
  rw [List.length_append, splitW_len, splitW_len, h.hi] at this
  omega
theorem set_appR {α : Type} (a : List α) (i n : Nat) (x z : α) (hi : a.length = i) (h : 0 < n) : (a ++ List.replicate n z).set i x = (a ++ [x]) ++ List.replicate (n - 1) z := by
  obtain ⟨n, rfl⟩ : ∃ m, n = m + 1 := ⟨n - 1, by omega⟩
  subst hi
  rw [List.set_append_right _ _ (Nat.le_refl _), Nat.sub_self, List.replicate_succ, List.set_cons_zero]
  simp
noncomputable def X4 : Env := envJ (P := Tryd.prog) jkT zer (fun _ => false) (fun _ => false) [con61, con62] []
theorem X4_ok : EnvOk Tryd.prog X4 := envJOk zer_ok
set_option maxHeartbeats 4000000 in
theorem gens_pc {l : List UInt8} (hl : l.length ≤ 1000000) : PC Tryd.prog 52 [.lit (.string (bs l)), .lit (.string (bs [32])), .lit (.int .i64 0), .lit (.int .i64 (-1))] (.sl false 1 (txs (splitW 32 l))) := by
  have hcl : l.count 32 ≤ l.length := List.count_le_length
  have hmin : minI ((l.count 32 : Int) + 1) ((l.length : Int) + 1) = (l.count 32 : Int) + 1 := by unfold minI; split <;> omega
  have ht : ((l.count 32 : Int) + 1).toNat = l.count 32 + 1 := by omega
  have hsub : (l.count 32 : Int) + 1 - 1 = (l.count 32 : Int) := by omega
  have g1 : (([32] : List UInt8) == []) = false := by decide
  have g2 : ((-1 : Int) == 0) = false := by decide
  have g3 : decide ((-1 : Int) < 0) = true := by decide
  refine pcR X4_ok (kp52) Tryd.func52 [.tmp 8] (h := fun KF => ?_)
  unfold X4
  repeat' (first
   | (with_reducible first | refine t_seq fun K => ?_ | refine nx ?_ | refine t_br (fun hc => ?_) fun hc => ?_) | exact kpd
   | ((with_reducible first | refine ny ?_ | refine t_kLF ?_ ?_ | refine t_region fun K => ?_ | refine t_cond fun A B => ?_ | refine t_dw (h := fun K => ?_)); (try (refine nh ?_; intro KL)); simp only [go_sem, geff, kp52, hmin, ht, hsub, g1, g2, g3])
   | simp only [thenQ, blockQ, scopeQ, Nat.reduceEqDiff, reduceIte] | (with_reducible first | refine And.intro ?_ ?_ | intro vr))
  all_goals try exact nd
  refine t_loopF (ι := Sp l) (fun i => [(10, .lit (.int .i64 i.i)), (0, .lit (.string (bs i.rest)))]) (fun i => [.arr 9 1 (txs (i.done ++ List.replicate (l.count 32 + 1 - i.i) [])) 0 false]) (fun i => i.rest.length) ⟨0, [], l, rfl, rfl, Nat.le_refl _⟩ ?_ ?_
  · simp only [updL_nil, updL_cons, delF_top, delF_upd, Nat.reduceEqDiff, reduceIte]
    refine Le.frameS (by first | rfl | (simp only [go_sem]; try rfl)) ?_
    repeat' (first | exact leF_top _ | exact (fun _ => LeR.refl _) | (with_reducible refine leF_sl ?_ ?_) | (refine leF_upd ?_ ?_))
    all_goals (first | exact LeR.top _ | exact LeR.refl _ | (refine LeR.of_eq ?_; (try simp only [go_sem]); try rfl) | ((try simp only [go_sem]); try rfl))
  rintro ⟨i, done, rest, hi, hs, hr⟩ K0
  have hlen := Sp.len (l := l) ⟨i, done, rest, hi, hs, hr⟩
  simp only at hlen
  have htl : (done ++ List.replicate (l.count 32 + 1 - i) ([] : List UInt8)).length = l.count 32 + 1 := by rw [List.length_append, List.length_replicate]; omega
  cases hq : cutS 32 rest with
  | none =>
    obtain ⟨_, hn⟩ := cutS_none hq
    have h0 : rest.count 32 = 0 := List.count_eq_zero.2 hn
    have g4 : decide ((i : Int) < (l.count 32 : Int)) = false := decide_eq_false (by omega)
    have hset := set_appR done i (l.count 32 + 1 - i) rest [] hi (by omega)
    have hz : l.count 32 + 1 - i - 1 = 0 := by omega
    rw [hz, List.replicate_zero, List.append_nil] at hset
    rw [splitW_one hn] at hs
    have ht2 : ((i : Int) + 1).toNat = i + 1 := by omega
    repeat' (first
     | (with_reducible first | refine t_seq fun K => ?_ | refine nx ?_ | refine t_br (fun hc => ?_) fun hc => ?_) | exact kpd
     | ((with_reducible first | refine ny ?_ | refine t_kLF ?_ ?_ | refine t_region fun K => ?_ | refine t_cond fun A B => ?_ | refine t_dw (h := fun K => ?_)); (try (refine nh ?_; intro KL)); simp only [go_sem, geff, kp52, g4, htl, hset, ht2, Int.toNat_natCast])
     | simp only [thenQ, blockQ, scopeQ, Nat.reduceEqDiff, reduceIte] | (with_reducible first | refine And.intro ?_ ?_ | intro vr))
    all_goals try omega
    all_goals try exact nd
    all_goals ((first | refine end_retE ?_ | refine end_normE ?_); simp only [fin, go_sem])
    exact LeA.of_eq (by rw [hs, Nat.zero_add, List.take_of_length_le (by simp [txs]; omega)])
  | some q =>
    obtain ⟨a, b⟩ := q
    obtain ⟨h1, h2, h3⟩ := cutS_some hq
    have e1 : rest.take a.length = a := by rw [h2]; simp
    have e2 : rest.drop (a.length + 1) = b := by rw [h2]; simp
    have hl2 : rest.length = a.length + (b.length + 1) := by rw [h2]; simp
    have hc2 : rest.count 32 = b.count 32 + 1 := by rw [h2, List.count_append, List.count_cons_self, List.count_eq_zero.2 h3]; omega
    have g4 : decide ((i : Int) < (l.count 32 : Int)) = true := decide_eq_true (by omega)
    have g5 : decide ((a.length : Int) < 0) = false := decide_eq_false (by omega)
    have hset := set_appR done i (l.count 32 + 1 - i) a [] hi (by omega)
    have hz : l.count 32 + 1 - i - 1 = l.count 32 + 1 - (i + 1) := by omega
    rw [hz] at hset
    rw [h2, splitW_app h3] at hs
    have e3 : ((a.length : Int) + 1).toNat = a.length + 1 := by omega
    repeat' (first
     | (with_reducible first | refine t_seq fun K => ?_ | refine nx ?_ | refine t_br (fun hc => ?_) fun hc => ?_) | exact kpd
     | ((with_reducible first | refine ny ?_ | refine t_kLF ?_ ?_ | refine t_region fun K => ?_ | refine t_cond fun A B => ?_ | refine t_dw (h := fun K => ?_)); (try (refine nh ?_; intro KL)); simp only [go_sem, geff, kp52, g4, g5, h1, htl, hset, e1, e2, e3, Int.add_zero, Int.toNat_natCast, List.length_cons, List.length_nil])
     | simp only [thenQ, blockQ, scopeQ, Nat.reduceEqDiff, reduceIte] | (with_reducible first | refine And.intro ?_ ?_ | intro vr))
    all_goals try omega
    all_goals try exact nd
    refine ⟨⟨i + 1, done ++ [a], b, by simp [hi], by rw [hs]; simp, by omega⟩, by simp only; omega, ?_⟩
    simp only [updL_nil, updL_cons, delF_top, delF_upd, Nat.reduceEqDiff, reduceIte]
    refine Le.frameS (by first | rfl | (simp only [go_sem]; try rfl)) ?_
    repeat' (first | exact leF_top _ | exact (fun _ => LeR.refl _) | (with_reducible refine leF_sl ?_ ?_) | (refine leF_upd ?_ ?_))
    all_goals (first | exact LeR.top _ | exact LeR.refl _ | (refine LeR.of_eq ?_; (try simp only [go_sem]); try rfl) | ((try simp only [go_sem]); try rfl))
noncomputable def con52 : PCon Tryd.prog where
  f := 52
  c := fun
    | [.lit (.string s), .lit (.string p), .lit (.int .i64 0), .lit (.int .i64 (-1))] => if p = bs [32] then some ((ul s).length ≤ 1000000, .sl false 1 (txs (splitW 32 (ul s)))) else none
    | _ => none
  ok := by
    intro args p r hc hp
    split at hc
    · rename_i s q
      obtain ⟨l, rfl⟩ := bs_ex s
      split at hc
      · rename_i h; subst h; cases hc; rw [ul_bs] at *; exact gens_pc hp
      · cases hc
    · cases hc
  fk := fk52
theorem con52_f : con52.f = 52 := rfl
theorem con52_c {l : List UInt8} : con52.c [.lit (.string (bs l)), .lit (.string (bs [32])), .lit (.int .i64 0), .lit (.int .i64 (-1))] = some (l.length ≤ 1000000, .sl false 1 (txs (splitW 32 l))) := by
  show (if bs [32] = bs [32] then some ((ul (bs l)).length ≤ 1000000, AV.sl false 1 (txs (splitW 32 (ul (bs l))))) else none) = _
  rw [if_pos rfl, ul_bs]
attribute [go_sem] con52_f con52_c
noncomputable def X5 : Env := envJ (P := Tryd.prog) jkT zer (fun _ => false) (fun _ => false) [con52] []
theorem X5_ok : EnvOk Tryd.prog X5 := envJOk zer_ok
theorem split_pc {l : List UInt8} (hl : l.length ≤ 1000000) : PC Tryd.prog 42 [.lit (.string (bs l)), .lit (.string (bs [32]))] (.sl false 1 (txs (splitW 32 l))) := by
  refine pcR X5_ok (kp42) Tryd.func42 [.tmp 4] (h := fun KF => ?_)
  unfold X5
  repeat' (first
   | (with_reducible first | refine t_seq fun K => ?_ | refine nx ?_ | refine t_br (fun hc => ?_) fun hc => ?_) | exact kpd
   | ((with_reducible first | refine ny ?_ | refine t_kLF ?_ ?_ | refine t_region fun K => ?_ | refine t_cond fun A B => ?_ | refine t_dw (h := fun K => ?_)); (try (refine nh ?_; intro KL)); simp only [go_sem, geff, kp42])
   | simp only [thenQ, blockQ, scopeQ, Nat.reduceEqDiff, reduceIte] | (with_reducible first | refine And.intro ?_ ?_ | intro vr))
  all_goals try exact nd
  all_goals ((first | refine end_retE ?_ | refine end_normE ?_); simp only [fin, go_sem])
  exact LeA.refl _
noncomputable def con42 : PCon Tryd.prog where
  f := 42
  c := fun
    | [.lit (.string s), .lit (.string p)] => if p = bs [32] then some ((ul s).length ≤ 1000000, .sl false 1 (txs (splitW 32 (ul s)))) else none
    | _ => none
  ok := by
    intro args p r hc hp
    split at hc
    · rename_i s q
      obtain ⟨l, rfl⟩ := bs_ex s
      split at hc
      · rename_i h; subst h; cases hc; rw [ul_bs] at *; exact split_pc hp
      · cases hc
    · cases hc
  fk := fk42
theorem con42_f : con42.f = 42 := rfl
theorem con42_c {l : List UInt8} : con42.c [.lit (.string (bs l)), .lit (.string (bs [32]))] = some (l.length ≤ 1000000, .sl false 1 (txs (splitW 32 l))) := by
  show (if bs [32] = bs [32] then some ((ul (bs l)).length ≤ 1000000, AV.sl false 1 (txs (splitW 32 (ul (bs l))))) else none) = _
  rw [if_pos rfl, ul_bs]
attribute [go_sem] con42_f con42_c
/-! ### Prefixes -/
noncomputable def X6 : Env := envJ (P := Tryd.prog) jkT zer (fun _ => false) (fun _ => false) [] []
theorem X6_ok : EnvOk Tryd.prog X6 := envJOk zer_ok
theorem hasp_pc {l m : List UInt8} : PC Tryd.prog 78 [.lit (.string (bs l)), .lit (.string (bs m))] (.lit (.bool (m.isPrefixOf l))) := by
  have key : m.isPrefixOf l = (decide ((l.length : Int) ≥ (m.length : Int)) && (List.take m.length l == m)) := by
    rw [Bool.eq_iff_iff]
    simp only [List.isPrefixOf_iff_prefix, Bool.and_eq_true, decide_eq_true_eq, beq_iff_eq]
    constructor
    · intro h
      exact ⟨by have := h.length_le; omega, (List.prefix_iff_eq_take.1 h).symm⟩
    · rintro ⟨_, h⟩
      exact List.prefix_iff_eq_take.2 h.symm
  refine pcR X6_ok (kp78) Tryd.func78 [.tmp 4] (h := fun KF => ?_)
  unfold X6
  repeat' (first
   | (with_reducible first | refine t_seq fun K => ?_ | refine nx ?_ | refine t_br (fun hc => ?_) fun hc => ?_) | exact kpd
   | ((with_reducible first | refine ny ?_ | refine t_kLF ?_ ?_ | refine t_region fun K => ?_ | refine t_cond fun A B => ?_ | refine t_dw (h := fun K => ?_)); (try (refine nh ?_; intro KL)); simp only [go_sem, geff, kp78])
   | simp only [thenQ, blockQ, scopeQ, Nat.reduceEqDiff, reduceIte] | (with_reducible first | refine And.intro ?_ ?_ | intro vr))
  all_goals try exact nd
  all_goals ((first | refine end_retE ?_ | refine end_normE ?_); simp only [fin, go_sem])
  exact LeA.of_eq (by rw [key])
noncomputable def con78 : PCon Tryd.prog where
  f := 78
  c := fun
    | [.lit (.string s), .lit (.string p)] => some (True, .lit (.bool ((ul p).isPrefixOf (ul s))))
    | _ => none
  ok := by
    intro args p r hc hp
    split at hc
    · rename_i s q
      obtain ⟨l, rfl⟩ := bs_ex s
      obtain ⟨m, rfl⟩ := bs_ex q
      cases hc; rw [ul_bs, ul_bs]; exact hasp_pc
    · cases hc
  fk := fk78
theorem con78_f : con78.f = 78 := rfl
theorem con78_c {l m : List UInt8} : con78.c [.lit (.string (bs l)), .lit (.string (bs m))] = some (True, .lit (.bool (m.isPrefixOf l))) := by
  show some (True, AV.lit (.bool ((ul (bs m)).isPrefixOf (ul (bs l))))) = _
  rw [ul_bs, ul_bs]
attribute [go_sem] con78_f con78_c
noncomputable def X7 : Env := envJ (P := Tryd.prog) jkT zer (fun _ => false) (fun _ => false) [con78] []
theorem X7_ok : EnvOk Tryd.prog X7 := envJOk zer_ok
def trimP (m l : List UInt8) : List UInt8 := if m.isPrefixOf l = true then l.drop m.length else l
theorem strim_pc {l m : List UInt8} (h : m.length ≤ 1000000) : PC Tryd.prog 65 [.lit (.string (bs l)), .lit (.string (bs m))] (.lit (.string (bs (trimP m l)))) := by
  cases hq : m.isPrefixOf l with
  | true =>
    have hle := (List.isPrefixOf_iff_prefix.1 hq).length_le
    refine pcR X7_ok (kp65) Tryd.func65 [.tmp 4] (h := fun KF => ?_)
    unfold X7
    repeat' (first
     | (with_reducible first | refine t_seq fun K => ?_ | refine nx ?_ | refine t_br (fun hc => ?_) fun hc => ?_) | exact kpd
     | ((with_reducible first | refine ny ?_ | refine t_kLF ?_ ?_ | refine t_region fun K => ?_ | refine t_cond fun A B => ?_ | refine t_dw (h := fun K => ?_)); (try (refine nh ?_; intro KL)); simp only [go_sem, geff, kp65, hq, Int.toNat_natCast])
     | simp only [thenQ, blockQ, scopeQ, Nat.reduceEqDiff, reduceIte] | (with_reducible first | refine And.intro ?_ ?_ | intro vr))
    all_goals try omega
    all_goals try exact nd
    all_goals ((first | refine end_retE ?_ | refine end_normE ?_); simp only [fin, go_sem])
    exact LeA.of_eq (by simp [trimP, hq])
  | false =>
    refine pcR X7_ok (kp65) Tryd.func65 [.tmp 4] (h := fun KF => ?_)
    unfold X7
    repeat' (first
     | (with_reducible first | refine t_seq fun K => ?_ | refine nx ?_ | refine t_br (fun hc => ?_) fun hc => ?_) | exact kpd
     | ((with_reducible first | refine ny ?_ | refine t_kLF ?_ ?_ | refine t_region fun K => ?_ | refine t_cond fun A B => ?_ | refine t_dw (h := fun K => ?_)); (try (refine nh ?_; intro KL)); simp only [go_sem, geff, kp65, hq])
     | simp only [thenQ, blockQ, scopeQ, Nat.reduceEqDiff, reduceIte] | (with_reducible first | refine And.intro ?_ ?_ | intro vr))
    all_goals try exact nd
    all_goals ((first | refine end_retE ?_ | refine end_normE ?_); simp only [fin, go_sem])
    exact LeA.of_eq (by simp [trimP, hq])
noncomputable def con65 : PCon Tryd.prog where
  f := 65
  c := fun
    | [.lit (.string s), .lit (.string p)] => some ((ul p).length ≤ 1000000, .lit (.string (bs (trimP (ul p) (ul s)))))
    | _ => none
  ok := by
    intro args p r hc hp
    split at hc
    · rename_i s q
      obtain ⟨l, rfl⟩ := bs_ex s
      obtain ⟨m, rfl⟩ := bs_ex q
      cases hc; rw [ul_bs] at *; rw [ul_bs]; exact strim_pc hp
    · cases hc
  fk := fk65
theorem con65_f : con65.f = 65 := rfl
theorem con65_c {l m : List UInt8} : con65.c [.lit (.string (bs l)), .lit (.string (bs m))] = some (m.length ≤ 1000000, .lit (.string (bs (trimP m l)))) := by
  show some ((ul (bs m)).length ≤ 1000000, AV.lit (.string (bs (trimP (ul (bs m)) (ul (bs l)))))) = _
  rw [ul_bs, ul_bs]
attribute [go_sem] con65_f con65_c
noncomputable def X8 : Env := envJ (P := Tryd.prog) jkT zer (fun _ => false) (fun _ => false) [con65] []
theorem X8_ok : EnvOk Tryd.prog X8 := envJOk zer_ok
theorem trim_pc {l m : List UInt8} (h : m.length ≤ 1000000) : PC Tryd.prog 54 [.lit (.string (bs l)), .lit (.string (bs m))] (.lit (.string (bs (trimP m l)))) := by
  refine pcR X8_ok (kp54) Tryd.func54 [.tmp 4] (h := fun KF => ?_)
  unfold X8
  repeat' (first
   | (with_reducible first | refine t_seq fun K => ?_ | refine nx ?_ | refine t_br (fun hc => ?_) fun hc => ?_) | exact kpd
   | ((with_reducible first | refine ny ?_ | refine t_kLF ?_ ?_ | refine t_region fun K => ?_ | refine t_cond fun A B => ?_ | refine t_dw (h := fun K => ?_)); (try (refine nh ?_; intro KL)); simp only [go_sem, geff, kp54])
   | simp only [thenQ, blockQ, scopeQ, Nat.reduceEqDiff, reduceIte] | (with_reducible first | refine And.intro ?_ ?_ | intro vr))
  all_goals try exact nd
  all_goals ((first | refine end_retE ?_ | refine end_normE ?_); simp only [fin, go_sem])
  exact LeA.refl _
noncomputable def con54 : PCon Tryd.prog where
  f := 54
  c := fun
    | [.lit (.string s), .lit (.string p)] => some ((ul p).length ≤ 1000000, .lit (.string (bs (trimP (ul p) (ul s)))))
    | _ => none
  ok := by
    intro args p r hc hp
    split at hc
    · rename_i s q
      obtain ⟨l, rfl⟩ := bs_ex s
      obtain ⟨m, rfl⟩ := bs_ex q
      cases hc; rw [ul_bs] at *; rw [ul_bs]; exact trim_pc hp
    · cases hc
  fk := fk54
theorem con54_f : con54.f = 54 := rfl
theorem con54_c {l m : List UInt8} : con54.c [.lit (.string (bs l)), .lit (.string (bs m))] = some (m.length ≤ 1000000, .lit (.string (bs (trimP m l)))) := by
  show some ((ul (bs m)).length ≤ 1000000, AV.lit (.string (bs (trimP (ul (bs m)) (ul (bs l)))))) = _
  rw [ul_bs, ul_bs]
attribute [go_sem] con54_f con54_c
end Go.Proofs.YtohiagaclfaolaaDoor.Tx
