/- mutex: the laws' awake; does, but for Quit. Conditions: none. -/
import Derived.Test.YtoaaoijdknbanaaMutX
set_option linter.all false
set_option linter.deprecated false
namespace Go.Proofs.Ytoaaoijdknbanaa
open Go.Sep
variable [B0 : Base]
theorem aw1 : lockM (new0 2) 0 5 9 = ((true, 0), [⟨5, false, []⟩, ⟨-1, false, []⟩]) := by rfl
theorem aw2 : lockM [⟨5, false, []⟩, ⟨-1, false, []⟩] 0 6 8 = ((false, 0), [⟨5, false, [⟨8, 6⟩]⟩, ⟨-1, false, []⟩]) := by rfl
theorem aw3 : lockM [⟨5, false, [⟨8, 6⟩]⟩, ⟨-1, false, []⟩] 0 4 7 = ((false, 0), [⟨5, false, [⟨7, 4⟩, ⟨8, 6⟩]⟩, ⟨-1, false, []⟩]) := by rfl
theorem aw4 : unlockM [⟨5, false, [⟨7, 4⟩, ⟨8, 6⟩]⟩, ⟨-1, false, []⟩] 0 5 = ((4, 0), [⟨4, false, [⟨8, 6⟩]⟩, ⟨-1, false, []⟩]) := by rfl
set_option maxHeartbeats 4000000 in
theorem awake_ok (R : List HP) : Called Try.prog 10 [] R (is (.bool true) R) := by
  refine Fn0 Try.func10 rfl Try.ntmps10 ?_
  (repeat' first | refine stp ?_ | intro v' hv' | intro (b : Nat) | (apply w_convU; rfl; rfl; omega; omega) | (apply w_convI; rfl; rfl; omega; omega) | (apply w_quoU; rfl; rfl; rfl; omega; omega; omega) | (apply w_remU; rfl; rfl; rfl; omega; omega) | (apply w_minL; rfl; rfl; rfl; omega) | (apply w_minG; rfl; rfl; rfl; omega) | (apply w_min; rfl; rfl; rfl) | (apply w_mfR; rfl; rfl) | (apply w_cvp; rfl; rfl; exact inferInstance; rfl; rfl; assumption) | (apply w_eqS2T; rfl; rfl; rfl; omega) | (apply w_eqS2F; rfl; rfl; rfl; omega) | (apply w_neS2T; rfl; rfl; rfl; omega) | (apply w_neS2F; rfl; rfl; rfl; omega) | (apply w_eqS3T; rfl; rfl; rfl; omega) | (apply w_eqS3F; rfl; rfl; rfl; omega) | (apply w_neS3T; rfl; rfl; rfl; omega) | (apply w_neS3F; rfl; rfl; rfl; omega) | (apply w_eqS3; rfl; rfl; rfl) | (apply w_neS3; rfl; rfl; rfl) | (apply w_eqS2; rfl; rfl; rfl) | (apply w_neS2; rfl; rfl; rfl) | (apply w_maxL; rfl; rfl; rfl; omega) | (apply w_maxG; rfl; rfl; rfl; omega) | (apply w_max; rfl; rfl; rfl) | (apply w_neB; rfl; rfl; rfl; rfl) | (apply w_eqB; rfl; rfl; rfl; rfl) | (apply w_cl; rfl; rfl; exact New_ok 2 (by decide) (by decide) _; exact ⟨_, _, 0, rfl, rfl⟩; rintro _ _ ⟨bt, rfl, rfl⟩; refine ⟨by (exact kmf), ?_⟩) | refine spl ?_ ?_ | intro hc)
  have h1 := Lock_ok bt (new0 2) 0 5 9
  have h2 := Lock_ok bt [⟨5, false, []⟩, ⟨-1, false, []⟩] 0 6 8
  have h3 := Lock_ok bt [⟨5, false, [⟨8, 6⟩]⟩, ⟨-1, false, []⟩] 0 4 7
  have h4 := Unlock_ok bt [⟨5, false, [⟨7, 4⟩, ⟨8, 6⟩]⟩, ⟨-1, false, []⟩] 0 5
  rw [aw1] at h1
  rw [aw2] at h2
  rw [aw3] at h3
  rw [aw4] at h4
  dsimp only at h1 h2 h3 h4
  (repeat' first | refine stp ?_ | intro v' hv' | intro (b : Nat) | (apply w_convU; rfl; rfl; omega; omega) | (apply w_convI; rfl; rfl; omega; omega) | (apply w_quoU; rfl; rfl; rfl; omega; omega; omega) | (apply w_remU; rfl; rfl; rfl; omega; omega) | (apply w_minL; rfl; rfl; rfl; omega) | (apply w_minG; rfl; rfl; rfl; omega) | (apply w_min; rfl; rfl; rfl) | (apply w_mfR; rfl; rfl) | (apply w_cvp; rfl; rfl; exact inferInstance; rfl; rfl; assumption) | (apply w_eqS2T; rfl; rfl; rfl; omega) | (apply w_eqS2F; rfl; rfl; rfl; omega) | (apply w_neS2T; rfl; rfl; rfl; omega) | (apply w_neS2F; rfl; rfl; rfl; omega) | (apply w_eqS3T; rfl; rfl; rfl; omega) | (apply w_eqS3F; rfl; rfl; rfl; omega) | (apply w_neS3T; rfl; rfl; rfl; omega) | (apply w_neS3F; rfl; rfl; rfl; omega) | (apply w_eqS3; rfl; rfl; rfl) | (apply w_neS3; rfl; rfl; rfl) | (apply w_eqS2; rfl; rfl; rfl) | (apply w_neS2; rfl; rfl; rfl) | (apply w_maxL; rfl; rfl; rfl; omega) | (apply w_maxG; rfl; rfl; rfl; omega) | (apply w_max; rfl; rfl; rfl) | (apply w_neB; rfl; rfl; rfl; rfl) | (apply w_eqB; rfl; rfl; rfl; rfl) | (apply w_cl; rfl; rfl; exact New_ok 2 (by decide) (by decide) _; exact ⟨_, _, 0, rfl, rfl⟩; rintro _ _ ⟨bt, rfl, rfl⟩; refine ⟨by (exact kmf), ?_⟩) | refine spl ?_ ?_ | intro hc)
  all_goals (refine At_ret1 (by (first | exact .inl rfl | exact .inr rfl)) Try.results10 rfl ⟨by rfl, rfl⟩ (by (exact frm)))
/-! ### does -/
structure OpT where
  ask : Int
  m : Int
  n : Int
  t : Int
def opE (o : OpT) : List Value := [int o.ask, int o.m, int o.n, int o.t]
def opV (o : OpT) : Value := .agg (opE o).toArray
def doesM (M : List Lk) (o : OpT) : List Lk := if o.ask = 0 then (lockM M o.m o.n o.t).2 else if o.ask = 1 then (tryM M o.m o.n).2 else if o.ask = 2 then (unlockM M o.m o.n).2 else if o.ask = 3 then (rekeyM M o.n o.t).2 else if o.ask = 4 then (leaveM M o.n).2 else (quitM M o.n).2
def doesX (X : RT) (o : OpT) : RT := if o.ask = 0 then (lockR X o.m o.n o.t).2 else if o.ask = 1 then (tryR X o.m o.n).2 else if o.ask = 2 then (unlockR X o.m o.n).2 else if o.ask = 3 then (rekeyR X o.n o.t).2 else if o.ask = 4 then (leaveR X o.n).2 else (quitR X o.n).2
def doesP (M : List Lk) (X : RT) (o : OpT) : Prop := if o.ask = 0 then (lockM M o.m o.n o.t).1 = (lockR X o.m o.n o.t).1 else if o.ask = 1 then (tryM M o.m o.n).1 = (tryR X o.m o.n).1 else if o.ask = 2 then (unlockM M o.m o.n).1 = (unlockR X o.m o.n).1 else if o.ask = 3 then (rekeyM M o.n o.t).1 = (rekeyR X o.n o.t).1 else if o.ask = 4 then (leaveM M o.n).1 = (leaveR X o.n).1
  else (quitM M o.n).1.2 = (quitR X o.n).1.2 ∧ (quitM M o.n).1.1.map (·.1) = (quitR X o.n).1.1.1 ∧ (quitM M o.n).1.1.map (·.2) = (quitR X o.n).1.1.2
instance (M : List Lk) (X : RT) (o : OpT) : Decidable (doesP M X o) := by unfold doesP; infer_instance
set_option maxHeartbeats 4000000 in
theorem does_0 (tb bx : Nat) (M : List Lk) (X : RT) (m n t : Int) (R : List HP) : Called Try.prog 26 [ptr tb, ptr bx, opV ⟨0, m, n, t⟩] (mtb tb M :: rtb bx X :: R)
    (is (.bool (decide ((lockM M m n t).1 = (lockR X m n t).1))) (mtb tb (lockM M m n t).2 :: rtb bx (lockR X m n t).2 :: R)) := by
  have h1 := Lock_ok tb M m n t
  have h2 := rLock_ok bx X m n t
  generalize lockM M m n t = p at *
  generalize lockR X m n t = q at *
  unfold opV opE
  dsimp only
  obtain ⟨⟨p1, p2⟩, M'⟩ := p
  obtain ⟨⟨q1, q2⟩, X'⟩ := q
  dsimp only at *
  by_cases he : p2 = q2
  · cases p1 <;> cases q1
    all_goals simp only [he, Prod.mk.injEq, true_and, and_true, reduceCtorEq, false_and, and_false, decide_true, decide_false] at *
    all_goals
      refine Fn3 Try.func26 rfl Try.ntmps26 rfl ?_
      (repeat' first | refine C_drawI (id := 7) [] [0, 1, 2, 3, 4, 6, 7, 8, 9, 10, 5, 11, 12, 13] (by kernel_rfl) (by kernel_rfl) (by kernel_rfl) rfl ?_ | refine C_drawI (id := 13) [] [0, 1, 2, 3, 4, 6, 7, 8, 9, 10, 5, 11, 12, 13] (by kernel_rfl) (by kernel_rfl) (by kernel_rfl) rfl ?_ | refine C_drawI (id := 15) [] [0, 1, 2, 4, 5, 6, 3, 7, 8, 9] (by kernel_rfl) (by kernel_rfl) (by kernel_rfl) rfl ?_ | refine stp ?_ | intro v' hv' | intro (b : Nat) | (apply w_convU; rfl; rfl; omega; omega) | (apply w_convI; rfl; rfl; omega; omega) | (apply w_quoU; rfl; rfl; rfl; omega; omega; omega) | (apply w_remU; rfl; rfl; rfl; omega; omega) | (apply w_minL; rfl; rfl; rfl; omega) | (apply w_minG; rfl; rfl; rfl; omega) | (apply w_min; rfl; rfl; rfl) | (apply w_mfR; rfl; rfl) | (apply w_cvp; rfl; rfl; exact inferInstance; rfl; rfl; assumption) | (apply w_eqS2T; rfl; rfl; rfl; omega) | (apply w_eqS2F; rfl; rfl; rfl; omega) | (apply w_neS2T; rfl; rfl; rfl; omega) | (apply w_neS2F; rfl; rfl; rfl; omega) | (apply w_eqS3T; rfl; rfl; rfl; omega) | (apply w_eqS3F; rfl; rfl; rfl; omega) | (apply w_neS3T; rfl; rfl; rfl; omega) | (apply w_neS3F; rfl; rfl; rfl; omega) | (apply w_eqS3; rfl; rfl; rfl) | (apply w_neS3; rfl; rfl; rfl) | (apply w_eqS2; rfl; rfl; rfl) | (apply w_neS2; rfl; rfl; rfl) | (apply w_maxL; rfl; rfl; rfl; omega) | (apply w_maxG; rfl; rfl; rfl; omega) | (apply w_max; rfl; rfl; rfl) | (apply w_neB; rfl; rfl; rfl; rfl) | (apply w_eqB; rfl; rfl; rfl; rfl) | refine spl ?_ ?_ | intro hc)
      all_goals (refine At_ret1 (by (first | exact .inl rfl | exact .inr rfl)) Try.results26 rfl ⟨by rfl, rfl⟩ (by (exact frm)))
  · rw [decide_eq_false (by intro h; exact he (Prod.mk.inj h).2)]
    cases p1 <;> cases q1
    all_goals
      refine Fn3 Try.func26 rfl Try.ntmps26 rfl ?_
      (repeat' first | refine C_drawI (id := 7) [] [0, 1, 2, 3, 4, 6, 7, 8, 9, 10, 5, 11, 12, 13] (by kernel_rfl) (by kernel_rfl) (by kernel_rfl) rfl ?_ | refine C_drawI (id := 13) [] [0, 1, 2, 3, 4, 6, 7, 8, 9, 10, 5, 11, 12, 13] (by kernel_rfl) (by kernel_rfl) (by kernel_rfl) rfl ?_ | refine C_drawI (id := 15) [] [0, 1, 2, 4, 5, 6, 3, 7, 8, 9] (by kernel_rfl) (by kernel_rfl) (by kernel_rfl) rfl ?_ | refine stp ?_ | intro v' hv' | intro (b : Nat) | (apply w_convU; rfl; rfl; omega; omega) | (apply w_convI; rfl; rfl; omega; omega) | (apply w_quoU; rfl; rfl; rfl; omega; omega; omega) | (apply w_remU; rfl; rfl; rfl; omega; omega) | (apply w_minL; rfl; rfl; rfl; omega) | (apply w_minG; rfl; rfl; rfl; omega) | (apply w_min; rfl; rfl; rfl) | (apply w_mfR; rfl; rfl) | (apply w_cvp; rfl; rfl; exact inferInstance; rfl; rfl; assumption) | (apply w_eqS2T; rfl; rfl; rfl; omega) | (apply w_eqS2F; rfl; rfl; rfl; omega) | (apply w_neS2T; rfl; rfl; rfl; omega) | (apply w_neS2F; rfl; rfl; rfl; omega) | (apply w_eqS3T; rfl; rfl; rfl; omega) | (apply w_eqS3F; rfl; rfl; rfl; omega) | (apply w_neS3T; rfl; rfl; rfl; omega) | (apply w_neS3F; rfl; rfl; rfl; omega) | (apply w_eqS3; rfl; rfl; rfl) | (apply w_neS3; rfl; rfl; rfl) | (apply w_eqS2; rfl; rfl; rfl) | (apply w_neS2; rfl; rfl; rfl) | (apply w_maxL; rfl; rfl; rfl; omega) | (apply w_maxG; rfl; rfl; rfl; omega) | (apply w_max; rfl; rfl; rfl) | (apply w_neB; rfl; rfl; rfl; rfl) | (apply w_eqB; rfl; rfl; rfl; rfl) | refine spl ?_ ?_ | intro hc)
      all_goals (refine At_ret1 (by (first | exact .inl rfl | exact .inr rfl)) Try.results26 rfl ⟨by rfl, rfl⟩ (by (exact frm)))
set_option maxHeartbeats 4000000 in
theorem does_1 (tb bx : Nat) (M : List Lk) (X : RT) (m n t : Int) (R : List HP) : Called Try.prog 26 [ptr tb, ptr bx, opV ⟨1, m, n, t⟩] (mtb tb M :: rtb bx X :: R)
    (is (.bool (decide ((tryM M m n).1 = (tryR X m n).1))) (mtb tb (tryM M m n).2 :: rtb bx (tryR X m n).2 :: R)) := by
  have h1 := Try_ok tb M m n
  have h2 := rTry_ok bx X m n
  generalize tryM M m n = p at *
  generalize tryR X m n = q at *
  unfold opV opE
  dsimp only
  obtain ⟨p1, M'⟩ := p
  obtain ⟨q1, X'⟩ := q
  dsimp only at *
  refine Fn3 Try.func26 rfl Try.ntmps26 rfl ?_
  (repeat' first | refine C_drawI (id := 7) [] [0, 1, 2, 3, 4, 6, 7, 8, 9, 10, 5, 11, 12, 13] (by kernel_rfl) (by kernel_rfl) (by kernel_rfl) rfl ?_ | refine C_drawI (id := 13) [] [0, 1, 2, 3, 4, 6, 7, 8, 9, 10, 5, 11, 12, 13] (by kernel_rfl) (by kernel_rfl) (by kernel_rfl) rfl ?_ | refine C_drawI (id := 15) [] [0, 1, 2, 4, 5, 6, 3, 7, 8, 9] (by kernel_rfl) (by kernel_rfl) (by kernel_rfl) rfl ?_ | refine stp ?_ | intro v' hv' | intro (b : Nat) | (apply w_convU; rfl; rfl; omega; omega) | (apply w_convI; rfl; rfl; omega; omega) | (apply w_quoU; rfl; rfl; rfl; omega; omega; omega) | (apply w_remU; rfl; rfl; rfl; omega; omega) | (apply w_minL; rfl; rfl; rfl; omega) | (apply w_minG; rfl; rfl; rfl; omega) | (apply w_min; rfl; rfl; rfl) | (apply w_mfR; rfl; rfl) | (apply w_cvp; rfl; rfl; exact inferInstance; rfl; rfl; assumption) | (apply w_eqS2T; rfl; rfl; rfl; omega) | (apply w_eqS2F; rfl; rfl; rfl; omega) | (apply w_neS2T; rfl; rfl; rfl; omega) | (apply w_neS2F; rfl; rfl; rfl; omega) | (apply w_eqS3T; rfl; rfl; rfl; omega) | (apply w_eqS3F; rfl; rfl; rfl; omega) | (apply w_neS3T; rfl; rfl; rfl; omega) | (apply w_neS3F; rfl; rfl; rfl; omega) | (apply w_eqS3; rfl; rfl; rfl) | (apply w_neS3; rfl; rfl; rfl) | (apply w_eqS2; rfl; rfl; rfl) | (apply w_neS2; rfl; rfl; rfl) | (apply w_maxL; rfl; rfl; rfl; omega) | (apply w_maxG; rfl; rfl; rfl; omega) | (apply w_max; rfl; rfl; rfl) | (apply w_neB; rfl; rfl; rfl; rfl) | (apply w_eqB; rfl; rfl; rfl; rfl) | refine spl ?_ ?_ | intro hc)
  all_goals (refine At_ret1 (by (first | exact .inl rfl | exact .inr rfl)) Try.results26 rfl ⟨by rfl, rfl⟩ (by (exact frm)))
set_option maxHeartbeats 4000000 in
theorem does_2 (tb bx : Nat) (M : List Lk) (X : RT) (m n t : Int) (R : List HP) : Called Try.prog 26 [ptr tb, ptr bx, opV ⟨2, m, n, t⟩] (mtb tb M :: rtb bx X :: R)
    (is (.bool (decide ((unlockM M m n).1 = (unlockR X m n).1))) (mtb tb (unlockM M m n).2 :: rtb bx (unlockR X m n).2 :: R)) := by
  have h1 := Unlock_ok tb M m n
  have h2 := rUnlock_ok bx X m n
  generalize unlockM M m n = p at *
  generalize unlockR X m n = q at *
  unfold opV opE
  dsimp only
  obtain ⟨⟨p1, p2⟩, M'⟩ := p
  obtain ⟨⟨q1, q2⟩, X'⟩ := q
  dsimp only at *
  by_cases hd : p1 = q1
  · by_cases he : p2 = q2
    · rw [decide_eq_true (by rw [hd, he])]
      refine Fn3 Try.func26 rfl Try.ntmps26 rfl ?_
      (repeat' first | refine C_drawI (id := 7) [] [0, 1, 2, 3, 4, 6, 7, 8, 9, 10, 5, 11, 12, 13] (by kernel_rfl) (by kernel_rfl) (by kernel_rfl) rfl ?_ | refine C_drawI (id := 13) [] [0, 1, 2, 3, 4, 6, 7, 8, 9, 10, 5, 11, 12, 13] (by kernel_rfl) (by kernel_rfl) (by kernel_rfl) rfl ?_ | refine C_drawI (id := 15) [] [0, 1, 2, 4, 5, 6, 3, 7, 8, 9] (by kernel_rfl) (by kernel_rfl) (by kernel_rfl) rfl ?_ | refine stp ?_ | intro v' hv' | intro (b : Nat) | (apply w_convU; rfl; rfl; omega; omega) | (apply w_convI; rfl; rfl; omega; omega) | (apply w_quoU; rfl; rfl; rfl; omega; omega; omega) | (apply w_remU; rfl; rfl; rfl; omega; omega) | (apply w_minL; rfl; rfl; rfl; omega) | (apply w_minG; rfl; rfl; rfl; omega) | (apply w_min; rfl; rfl; rfl) | (apply w_mfR; rfl; rfl) | (apply w_cvp; rfl; rfl; exact inferInstance; rfl; rfl; assumption) | (apply w_eqS2T; rfl; rfl; rfl; omega) | (apply w_eqS2F; rfl; rfl; rfl; omega) | (apply w_neS2T; rfl; rfl; rfl; omega) | (apply w_neS2F; rfl; rfl; rfl; omega) | (apply w_eqS3T; rfl; rfl; rfl; omega) | (apply w_eqS3F; rfl; rfl; rfl; omega) | (apply w_neS3T; rfl; rfl; rfl; omega) | (apply w_neS3F; rfl; rfl; rfl; omega) | (apply w_eqS3; rfl; rfl; rfl) | (apply w_neS3; rfl; rfl; rfl) | (apply w_eqS2; rfl; rfl; rfl) | (apply w_neS2; rfl; rfl; rfl) | (apply w_maxL; rfl; rfl; rfl; omega) | (apply w_maxG; rfl; rfl; rfl; omega) | (apply w_max; rfl; rfl; rfl) | (apply w_neB; rfl; rfl; rfl; rfl) | (apply w_eqB; rfl; rfl; rfl; rfl) | refine spl ?_ ?_ | intro hc)
      all_goals (refine At_ret1 (by (first | exact .inl rfl | exact .inr rfl)) Try.results26 rfl ⟨by rfl, rfl⟩ (by (exact frm)))
    · rw [decide_eq_false (by intro h; exact he (Prod.mk.inj h).2)]
      refine Fn3 Try.func26 rfl Try.ntmps26 rfl ?_
      (repeat' first | refine C_drawI (id := 7) [] [0, 1, 2, 3, 4, 6, 7, 8, 9, 10, 5, 11, 12, 13] (by kernel_rfl) (by kernel_rfl) (by kernel_rfl) rfl ?_ | refine C_drawI (id := 13) [] [0, 1, 2, 3, 4, 6, 7, 8, 9, 10, 5, 11, 12, 13] (by kernel_rfl) (by kernel_rfl) (by kernel_rfl) rfl ?_ | refine C_drawI (id := 15) [] [0, 1, 2, 4, 5, 6, 3, 7, 8, 9] (by kernel_rfl) (by kernel_rfl) (by kernel_rfl) rfl ?_ | refine stp ?_ | intro v' hv' | intro (b : Nat) | (apply w_convU; rfl; rfl; omega; omega) | (apply w_convI; rfl; rfl; omega; omega) | (apply w_quoU; rfl; rfl; rfl; omega; omega; omega) | (apply w_remU; rfl; rfl; rfl; omega; omega) | (apply w_minL; rfl; rfl; rfl; omega) | (apply w_minG; rfl; rfl; rfl; omega) | (apply w_min; rfl; rfl; rfl) | (apply w_mfR; rfl; rfl) | (apply w_cvp; rfl; rfl; exact inferInstance; rfl; rfl; assumption) | (apply w_eqS2T; rfl; rfl; rfl; omega) | (apply w_eqS2F; rfl; rfl; rfl; omega) | (apply w_neS2T; rfl; rfl; rfl; omega) | (apply w_neS2F; rfl; rfl; rfl; omega) | (apply w_eqS3T; rfl; rfl; rfl; omega) | (apply w_eqS3F; rfl; rfl; rfl; omega) | (apply w_neS3T; rfl; rfl; rfl; omega) | (apply w_neS3F; rfl; rfl; rfl; omega) | (apply w_eqS3; rfl; rfl; rfl) | (apply w_neS3; rfl; rfl; rfl) | (apply w_eqS2; rfl; rfl; rfl) | (apply w_neS2; rfl; rfl; rfl) | (apply w_maxL; rfl; rfl; rfl; omega) | (apply w_maxG; rfl; rfl; rfl; omega) | (apply w_max; rfl; rfl; rfl) | (apply w_neB; rfl; rfl; rfl; rfl) | (apply w_eqB; rfl; rfl; rfl; rfl) | refine spl ?_ ?_ | intro hc)
      all_goals (refine At_ret1 (by (first | exact .inl rfl | exact .inr rfl)) Try.results26 rfl ⟨by rfl, rfl⟩ (by (exact frm)))
  · rw [decide_eq_false (by intro h; exact hd (Prod.mk.inj h).1)]
    refine Fn3 Try.func26 rfl Try.ntmps26 rfl ?_
    (repeat' first | refine C_drawI (id := 7) [] [0, 1, 2, 3, 4, 6, 7, 8, 9, 10, 5, 11, 12, 13] (by kernel_rfl) (by kernel_rfl) (by kernel_rfl) rfl ?_ | refine C_drawI (id := 13) [] [0, 1, 2, 3, 4, 6, 7, 8, 9, 10, 5, 11, 12, 13] (by kernel_rfl) (by kernel_rfl) (by kernel_rfl) rfl ?_ | refine C_drawI (id := 15) [] [0, 1, 2, 4, 5, 6, 3, 7, 8, 9] (by kernel_rfl) (by kernel_rfl) (by kernel_rfl) rfl ?_ | refine stp ?_ | intro v' hv' | intro (b : Nat) | (apply w_convU; rfl; rfl; omega; omega) | (apply w_convI; rfl; rfl; omega; omega) | (apply w_quoU; rfl; rfl; rfl; omega; omega; omega) | (apply w_remU; rfl; rfl; rfl; omega; omega) | (apply w_minL; rfl; rfl; rfl; omega) | (apply w_minG; rfl; rfl; rfl; omega) | (apply w_min; rfl; rfl; rfl) | (apply w_mfR; rfl; rfl) | (apply w_cvp; rfl; rfl; exact inferInstance; rfl; rfl; assumption) | (apply w_eqS2T; rfl; rfl; rfl; omega) | (apply w_eqS2F; rfl; rfl; rfl; omega) | (apply w_neS2T; rfl; rfl; rfl; omega) | (apply w_neS2F; rfl; rfl; rfl; omega) | (apply w_eqS3T; rfl; rfl; rfl; omega) | (apply w_eqS3F; rfl; rfl; rfl; omega) | (apply w_neS3T; rfl; rfl; rfl; omega) | (apply w_neS3F; rfl; rfl; rfl; omega) | (apply w_eqS3; rfl; rfl; rfl) | (apply w_neS3; rfl; rfl; rfl) | (apply w_eqS2; rfl; rfl; rfl) | (apply w_neS2; rfl; rfl; rfl) | (apply w_maxL; rfl; rfl; rfl; omega) | (apply w_maxG; rfl; rfl; rfl; omega) | (apply w_max; rfl; rfl; rfl) | (apply w_neB; rfl; rfl; rfl; rfl) | (apply w_eqB; rfl; rfl; rfl; rfl) | refine spl ?_ ?_ | intro hc)
    all_goals (refine At_ret1 (by (first | exact .inl rfl | exact .inr rfl)) Try.results26 rfl ⟨by rfl, rfl⟩ (by (exact frm)))
set_option maxHeartbeats 4000000 in
theorem does_3 (tb bx : Nat) (M : List Lk) (X : RT) (m n t : Int) (R : List HP) : Called Try.prog 26 [ptr tb, ptr bx, opV ⟨3, m, n, t⟩] (mtb tb M :: rtb bx X :: R)
    (is (.bool (decide ((rekeyM M n t).1 = (rekeyR X n t).1))) (mtb tb (rekeyM M n t).2 :: rtb bx (rekeyR X n t).2 :: R)) := by
  have h1 := Rekey_ok tb M n t
  have h2 := rRekey_ok bx X n t
  generalize rekeyM M n t = p at *
  generalize rekeyR X n t = q at *
  unfold opV opE
  dsimp only
  obtain ⟨p1, M'⟩ := p
  obtain ⟨q1, X'⟩ := q
  dsimp only at *
  refine Fn3 Try.func26 rfl Try.ntmps26 rfl ?_
  (repeat' first | refine C_drawI (id := 7) [] [0, 1, 2, 3, 4, 6, 7, 8, 9, 10, 5, 11, 12, 13] (by kernel_rfl) (by kernel_rfl) (by kernel_rfl) rfl ?_ | refine C_drawI (id := 13) [] [0, 1, 2, 3, 4, 6, 7, 8, 9, 10, 5, 11, 12, 13] (by kernel_rfl) (by kernel_rfl) (by kernel_rfl) rfl ?_ | refine C_drawI (id := 15) [] [0, 1, 2, 4, 5, 6, 3, 7, 8, 9] (by kernel_rfl) (by kernel_rfl) (by kernel_rfl) rfl ?_ | refine stp ?_ | intro v' hv' | intro (b : Nat) | (apply w_convU; rfl; rfl; omega; omega) | (apply w_convI; rfl; rfl; omega; omega) | (apply w_quoU; rfl; rfl; rfl; omega; omega; omega) | (apply w_remU; rfl; rfl; rfl; omega; omega) | (apply w_minL; rfl; rfl; rfl; omega) | (apply w_minG; rfl; rfl; rfl; omega) | (apply w_min; rfl; rfl; rfl) | (apply w_mfR; rfl; rfl) | (apply w_cvp; rfl; rfl; exact inferInstance; rfl; rfl; assumption) | (apply w_eqS2T; rfl; rfl; rfl; omega) | (apply w_eqS2F; rfl; rfl; rfl; omega) | (apply w_neS2T; rfl; rfl; rfl; omega) | (apply w_neS2F; rfl; rfl; rfl; omega) | (apply w_eqS3T; rfl; rfl; rfl; omega) | (apply w_eqS3F; rfl; rfl; rfl; omega) | (apply w_neS3T; rfl; rfl; rfl; omega) | (apply w_neS3F; rfl; rfl; rfl; omega) | (apply w_eqS3; rfl; rfl; rfl) | (apply w_neS3; rfl; rfl; rfl) | (apply w_eqS2; rfl; rfl; rfl) | (apply w_neS2; rfl; rfl; rfl) | (apply w_maxL; rfl; rfl; rfl; omega) | (apply w_maxG; rfl; rfl; rfl; omega) | (apply w_max; rfl; rfl; rfl) | (apply w_neB; rfl; rfl; rfl; rfl) | (apply w_eqB; rfl; rfl; rfl; rfl) | refine spl ?_ ?_ | intro hc)
  all_goals (refine At_ret1 (by (first | exact .inl rfl | exact .inr rfl)) Try.results26 rfl ⟨by rfl, rfl⟩ (by (exact frm)))
set_option maxHeartbeats 4000000 in
theorem does_4 (tb bx : Nat) (M : List Lk) (X : RT) (m n t : Int) (R : List HP) : Called Try.prog 26 [ptr tb, ptr bx, opV ⟨4, m, n, t⟩] (mtb tb M :: rtb bx X :: R)
    (is (.bool (decide ((leaveM M n).1 = (leaveR X n).1))) (mtb tb (leaveM M n).2 :: rtb bx (leaveR X n).2 :: R)) := by
  have h1 := Leave_ok tb M n
  have h2 := rLeave_ok bx X n
  generalize leaveM M n = p at *
  generalize leaveR X n = q at *
  unfold opV opE
  dsimp only
  obtain ⟨p1, M'⟩ := p
  obtain ⟨q1, X'⟩ := q
  dsimp only at *
  refine Fn3 Try.func26 rfl Try.ntmps26 rfl ?_
  (repeat' first | refine C_drawI (id := 7) [] [0, 1, 2, 3, 4, 6, 7, 8, 9, 10, 5, 11, 12, 13] (by kernel_rfl) (by kernel_rfl) (by kernel_rfl) rfl ?_ | refine C_drawI (id := 13) [] [0, 1, 2, 3, 4, 6, 7, 8, 9, 10, 5, 11, 12, 13] (by kernel_rfl) (by kernel_rfl) (by kernel_rfl) rfl ?_ | refine C_drawI (id := 15) [] [0, 1, 2, 4, 5, 6, 3, 7, 8, 9] (by kernel_rfl) (by kernel_rfl) (by kernel_rfl) rfl ?_ | refine stp ?_ | intro v' hv' | intro (b : Nat) | (apply w_convU; rfl; rfl; omega; omega) | (apply w_convI; rfl; rfl; omega; omega) | (apply w_quoU; rfl; rfl; rfl; omega; omega; omega) | (apply w_remU; rfl; rfl; rfl; omega; omega) | (apply w_minL; rfl; rfl; rfl; omega) | (apply w_minG; rfl; rfl; rfl; omega) | (apply w_min; rfl; rfl; rfl) | (apply w_mfR; rfl; rfl) | (apply w_cvp; rfl; rfl; exact inferInstance; rfl; rfl; assumption) | (apply w_eqS2T; rfl; rfl; rfl; omega) | (apply w_eqS2F; rfl; rfl; rfl; omega) | (apply w_neS2T; rfl; rfl; rfl; omega) | (apply w_neS2F; rfl; rfl; rfl; omega) | (apply w_eqS3T; rfl; rfl; rfl; omega) | (apply w_eqS3F; rfl; rfl; rfl; omega) | (apply w_neS3T; rfl; rfl; rfl; omega) | (apply w_neS3F; rfl; rfl; rfl; omega) | (apply w_eqS3; rfl; rfl; rfl) | (apply w_neS3; rfl; rfl; rfl) | (apply w_eqS2; rfl; rfl; rfl) | (apply w_neS2; rfl; rfl; rfl) | (apply w_maxL; rfl; rfl; rfl; omega) | (apply w_maxG; rfl; rfl; rfl; omega) | (apply w_max; rfl; rfl; rfl) | (apply w_neB; rfl; rfl; rfl; rfl) | (apply w_eqB; rfl; rfl; rfl; rfl) | refine spl ?_ ?_ | intro hc)
  all_goals (refine At_ret1 (by (first | exact .inl rfl | exact .inr rfl)) Try.results26 rfl ⟨by rfl, rfl⟩ (by (exact frm)))
end Go.Proofs.Ytoaaoijdknbanaa
