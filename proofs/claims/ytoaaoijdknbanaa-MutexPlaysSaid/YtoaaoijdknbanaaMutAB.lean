/- MutexKeeps. Conditions: none. -/
import Derived.Test.YtoaaoijdknbanaaMutAA
set_option linter.all false
set_option linter.deprecated false
namespace Go.Proofs.Ytoaaoijdknbanaa
open Go.Sep
variable [B0 : Base]
/-! ### How long -/
theorem lock_len (M : List Lk) (m n t : Int) : (lockM M m n t).2.length = M.length := by
  unfold lockM; (repeat' split) <;> simp
theorem try_len (M : List Lk) (m n : Int) : (tryM M m n).2.length = M.length := by
  unfold tryM; (repeat' split) <;> simp
theorem unlock_len (M : List Lk) (m n : Int) : (unlockM M m n).2.length = M.length := by
  unfold unlockM; (repeat' split) <;> simp
theorem rekey_len (M : List Lk) (n t : Int) : (rekeyM M n t).2.length = M.length := by
  unfold rekeyM; (repeat' split) <;> simp
theorem quit_len (M : List Lk) (n : Int) : (quitM M n).2.length = M.length := by
  unfold quitM
  split
  · rfl
  · have h1 := (quitK_len (leaveM M n).2 n (heldN (leaveM M n).2 n).length).2
    rw [quitK_all, leave_len] at h1
    exact h1
theorem does_len (M : List Lk) (o : OpT) : (doesM M o).length = M.length := by
  unfold doesM
  split
  · exact lock_len ..
  split
  · exact try_len ..
  split
  · exact unlock_len ..
  split
  · exact rekey_len ..
  split
  · exact leave_len ..
  · exact quit_len ..
theorem run_len (ops : List OpT) : (runM ops).length = 4 := by
  have key : ∀ (ops : List OpT) (M : List Lk), (ops.foldl doesM M).length = M.length := by
    intro ops
    induction ops with
    | nil => intro M; rfl
    | cons o ops ih => intro M; rw [List.foldl_cons, ih, does_len]
  unfold runM
  rw [key]; rfl
/-! ### What is refused -/
theorem lock_no {M : List Lk} {m n t : Int} (h : (lockM M m n t).1.2 ≠ 0) : (lockM M m n t).2 = M := by
  unfold lockM at *
  split at h
  · rename_i h0; rw [if_pos h0]
  · rename_i h0; rw [if_neg h0]
    split at h <;> exact absurd rfl h
theorem try_no {M : List Lk} {m n : Int} (h : (tryM M m n).1 ≠ 0) : (tryM M m n).2 = M := by
  unfold tryM at *
  split at h
  · rename_i h0; rw [if_pos h0]
  · rename_i h0; rw [if_neg h0]
    split at h
    · rename_i h1; rw [if_pos h1]
    · exact absurd rfl h
theorem unlock_no {M : List Lk} {m n : Int} (h : (unlockM M m n).1.2 ≠ 0) : (unlockM M m n).2 = M := by
  unfold unlockM at *
  split at h
  · rename_i h0; rw [if_pos h0]
  · rename_i h0; rw [if_neg h0]
    split at h
    · rename_i h1; rw [if_pos h1]
    · exact absurd rfl h
theorem rekey_no {M : List Lk} {n t : Int} (h : (rekeyM M n t).1 ≠ 0) : (rekeyM M n t).2 = M := by
  unfold rekeyM at *
  split at h
  · rename_i h0; rw [if_pos h0]
  · rename_i h0; rw [if_neg h0]
    split at h
    · rfl
    · exact absurd rfl h
theorem leave_no {M : List Lk} {n : Int} (h : (leaveM M n).1 ≠ 0) : (leaveM M n).2 = M := by
  unfold leaveM at *
  split at h
  · rename_i h0; rw [if_pos h0]
  · rename_i h0; rw [if_neg h0]
    split at h
    · rfl
    · exact absurd rfl h
theorem quit_no {M : List Lk} {n : Int} (h : (quitM M n).1.2 ≠ 0) : (quitM M n).2 = M := by
  unfold quitM at *
  split at h
  · rename_i h0; rw [if_pos h0]
  · exact absurd rfl h
/-- Try is Lock of a mutex that no one owns. -/
theorem try_lock {M : List Lk} {m n : Int} (h : (ownerM M m).2 ≠ 0 ∨ (ownerM M m).1 = n) : (lockM M m n 0).1 = (decide ((tryM M m n).1 = 0), (tryM M m n).1) := by
  unfold lockM tryM
  by_cases h0 : readyI M m n 0 = 0
  · have hnn : ¬ (readyI M m n 0 ≠ 0) := by simp [h0]
    simp only [if_neg hnn]
    obtain ⟨⟨a, b, c, d, -⟩, hw, ho⟩ := readyI_0 h0
    by_cases h1 : (lkA M m.toNat).own = -1
    · have h1n : ¬ ((lkA M m.toNat).own ≠ -1) := by simp [h1]
      simp only [if_neg h1n]; rfl
    · exfalso
      have hm : mayI M.length m 0 0 = 0 := mayI_0.2 ⟨a, b, by decide, by decide, by decide, by decide⟩
      unfold ownerM at h
      rw [if_neg (by simp [hm]), if_neg h1] at h
      rcases h with h | h
      · exact h rfl
      · exact ho h
  · simp only [if_pos h0]
    rw [decide_eq_false h0]
theorem OpsIn.there {A : HP} {R : List HP} {v : Value} {ops : List OpT} (h : OpsIn R v ops) : OpsIn (A :: R) v ops := ⟨h.isl, h.src.there⟩
set_option maxHeartbeats 8000000 in
theorem keeps_no (v : Value) (ops : List OpT) (o : OpT) (R : List HP) (h : OpsIn R v ops) (h80 : 80 < ops.length) : Called Try.prog 3 [v, opV o] R (is (.bool true) R) := by
  have hN := begun_no v ops
  have hB := begins_ok
  have hA := awake_ok
  unfold opV opE
  refine Fn2 Try.func3 rfl Try.ntmps3 rfl ?_
  (repeat' first | refine stp ?_ | intro v' hv' | intro (b : Nat) | (apply w_convU; rfl; rfl; omega; omega) | (apply w_convI; rfl; rfl; omega; omega) | (apply w_quoU; rfl; rfl; rfl; omega; omega; omega) | (apply w_remU; rfl; rfl; rfl; omega; omega) | (apply w_minL; rfl; rfl; rfl; omega) | (apply w_minG; rfl; rfl; rfl; omega) | (apply w_min; rfl; rfl; rfl) | (apply w_mfR; rfl; rfl) | (apply w_cvp; rfl; rfl; exact inferInstance; rfl; rfl; assumption) | (apply w_eqS2T; rfl; rfl; rfl; omega) | (apply w_eqS2F; rfl; rfl; rfl; omega) | (apply w_neS2T; rfl; rfl; rfl; omega) | (apply w_neS2F; rfl; rfl; rfl; omega) | (apply w_eqS3T; rfl; rfl; rfl; omega) | (apply w_eqS3F; rfl; rfl; rfl; omega) | (apply w_neS3T; rfl; rfl; rfl; omega) | (apply w_neS3F; rfl; rfl; rfl; omega) | (apply w_eqS3; rfl; rfl; rfl) | (apply w_neS3; rfl; rfl; rfl) | (apply w_eqS2; rfl; rfl; rfl) | (apply w_neS2; rfl; rfl; rfl) | (apply w_maxL; rfl; rfl; rfl; omega) | (apply w_maxG; rfl; rfl; rfl; omega) | (apply w_max; rfl; rfl; rfl) | (apply w_neB; rfl; rfl; rfl; rfl) | (apply w_eqB; rfl; rfl; rfl; rfl) | (apply w_cl; rfl; rfl; exact begun_ok v ops _ (by first | exact h | exact h.there) h80; exact ⟨_, _, 0, rfl, rfl⟩; rintro _ _ ⟨bt, rfl, rfl⟩; refine ⟨by (exact kmf), ?_⟩) | refine spl ?_ ?_ | intro hc)
  apply w_cd; rfl; rfl; exact begun_no v ops _ h.there h80; ((exact kmf))
  (repeat' first | refine stp ?_ | intro v' hv' | intro (b : Nat) | (apply w_convU; rfl; rfl; omega; omega) | (apply w_convI; rfl; rfl; omega; omega) | (apply w_quoU; rfl; rfl; rfl; omega; omega; omega) | (apply w_remU; rfl; rfl; rfl; omega; omega) | (apply w_minL; rfl; rfl; rfl; omega) | (apply w_minG; rfl; rfl; rfl; omega) | (apply w_min; rfl; rfl; rfl) | (apply w_mfR; rfl; rfl) | (apply w_cvp; rfl; rfl; exact inferInstance; rfl; rfl; assumption) | (apply w_eqS2T; rfl; rfl; rfl; omega) | (apply w_eqS2F; rfl; rfl; rfl; omega) | (apply w_neS2T; rfl; rfl; rfl; omega) | (apply w_neS2F; rfl; rfl; rfl; omega) | (apply w_eqS3T; rfl; rfl; rfl; omega) | (apply w_eqS3F; rfl; rfl; rfl; omega) | (apply w_neS3T; rfl; rfl; rfl; omega) | (apply w_neS3F; rfl; rfl; rfl; omega) | (apply w_eqS3; rfl; rfl; rfl) | (apply w_neS3; rfl; rfl; rfl) | (apply w_eqS2; rfl; rfl; rfl) | (apply w_neS2; rfl; rfl; rfl) | (apply w_maxL; rfl; rfl; rfl; omega) | (apply w_maxG; rfl; rfl; rfl; omega) | (apply w_max; rfl; rfl; rfl) | (apply w_neB; rfl; rfl; rfl; rfl) | (apply w_eqB; rfl; rfl; rfl; rfl) | (apply w_cl; rfl; rfl; exact begun_ok v ops _ (by first | exact h | exact h.there) h80; exact ⟨_, _, 0, rfl, rfl⟩; rintro _ _ ⟨bt, rfl, rfl⟩; refine ⟨by (exact kmf), ?_⟩) | refine spl ?_ ?_ | intro hc)
  apply w_cd; rfl; rfl; exact begun_no v ops _ h.there h80; ((exact kmf))
  (repeat' first | refine stp ?_ | intro v' hv' | intro (b : Nat) | (apply w_convU; rfl; rfl; omega; omega) | (apply w_convI; rfl; rfl; omega; omega) | (apply w_quoU; rfl; rfl; rfl; omega; omega; omega) | (apply w_remU; rfl; rfl; rfl; omega; omega) | (apply w_minL; rfl; rfl; rfl; omega) | (apply w_minG; rfl; rfl; rfl; omega) | (apply w_min; rfl; rfl; rfl) | (apply w_mfR; rfl; rfl) | (apply w_cvp; rfl; rfl; exact inferInstance; rfl; rfl; assumption) | (apply w_eqS2T; rfl; rfl; rfl; omega) | (apply w_eqS2F; rfl; rfl; rfl; omega) | (apply w_neS2T; rfl; rfl; rfl; omega) | (apply w_neS2F; rfl; rfl; rfl; omega) | (apply w_eqS3T; rfl; rfl; rfl; omega) | (apply w_eqS3F; rfl; rfl; rfl; omega) | (apply w_neS3T; rfl; rfl; rfl; omega) | (apply w_neS3F; rfl; rfl; rfl; omega) | (apply w_eqS3; rfl; rfl; rfl) | (apply w_neS3; rfl; rfl; rfl) | (apply w_eqS2; rfl; rfl; rfl) | (apply w_neS2; rfl; rfl; rfl) | (apply w_maxL; rfl; rfl; rfl; omega) | (apply w_maxG; rfl; rfl; rfl; omega) | (apply w_max; rfl; rfl; rfl) | (apply w_neB; rfl; rfl; rfl; rfl) | (apply w_eqB; rfl; rfl; rfl; rfl) | (apply w_cl; rfl; rfl; exact begun_ok v ops _ (by first | exact h | exact h.there) h80; exact ⟨_, _, 0, rfl, rfl⟩; rintro _ _ ⟨bt, rfl, rfl⟩; refine ⟨by (exact kmf), ?_⟩) | refine spl ?_ ?_ | intro hc)
  all_goals (refine At_ret1 (by (first | exact .inl rfl | exact .inr rfl)) Try.results3 rfl ⟨by rfl, rfl⟩ (by (exact frm)))
set_option maxHeartbeats 8000000 in
theorem keeps_0 (v : Value) (ops : List OpT) (m n t : Int) (R : List HP) (h : OpsIn R v ops) (h80 : ops.length ≤ 80) : Called Try.prog 3 [v, opV ⟨0, m, n, t⟩] R (is (.bool true) R) := by
  unfold opV opE
  dsimp only
  have hA := awake_ok
  refine Fn2 Try.func3 rfl Try.ntmps3 rfl ?_
  (repeat' first | refine stp ?_ | intro v' hv' | intro (b : Nat) | (apply w_convU; rfl; rfl; omega; omega) | (apply w_convI; rfl; rfl; omega; omega) | (apply w_quoU; rfl; rfl; rfl; omega; omega; omega) | (apply w_remU; rfl; rfl; rfl; omega; omega) | (apply w_minL; rfl; rfl; rfl; omega) | (apply w_minG; rfl; rfl; rfl; omega) | (apply w_min; rfl; rfl; rfl) | (apply w_mfR; rfl; rfl) | (apply w_cvp; rfl; rfl; exact inferInstance; rfl; rfl; assumption) | (apply w_eqS2T; rfl; rfl; rfl; omega) | (apply w_eqS2F; rfl; rfl; rfl; omega) | (apply w_neS2T; rfl; rfl; rfl; omega) | (apply w_neS2F; rfl; rfl; rfl; omega) | (apply w_eqS3T; rfl; rfl; rfl; omega) | (apply w_eqS3F; rfl; rfl; rfl; omega) | (apply w_neS3T; rfl; rfl; rfl; omega) | (apply w_neS3F; rfl; rfl; rfl; omega) | (apply w_eqS3; rfl; rfl; rfl) | (apply w_neS3; rfl; rfl; rfl) | (apply w_eqS2; rfl; rfl; rfl) | (apply w_neS2; rfl; rfl; rfl) | (apply w_maxL; rfl; rfl; rfl; omega) | (apply w_maxG; rfl; rfl; rfl; omega) | (apply w_max; rfl; rfl; rfl) | (apply w_neB; rfl; rfl; rfl; rfl) | (apply w_eqB; rfl; rfl; rfl; rfl) | (apply w_cd; rfl; rfl; exact hA _; ((exact kmf))) | (apply w_cd; rfl; rfl; apply Called.at2 (h := hK); ((focus ((repeat (first | (apply Rep2.here; ((focus ((repeat (first | exact Rep.here | apply Rep.there)); done)))) | (apply Rep2.other; ((focus ((repeat (first | exact Rep.here | apply Rep.there)); done)))) | apply Rep2.there)); done))); ((exact kmf))) | refine spl ?_ ?_ | intro hc)
  obtain ⟨b5, hb5⟩ : ∃ r, r = b := ⟨_, rfl⟩
  subst hb5
  apply w_cl; rfl; rfl; exact begun_ok v ops _ h.there h80
  exact ⟨_, _, 0, rfl, rfl⟩
  rintro _ _ ⟨ba', rfl, rfl⟩
  refine ⟨by (exact kmf), ?_⟩
  (repeat' first | refine stp ?_ | intro v' hv' | intro (b : Nat) | (apply w_convU; rfl; rfl; omega; omega) | (apply w_convI; rfl; rfl; omega; omega) | (apply w_quoU; rfl; rfl; rfl; omega; omega; omega) | (apply w_remU; rfl; rfl; rfl; omega; omega) | (apply w_minL; rfl; rfl; rfl; omega) | (apply w_minG; rfl; rfl; rfl; omega) | (apply w_min; rfl; rfl; rfl) | (apply w_mfR; rfl; rfl) | (apply w_cvp; rfl; rfl; exact inferInstance; rfl; rfl; assumption) | (apply w_eqS2T; rfl; rfl; rfl; omega) | (apply w_eqS2F; rfl; rfl; rfl; omega) | (apply w_neS2T; rfl; rfl; rfl; omega) | (apply w_neS2F; rfl; rfl; rfl; omega) | (apply w_eqS3T; rfl; rfl; rfl; omega) | (apply w_eqS3F; rfl; rfl; rfl; omega) | (apply w_neS3T; rfl; rfl; rfl; omega) | (apply w_neS3F; rfl; rfl; rfl; omega) | (apply w_eqS3; rfl; rfl; rfl) | (apply w_neS3; rfl; rfl; rfl) | (apply w_eqS2; rfl; rfl; rfl) | (apply w_neS2; rfl; rfl; rfl) | (apply w_maxL; rfl; rfl; rfl; omega) | (apply w_maxG; rfl; rfl; rfl; omega) | (apply w_max; rfl; rfl; rfl) | (apply w_neB; rfl; rfl; rfl; rfl) | (apply w_eqB; rfl; rfl; rfl; rfl) | (apply w_cd; rfl; rfl; exact hA _; ((exact kmf))) | (apply w_cd; rfl; rfl; apply Called.at2 (h := hK); ((focus ((repeat (first | (apply Rep2.here; ((focus ((repeat (first | exact Rep.here | apply Rep.there)); done)))) | (apply Rep2.other; ((focus ((repeat (first | exact Rep.here | apply Rep.there)); done)))) | apply Rep2.there)); done))); ((exact kmf))) | refine spl ?_ ?_ | intro hc)
  apply w_cl; rfl; rfl; exact begun_ok v ops _ h.there.there h80
  exact ⟨_, _, 0, rfl, rfl⟩
  rintro _ _ ⟨bb, rfl, rfl⟩
  refine ⟨by (exact kmf), ?_⟩
  have hlen := run_len ops
  generalize runM ops = M at *
  have hK := alike_ok ba' bb M hlen
  have hO := Lock_ok ba' M m n t
  by_cases he : (lockM M m n t).1.2 = 0
  · rw [he] at hO
    (repeat' first | refine stp ?_ | intro v' hv' | intro (b : Nat) | (apply w_convU; rfl; rfl; omega; omega) | (apply w_convI; rfl; rfl; omega; omega) | (apply w_quoU; rfl; rfl; rfl; omega; omega; omega) | (apply w_remU; rfl; rfl; rfl; omega; omega) | (apply w_minL; rfl; rfl; rfl; omega) | (apply w_minG; rfl; rfl; rfl; omega) | (apply w_min; rfl; rfl; rfl) | (apply w_mfR; rfl; rfl) | (apply w_cvp; rfl; rfl; exact inferInstance; rfl; rfl; assumption) | (apply w_eqS2T; rfl; rfl; rfl; omega) | (apply w_eqS2F; rfl; rfl; rfl; omega) | (apply w_neS2T; rfl; rfl; rfl; omega) | (apply w_neS2F; rfl; rfl; rfl; omega) | (apply w_eqS3T; rfl; rfl; rfl; omega) | (apply w_eqS3F; rfl; rfl; rfl; omega) | (apply w_neS3T; rfl; rfl; rfl; omega) | (apply w_neS3F; rfl; rfl; rfl; omega) | (apply w_eqS3; rfl; rfl; rfl) | (apply w_neS3; rfl; rfl; rfl) | (apply w_eqS2; rfl; rfl; rfl) | (apply w_neS2; rfl; rfl; rfl) | (apply w_maxL; rfl; rfl; rfl; omega) | (apply w_maxG; rfl; rfl; rfl; omega) | (apply w_max; rfl; rfl; rfl) | (apply w_neB; rfl; rfl; rfl; rfl) | (apply w_eqB; rfl; rfl; rfl; rfl) | (apply w_cd; rfl; rfl; exact hA _; ((exact kmf))) | (apply w_cd; rfl; rfl; apply Called.at2 (h := hK); ((focus ((repeat (first | (apply Rep2.here; ((focus ((repeat (first | exact Rep.here | apply Rep.there)); done)))) | (apply Rep2.other; ((focus ((repeat (first | exact Rep.here | apply Rep.there)); done)))) | apply Rep2.there)); done))); ((exact kmf))) | refine spl ?_ ?_ | intro hc)
    all_goals (refine At_ret1 (by (first | exact .inl rfl | exact .inr rfl)) Try.results3 rfl ⟨by rfl, rfl⟩ (by (exact frm)))
  · have hM := lock_no he
    rw [hM] at hO
    clear hM
    generalize (lockM M m n t).1.2 = e at *
    (repeat' first | refine stp ?_ | intro v' hv' | intro (b : Nat) | (apply w_convU; rfl; rfl; omega; omega) | (apply w_convI; rfl; rfl; omega; omega) | (apply w_quoU; rfl; rfl; rfl; omega; omega; omega) | (apply w_remU; rfl; rfl; rfl; omega; omega) | (apply w_minL; rfl; rfl; rfl; omega) | (apply w_minG; rfl; rfl; rfl; omega) | (apply w_min; rfl; rfl; rfl) | (apply w_mfR; rfl; rfl) | (apply w_cvp; rfl; rfl; exact inferInstance; rfl; rfl; assumption) | (apply w_eqS2T; rfl; rfl; rfl; omega) | (apply w_eqS2F; rfl; rfl; rfl; omega) | (apply w_neS2T; rfl; rfl; rfl; omega) | (apply w_neS2F; rfl; rfl; rfl; omega) | (apply w_eqS3T; rfl; rfl; rfl; omega) | (apply w_eqS3F; rfl; rfl; rfl; omega) | (apply w_neS3T; rfl; rfl; rfl; omega) | (apply w_neS3F; rfl; rfl; rfl; omega) | (apply w_eqS3; rfl; rfl; rfl) | (apply w_neS3; rfl; rfl; rfl) | (apply w_eqS2; rfl; rfl; rfl) | (apply w_neS2; rfl; rfl; rfl) | (apply w_maxL; rfl; rfl; rfl; omega) | (apply w_maxG; rfl; rfl; rfl; omega) | (apply w_max; rfl; rfl; rfl) | (apply w_neB; rfl; rfl; rfl; rfl) | (apply w_eqB; rfl; rfl; rfl; rfl) | (apply w_cd; rfl; rfl; exact hA _; ((exact kmf))) | (apply w_cd; rfl; rfl; apply Called.at2 (h := hK); ((focus ((repeat (first | (apply Rep2.here; ((focus ((repeat (first | exact Rep.here | apply Rep.there)); done)))) | (apply Rep2.other; ((focus ((repeat (first | exact Rep.here | apply Rep.there)); done)))) | apply Rep2.there)); done))); ((exact kmf))) | refine spl ?_ ?_ | intro hc)
    all_goals (refine At_ret1 (by (first | exact .inl rfl | exact .inr rfl)) Try.results3 rfl ⟨by rfl, rfl⟩ (by (exact frm)))
set_option maxHeartbeats 8000000 in
theorem keeps_2 (v : Value) (ops : List OpT) (m n t : Int) (R : List HP) (h : OpsIn R v ops) (h80 : ops.length ≤ 80) : Called Try.prog 3 [v, opV ⟨2, m, n, t⟩] R (is (.bool true) R) := by
  unfold opV opE
  dsimp only
  have hA := awake_ok
  refine Fn2 Try.func3 rfl Try.ntmps3 rfl ?_
  (repeat' first | refine stp ?_ | intro v' hv' | intro (b : Nat) | (apply w_convU; rfl; rfl; omega; omega) | (apply w_convI; rfl; rfl; omega; omega) | (apply w_quoU; rfl; rfl; rfl; omega; omega; omega) | (apply w_remU; rfl; rfl; rfl; omega; omega) | (apply w_minL; rfl; rfl; rfl; omega) | (apply w_minG; rfl; rfl; rfl; omega) | (apply w_min; rfl; rfl; rfl) | (apply w_mfR; rfl; rfl) | (apply w_cvp; rfl; rfl; exact inferInstance; rfl; rfl; assumption) | (apply w_eqS2T; rfl; rfl; rfl; omega) | (apply w_eqS2F; rfl; rfl; rfl; omega) | (apply w_neS2T; rfl; rfl; rfl; omega) | (apply w_neS2F; rfl; rfl; rfl; omega) | (apply w_eqS3T; rfl; rfl; rfl; omega) | (apply w_eqS3F; rfl; rfl; rfl; omega) | (apply w_neS3T; rfl; rfl; rfl; omega) | (apply w_neS3F; rfl; rfl; rfl; omega) | (apply w_eqS3; rfl; rfl; rfl) | (apply w_neS3; rfl; rfl; rfl) | (apply w_eqS2; rfl; rfl; rfl) | (apply w_neS2; rfl; rfl; rfl) | (apply w_maxL; rfl; rfl; rfl; omega) | (apply w_maxG; rfl; rfl; rfl; omega) | (apply w_max; rfl; rfl; rfl) | (apply w_neB; rfl; rfl; rfl; rfl) | (apply w_eqB; rfl; rfl; rfl; rfl) | (apply w_cd; rfl; rfl; exact hA _; ((exact kmf))) | (apply w_cd; rfl; rfl; apply Called.at2 (h := hK); ((focus ((repeat (first | (apply Rep2.here; ((focus ((repeat (first | exact Rep.here | apply Rep.there)); done)))) | (apply Rep2.other; ((focus ((repeat (first | exact Rep.here | apply Rep.there)); done)))) | apply Rep2.there)); done))); ((exact kmf))) | refine spl ?_ ?_ | intro hc)
  obtain ⟨b5, hb5⟩ : ∃ r, r = b := ⟨_, rfl⟩
  subst hb5
  apply w_cl; rfl; rfl; exact begun_ok v ops _ h.there h80
  exact ⟨_, _, 0, rfl, rfl⟩
  rintro _ _ ⟨ba', rfl, rfl⟩
  refine ⟨by (exact kmf), ?_⟩
  (repeat' first | refine stp ?_ | intro v' hv' | intro (b : Nat) | (apply w_convU; rfl; rfl; omega; omega) | (apply w_convI; rfl; rfl; omega; omega) | (apply w_quoU; rfl; rfl; rfl; omega; omega; omega) | (apply w_remU; rfl; rfl; rfl; omega; omega) | (apply w_minL; rfl; rfl; rfl; omega) | (apply w_minG; rfl; rfl; rfl; omega) | (apply w_min; rfl; rfl; rfl) | (apply w_mfR; rfl; rfl) | (apply w_cvp; rfl; rfl; exact inferInstance; rfl; rfl; assumption) | (apply w_eqS2T; rfl; rfl; rfl; omega) | (apply w_eqS2F; rfl; rfl; rfl; omega) | (apply w_neS2T; rfl; rfl; rfl; omega) | (apply w_neS2F; rfl; rfl; rfl; omega) | (apply w_eqS3T; rfl; rfl; rfl; omega) | (apply w_eqS3F; rfl; rfl; rfl; omega) | (apply w_neS3T; rfl; rfl; rfl; omega) | (apply w_neS3F; rfl; rfl; rfl; omega) | (apply w_eqS3; rfl; rfl; rfl) | (apply w_neS3; rfl; rfl; rfl) | (apply w_eqS2; rfl; rfl; rfl) | (apply w_neS2; rfl; rfl; rfl) | (apply w_maxL; rfl; rfl; rfl; omega) | (apply w_maxG; rfl; rfl; rfl; omega) | (apply w_max; rfl; rfl; rfl) | (apply w_neB; rfl; rfl; rfl; rfl) | (apply w_eqB; rfl; rfl; rfl; rfl) | (apply w_cd; rfl; rfl; exact hA _; ((exact kmf))) | (apply w_cd; rfl; rfl; apply Called.at2 (h := hK); ((focus ((repeat (first | (apply Rep2.here; ((focus ((repeat (first | exact Rep.here | apply Rep.there)); done)))) | (apply Rep2.other; ((focus ((repeat (first | exact Rep.here | apply Rep.there)); done)))) | apply Rep2.there)); done))); ((exact kmf))) | refine spl ?_ ?_ | intro hc)
  apply w_cl; rfl; rfl; exact begun_ok v ops _ h.there.there h80
  exact ⟨_, _, 0, rfl, rfl⟩
  rintro _ _ ⟨bb, rfl, rfl⟩
  refine ⟨by (exact kmf), ?_⟩
  have hlen := run_len ops
  generalize runM ops = M at *
  have hK := alike_ok ba' bb M hlen
  have hO := Unlock_ok ba' M m n
  by_cases he : (unlockM M m n).1.2 = 0
  · rw [he] at hO
    (repeat' first | refine stp ?_ | intro v' hv' | intro (b : Nat) | (apply w_convU; rfl; rfl; omega; omega) | (apply w_convI; rfl; rfl; omega; omega) | (apply w_quoU; rfl; rfl; rfl; omega; omega; omega) | (apply w_remU; rfl; rfl; rfl; omega; omega) | (apply w_minL; rfl; rfl; rfl; omega) | (apply w_minG; rfl; rfl; rfl; omega) | (apply w_min; rfl; rfl; rfl) | (apply w_mfR; rfl; rfl) | (apply w_cvp; rfl; rfl; exact inferInstance; rfl; rfl; assumption) | (apply w_eqS2T; rfl; rfl; rfl; omega) | (apply w_eqS2F; rfl; rfl; rfl; omega) | (apply w_neS2T; rfl; rfl; rfl; omega) | (apply w_neS2F; rfl; rfl; rfl; omega) | (apply w_eqS3T; rfl; rfl; rfl; omega) | (apply w_eqS3F; rfl; rfl; rfl; omega) | (apply w_neS3T; rfl; rfl; rfl; omega) | (apply w_neS3F; rfl; rfl; rfl; omega) | (apply w_eqS3; rfl; rfl; rfl) | (apply w_neS3; rfl; rfl; rfl) | (apply w_eqS2; rfl; rfl; rfl) | (apply w_neS2; rfl; rfl; rfl) | (apply w_maxL; rfl; rfl; rfl; omega) | (apply w_maxG; rfl; rfl; rfl; omega) | (apply w_max; rfl; rfl; rfl) | (apply w_neB; rfl; rfl; rfl; rfl) | (apply w_eqB; rfl; rfl; rfl; rfl) | (apply w_cd; rfl; rfl; exact hA _; ((exact kmf))) | (apply w_cd; rfl; rfl; apply Called.at2 (h := hK); ((focus ((repeat (first | (apply Rep2.here; ((focus ((repeat (first | exact Rep.here | apply Rep.there)); done)))) | (apply Rep2.other; ((focus ((repeat (first | exact Rep.here | apply Rep.there)); done)))) | apply Rep2.there)); done))); ((exact kmf))) | refine spl ?_ ?_ | intro hc)
    all_goals (refine At_ret1 (by (first | exact .inl rfl | exact .inr rfl)) Try.results3 rfl ⟨by rfl, rfl⟩ (by (exact frm)))
  · have hM := unlock_no he
    rw [hM] at hO
    clear hM
    generalize (unlockM M m n).1.2 = e at *
    (repeat' first | refine stp ?_ | intro v' hv' | intro (b : Nat) | (apply w_convU; rfl; rfl; omega; omega) | (apply w_convI; rfl; rfl; omega; omega) | (apply w_quoU; rfl; rfl; rfl; omega; omega; omega) | (apply w_remU; rfl; rfl; rfl; omega; omega) | (apply w_minL; rfl; rfl; rfl; omega) | (apply w_minG; rfl; rfl; rfl; omega) | (apply w_min; rfl; rfl; rfl) | (apply w_mfR; rfl; rfl) | (apply w_cvp; rfl; rfl; exact inferInstance; rfl; rfl; assumption) | (apply w_eqS2T; rfl; rfl; rfl; omega) | (apply w_eqS2F; rfl; rfl; rfl; omega) | (apply w_neS2T; rfl; rfl; rfl; omega) | (apply w_neS2F; rfl; rfl; rfl; omega) | (apply w_eqS3T; rfl; rfl; rfl; omega) | (apply w_eqS3F; rfl; rfl; rfl; omega) | (apply w_neS3T; rfl; rfl; rfl; omega) | (apply w_neS3F; rfl; rfl; rfl; omega) | (apply w_eqS3; rfl; rfl; rfl) | (apply w_neS3; rfl; rfl; rfl) | (apply w_eqS2; rfl; rfl; rfl) | (apply w_neS2; rfl; rfl; rfl) | (apply w_maxL; rfl; rfl; rfl; omega) | (apply w_maxG; rfl; rfl; rfl; omega) | (apply w_max; rfl; rfl; rfl) | (apply w_neB; rfl; rfl; rfl; rfl) | (apply w_eqB; rfl; rfl; rfl; rfl) | (apply w_cd; rfl; rfl; exact hA _; ((exact kmf))) | (apply w_cd; rfl; rfl; apply Called.at2 (h := hK); ((focus ((repeat (first | (apply Rep2.here; ((focus ((repeat (first | exact Rep.here | apply Rep.there)); done)))) | (apply Rep2.other; ((focus ((repeat (first | exact Rep.here | apply Rep.there)); done)))) | apply Rep2.there)); done))); ((exact kmf))) | refine spl ?_ ?_ | intro hc)
    all_goals (refine At_ret1 (by (first | exact .inl rfl | exact .inr rfl)) Try.results3 rfl ⟨by rfl, rfl⟩ (by (exact frm)))
set_option maxHeartbeats 8000000 in
theorem keeps_3 (v : Value) (ops : List OpT) (m n t : Int) (R : List HP) (h : OpsIn R v ops) (h80 : ops.length ≤ 80) : Called Try.prog 3 [v, opV ⟨3, m, n, t⟩] R (is (.bool true) R) := by
  unfold opV opE
  dsimp only
  have hA := awake_ok
  refine Fn2 Try.func3 rfl Try.ntmps3 rfl ?_
  (repeat' first | refine stp ?_ | intro v' hv' | intro (b : Nat) | (apply w_convU; rfl; rfl; omega; omega) | (apply w_convI; rfl; rfl; omega; omega) | (apply w_quoU; rfl; rfl; rfl; omega; omega; omega) | (apply w_remU; rfl; rfl; rfl; omega; omega) | (apply w_minL; rfl; rfl; rfl; omega) | (apply w_minG; rfl; rfl; rfl; omega) | (apply w_min; rfl; rfl; rfl) | (apply w_mfR; rfl; rfl) | (apply w_cvp; rfl; rfl; exact inferInstance; rfl; rfl; assumption) | (apply w_eqS2T; rfl; rfl; rfl; omega) | (apply w_eqS2F; rfl; rfl; rfl; omega) | (apply w_neS2T; rfl; rfl; rfl; omega) | (apply w_neS2F; rfl; rfl; rfl; omega) | (apply w_eqS3T; rfl; rfl; rfl; omega) | (apply w_eqS3F; rfl; rfl; rfl; omega) | (apply w_neS3T; rfl; rfl; rfl; omega) | (apply w_neS3F; rfl; rfl; rfl; omega) | (apply w_eqS3; rfl; rfl; rfl) | (apply w_neS3; rfl; rfl; rfl) | (apply w_eqS2; rfl; rfl; rfl) | (apply w_neS2; rfl; rfl; rfl) | (apply w_maxL; rfl; rfl; rfl; omega) | (apply w_maxG; rfl; rfl; rfl; omega) | (apply w_max; rfl; rfl; rfl) | (apply w_neB; rfl; rfl; rfl; rfl) | (apply w_eqB; rfl; rfl; rfl; rfl) | (apply w_cd; rfl; rfl; exact hA _; ((exact kmf))) | (apply w_cd; rfl; rfl; apply Called.at2 (h := hK); ((focus ((repeat (first | (apply Rep2.here; ((focus ((repeat (first | exact Rep.here | apply Rep.there)); done)))) | (apply Rep2.other; ((focus ((repeat (first | exact Rep.here | apply Rep.there)); done)))) | apply Rep2.there)); done))); ((exact kmf))) | refine spl ?_ ?_ | intro hc)
  obtain ⟨b5, hb5⟩ : ∃ r, r = b := ⟨_, rfl⟩
  subst hb5
  apply w_cl; rfl; rfl; exact begun_ok v ops _ h.there h80
  exact ⟨_, _, 0, rfl, rfl⟩
  rintro _ _ ⟨ba', rfl, rfl⟩
  refine ⟨by (exact kmf), ?_⟩
  (repeat' first | refine stp ?_ | intro v' hv' | intro (b : Nat) | (apply w_convU; rfl; rfl; omega; omega) | (apply w_convI; rfl; rfl; omega; omega) | (apply w_quoU; rfl; rfl; rfl; omega; omega; omega) | (apply w_remU; rfl; rfl; rfl; omega; omega) | (apply w_minL; rfl; rfl; rfl; omega) | (apply w_minG; rfl; rfl; rfl; omega) | (apply w_min; rfl; rfl; rfl) | (apply w_mfR; rfl; rfl) | (apply w_cvp; rfl; rfl; exact inferInstance; rfl; rfl; assumption) | (apply w_eqS2T; rfl; rfl; rfl; omega) | (apply w_eqS2F; rfl; rfl; rfl; omega) | (apply w_neS2T; rfl; rfl; rfl; omega) | (apply w_neS2F; rfl; rfl; rfl; omega) | (apply w_eqS3T; rfl; rfl; rfl; omega) | (apply w_eqS3F; rfl; rfl; rfl; omega) | (apply w_neS3T; rfl; rfl; rfl; omega) | (apply w_neS3F; rfl; rfl; rfl; omega) | (apply w_eqS3; rfl; rfl; rfl) | (apply w_neS3; rfl; rfl; rfl) | (apply w_eqS2; rfl; rfl; rfl) | (apply w_neS2; rfl; rfl; rfl) | (apply w_maxL; rfl; rfl; rfl; omega) | (apply w_maxG; rfl; rfl; rfl; omega) | (apply w_max; rfl; rfl; rfl) | (apply w_neB; rfl; rfl; rfl; rfl) | (apply w_eqB; rfl; rfl; rfl; rfl) | (apply w_cd; rfl; rfl; exact hA _; ((exact kmf))) | (apply w_cd; rfl; rfl; apply Called.at2 (h := hK); ((focus ((repeat (first | (apply Rep2.here; ((focus ((repeat (first | exact Rep.here | apply Rep.there)); done)))) | (apply Rep2.other; ((focus ((repeat (first | exact Rep.here | apply Rep.there)); done)))) | apply Rep2.there)); done))); ((exact kmf))) | refine spl ?_ ?_ | intro hc)
  apply w_cl; rfl; rfl; exact begun_ok v ops _ h.there.there h80
  exact ⟨_, _, 0, rfl, rfl⟩
  rintro _ _ ⟨bb, rfl, rfl⟩
  refine ⟨by (exact kmf), ?_⟩
  have hlen := run_len ops
  generalize runM ops = M at *
  have hK := alike_ok ba' bb M hlen
  have hO := Rekey_ok ba' M n t
  by_cases he : (rekeyM M n t).1 = 0
  · rw [he] at hO
    (repeat' first | refine stp ?_ | intro v' hv' | intro (b : Nat) | (apply w_convU; rfl; rfl; omega; omega) | (apply w_convI; rfl; rfl; omega; omega) | (apply w_quoU; rfl; rfl; rfl; omega; omega; omega) | (apply w_remU; rfl; rfl; rfl; omega; omega) | (apply w_minL; rfl; rfl; rfl; omega) | (apply w_minG; rfl; rfl; rfl; omega) | (apply w_min; rfl; rfl; rfl) | (apply w_mfR; rfl; rfl) | (apply w_cvp; rfl; rfl; exact inferInstance; rfl; rfl; assumption) | (apply w_eqS2T; rfl; rfl; rfl; omega) | (apply w_eqS2F; rfl; rfl; rfl; omega) | (apply w_neS2T; rfl; rfl; rfl; omega) | (apply w_neS2F; rfl; rfl; rfl; omega) | (apply w_eqS3T; rfl; rfl; rfl; omega) | (apply w_eqS3F; rfl; rfl; rfl; omega) | (apply w_neS3T; rfl; rfl; rfl; omega) | (apply w_neS3F; rfl; rfl; rfl; omega) | (apply w_eqS3; rfl; rfl; rfl) | (apply w_neS3; rfl; rfl; rfl) | (apply w_eqS2; rfl; rfl; rfl) | (apply w_neS2; rfl; rfl; rfl) | (apply w_maxL; rfl; rfl; rfl; omega) | (apply w_maxG; rfl; rfl; rfl; omega) | (apply w_max; rfl; rfl; rfl) | (apply w_neB; rfl; rfl; rfl; rfl) | (apply w_eqB; rfl; rfl; rfl; rfl) | (apply w_cd; rfl; rfl; exact hA _; ((exact kmf))) | (apply w_cd; rfl; rfl; apply Called.at2 (h := hK); ((focus ((repeat (first | (apply Rep2.here; ((focus ((repeat (first | exact Rep.here | apply Rep.there)); done)))) | (apply Rep2.other; ((focus ((repeat (first | exact Rep.here | apply Rep.there)); done)))) | apply Rep2.there)); done))); ((exact kmf))) | refine spl ?_ ?_ | intro hc)
    all_goals (refine At_ret1 (by (first | exact .inl rfl | exact .inr rfl)) Try.results3 rfl ⟨by rfl, rfl⟩ (by (exact frm)))
  · have hM := rekey_no he
    rw [hM] at hO
    clear hM
    generalize (rekeyM M n t).1 = e at *
    (repeat' first | refine stp ?_ | intro v' hv' | intro (b : Nat) | (apply w_convU; rfl; rfl; omega; omega) | (apply w_convI; rfl; rfl; omega; omega) | (apply w_quoU; rfl; rfl; rfl; omega; omega; omega) | (apply w_remU; rfl; rfl; rfl; omega; omega) | (apply w_minL; rfl; rfl; rfl; omega) | (apply w_minG; rfl; rfl; rfl; omega) | (apply w_min; rfl; rfl; rfl) | (apply w_mfR; rfl; rfl) | (apply w_cvp; rfl; rfl; exact inferInstance; rfl; rfl; assumption) | (apply w_eqS2T; rfl; rfl; rfl; omega) | (apply w_eqS2F; rfl; rfl; rfl; omega) | (apply w_neS2T; rfl; rfl; rfl; omega) | (apply w_neS2F; rfl; rfl; rfl; omega) | (apply w_eqS3T; rfl; rfl; rfl; omega) | (apply w_eqS3F; rfl; rfl; rfl; omega) | (apply w_neS3T; rfl; rfl; rfl; omega) | (apply w_neS3F; rfl; rfl; rfl; omega) | (apply w_eqS3; rfl; rfl; rfl) | (apply w_neS3; rfl; rfl; rfl) | (apply w_eqS2; rfl; rfl; rfl) | (apply w_neS2; rfl; rfl; rfl) | (apply w_maxL; rfl; rfl; rfl; omega) | (apply w_maxG; rfl; rfl; rfl; omega) | (apply w_max; rfl; rfl; rfl) | (apply w_neB; rfl; rfl; rfl; rfl) | (apply w_eqB; rfl; rfl; rfl; rfl) | (apply w_cd; rfl; rfl; exact hA _; ((exact kmf))) | (apply w_cd; rfl; rfl; apply Called.at2 (h := hK); ((focus ((repeat (first | (apply Rep2.here; ((focus ((repeat (first | exact Rep.here | apply Rep.there)); done)))) | (apply Rep2.other; ((focus ((repeat (first | exact Rep.here | apply Rep.there)); done)))) | apply Rep2.there)); done))); ((exact kmf))) | refine spl ?_ ?_ | intro hc)
    all_goals (refine At_ret1 (by (first | exact .inl rfl | exact .inr rfl)) Try.results3 rfl ⟨by rfl, rfl⟩ (by (exact frm)))
set_option maxHeartbeats 8000000 in
theorem keeps_4 (v : Value) (ops : List OpT) (m n t : Int) (R : List HP) (h : OpsIn R v ops) (h80 : ops.length ≤ 80) : Called Try.prog 3 [v, opV ⟨4, m, n, t⟩] R (is (.bool true) R) := by
  unfold opV opE
  dsimp only
  have hA := awake_ok
  refine Fn2 Try.func3 rfl Try.ntmps3 rfl ?_
  (repeat' first | refine stp ?_ | intro v' hv' | intro (b : Nat) | (apply w_convU; rfl; rfl; omega; omega) | (apply w_convI; rfl; rfl; omega; omega) | (apply w_quoU; rfl; rfl; rfl; omega; omega; omega) | (apply w_remU; rfl; rfl; rfl; omega; omega) | (apply w_minL; rfl; rfl; rfl; omega) | (apply w_minG; rfl; rfl; rfl; omega) | (apply w_min; rfl; rfl; rfl) | (apply w_mfR; rfl; rfl) | (apply w_cvp; rfl; rfl; exact inferInstance; rfl; rfl; assumption) | (apply w_eqS2T; rfl; rfl; rfl; omega) | (apply w_eqS2F; rfl; rfl; rfl; omega) | (apply w_neS2T; rfl; rfl; rfl; omega) | (apply w_neS2F; rfl; rfl; rfl; omega) | (apply w_eqS3T; rfl; rfl; rfl; omega) | (apply w_eqS3F; rfl; rfl; rfl; omega) | (apply w_neS3T; rfl; rfl; rfl; omega) | (apply w_neS3F; rfl; rfl; rfl; omega) | (apply w_eqS3; rfl; rfl; rfl) | (apply w_neS3; rfl; rfl; rfl) | (apply w_eqS2; rfl; rfl; rfl) | (apply w_neS2; rfl; rfl; rfl) | (apply w_maxL; rfl; rfl; rfl; omega) | (apply w_maxG; rfl; rfl; rfl; omega) | (apply w_max; rfl; rfl; rfl) | (apply w_neB; rfl; rfl; rfl; rfl) | (apply w_eqB; rfl; rfl; rfl; rfl) | (apply w_cd; rfl; rfl; exact hA _; ((exact kmf))) | (apply w_cd; rfl; rfl; apply Called.at2 (h := hK); ((focus ((repeat (first | (apply Rep2.here; ((focus ((repeat (first | exact Rep.here | apply Rep.there)); done)))) | (apply Rep2.other; ((focus ((repeat (first | exact Rep.here | apply Rep.there)); done)))) | apply Rep2.there)); done))); ((exact kmf))) | refine spl ?_ ?_ | intro hc)
  obtain ⟨b5, hb5⟩ : ∃ r, r = b := ⟨_, rfl⟩
  subst hb5
  apply w_cl; rfl; rfl; exact begun_ok v ops _ h.there h80
  exact ⟨_, _, 0, rfl, rfl⟩
  rintro _ _ ⟨ba', rfl, rfl⟩
  refine ⟨by (exact kmf), ?_⟩
  (repeat' first | refine stp ?_ | intro v' hv' | intro (b : Nat) | (apply w_convU; rfl; rfl; omega; omega) | (apply w_convI; rfl; rfl; omega; omega) | (apply w_quoU; rfl; rfl; rfl; omega; omega; omega) | (apply w_remU; rfl; rfl; rfl; omega; omega) | (apply w_minL; rfl; rfl; rfl; omega) | (apply w_minG; rfl; rfl; rfl; omega) | (apply w_min; rfl; rfl; rfl) | (apply w_mfR; rfl; rfl) | (apply w_cvp; rfl; rfl; exact inferInstance; rfl; rfl; assumption) | (apply w_eqS2T; rfl; rfl; rfl; omega) | (apply w_eqS2F; rfl; rfl; rfl; omega) | (apply w_neS2T; rfl; rfl; rfl; omega) | (apply w_neS2F; rfl; rfl; rfl; omega) | (apply w_eqS3T; rfl; rfl; rfl; omega) | (apply w_eqS3F; rfl; rfl; rfl; omega) | (apply w_neS3T; rfl; rfl; rfl; omega) | (apply w_neS3F; rfl; rfl; rfl; omega) | (apply w_eqS3; rfl; rfl; rfl) | (apply w_neS3; rfl; rfl; rfl) | (apply w_eqS2; rfl; rfl; rfl) | (apply w_neS2; rfl; rfl; rfl) | (apply w_maxL; rfl; rfl; rfl; omega) | (apply w_maxG; rfl; rfl; rfl; omega) | (apply w_max; rfl; rfl; rfl) | (apply w_neB; rfl; rfl; rfl; rfl) | (apply w_eqB; rfl; rfl; rfl; rfl) | (apply w_cd; rfl; rfl; exact hA _; ((exact kmf))) | (apply w_cd; rfl; rfl; apply Called.at2 (h := hK); ((focus ((repeat (first | (apply Rep2.here; ((focus ((repeat (first | exact Rep.here | apply Rep.there)); done)))) | (apply Rep2.other; ((focus ((repeat (first | exact Rep.here | apply Rep.there)); done)))) | apply Rep2.there)); done))); ((exact kmf))) | refine spl ?_ ?_ | intro hc)
  apply w_cl; rfl; rfl; exact begun_ok v ops _ h.there.there h80
  exact ⟨_, _, 0, rfl, rfl⟩
  rintro _ _ ⟨bb, rfl, rfl⟩
  refine ⟨by (exact kmf), ?_⟩
  have hlen := run_len ops
  generalize runM ops = M at *
  have hK := alike_ok ba' bb M hlen
  have hO := Leave_ok ba' M n
  by_cases he : (leaveM M n).1 = 0
  · rw [he] at hO
    (repeat' first | refine stp ?_ | intro v' hv' | intro (b : Nat) | (apply w_convU; rfl; rfl; omega; omega) | (apply w_convI; rfl; rfl; omega; omega) | (apply w_quoU; rfl; rfl; rfl; omega; omega; omega) | (apply w_remU; rfl; rfl; rfl; omega; omega) | (apply w_minL; rfl; rfl; rfl; omega) | (apply w_minG; rfl; rfl; rfl; omega) | (apply w_min; rfl; rfl; rfl) | (apply w_mfR; rfl; rfl) | (apply w_cvp; rfl; rfl; exact inferInstance; rfl; rfl; assumption) | (apply w_eqS2T; rfl; rfl; rfl; omega) | (apply w_eqS2F; rfl; rfl; rfl; omega) | (apply w_neS2T; rfl; rfl; rfl; omega) | (apply w_neS2F; rfl; rfl; rfl; omega) | (apply w_eqS3T; rfl; rfl; rfl; omega) | (apply w_eqS3F; rfl; rfl; rfl; omega) | (apply w_neS3T; rfl; rfl; rfl; omega) | (apply w_neS3F; rfl; rfl; rfl; omega) | (apply w_eqS3; rfl; rfl; rfl) | (apply w_neS3; rfl; rfl; rfl) | (apply w_eqS2; rfl; rfl; rfl) | (apply w_neS2; rfl; rfl; rfl) | (apply w_maxL; rfl; rfl; rfl; omega) | (apply w_maxG; rfl; rfl; rfl; omega) | (apply w_max; rfl; rfl; rfl) | (apply w_neB; rfl; rfl; rfl; rfl) | (apply w_eqB; rfl; rfl; rfl; rfl) | (apply w_cd; rfl; rfl; exact hA _; ((exact kmf))) | (apply w_cd; rfl; rfl; apply Called.at2 (h := hK); ((focus ((repeat (first | (apply Rep2.here; ((focus ((repeat (first | exact Rep.here | apply Rep.there)); done)))) | (apply Rep2.other; ((focus ((repeat (first | exact Rep.here | apply Rep.there)); done)))) | apply Rep2.there)); done))); ((exact kmf))) | refine spl ?_ ?_ | intro hc)
    all_goals (refine At_ret1 (by (first | exact .inl rfl | exact .inr rfl)) Try.results3 rfl ⟨by rfl, rfl⟩ (by (exact frm)))
  · have hM := leave_no he
    rw [hM] at hO
    clear hM
    generalize (leaveM M n).1 = e at *
    (repeat' first | refine stp ?_ | intro v' hv' | intro (b : Nat) | (apply w_convU; rfl; rfl; omega; omega) | (apply w_convI; rfl; rfl; omega; omega) | (apply w_quoU; rfl; rfl; rfl; omega; omega; omega) | (apply w_remU; rfl; rfl; rfl; omega; omega) | (apply w_minL; rfl; rfl; rfl; omega) | (apply w_minG; rfl; rfl; rfl; omega) | (apply w_min; rfl; rfl; rfl) | (apply w_mfR; rfl; rfl) | (apply w_cvp; rfl; rfl; exact inferInstance; rfl; rfl; assumption) | (apply w_eqS2T; rfl; rfl; rfl; omega) | (apply w_eqS2F; rfl; rfl; rfl; omega) | (apply w_neS2T; rfl; rfl; rfl; omega) | (apply w_neS2F; rfl; rfl; rfl; omega) | (apply w_eqS3T; rfl; rfl; rfl; omega) | (apply w_eqS3F; rfl; rfl; rfl; omega) | (apply w_neS3T; rfl; rfl; rfl; omega) | (apply w_neS3F; rfl; rfl; rfl; omega) | (apply w_eqS3; rfl; rfl; rfl) | (apply w_neS3; rfl; rfl; rfl) | (apply w_eqS2; rfl; rfl; rfl) | (apply w_neS2; rfl; rfl; rfl) | (apply w_maxL; rfl; rfl; rfl; omega) | (apply w_maxG; rfl; rfl; rfl; omega) | (apply w_max; rfl; rfl; rfl) | (apply w_neB; rfl; rfl; rfl; rfl) | (apply w_eqB; rfl; rfl; rfl; rfl) | (apply w_cd; rfl; rfl; exact hA _; ((exact kmf))) | (apply w_cd; rfl; rfl; apply Called.at2 (h := hK); ((focus ((repeat (first | (apply Rep2.here; ((focus ((repeat (first | exact Rep.here | apply Rep.there)); done)))) | (apply Rep2.other; ((focus ((repeat (first | exact Rep.here | apply Rep.there)); done)))) | apply Rep2.there)); done))); ((exact kmf))) | refine spl ?_ ?_ | intro hc)
    all_goals (refine At_ret1 (by (first | exact .inl rfl | exact .inr rfl)) Try.results3 rfl ⟨by rfl, rfl⟩ (by (exact frm)))
set_option maxHeartbeats 8000000 in
theorem keeps_5 (v : Value) (ops : List OpT) (ask m n t : Int) (h0 : ask ≠ 0) (h1 : ask ≠ 1) (h2 : ask ≠ 2) (h3 : ask ≠ 3) (h4 : ask ≠ 4) (R : List HP) (h : OpsIn R v ops) (h80 : ops.length ≤ 80) : Called Try.prog 3 [v, opV ⟨ask, m, n, t⟩] R (is (.bool true) R) := by
  unfold opV opE
  dsimp only
  have hA := awake_ok
  refine Fn2 Try.func3 rfl Try.ntmps3 rfl ?_
  (repeat' first | refine stp ?_ | intro v' hv' | intro (b : Nat) | (apply w_convU; rfl; rfl; omega; omega) | (apply w_convI; rfl; rfl; omega; omega) | (apply w_quoU; rfl; rfl; rfl; omega; omega; omega) | (apply w_remU; rfl; rfl; rfl; omega; omega) | (apply w_minL; rfl; rfl; rfl; omega) | (apply w_minG; rfl; rfl; rfl; omega) | (apply w_min; rfl; rfl; rfl) | (apply w_mfR; rfl; rfl) | (apply w_cvp; rfl; rfl; exact inferInstance; rfl; rfl; assumption) | (apply w_eqS2T; rfl; rfl; rfl; omega) | (apply w_eqS2F; rfl; rfl; rfl; omega) | (apply w_neS2T; rfl; rfl; rfl; omega) | (apply w_neS2F; rfl; rfl; rfl; omega) | (apply w_eqS3T; rfl; rfl; rfl; omega) | (apply w_eqS3F; rfl; rfl; rfl; omega) | (apply w_neS3T; rfl; rfl; rfl; omega) | (apply w_neS3F; rfl; rfl; rfl; omega) | (apply w_eqS3; rfl; rfl; rfl) | (apply w_neS3; rfl; rfl; rfl) | (apply w_eqS2; rfl; rfl; rfl) | (apply w_neS2; rfl; rfl; rfl) | (apply w_maxL; rfl; rfl; rfl; omega) | (apply w_maxG; rfl; rfl; rfl; omega) | (apply w_max; rfl; rfl; rfl) | (apply w_neB; rfl; rfl; rfl; rfl) | (apply w_eqB; rfl; rfl; rfl; rfl) | (apply w_cd; rfl; rfl; exact hA _; ((exact kmf))) | (apply w_cd; rfl; rfl; apply Called.at2 (h := hK); ((focus ((repeat (first | (apply Rep2.here; ((focus ((repeat (first | exact Rep.here | apply Rep.there)); done)))) | (apply Rep2.other; ((focus ((repeat (first | exact Rep.here | apply Rep.there)); done)))) | apply Rep2.there)); done))); ((exact kmf))) | refine spl ?_ ?_ | intro hc)
  obtain ⟨b5, hb5⟩ : ∃ r, r = b := ⟨_, rfl⟩
  subst hb5
  apply w_cl; rfl; rfl; exact begun_ok v ops _ h.there h80
  exact ⟨_, _, 0, rfl, rfl⟩
  rintro _ _ ⟨ba', rfl, rfl⟩
  refine ⟨by (exact kmf), ?_⟩
  (repeat' first | refine stp ?_ | intro v' hv' | intro (b : Nat) | (apply w_convU; rfl; rfl; omega; omega) | (apply w_convI; rfl; rfl; omega; omega) | (apply w_quoU; rfl; rfl; rfl; omega; omega; omega) | (apply w_remU; rfl; rfl; rfl; omega; omega) | (apply w_minL; rfl; rfl; rfl; omega) | (apply w_minG; rfl; rfl; rfl; omega) | (apply w_min; rfl; rfl; rfl) | (apply w_mfR; rfl; rfl) | (apply w_cvp; rfl; rfl; exact inferInstance; rfl; rfl; assumption) | (apply w_eqS2T; rfl; rfl; rfl; omega) | (apply w_eqS2F; rfl; rfl; rfl; omega) | (apply w_neS2T; rfl; rfl; rfl; omega) | (apply w_neS2F; rfl; rfl; rfl; omega) | (apply w_eqS3T; rfl; rfl; rfl; omega) | (apply w_eqS3F; rfl; rfl; rfl; omega) | (apply w_neS3T; rfl; rfl; rfl; omega) | (apply w_neS3F; rfl; rfl; rfl; omega) | (apply w_eqS3; rfl; rfl; rfl) | (apply w_neS3; rfl; rfl; rfl) | (apply w_eqS2; rfl; rfl; rfl) | (apply w_neS2; rfl; rfl; rfl) | (apply w_maxL; rfl; rfl; rfl; omega) | (apply w_maxG; rfl; rfl; rfl; omega) | (apply w_max; rfl; rfl; rfl) | (apply w_neB; rfl; rfl; rfl; rfl) | (apply w_eqB; rfl; rfl; rfl; rfl) | (apply w_cd; rfl; rfl; exact hA _; ((exact kmf))) | (apply w_cd; rfl; rfl; apply Called.at2 (h := hK); ((focus ((repeat (first | (apply Rep2.here; ((focus ((repeat (first | exact Rep.here | apply Rep.there)); done)))) | (apply Rep2.other; ((focus ((repeat (first | exact Rep.here | apply Rep.there)); done)))) | apply Rep2.there)); done))); ((exact kmf))) | refine spl ?_ ?_ | intro hc)
  apply w_cl; rfl; rfl; exact begun_ok v ops _ h.there.there h80
  exact ⟨_, _, 0, rfl, rfl⟩
  rintro _ _ ⟨bb, rfl, rfl⟩
  refine ⟨by (exact kmf), ?_⟩
  have hlen := run_len ops
  generalize runM ops = M at *
  have hK := alike_ok ba' bb M hlen
  refine W_know (p := MtK M) (fun w hs => mtb_know hs) fun hK2 => ?_
  have hO := Quit_ok ba' M n
  have hb := quitM_b hK2 n
  obtain ⟨v0, hv0⟩ := IsSl.any (N := (quitM M n).1.1.length) (by omega)
  (repeat' first | refine stp ?_ | intro v' hv' | intro (b : Nat) | (apply w_convU; rfl; rfl; omega; omega) | (apply w_convI; rfl; rfl; omega; omega) | (apply w_quoU; rfl; rfl; rfl; omega; omega; omega) | (apply w_remU; rfl; rfl; rfl; omega; omega) | (apply w_minL; rfl; rfl; rfl; omega) | (apply w_minG; rfl; rfl; rfl; omega) | (apply w_min; rfl; rfl; rfl) | (apply w_mfR; rfl; rfl) | (apply w_cvp; rfl; rfl; exact inferInstance; rfl; rfl; assumption) | (apply w_eqS2T; rfl; rfl; rfl; omega) | (apply w_eqS2F; rfl; rfl; rfl; omega) | (apply w_neS2T; rfl; rfl; rfl; omega) | (apply w_neS2F; rfl; rfl; rfl; omega) | (apply w_eqS3T; rfl; rfl; rfl; omega) | (apply w_eqS3F; rfl; rfl; rfl; omega) | (apply w_neS3T; rfl; rfl; rfl; omega) | (apply w_neS3F; rfl; rfl; rfl; omega) | (apply w_eqS3; rfl; rfl; rfl) | (apply w_neS3; rfl; rfl; rfl) | (apply w_eqS2; rfl; rfl; rfl) | (apply w_neS2; rfl; rfl; rfl) | (apply w_maxL; rfl; rfl; rfl; omega) | (apply w_maxG; rfl; rfl; rfl; omega) | (apply w_max; rfl; rfl; rfl) | (apply w_neB; rfl; rfl; rfl; rfl) | (apply w_eqB; rfl; rfl; rfl; rfl) | (apply w_cd; rfl; rfl; exact hA _; ((exact kmf))) | (apply w_cd; rfl; rfl; apply Called.at2 (h := hK); ((focus ((repeat (first | (apply Rep2.here; ((focus ((repeat (first | exact Rep.here | apply Rep.there)); done)))) | (apply Rep2.other; ((focus ((repeat (first | exact Rep.here | apply Rep.there)); done)))) | apply Rep2.there)); done))); ((exact kmf))) | refine spl ?_ ?_ | intro hc)
  apply w_cl; rfl; rfl; exact Called.del1 (A := mtb ba' M) (by (focus ((repeat (first | exact Del.here | apply Del.there)); done))) (hO _)
  exact ⟨_, _, v0, rfl, hv0, rfl⟩
  rintro _ _ ⟨v1, rfl, hv1, rfl⟩
  refine ⟨by (exact kmf), ?_⟩
  by_cases he : (quitM M n).1.2 = 0
  · rw [he]
    (repeat' first | refine stp ?_ | intro v' hv' | intro (b : Nat) | (apply w_convU; rfl; rfl; omega; omega) | (apply w_convI; rfl; rfl; omega; omega) | (apply w_quoU; rfl; rfl; rfl; omega; omega; omega) | (apply w_remU; rfl; rfl; rfl; omega; omega) | (apply w_minL; rfl; rfl; rfl; omega) | (apply w_minG; rfl; rfl; rfl; omega) | (apply w_min; rfl; rfl; rfl) | (apply w_mfR; rfl; rfl) | (apply w_cvp; rfl; rfl; exact inferInstance; rfl; rfl; assumption) | (apply w_eqS2T; rfl; rfl; rfl; omega) | (apply w_eqS2F; rfl; rfl; rfl; omega) | (apply w_neS2T; rfl; rfl; rfl; omega) | (apply w_neS2F; rfl; rfl; rfl; omega) | (apply w_eqS3T; rfl; rfl; rfl; omega) | (apply w_eqS3F; rfl; rfl; rfl; omega) | (apply w_neS3T; rfl; rfl; rfl; omega) | (apply w_neS3F; rfl; rfl; rfl; omega) | (apply w_eqS3; rfl; rfl; rfl) | (apply w_neS3; rfl; rfl; rfl) | (apply w_eqS2; rfl; rfl; rfl) | (apply w_neS2; rfl; rfl; rfl) | (apply w_maxL; rfl; rfl; rfl; omega) | (apply w_maxG; rfl; rfl; rfl; omega) | (apply w_max; rfl; rfl; rfl) | (apply w_neB; rfl; rfl; rfl; rfl) | (apply w_eqB; rfl; rfl; rfl; rfl) | (apply w_cd; rfl; rfl; exact hA _; ((exact kmf))) | (apply w_cd; rfl; rfl; apply Called.at2 (h := hK); ((focus ((repeat (first | (apply Rep2.here; ((focus ((repeat (first | exact Rep.here | apply Rep.there)); done)))) | (apply Rep2.other; ((focus ((repeat (first | exact Rep.here | apply Rep.there)); done)))) | apply Rep2.there)); done))); ((exact kmf))) | refine spl ?_ ?_ | intro hc)
    all_goals (refine At_ret1 (by (first | exact .inl rfl | exact .inr rfl)) Try.results3 rfl ⟨by rfl, rfl⟩ (by (exact frm)))
  · have hM := quit_no he
    rw [hM]
    clear hM
    generalize (quitM M n).1.2 = e at *
    (repeat' first | refine stp ?_ | intro v' hv' | intro (b : Nat) | (apply w_convU; rfl; rfl; omega; omega) | (apply w_convI; rfl; rfl; omega; omega) | (apply w_quoU; rfl; rfl; rfl; omega; omega; omega) | (apply w_remU; rfl; rfl; rfl; omega; omega) | (apply w_minL; rfl; rfl; rfl; omega) | (apply w_minG; rfl; rfl; rfl; omega) | (apply w_min; rfl; rfl; rfl) | (apply w_mfR; rfl; rfl) | (apply w_cvp; rfl; rfl; exact inferInstance; rfl; rfl; assumption) | (apply w_eqS2T; rfl; rfl; rfl; omega) | (apply w_eqS2F; rfl; rfl; rfl; omega) | (apply w_neS2T; rfl; rfl; rfl; omega) | (apply w_neS2F; rfl; rfl; rfl; omega) | (apply w_eqS3T; rfl; rfl; rfl; omega) | (apply w_eqS3F; rfl; rfl; rfl; omega) | (apply w_neS3T; rfl; rfl; rfl; omega) | (apply w_neS3F; rfl; rfl; rfl; omega) | (apply w_eqS3; rfl; rfl; rfl) | (apply w_neS3; rfl; rfl; rfl) | (apply w_eqS2; rfl; rfl; rfl) | (apply w_neS2; rfl; rfl; rfl) | (apply w_maxL; rfl; rfl; rfl; omega) | (apply w_maxG; rfl; rfl; rfl; omega) | (apply w_max; rfl; rfl; rfl) | (apply w_neB; rfl; rfl; rfl; rfl) | (apply w_eqB; rfl; rfl; rfl; rfl) | (apply w_cd; rfl; rfl; exact hA _; ((exact kmf))) | (apply w_cd; rfl; rfl; apply Called.at2 (h := hK); ((focus ((repeat (first | (apply Rep2.here; ((focus ((repeat (first | exact Rep.here | apply Rep.there)); done)))) | (apply Rep2.other; ((focus ((repeat (first | exact Rep.here | apply Rep.there)); done)))) | apply Rep2.there)); done))); ((exact kmf))) | refine spl ?_ ?_ | intro hc)
    all_goals (refine At_ret1 (by (first | exact .inl rfl | exact .inr rfl)) Try.results3 rfl ⟨by rfl, rfl⟩ (by (exact frm)))
set_option maxHeartbeats 8000000 in
theorem keeps_1 (v : Value) (ops : List OpT) (m n t : Int) (R : List HP) (h : OpsIn R v ops) (h80 : ops.length ≤ 80) : Called Try.prog 3 [v, opV ⟨1, m, n, t⟩] R (is (.bool true) R) := by
  unfold opV opE
  dsimp only
  have hA := awake_ok
  refine Fn2 Try.func3 rfl Try.ntmps3 rfl ?_
  (repeat' first | refine stp ?_ | intro v' hv' | intro (b : Nat) | (apply w_convU; rfl; rfl; omega; omega) | (apply w_convI; rfl; rfl; omega; omega) | (apply w_quoU; rfl; rfl; rfl; omega; omega; omega) | (apply w_remU; rfl; rfl; rfl; omega; omega) | (apply w_minL; rfl; rfl; rfl; omega) | (apply w_minG; rfl; rfl; rfl; omega) | (apply w_min; rfl; rfl; rfl) | (apply w_mfR; rfl; rfl) | (apply w_cvp; rfl; rfl; exact inferInstance; rfl; rfl; assumption) | (apply w_eqS2T; rfl; rfl; rfl; omega) | (apply w_eqS2F; rfl; rfl; rfl; omega) | (apply w_neS2T; rfl; rfl; rfl; omega) | (apply w_neS2F; rfl; rfl; rfl; omega) | (apply w_eqS3T; rfl; rfl; rfl; omega) | (apply w_eqS3F; rfl; rfl; rfl; omega) | (apply w_neS3T; rfl; rfl; rfl; omega) | (apply w_neS3F; rfl; rfl; rfl; omega) | (apply w_eqS3; rfl; rfl; rfl) | (apply w_neS3; rfl; rfl; rfl) | (apply w_eqS2; rfl; rfl; rfl) | (apply w_neS2; rfl; rfl; rfl) | (apply w_maxL; rfl; rfl; rfl; omega) | (apply w_maxG; rfl; rfl; rfl; omega) | (apply w_max; rfl; rfl; rfl) | (apply w_neB; rfl; rfl; rfl; rfl) | (apply w_eqB; rfl; rfl; rfl; rfl) | (apply w_cd; rfl; rfl; exact hA _; ((exact kmf))) | (apply w_cd; rfl; rfl; apply Called.at2 (h := hK); ((focus ((repeat (first | (apply Rep2.here; ((focus ((repeat (first | exact Rep.here | apply Rep.there)); done)))) | (apply Rep2.other; ((focus ((repeat (first | exact Rep.here | apply Rep.there)); done)))) | apply Rep2.there)); done))); ((exact kmf))) | refine spl ?_ ?_ | intro hc)
  obtain ⟨b5, hb5⟩ : ∃ r, r = b := ⟨_, rfl⟩
  subst hb5
  apply w_cl; rfl; rfl; exact begun_ok v ops _ h.there h80
  exact ⟨_, _, 0, rfl, rfl⟩
  rintro _ _ ⟨ba', rfl, rfl⟩
  refine ⟨by (exact kmf), ?_⟩
  (repeat' first | refine stp ?_ | intro v' hv' | intro (b : Nat) | (apply w_convU; rfl; rfl; omega; omega) | (apply w_convI; rfl; rfl; omega; omega) | (apply w_quoU; rfl; rfl; rfl; omega; omega; omega) | (apply w_remU; rfl; rfl; rfl; omega; omega) | (apply w_minL; rfl; rfl; rfl; omega) | (apply w_minG; rfl; rfl; rfl; omega) | (apply w_min; rfl; rfl; rfl) | (apply w_mfR; rfl; rfl) | (apply w_cvp; rfl; rfl; exact inferInstance; rfl; rfl; assumption) | (apply w_eqS2T; rfl; rfl; rfl; omega) | (apply w_eqS2F; rfl; rfl; rfl; omega) | (apply w_neS2T; rfl; rfl; rfl; omega) | (apply w_neS2F; rfl; rfl; rfl; omega) | (apply w_eqS3T; rfl; rfl; rfl; omega) | (apply w_eqS3F; rfl; rfl; rfl; omega) | (apply w_neS3T; rfl; rfl; rfl; omega) | (apply w_neS3F; rfl; rfl; rfl; omega) | (apply w_eqS3; rfl; rfl; rfl) | (apply w_neS3; rfl; rfl; rfl) | (apply w_eqS2; rfl; rfl; rfl) | (apply w_neS2; rfl; rfl; rfl) | (apply w_maxL; rfl; rfl; rfl; omega) | (apply w_maxG; rfl; rfl; rfl; omega) | (apply w_max; rfl; rfl; rfl) | (apply w_neB; rfl; rfl; rfl; rfl) | (apply w_eqB; rfl; rfl; rfl; rfl) | (apply w_cd; rfl; rfl; exact hA _; ((exact kmf))) | (apply w_cd; rfl; rfl; apply Called.at2 (h := hK); ((focus ((repeat (first | (apply Rep2.here; ((focus ((repeat (first | exact Rep.here | apply Rep.there)); done)))) | (apply Rep2.other; ((focus ((repeat (first | exact Rep.here | apply Rep.there)); done)))) | apply Rep2.there)); done))); ((exact kmf))) | refine spl ?_ ?_ | intro hc)
  apply w_cl; rfl; rfl; exact begun_ok v ops _ h.there.there h80
  exact ⟨_, _, 0, rfl, rfl⟩
  rintro _ _ ⟨bb, rfl, rfl⟩
  refine ⟨by (exact kmf), ?_⟩
  have hlen := run_len ops
  generalize runM ops = M at *
  have hK := alike_ok ba' bb M hlen
  have hO := Try_ok ba' M m n
  have hW := Owner_ok bb M m
  have hL := Lock_ok bb M m n 0
  have hTL := try_lock (M := M) (m := m) (n := n)
  by_cases he : (tryM M m n).1 = 0
  · rw [he] at hO hTL
    generalize ownerM M m = ow at *
    obtain ⟨o, g⟩ := ow
    generalize lockM M m n 0 = lo at *
    obtain ⟨⟨l1, l2⟩, M2⟩ := lo
    dsimp only at *
    by_cases hg : g ≠ 0 ∨ o = n
    · have hx := hTL hg
      obtain ⟨rfl, rfl⟩ := Prod.mk.inj hx
      clear hTL hx
      rcases hg with hg | hg
      · (repeat' first | refine stp ?_ | intro v' hv' | intro (b : Nat) | (apply w_convU; rfl; rfl; omega; omega) | (apply w_convI; rfl; rfl; omega; omega) | (apply w_quoU; rfl; rfl; rfl; omega; omega; omega) | (apply w_remU; rfl; rfl; rfl; omega; omega) | (apply w_minL; rfl; rfl; rfl; omega) | (apply w_minG; rfl; rfl; rfl; omega) | (apply w_min; rfl; rfl; rfl) | (apply w_mfR; rfl; rfl) | (apply w_cvp; rfl; rfl; exact inferInstance; rfl; rfl; assumption) | (apply w_eqS2T; rfl; rfl; rfl; omega) | (apply w_eqS2F; rfl; rfl; rfl; omega) | (apply w_neS2T; rfl; rfl; rfl; omega) | (apply w_neS2F; rfl; rfl; rfl; omega) | (apply w_eqS3T; rfl; rfl; rfl; omega) | (apply w_eqS3F; rfl; rfl; rfl; omega) | (apply w_neS3T; rfl; rfl; rfl; omega) | (apply w_neS3F; rfl; rfl; rfl; omega) | (apply w_eqS3; rfl; rfl; rfl) | (apply w_neS3; rfl; rfl; rfl) | (apply w_eqS2; rfl; rfl; rfl) | (apply w_neS2; rfl; rfl; rfl) | (apply w_maxL; rfl; rfl; rfl; omega) | (apply w_maxG; rfl; rfl; rfl; omega) | (apply w_max; rfl; rfl; rfl) | (apply w_neB; rfl; rfl; rfl; rfl) | (apply w_eqB; rfl; rfl; rfl; rfl) | (apply w_cd; rfl; rfl; exact hA _; ((exact kmf))) | (apply w_cd; rfl; rfl; apply Called.at2 (h := hK); ((focus ((repeat (first | (apply Rep2.here; ((focus ((repeat (first | exact Rep.here | apply Rep.there)); done)))) | (apply Rep2.other; ((focus ((repeat (first | exact Rep.here | apply Rep.there)); done)))) | apply Rep2.there)); done))); ((exact kmf))) | refine spl ?_ ?_ | intro hc)
        all_goals (refine At_ret1 (by (first | exact .inl rfl | exact .inr rfl)) Try.results3 rfl ⟨by rfl, rfl⟩ (by (exact frm)))
      · by_cases hg2 : g ≠ 0
        · (repeat' first | refine stp ?_ | intro v' hv' | intro (b : Nat) | (apply w_convU; rfl; rfl; omega; omega) | (apply w_convI; rfl; rfl; omega; omega) | (apply w_quoU; rfl; rfl; rfl; omega; omega; omega) | (apply w_remU; rfl; rfl; rfl; omega; omega) | (apply w_minL; rfl; rfl; rfl; omega) | (apply w_minG; rfl; rfl; rfl; omega) | (apply w_min; rfl; rfl; rfl) | (apply w_mfR; rfl; rfl) | (apply w_cvp; rfl; rfl; exact inferInstance; rfl; rfl; assumption) | (apply w_eqS2T; rfl; rfl; rfl; omega) | (apply w_eqS2F; rfl; rfl; rfl; omega) | (apply w_neS2T; rfl; rfl; rfl; omega) | (apply w_neS2F; rfl; rfl; rfl; omega) | (apply w_eqS3T; rfl; rfl; rfl; omega) | (apply w_eqS3F; rfl; rfl; rfl; omega) | (apply w_neS3T; rfl; rfl; rfl; omega) | (apply w_neS3F; rfl; rfl; rfl; omega) | (apply w_eqS3; rfl; rfl; rfl) | (apply w_neS3; rfl; rfl; rfl) | (apply w_eqS2; rfl; rfl; rfl) | (apply w_neS2; rfl; rfl; rfl) | (apply w_maxL; rfl; rfl; rfl; omega) | (apply w_maxG; rfl; rfl; rfl; omega) | (apply w_max; rfl; rfl; rfl) | (apply w_neB; rfl; rfl; rfl; rfl) | (apply w_eqB; rfl; rfl; rfl; rfl) | (apply w_cd; rfl; rfl; exact hA _; ((exact kmf))) | (apply w_cd; rfl; rfl; apply Called.at2 (h := hK); ((focus ((repeat (first | (apply Rep2.here; ((focus ((repeat (first | exact Rep.here | apply Rep.there)); done)))) | (apply Rep2.other; ((focus ((repeat (first | exact Rep.here | apply Rep.there)); done)))) | apply Rep2.there)); done))); ((exact kmf))) | refine spl ?_ ?_ | intro hc)
          all_goals (refine At_ret1 (by (first | exact .inl rfl | exact .inr rfl)) Try.results3 rfl ⟨by rfl, rfl⟩ (by (exact frm)))
        · (repeat' first | refine stp ?_ | intro v' hv' | intro (b : Nat) | (apply w_convU; rfl; rfl; omega; omega) | (apply w_convI; rfl; rfl; omega; omega) | (apply w_quoU; rfl; rfl; rfl; omega; omega; omega) | (apply w_remU; rfl; rfl; rfl; omega; omega) | (apply w_minL; rfl; rfl; rfl; omega) | (apply w_minG; rfl; rfl; rfl; omega) | (apply w_min; rfl; rfl; rfl) | (apply w_mfR; rfl; rfl) | (apply w_cvp; rfl; rfl; exact inferInstance; rfl; rfl; assumption) | (apply w_eqS2T; rfl; rfl; rfl; omega) | (apply w_eqS2F; rfl; rfl; rfl; omega) | (apply w_neS2T; rfl; rfl; rfl; omega) | (apply w_neS2F; rfl; rfl; rfl; omega) | (apply w_eqS3T; rfl; rfl; rfl; omega) | (apply w_eqS3F; rfl; rfl; rfl; omega) | (apply w_neS3T; rfl; rfl; rfl; omega) | (apply w_neS3F; rfl; rfl; rfl; omega) | (apply w_eqS3; rfl; rfl; rfl) | (apply w_neS3; rfl; rfl; rfl) | (apply w_eqS2; rfl; rfl; rfl) | (apply w_neS2; rfl; rfl; rfl) | (apply w_maxL; rfl; rfl; rfl; omega) | (apply w_maxG; rfl; rfl; rfl; omega) | (apply w_max; rfl; rfl; rfl) | (apply w_neB; rfl; rfl; rfl; rfl) | (apply w_eqB; rfl; rfl; rfl; rfl) | (apply w_cd; rfl; rfl; exact hA _; ((exact kmf))) | (apply w_cd; rfl; rfl; apply Called.at2 (h := hK); ((focus ((repeat (first | (apply Rep2.here; ((focus ((repeat (first | exact Rep.here | apply Rep.there)); done)))) | (apply Rep2.other; ((focus ((repeat (first | exact Rep.here | apply Rep.there)); done)))) | apply Rep2.there)); done))); ((exact kmf))) | refine spl ?_ ?_ | intro hc)
          all_goals (refine At_ret1 (by (first | exact .inl rfl | exact .inr rfl)) Try.results3 rfl ⟨by rfl, rfl⟩ (by (exact frm)))
    · clear hTL
      (repeat' first | refine stp ?_ | intro v' hv' | intro (b : Nat) | (apply w_convU; rfl; rfl; omega; omega) | (apply w_convI; rfl; rfl; omega; omega) | (apply w_quoU; rfl; rfl; rfl; omega; omega; omega) | (apply w_remU; rfl; rfl; rfl; omega; omega) | (apply w_minL; rfl; rfl; rfl; omega) | (apply w_minG; rfl; rfl; rfl; omega) | (apply w_min; rfl; rfl; rfl) | (apply w_mfR; rfl; rfl) | (apply w_cvp; rfl; rfl; exact inferInstance; rfl; rfl; assumption) | (apply w_eqS2T; rfl; rfl; rfl; omega) | (apply w_eqS2F; rfl; rfl; rfl; omega) | (apply w_neS2T; rfl; rfl; rfl; omega) | (apply w_neS2F; rfl; rfl; rfl; omega) | (apply w_eqS3T; rfl; rfl; rfl; omega) | (apply w_eqS3F; rfl; rfl; rfl; omega) | (apply w_neS3T; rfl; rfl; rfl; omega) | (apply w_neS3F; rfl; rfl; rfl; omega) | (apply w_eqS3; rfl; rfl; rfl) | (apply w_neS3; rfl; rfl; rfl) | (apply w_eqS2; rfl; rfl; rfl) | (apply w_neS2; rfl; rfl; rfl) | (apply w_maxL; rfl; rfl; rfl; omega) | (apply w_maxG; rfl; rfl; rfl; omega) | (apply w_max; rfl; rfl; rfl) | (apply w_neB; rfl; rfl; rfl; rfl) | (apply w_eqB; rfl; rfl; rfl; rfl) | (apply w_cd; rfl; rfl; exact hA _; ((exact kmf))) | (apply w_cd; rfl; rfl; apply Called.at2 (h := hK); ((focus ((repeat (first | (apply Rep2.here; ((focus ((repeat (first | exact Rep.here | apply Rep.there)); done)))) | (apply Rep2.other; ((focus ((repeat (first | exact Rep.here | apply Rep.there)); done)))) | apply Rep2.there)); done))); ((exact kmf))) | refine spl ?_ ?_ | intro hc)
      all_goals (refine At_ret1 (by (first | exact .inl rfl | exact .inr rfl)) Try.results3 rfl ⟨by rfl, rfl⟩ (by (exact frm)))
  · have hM := try_no he
    rw [hM] at hO
    clear hM
    rw [decide_eq_false he] at hTL
    have hLN := lock_no (M := M) (m := m) (n := n) (t := 0)
    generalize (tryM M m n).1 = e at *
    generalize ownerM M m = ow at *
    obtain ⟨o, g⟩ := ow
    generalize lockM M m n 0 = lo at *
    obtain ⟨⟨l1, l2⟩, M2⟩ := lo
    dsimp only at *
    by_cases hg : g ≠ 0 ∨ o = n
    · have hx := hTL hg
      obtain ⟨rfl, rfl⟩ := Prod.mk.inj hx
      have hM2 := hLN he
      subst hM2
      clear hTL hx hLN
      rcases hg with hg | hg
      · (repeat' first | refine stp ?_ | intro v' hv' | intro (b : Nat) | (apply w_convU; rfl; rfl; omega; omega) | (apply w_convI; rfl; rfl; omega; omega) | (apply w_quoU; rfl; rfl; rfl; omega; omega; omega) | (apply w_remU; rfl; rfl; rfl; omega; omega) | (apply w_minL; rfl; rfl; rfl; omega) | (apply w_minG; rfl; rfl; rfl; omega) | (apply w_min; rfl; rfl; rfl) | (apply w_mfR; rfl; rfl) | (apply w_cvp; rfl; rfl; exact inferInstance; rfl; rfl; assumption) | (apply w_eqS2T; rfl; rfl; rfl; omega) | (apply w_eqS2F; rfl; rfl; rfl; omega) | (apply w_neS2T; rfl; rfl; rfl; omega) | (apply w_neS2F; rfl; rfl; rfl; omega) | (apply w_eqS3T; rfl; rfl; rfl; omega) | (apply w_eqS3F; rfl; rfl; rfl; omega) | (apply w_neS3T; rfl; rfl; rfl; omega) | (apply w_neS3F; rfl; rfl; rfl; omega) | (apply w_eqS3; rfl; rfl; rfl) | (apply w_neS3; rfl; rfl; rfl) | (apply w_eqS2; rfl; rfl; rfl) | (apply w_neS2; rfl; rfl; rfl) | (apply w_maxL; rfl; rfl; rfl; omega) | (apply w_maxG; rfl; rfl; rfl; omega) | (apply w_max; rfl; rfl; rfl) | (apply w_neB; rfl; rfl; rfl; rfl) | (apply w_eqB; rfl; rfl; rfl; rfl) | (apply w_cd; rfl; rfl; exact hA _; ((exact kmf))) | (apply w_cd; rfl; rfl; apply Called.at2 (h := hK); ((focus ((repeat (first | (apply Rep2.here; ((focus ((repeat (first | exact Rep.here | apply Rep.there)); done)))) | (apply Rep2.other; ((focus ((repeat (first | exact Rep.here | apply Rep.there)); done)))) | apply Rep2.there)); done))); ((exact kmf))) | refine spl ?_ ?_ | intro hc)
        all_goals (refine At_ret1 (by (first | exact .inl rfl | exact .inr rfl)) Try.results3 rfl ⟨by rfl, rfl⟩ (by (exact frm)))
      · by_cases hg2 : g ≠ 0
        · (repeat' first | refine stp ?_ | intro v' hv' | intro (b : Nat) | (apply w_convU; rfl; rfl; omega; omega) | (apply w_convI; rfl; rfl; omega; omega) | (apply w_quoU; rfl; rfl; rfl; omega; omega; omega) | (apply w_remU; rfl; rfl; rfl; omega; omega) | (apply w_minL; rfl; rfl; rfl; omega) | (apply w_minG; rfl; rfl; rfl; omega) | (apply w_min; rfl; rfl; rfl) | (apply w_mfR; rfl; rfl) | (apply w_cvp; rfl; rfl; exact inferInstance; rfl; rfl; assumption) | (apply w_eqS2T; rfl; rfl; rfl; omega) | (apply w_eqS2F; rfl; rfl; rfl; omega) | (apply w_neS2T; rfl; rfl; rfl; omega) | (apply w_neS2F; rfl; rfl; rfl; omega) | (apply w_eqS3T; rfl; rfl; rfl; omega) | (apply w_eqS3F; rfl; rfl; rfl; omega) | (apply w_neS3T; rfl; rfl; rfl; omega) | (apply w_neS3F; rfl; rfl; rfl; omega) | (apply w_eqS3; rfl; rfl; rfl) | (apply w_neS3; rfl; rfl; rfl) | (apply w_eqS2; rfl; rfl; rfl) | (apply w_neS2; rfl; rfl; rfl) | (apply w_maxL; rfl; rfl; rfl; omega) | (apply w_maxG; rfl; rfl; rfl; omega) | (apply w_max; rfl; rfl; rfl) | (apply w_neB; rfl; rfl; rfl; rfl) | (apply w_eqB; rfl; rfl; rfl; rfl) | (apply w_cd; rfl; rfl; exact hA _; ((exact kmf))) | (apply w_cd; rfl; rfl; apply Called.at2 (h := hK); ((focus ((repeat (first | (apply Rep2.here; ((focus ((repeat (first | exact Rep.here | apply Rep.there)); done)))) | (apply Rep2.other; ((focus ((repeat (first | exact Rep.here | apply Rep.there)); done)))) | apply Rep2.there)); done))); ((exact kmf))) | refine spl ?_ ?_ | intro hc)
          all_goals (refine At_ret1 (by (first | exact .inl rfl | exact .inr rfl)) Try.results3 rfl ⟨by rfl, rfl⟩ (by (exact frm)))
        · (repeat' first | refine stp ?_ | intro v' hv' | intro (b : Nat) | (apply w_convU; rfl; rfl; omega; omega) | (apply w_convI; rfl; rfl; omega; omega) | (apply w_quoU; rfl; rfl; rfl; omega; omega; omega) | (apply w_remU; rfl; rfl; rfl; omega; omega) | (apply w_minL; rfl; rfl; rfl; omega) | (apply w_minG; rfl; rfl; rfl; omega) | (apply w_min; rfl; rfl; rfl) | (apply w_mfR; rfl; rfl) | (apply w_cvp; rfl; rfl; exact inferInstance; rfl; rfl; assumption) | (apply w_eqS2T; rfl; rfl; rfl; omega) | (apply w_eqS2F; rfl; rfl; rfl; omega) | (apply w_neS2T; rfl; rfl; rfl; omega) | (apply w_neS2F; rfl; rfl; rfl; omega) | (apply w_eqS3T; rfl; rfl; rfl; omega) | (apply w_eqS3F; rfl; rfl; rfl; omega) | (apply w_neS3T; rfl; rfl; rfl; omega) | (apply w_neS3F; rfl; rfl; rfl; omega) | (apply w_eqS3; rfl; rfl; rfl) | (apply w_neS3; rfl; rfl; rfl) | (apply w_eqS2; rfl; rfl; rfl) | (apply w_neS2; rfl; rfl; rfl) | (apply w_maxL; rfl; rfl; rfl; omega) | (apply w_maxG; rfl; rfl; rfl; omega) | (apply w_max; rfl; rfl; rfl) | (apply w_neB; rfl; rfl; rfl; rfl) | (apply w_eqB; rfl; rfl; rfl; rfl) | (apply w_cd; rfl; rfl; exact hA _; ((exact kmf))) | (apply w_cd; rfl; rfl; apply Called.at2 (h := hK); ((focus ((repeat (first | (apply Rep2.here; ((focus ((repeat (first | exact Rep.here | apply Rep.there)); done)))) | (apply Rep2.other; ((focus ((repeat (first | exact Rep.here | apply Rep.there)); done)))) | apply Rep2.there)); done))); ((exact kmf))) | refine spl ?_ ?_ | intro hc)
          all_goals (refine At_ret1 (by (first | exact .inl rfl | exact .inr rfl)) Try.results3 rfl ⟨by rfl, rfl⟩ (by (exact frm)))
    · clear hTL hLN
      (repeat' first | refine stp ?_ | intro v' hv' | intro (b : Nat) | (apply w_convU; rfl; rfl; omega; omega) | (apply w_convI; rfl; rfl; omega; omega) | (apply w_quoU; rfl; rfl; rfl; omega; omega; omega) | (apply w_remU; rfl; rfl; rfl; omega; omega) | (apply w_minL; rfl; rfl; rfl; omega) | (apply w_minG; rfl; rfl; rfl; omega) | (apply w_min; rfl; rfl; rfl) | (apply w_mfR; rfl; rfl) | (apply w_cvp; rfl; rfl; exact inferInstance; rfl; rfl; assumption) | (apply w_eqS2T; rfl; rfl; rfl; omega) | (apply w_eqS2F; rfl; rfl; rfl; omega) | (apply w_neS2T; rfl; rfl; rfl; omega) | (apply w_neS2F; rfl; rfl; rfl; omega) | (apply w_eqS3T; rfl; rfl; rfl; omega) | (apply w_eqS3F; rfl; rfl; rfl; omega) | (apply w_neS3T; rfl; rfl; rfl; omega) | (apply w_neS3F; rfl; rfl; rfl; omega) | (apply w_eqS3; rfl; rfl; rfl) | (apply w_neS3; rfl; rfl; rfl) | (apply w_eqS2; rfl; rfl; rfl) | (apply w_neS2; rfl; rfl; rfl) | (apply w_maxL; rfl; rfl; rfl; omega) | (apply w_maxG; rfl; rfl; rfl; omega) | (apply w_max; rfl; rfl; rfl) | (apply w_neB; rfl; rfl; rfl; rfl) | (apply w_eqB; rfl; rfl; rfl; rfl) | (apply w_cd; rfl; rfl; exact hA _; ((exact kmf))) | (apply w_cd; rfl; rfl; apply Called.at2 (h := hK); ((focus ((repeat (first | (apply Rep2.here; ((focus ((repeat (first | exact Rep.here | apply Rep.there)); done)))) | (apply Rep2.other; ((focus ((repeat (first | exact Rep.here | apply Rep.there)); done)))) | apply Rep2.there)); done))); ((exact kmf))) | refine spl ?_ ?_ | intro hc)
      all_goals (refine At_ret1 (by (first | exact .inl rfl | exact .inr rfl)) Try.results3 rfl ⟨by rfl, rfl⟩ (by (exact frm)))
theorem keeps_ok (v : Value) (ops : List OpT) (o : OpT) (R : List HP) (h : OpsIn R v ops) : Called Try.prog 3 [v, opV o] R (is (.bool true) R) := by
  by_cases h80 : ops.length ≤ 80
  · obtain ⟨ask, m, n, t⟩ := o
    by_cases h0 : ask = 0
    · subst h0; exact keeps_0 v ops m n t R h h80
    by_cases h1 : ask = 1
    · subst h1; exact keeps_1 v ops m n t R h h80
    by_cases h2 : ask = 2
    · subst h2; exact keeps_2 v ops m n t R h h80
    by_cases h3 : ask = 3
    · subst h3; exact keeps_3 v ops m n t R h h80
    by_cases h4 : ask = 4
    · subst h4; exact keeps_4 v ops m n t R h h80
    exact keeps_5 v ops ask m n t h0 h1 h2 h3 h4 R h h80
  · exact keeps_no v ops o R h (by omega)
end Go.Proofs.Ytoaaoijdknbanaa
