/- MutexHands. Conditions: none. -/
import Derived.Test.YtoaaoijdknbanaaMutAD
set_option linter.all false
set_option linter.deprecated false
namespace Go.Proofs.Ytoaaoijdknbanaa
open Go.Sep
variable [B0 : Base]
theorem lkA_set {M : List Lk} {m j : Nat} (hm : m < M.length) (k : Lk) : lkA (M.set m k) j = if m = j then k else lkA M j := by
  unfold lkA
  rw [List.getD_eq_getElem?_getD, List.getD_eq_getElem?_getD, List.getElem?_set]
  by_cases e : m = j
  · subst e; simp [hm]
  · simp [e]
theorem unlock_at {M : List Lk} {m : Nat} {n : Int} (hm : m < M.length) (hn : 0 ≤ n ∧ n < 64) : unlockM M m n = if (lkA M m).own ≠ n then ((0, 19), M) else (((handM (lkA M m) false).own, 0), M.set m (handM (lkA M m) false)) := by
  have : mayI M.length m n 0 = 0 := mayI_0.2 ⟨by omega, by omega, by omega, by omega, by decide, by decide⟩
  unfold unlockM
  rw [if_neg (by simp [this])]; rfl
theorem waits_no {M : List Lk} {n : Int} (hl : 1 ≤ M.length) (hn : 0 ≤ n ∧ n < 64) (h : waitAt M n = none) : waitsM M n = (0, 14) := by
  have : mayI M.length 0 n 0 = 0 := mayI_0.2 ⟨by omega, by omega, by omega, by omega, by decide, by decide⟩
  unfold waitsM
  rw [if_neg (by simp [this]), h]
/-- The first one that waited waits no more. -/
theorem hand_none {M : List Lk} (h : WfM M) {m : Nat} (hm : m < M.length) {x : Ky} {q : List Ky} (hq : (lkA M m).q = x :: q) {o : Int} {f : Bool} : waitAt (M.set m ⟨o, f, q⟩) x.id = none := by
  have hnd := h.nd (lk_some hm)
  rw [hq] at hnd
  refine waitAt_none.2 fun k hk y hy e => ?_
  obtain ⟨i, hi⟩ := List.getElem?_of_mem hk
  rw [List.getElem?_set] at hi
  by_cases e2 : m = i
  · subst e2
    rw [if_pos rfl, if_pos hm] at hi
    cases hi
    have h1 := (List.nodup_append.1 hnd).1
    rw [List.map_cons, List.nodup_cons] at h1
    exact h1.1 (List.mem_map.2 ⟨y, hy, e⟩)
  · rw [if_neg e2] at hi
    have h2 := (List.nodup_append.1 hnd).2.2 x.id (by simp) x.id (List.mem_map.2 ⟨y, List.mem_flatMap.2 ⟨k, List.mem_eraseIdx_iff_getElem?.2 ⟨i, fun h => e2 h.symm, hi⟩, hy⟩, e⟩)
    exact h2 rfl
set_option maxHeartbeats 8000000 in
theorem hands_no (v : Value) (ops : List OpT) (m : Int) (R : List HP) (h : OpsIn R v ops) (hm : 80 < ops.length ∨ m < 0 ∨ 3 < m) : Called Try.prog 5 [v, int m] R (is (.bool true) R) := by
  have hA := awake_ok
  have hB := begins_ok
  by_cases h80 : ops.length ≤ 80
  · refine Fn2 Try.func5 rfl Try.ntmps5 rfl ?_
    (repeat' first | refine stp ?_ | intro v' hv' | intro (b : Nat) | (apply w_convU; rfl; rfl; omega; omega) | (apply w_convI; rfl; rfl; omega; omega) | (apply w_quoU; rfl; rfl; rfl; omega; omega; omega) | (apply w_remU; rfl; rfl; rfl; omega; omega) | (apply w_minL; rfl; rfl; rfl; omega) | (apply w_minG; rfl; rfl; rfl; omega) | (apply w_min; rfl; rfl; rfl) | (apply w_mfR; rfl; rfl) | (apply w_cvp; rfl; rfl; exact inferInstance; rfl; rfl; assumption) | (apply w_eqS2T; rfl; rfl; rfl; omega) | (apply w_eqS2F; rfl; rfl; rfl; omega) | (apply w_neS2T; rfl; rfl; rfl; omega) | (apply w_neS2F; rfl; rfl; rfl; omega) | (apply w_eqS3T; rfl; rfl; rfl; omega) | (apply w_eqS3F; rfl; rfl; rfl; omega) | (apply w_neS3T; rfl; rfl; rfl; omega) | (apply w_neS3F; rfl; rfl; rfl; omega) | (apply w_eqS3; rfl; rfl; rfl) | (apply w_neS3; rfl; rfl; rfl) | (apply w_eqS2; rfl; rfl; rfl) | (apply w_neS2; rfl; rfl; rfl) | (apply w_maxL; rfl; rfl; rfl; omega) | (apply w_maxG; rfl; rfl; rfl; omega) | (apply w_max; rfl; rfl; rfl) | (apply w_neB; rfl; rfl; rfl; rfl) | (apply w_eqB; rfl; rfl; rfl; rfl) | refine spl ?_ ?_ | intro hc)
    apply w_cl; rfl; rfl; exact begun_ok v ops _ h h80
    exact ⟨_, _, 0, rfl, rfl⟩
    rintro _ _ ⟨bt, rfl, rfl⟩
    refine ⟨by (exact kmf), ?_⟩
    rcases hm with hm | hm | hm
    · omega
    · (repeat' first | refine stp ?_ | intro v' hv' | intro (b : Nat) | (apply w_convU; rfl; rfl; omega; omega) | (apply w_convI; rfl; rfl; omega; omega) | (apply w_quoU; rfl; rfl; rfl; omega; omega; omega) | (apply w_remU; rfl; rfl; rfl; omega; omega) | (apply w_minL; rfl; rfl; rfl; omega) | (apply w_minG; rfl; rfl; rfl; omega) | (apply w_min; rfl; rfl; rfl) | (apply w_mfR; rfl; rfl) | (apply w_cvp; rfl; rfl; exact inferInstance; rfl; rfl; assumption) | (apply w_eqS2T; rfl; rfl; rfl; omega) | (apply w_eqS2F; rfl; rfl; rfl; omega) | (apply w_neS2T; rfl; rfl; rfl; omega) | (apply w_neS2F; rfl; rfl; rfl; omega) | (apply w_eqS3T; rfl; rfl; rfl; omega) | (apply w_eqS3F; rfl; rfl; rfl; omega) | (apply w_neS3T; rfl; rfl; rfl; omega) | (apply w_neS3F; rfl; rfl; rfl; omega) | (apply w_eqS3; rfl; rfl; rfl) | (apply w_neS3; rfl; rfl; rfl) | (apply w_eqS2; rfl; rfl; rfl) | (apply w_neS2; rfl; rfl; rfl) | (apply w_maxL; rfl; rfl; rfl; omega) | (apply w_maxG; rfl; rfl; rfl; omega) | (apply w_max; rfl; rfl; rfl) | (apply w_neB; rfl; rfl; rfl; rfl) | (apply w_eqB; rfl; rfl; rfl; rfl) | refine spl ?_ ?_ | intro hc)
      all_goals (refine At_ret1 (by (first | exact .inl rfl | exact .inr rfl)) Try.results5 rfl ⟨by rfl, rfl⟩ (by (exact frm)))
    · (repeat' first | refine stp ?_ | intro v' hv' | intro (b : Nat) | (apply w_convU; rfl; rfl; omega; omega) | (apply w_convI; rfl; rfl; omega; omega) | (apply w_quoU; rfl; rfl; rfl; omega; omega; omega) | (apply w_remU; rfl; rfl; rfl; omega; omega) | (apply w_minL; rfl; rfl; rfl; omega) | (apply w_minG; rfl; rfl; rfl; omega) | (apply w_min; rfl; rfl; rfl) | (apply w_mfR; rfl; rfl) | (apply w_cvp; rfl; rfl; exact inferInstance; rfl; rfl; assumption) | (apply w_eqS2T; rfl; rfl; rfl; omega) | (apply w_eqS2F; rfl; rfl; rfl; omega) | (apply w_neS2T; rfl; rfl; rfl; omega) | (apply w_neS2F; rfl; rfl; rfl; omega) | (apply w_eqS3T; rfl; rfl; rfl; omega) | (apply w_eqS3F; rfl; rfl; rfl; omega) | (apply w_neS3T; rfl; rfl; rfl; omega) | (apply w_neS3F; rfl; rfl; rfl; omega) | (apply w_eqS3; rfl; rfl; rfl) | (apply w_neS3; rfl; rfl; rfl) | (apply w_eqS2; rfl; rfl; rfl) | (apply w_neS2; rfl; rfl; rfl) | (apply w_maxL; rfl; rfl; rfl; omega) | (apply w_maxG; rfl; rfl; rfl; omega) | (apply w_max; rfl; rfl; rfl) | (apply w_neB; rfl; rfl; rfl; rfl) | (apply w_eqB; rfl; rfl; rfl; rfl) | refine spl ?_ ?_ | intro hc)
      all_goals (refine At_ret1 (by (first | exact .inl rfl | exact .inr rfl)) Try.results5 rfl ⟨by rfl, rfl⟩ (by (exact frm)))
  · refine Fn2 Try.func5 rfl Try.ntmps5 rfl ?_
    (repeat' first | refine stp ?_ | intro v' hv' | intro (b : Nat) | (apply w_convU; rfl; rfl; omega; omega) | (apply w_convI; rfl; rfl; omega; omega) | (apply w_quoU; rfl; rfl; rfl; omega; omega; omega) | (apply w_remU; rfl; rfl; rfl; omega; omega) | (apply w_minL; rfl; rfl; rfl; omega) | (apply w_minG; rfl; rfl; rfl; omega) | (apply w_min; rfl; rfl; rfl) | (apply w_mfR; rfl; rfl) | (apply w_cvp; rfl; rfl; exact inferInstance; rfl; rfl; assumption) | (apply w_eqS2T; rfl; rfl; rfl; omega) | (apply w_eqS2F; rfl; rfl; rfl; omega) | (apply w_neS2T; rfl; rfl; rfl; omega) | (apply w_neS2F; rfl; rfl; rfl; omega) | (apply w_eqS3T; rfl; rfl; rfl; omega) | (apply w_eqS3F; rfl; rfl; rfl; omega) | (apply w_neS3T; rfl; rfl; rfl; omega) | (apply w_neS3F; rfl; rfl; rfl; omega) | (apply w_eqS3; rfl; rfl; rfl) | (apply w_neS3; rfl; rfl; rfl) | (apply w_eqS2; rfl; rfl; rfl) | (apply w_neS2; rfl; rfl; rfl) | (apply w_maxL; rfl; rfl; rfl; omega) | (apply w_maxG; rfl; rfl; rfl; omega) | (apply w_max; rfl; rfl; rfl) | (apply w_neB; rfl; rfl; rfl; rfl) | (apply w_eqB; rfl; rfl; rfl; rfl) | refine spl ?_ ?_ | intro hc)
    apply w_cd; rfl; rfl; exact begun_no v ops _ h (by omega); ((exact kmf))
    (repeat' first | refine stp ?_ | intro v' hv' | intro (b : Nat) | (apply w_convU; rfl; rfl; omega; omega) | (apply w_convI; rfl; rfl; omega; omega) | (apply w_quoU; rfl; rfl; rfl; omega; omega; omega) | (apply w_remU; rfl; rfl; rfl; omega; omega) | (apply w_minL; rfl; rfl; rfl; omega) | (apply w_minG; rfl; rfl; rfl; omega) | (apply w_min; rfl; rfl; rfl) | (apply w_mfR; rfl; rfl) | (apply w_cvp; rfl; rfl; exact inferInstance; rfl; rfl; assumption) | (apply w_eqS2T; rfl; rfl; rfl; omega) | (apply w_eqS2F; rfl; rfl; rfl; omega) | (apply w_neS2T; rfl; rfl; rfl; omega) | (apply w_neS2F; rfl; rfl; rfl; omega) | (apply w_eqS3T; rfl; rfl; rfl; omega) | (apply w_eqS3F; rfl; rfl; rfl; omega) | (apply w_neS3T; rfl; rfl; rfl; omega) | (apply w_neS3F; rfl; rfl; rfl; omega) | (apply w_eqS3; rfl; rfl; rfl) | (apply w_neS3; rfl; rfl; rfl) | (apply w_eqS2; rfl; rfl; rfl) | (apply w_neS2; rfl; rfl; rfl) | (apply w_maxL; rfl; rfl; rfl; omega) | (apply w_maxG; rfl; rfl; rfl; omega) | (apply w_max; rfl; rfl; rfl) | (apply w_neB; rfl; rfl; rfl; rfl) | (apply w_eqB; rfl; rfl; rfl; rfl) | refine spl ?_ ?_ | intro hc)
    all_goals (refine At_ret1 (by (first | exact .inl rfl | exact .inr rfl)) Try.results5 rfl ⟨by rfl, rfl⟩ (by (exact frm)))
set_option maxHeartbeats 8000000 in
theorem hands_ok (v : Value) (ops : List OpT) (m : Nat) (hm4 : m < 4) (R : List HP) (h : OpsIn R v ops) (h80 : ops.length ≤ 80) : Called Try.prog 5 [v, int (m : Int)] R (is (.bool true) R) := by
  have hA := awake_ok
  refine Fn2 Try.func5 rfl Try.ntmps5 rfl ?_
  (repeat' first | refine stp ?_ | intro v' hv' | intro (b : Nat) | (apply w_convU; rfl; rfl; omega; omega) | (apply w_convI; rfl; rfl; omega; omega) | (apply w_quoU; rfl; rfl; rfl; omega; omega; omega) | (apply w_remU; rfl; rfl; rfl; omega; omega) | (apply w_minL; rfl; rfl; rfl; omega) | (apply w_minG; rfl; rfl; rfl; omega) | (apply w_min; rfl; rfl; rfl) | (apply w_mfR; rfl; rfl) | (apply w_cvp; rfl; rfl; exact inferInstance; rfl; rfl; assumption) | (apply w_eqS2T; rfl; rfl; rfl; omega) | (apply w_eqS2F; rfl; rfl; rfl; omega) | (apply w_neS2T; rfl; rfl; rfl; omega) | (apply w_neS2F; rfl; rfl; rfl; omega) | (apply w_eqS3T; rfl; rfl; rfl; omega) | (apply w_eqS3F; rfl; rfl; rfl; omega) | (apply w_neS3T; rfl; rfl; rfl; omega) | (apply w_neS3F; rfl; rfl; rfl; omega) | (apply w_eqS3; rfl; rfl; rfl) | (apply w_neS3; rfl; rfl; rfl) | (apply w_eqS2; rfl; rfl; rfl) | (apply w_neS2; rfl; rfl; rfl) | (apply w_maxL; rfl; rfl; rfl; omega) | (apply w_maxG; rfl; rfl; rfl; omega) | (apply w_max; rfl; rfl; rfl) | (apply w_neB; rfl; rfl; rfl; rfl) | (apply w_eqB; rfl; rfl; rfl; rfl) | refine spl ?_ ?_ | intro hc)
  apply w_cl; rfl; rfl; exact begun_ok v ops _ h h80
  exact ⟨_, _, 0, rfl, rfl⟩
  rintro _ _ ⟨bt, rfl, rfl⟩
  refine ⟨by (exact kmf), ?_⟩
  have hlen := run_len ops
  have hI := run_inv ops
  generalize runM ops = M at *
  have hwf := hI.wf
  have hmM : m < M.length := by omega
  have hL := hI.lk hmM
  have hwo := hwf.own _ (List.mem_of_getElem? (lk_some hmM))
  have hky := hwf.keys _ (List.mem_of_getElem? (lk_some hmM))
  have hO := Owner_ok bt M m
  have ow := owner_at hmM
  have wq := waiters_at hmM
  have hq64 := hwf.q64 (List.mem_of_getElem? (lk_some hmM))
  have a0 : (0 : Int) ≤ m := by omega
  have a1 : (m : Int) < M.length := by omega
  obtain ⟨v0, hv0⟩ := IsSl.any (N := (waitersM M m).length) (by rw [wq]; omega)
  by_cases hown : (lkA M m).own = -1
  · have hq : (lkA M m).q = [] := by
      cases hq : (lkA M m).q with
      | nil => rfl
      | cons x q => exact absurd hown (hL.own (by rw [hq]; simp))
    rw [if_pos hown] at ow
    rw [ow] at hO
    have hU := Unlock_ok bt M m 9
    rw [unlock_at hmM ⟨by decide, by decide⟩, if_pos (by rw [hown]; decide)] at hU
    (repeat' first | refine stp ?_ | intro v' hv' | intro (b : Nat) | (apply w_convU; rfl; rfl; omega; omega) | (apply w_convI; rfl; rfl; omega; omega) | (apply w_quoU; rfl; rfl; rfl; omega; omega; omega) | (apply w_remU; rfl; rfl; rfl; omega; omega) | (apply w_minL; rfl; rfl; rfl; omega) | (apply w_minG; rfl; rfl; rfl; omega) | (apply w_min; rfl; rfl; rfl) | (apply w_mfR; rfl; rfl) | (apply w_cvp; rfl; rfl; exact inferInstance; rfl; rfl; assumption) | (apply w_eqS2T; rfl; rfl; rfl; omega) | (apply w_eqS2F; rfl; rfl; rfl; omega) | (apply w_neS2T; rfl; rfl; rfl; omega) | (apply w_neS2F; rfl; rfl; rfl; omega) | (apply w_eqS3T; rfl; rfl; rfl; omega) | (apply w_eqS3F; rfl; rfl; rfl; omega) | (apply w_neS3T; rfl; rfl; rfl; omega) | (apply w_neS3F; rfl; rfl; rfl; omega) | (apply w_eqS3; rfl; rfl; rfl) | (apply w_neS3; rfl; rfl; rfl) | (apply w_eqS2; rfl; rfl; rfl) | (apply w_neS2; rfl; rfl; rfl) | (apply w_maxL; rfl; rfl; rfl; omega) | (apply w_maxG; rfl; rfl; rfl; omega) | (apply w_max; rfl; rfl; rfl) | (apply w_neB; rfl; rfl; rfl; rfl) | (apply w_eqB; rfl; rfl; rfl; rfl) | refine spl ?_ ?_ | intro hc)
    apply w_cl
    rfl
    rfl
    exact Called.del1 (A := mtb bt M) (by (focus ((repeat (first | exact Del.here | apply Del.there)); done))) (keys_ok bt M m a0 a1 _)
    exact ⟨_, _, v0, rfl, hv0, rfl⟩
    rintro _ _ ⟨v1, rfl, hv1, rfl⟩
    refine ⟨by (exact kmf), ?_⟩
    rw [wq, hq] at hv1 ⊢
    have hv1' : IsSl v1 0 := hv1
    (repeat' first | refine stp ?_ | intro v' hv' | intro (b : Nat) | (apply w_convU; rfl; rfl; omega; omega) | (apply w_convI; rfl; rfl; omega; omega) | (apply w_quoU; rfl; rfl; rfl; omega; omega; omega) | (apply w_remU; rfl; rfl; rfl; omega; omega) | (apply w_minL; rfl; rfl; rfl; omega) | (apply w_minG; rfl; rfl; rfl; omega) | (apply w_min; rfl; rfl; rfl) | (apply w_mfR; rfl; rfl) | (apply w_cvp; rfl; rfl; exact inferInstance; rfl; rfl; assumption) | (apply w_eqS2T; rfl; rfl; rfl; omega) | (apply w_eqS2F; rfl; rfl; rfl; omega) | (apply w_neS2T; rfl; rfl; rfl; omega) | (apply w_neS2F; rfl; rfl; rfl; omega) | (apply w_eqS3T; rfl; rfl; rfl; omega) | (apply w_eqS3F; rfl; rfl; rfl; omega) | (apply w_neS3T; rfl; rfl; rfl; omega) | (apply w_neS3F; rfl; rfl; rfl; omega) | (apply w_eqS3; rfl; rfl; rfl) | (apply w_neS3; rfl; rfl; rfl) | (apply w_eqS2; rfl; rfl; rfl) | (apply w_neS2; rfl; rfl; rfl) | (apply w_maxL; rfl; rfl; rfl; omega) | (apply w_maxG; rfl; rfl; rfl; omega) | (apply w_max; rfl; rfl; rfl) | (apply w_neB; rfl; rfl; rfl; rfl) | (apply w_eqB; rfl; rfl; rfl; rfl) | refine spl ?_ ?_ | intro hc)
    all_goals (refine At_ret1 (by (first | exact .inl rfl | exact .inr rfl)) Try.results5 rfl ⟨by rfl, rfl⟩ (by (exact frm)))
  · rw [if_neg hown] at ow
    rw [ow] at hO
    have hU := Unlock_ok bt M m (lkA M m).own
    rw [unlock_at hmM ⟨by omega, by omega⟩, if_neg (by simp)] at hU
    have hwf2 := hwf.hand hmM false
    generalize hM2 : M.set m (handM (lkA M m) false) = M2 at *
    have hlen2 : M2.length = 4 := by rw [← hM2, List.length_set]; exact hlen
    have hmM2 : m < M2.length := by omega
    have hlk2 : lkA M2 m = handM (lkA M m) false := by rw [← hM2, lkA_set hmM, if_pos rfl]
    have hO2 := Owner_ok bt M2 m
    have ow2 := owner_at hmM2
    have wq2 := waiters_at hmM2
    have hF2 := Flag_ok bt M2 m
    rw [flag_at hmM2] at hF2
    have a2 : (m : Int) < M2.length := by omega
    rw [hlk2] at ow2 wq2 hF2
    unfold handM at *
    cases hq : (lkA M m).q with
    | nil =>
      rw [hq] at ow2 wq2 hF2 hU
      dsimp only at ow2 wq2 hF2 hU
      rw [if_pos rfl] at ow2
      rw [ow2] at hO2
      dsimp only at hO2
      have hO2w := And.intro trivial hO2
      clear hO2
      (repeat' first | refine stp ?_ | intro v' hv' | intro (b : Nat) | (apply w_convU; rfl; rfl; omega; omega) | (apply w_convI; rfl; rfl; omega; omega) | (apply w_quoU; rfl; rfl; rfl; omega; omega; omega) | (apply w_remU; rfl; rfl; rfl; omega; omega) | (apply w_minL; rfl; rfl; rfl; omega) | (apply w_minG; rfl; rfl; rfl; omega) | (apply w_min; rfl; rfl; rfl) | (apply w_mfR; rfl; rfl) | (apply w_cvp; rfl; rfl; exact inferInstance; rfl; rfl; assumption) | (apply w_eqS2T; rfl; rfl; rfl; omega) | (apply w_eqS2F; rfl; rfl; rfl; omega) | (apply w_neS2T; rfl; rfl; rfl; omega) | (apply w_neS2F; rfl; rfl; rfl; omega) | (apply w_eqS3T; rfl; rfl; rfl; omega) | (apply w_eqS3F; rfl; rfl; rfl; omega) | (apply w_neS3T; rfl; rfl; rfl; omega) | (apply w_neS3F; rfl; rfl; rfl; omega) | (apply w_eqS3; rfl; rfl; rfl) | (apply w_neS3; rfl; rfl; rfl) | (apply w_eqS2; rfl; rfl; rfl) | (apply w_neS2; rfl; rfl; rfl) | (apply w_maxL; rfl; rfl; rfl; omega) | (apply w_maxG; rfl; rfl; rfl; omega) | (apply w_max; rfl; rfl; rfl) | (apply w_neB; rfl; rfl; rfl; rfl) | (apply w_eqB; rfl; rfl; rfl; rfl) | refine spl ?_ ?_ | intro hc)
      apply w_cl
      rfl
      rfl
      exact Called.del1 (A := mtb bt M) (by (focus ((repeat (first | exact Del.here | apply Del.there)); done))) (keys_ok bt M m a0 a1 _)
      exact ⟨_, _, v0, rfl, hv0, rfl⟩
      rintro _ _ ⟨v1, rfl, hv1, rfl⟩
      refine ⟨by (exact kmf), ?_⟩
      rw [wq, hq] at hv1 ⊢
      have hv1' : IsSl v1 0 := hv1
      (repeat' first | refine stp ?_ | intro v' hv' | intro (b : Nat) | (apply w_convU; rfl; rfl; omega; omega) | (apply w_convI; rfl; rfl; omega; omega) | (apply w_quoU; rfl; rfl; rfl; omega; omega; omega) | (apply w_remU; rfl; rfl; rfl; omega; omega) | (apply w_minL; rfl; rfl; rfl; omega) | (apply w_minG; rfl; rfl; rfl; omega) | (apply w_min; rfl; rfl; rfl) | (apply w_mfR; rfl; rfl) | (apply w_cvp; rfl; rfl; exact inferInstance; rfl; rfl; assumption) | (apply w_eqS2T; rfl; rfl; rfl; omega) | (apply w_eqS2F; rfl; rfl; rfl; omega) | (apply w_neS2T; rfl; rfl; rfl; omega) | (apply w_neS2F; rfl; rfl; rfl; omega) | (apply w_eqS3T; rfl; rfl; rfl; omega) | (apply w_eqS3F; rfl; rfl; rfl; omega) | (apply w_neS3T; rfl; rfl; rfl; omega) | (apply w_neS3F; rfl; rfl; rfl; omega) | (apply w_eqS3; rfl; rfl; rfl) | (apply w_neS3; rfl; rfl; rfl) | (apply w_eqS2; rfl; rfl; rfl) | (apply w_neS2; rfl; rfl; rfl) | (apply w_maxL; rfl; rfl; rfl; omega) | (apply w_maxG; rfl; rfl; rfl; omega) | (apply w_max; rfl; rfl; rfl) | (apply w_neB; rfl; rfl; rfl; rfl) | (apply w_eqB; rfl; rfl; rfl; rfl) | refine spl ?_ ?_ | intro hc)
      obtain ⟨v0, hv0⟩ := IsSl.any (N := (waitersM M2 m).length) (by rw [wq2]; exact Nat.zero_le _)
      apply w_cl
      rfl
      rfl
      exact Called.del1 (A := mtb bt M2) (by (focus ((repeat (first | exact Del.here | apply Del.there)); done))) (keys_ok bt M2 m a0 a2 _)
      exact ⟨_, _, v0, rfl, hv0, rfl⟩
      rintro _ _ ⟨v2, rfl, hv2, rfl⟩
      refine ⟨by (exact kmf), ?_⟩
      rw [wq2] at hv2 ⊢
      have hO2 := hO2w.2
      clear hO
      have hv2' : IsSl v2 0 := hv2
      (repeat' first | refine stp ?_ | intro v' hv' | intro (b : Nat) | (apply w_convU; rfl; rfl; omega; omega) | (apply w_convI; rfl; rfl; omega; omega) | (apply w_quoU; rfl; rfl; rfl; omega; omega; omega) | (apply w_remU; rfl; rfl; rfl; omega; omega) | (apply w_minL; rfl; rfl; rfl; omega) | (apply w_minG; rfl; rfl; rfl; omega) | (apply w_min; rfl; rfl; rfl) | (apply w_mfR; rfl; rfl) | (apply w_cvp; rfl; rfl; exact inferInstance; rfl; rfl; assumption) | (apply w_eqS2T; rfl; rfl; rfl; omega) | (apply w_eqS2F; rfl; rfl; rfl; omega) | (apply w_neS2T; rfl; rfl; rfl; omega) | (apply w_neS2F; rfl; rfl; rfl; omega) | (apply w_eqS3T; rfl; rfl; rfl; omega) | (apply w_eqS3F; rfl; rfl; rfl; omega) | (apply w_neS3T; rfl; rfl; rfl; omega) | (apply w_neS3F; rfl; rfl; rfl; omega) | (apply w_eqS3; rfl; rfl; rfl) | (apply w_neS3; rfl; rfl; rfl) | (apply w_eqS2; rfl; rfl; rfl) | (apply w_neS2; rfl; rfl; rfl) | (apply w_maxL; rfl; rfl; rfl; omega) | (apply w_maxG; rfl; rfl; rfl; omega) | (apply w_max; rfl; rfl; rfl) | (apply w_neB; rfl; rfl; rfl; rfl) | (apply w_eqB; rfl; rfl; rfl; rfl) | refine spl ?_ ?_ | intro hc)
      all_goals (refine At_ret1 (by (first | exact .inl rfl | exact .inr rfl)) Try.results5 rfl ⟨by rfl, rfl⟩ (by (exact frm)))
    | cons x q =>
      rw [hq] at ow2 wq2 hF2 hU
      dsimp only at ow2 wq2 hF2 hU
      have hxb := hky x (by rw [hq]; exact List.mem_cons_self)
      rw [if_neg (by omega)] at ow2
      rw [ow2] at hO2
      have hW := Waits_ok bt M2 x.id
      have hno : waitAt M2 x.id = none := by
        have h3 := hand_none (o := x.id) (f := false) hwf hmM hq
        rw [hq] at hM2
        rw [← hM2]; exact h3
      rw [waits_no (by omega) ⟨hxb.1, hxb.2.1⟩ hno] at hW
      have hsr := hL.srt
      rw [hq] at hsr hq64
      have hsr := (List.pairwise_cons.1 hsr).1
      rw [List.length_cons] at hq64
      dsimp only at hO2 hW
      have hO2w := And.intro trivial hO2
      clear hO2
      (repeat' first | refine stp ?_ | intro v' hv' | intro (b : Nat) | (apply w_convU; rfl; rfl; omega; omega) | (apply w_convI; rfl; rfl; omega; omega) | (apply w_quoU; rfl; rfl; rfl; omega; omega; omega) | (apply w_remU; rfl; rfl; rfl; omega; omega) | (apply w_minL; rfl; rfl; rfl; omega) | (apply w_minG; rfl; rfl; rfl; omega) | (apply w_min; rfl; rfl; rfl) | (apply w_mfR; rfl; rfl) | (apply w_cvp; rfl; rfl; exact inferInstance; rfl; rfl; assumption) | (apply w_eqS2T; rfl; rfl; rfl; omega) | (apply w_eqS2F; rfl; rfl; rfl; omega) | (apply w_neS2T; rfl; rfl; rfl; omega) | (apply w_neS2F; rfl; rfl; rfl; omega) | (apply w_eqS3T; rfl; rfl; rfl; omega) | (apply w_eqS3F; rfl; rfl; rfl; omega) | (apply w_neS3T; rfl; rfl; rfl; omega) | (apply w_neS3F; rfl; rfl; rfl; omega) | (apply w_eqS3; rfl; rfl; rfl) | (apply w_neS3; rfl; rfl; rfl) | (apply w_eqS2; rfl; rfl; rfl) | (apply w_neS2; rfl; rfl; rfl) | (apply w_maxL; rfl; rfl; rfl; omega) | (apply w_maxG; rfl; rfl; rfl; omega) | (apply w_max; rfl; rfl; rfl) | (apply w_neB; rfl; rfl; rfl; rfl) | (apply w_eqB; rfl; rfl; rfl; rfl) | refine spl ?_ ?_ | intro hc)
      apply w_cl
      rfl
      rfl
      exact Called.del1 (A := mtb bt M) (by (focus ((repeat (first | exact Del.here | apply Del.there)); done))) (keys_ok bt M m a0 a1 _)
      exact ⟨_, _, v0, rfl, hv0, rfl⟩
      rintro _ _ ⟨v1, rfl, hv1, rfl⟩
      refine ⟨by (exact kmf), ?_⟩
      rw [wq, hq] at hv1 ⊢
      rw [List.length_cons] at hv1
      have hp0 : ((x :: q).map kyE)[0]? = some [int x.at', int x.id] := rfl
      (repeat' first | refine stp ?_ | intro v' hv' | intro (b : Nat) | (apply w_convU; rfl; rfl; omega; omega) | (apply w_convI; rfl; rfl; omega; omega) | (apply w_quoU; rfl; rfl; rfl; omega; omega; omega) | (apply w_remU; rfl; rfl; rfl; omega; omega) | (apply w_minL; rfl; rfl; rfl; omega) | (apply w_minG; rfl; rfl; rfl; omega) | (apply w_min; rfl; rfl; rfl) | (apply w_mfR; rfl; rfl) | (apply w_cvp; rfl; rfl; exact inferInstance; rfl; rfl; assumption) | (apply w_eqS2T; rfl; rfl; rfl; omega) | (apply w_eqS2F; rfl; rfl; rfl; omega) | (apply w_neS2T; rfl; rfl; rfl; omega) | (apply w_neS2F; rfl; rfl; rfl; omega) | (apply w_eqS3T; rfl; rfl; rfl; omega) | (apply w_eqS3F; rfl; rfl; rfl; omega) | (apply w_neS3T; rfl; rfl; rfl; omega) | (apply w_neS3F; rfl; rfl; rfl; omega) | (apply w_eqS3; rfl; rfl; rfl) | (apply w_neS3; rfl; rfl; rfl) | (apply w_eqS2; rfl; rfl; rfl) | (apply w_neS2; rfl; rfl; rfl) | (apply w_maxL; rfl; rfl; rfl; omega) | (apply w_maxG; rfl; rfl; rfl; omega) | (apply w_max; rfl; rfl; rfl) | (apply w_neB; rfl; rfl; rfl; rfl) | (apply w_eqB; rfl; rfl; rfl; rfl) | refine spl ?_ ?_ | intro hc)
      obtain ⟨v0, hv0⟩ := IsSl.any (N := (waitersM M2 m).length) (by rw [wq2]; omega)
      apply w_cl
      rfl
      rfl
      exact Called.del1 (A := mtb bt M2) (by (focus ((repeat (first | exact Del.here | apply Del.there)); done))) (keys_ok bt M2 m a0 a2 _)
      exact ⟨_, _, v0, rfl, hv0, rfl⟩
      rintro _ _ ⟨v2, rfl, hv2, rfl⟩
      refine ⟨by (exact kmf), ?_⟩
      rw [wq2] at hv2 ⊢
      have hO2 := hO2w.2
      clear hO
      (repeat' first | refine stp ?_ | intro v' hv' | intro (b : Nat) | (apply w_convU; rfl; rfl; omega; omega) | (apply w_convI; rfl; rfl; omega; omega) | (apply w_quoU; rfl; rfl; rfl; omega; omega; omega) | (apply w_remU; rfl; rfl; rfl; omega; omega) | (apply w_minL; rfl; rfl; rfl; omega) | (apply w_minG; rfl; rfl; rfl; omega) | (apply w_min; rfl; rfl; rfl) | (apply w_mfR; rfl; rfl) | (apply w_cvp; rfl; rfl; exact inferInstance; rfl; rfl; assumption) | (apply w_eqS2T; rfl; rfl; rfl; omega) | (apply w_eqS2F; rfl; rfl; rfl; omega) | (apply w_neS2T; rfl; rfl; rfl; omega) | (apply w_neS2F; rfl; rfl; rfl; omega) | (apply w_eqS3T; rfl; rfl; rfl; omega) | (apply w_eqS3F; rfl; rfl; rfl; omega) | (apply w_neS3T; rfl; rfl; rfl; omega) | (apply w_neS3F; rfl; rfl; rfl; omega) | (apply w_eqS3; rfl; rfl; rfl) | (apply w_neS3; rfl; rfl; rfl) | (apply w_eqS2; rfl; rfl; rfl) | (apply w_neS2; rfl; rfl; rfl) | (apply w_maxL; rfl; rfl; rfl; omega) | (apply w_maxG; rfl; rfl; rfl; omega) | (apply w_max; rfl; rfl; rfl) | (apply w_neB; rfl; rfl; rfl; rfl) | (apply w_eqB; rfl; rfl; rfl; rfl) | refine spl ?_ ?_ | intro hc)
      refine C_loopK (α := Nat) [4, 24, 167, 168, 169, 170, 171, 172, 173, 174, 175, 176, 177, 178, 179, 180, 181, 182, 183, 184, 185, 186, 187, 188, 189, 190, 191, 192] (fun x => q.length - x) (fun x => [(24, int x)]) (fun _ => sl 46 2 v2 (q.map kyE) :: sl 46 2 v1 ((x :: q).map kyE) :: mtb bt M2 :: R) (fun x => x ≤ q.length) 0 (Nat.zero_le _) (by (focus ((repeat (first | exact Keep.nil | apply Keep.drop rfl | apply Keep.keep rfl)); done))) (by (exact sbf)) (fun w hs => Sel.sat (by (focus ((repeat (first | exact Sel.refl | (apply Sel.cons; (focus ((repeat (first | exact Del.here | apply Del.there)); done))) | refine Sel.drop ?_)); done))) hs) ?_
      rintro i hi
      dsimp only [List.cons_append, List.nil_append] at *
      by_cases hli : i < q.length
      · have hx : q[i]? = some q[i] := by simp [hli]
        have hxm := List.mem_of_getElem? hx
        have hpe : (q.map kyE)[i]? = some [int q[i].at', int q[i].id] := by rw [List.getElem?_map, hx]; rfl
        have hpe2 : ((x :: q).map kyE)[((i : Int) + 1).toNat]? = some [int q[i].at', int q[i].id] := by rw [show ((i : Int) + 1).toNat = i + 1 by omega, List.map_cons, List.getElem?_cons_succ]; exact hpe
        have hpe3 : ((x :: q).map kyE)[i + 1]? = some [int q[i].at', int q[i].id] := by rw [List.map_cons, List.getElem?_cons_succ]; exact hpe
        have hBe : ∀ R, Called Try.prog 20 [.agg #[int q[i].at', int q[i].id], .agg #[int x.at', int x.id]] R (is (.bool false) R) := fun R => by
          have := Before_ok q[i] x R
          rw [kyB_asymm (hsr _ hxm)] at this
          exact this
        generalize q[i] = y at *
        (repeat' first | refine stp ?_ | intro v' hv' | intro (b : Nat) | (apply w_convU; rfl; rfl; omega; omega) | (apply w_convI; rfl; rfl; omega; omega) | (apply w_quoU; rfl; rfl; rfl; omega; omega; omega) | (apply w_remU; rfl; rfl; rfl; omega; omega) | (apply w_minL; rfl; rfl; rfl; omega) | (apply w_minG; rfl; rfl; rfl; omega) | (apply w_min; rfl; rfl; rfl) | (apply w_mfR; rfl; rfl) | (apply w_cvp; rfl; rfl; exact inferInstance; rfl; rfl; assumption) | (apply w_eqS2T; rfl; rfl; rfl; omega) | (apply w_eqS2F; rfl; rfl; rfl; omega) | (apply w_neS2T; rfl; rfl; rfl; omega) | (apply w_neS2F; rfl; rfl; rfl; omega) | (apply w_eqS3T; rfl; rfl; rfl; omega) | (apply w_eqS3F; rfl; rfl; rfl; omega) | (apply w_neS3T; rfl; rfl; rfl; omega) | (apply w_neS3F; rfl; rfl; rfl; omega) | (apply w_eqS3; rfl; rfl; rfl) | (apply w_neS3; rfl; rfl; rfl) | (apply w_eqS2; rfl; rfl; rfl) | (apply w_neS2; rfl; rfl; rfl) | (apply w_maxL; rfl; rfl; rfl; omega) | (apply w_maxG; rfl; rfl; rfl; omega) | (apply w_max; rfl; rfl; rfl) | (apply w_neB; rfl; rfl; rfl; rfl) | (apply w_eqB; rfl; rfl; rfl; rfl) | refine spl ?_ ?_ | intro hc)
        exact At_againK (i + 1) hli (by omega) (by (exact sbf)) (by (exact sbf)) (by (exact frm))
      · obtain rfl : i = q.length := by omega
        (repeat' first | refine stp ?_ | intro v' hv' | intro (b : Nat) | (apply w_convU; rfl; rfl; omega; omega) | (apply w_convI; rfl; rfl; omega; omega) | (apply w_quoU; rfl; rfl; rfl; omega; omega; omega) | (apply w_remU; rfl; rfl; rfl; omega; omega) | (apply w_minL; rfl; rfl; rfl; omega) | (apply w_minG; rfl; rfl; rfl; omega) | (apply w_min; rfl; rfl; rfl) | (apply w_mfR; rfl; rfl) | (apply w_cvp; rfl; rfl; exact inferInstance; rfl; rfl; assumption) | (apply w_eqS2T; rfl; rfl; rfl; omega) | (apply w_eqS2F; rfl; rfl; rfl; omega) | (apply w_neS2T; rfl; rfl; rfl; omega) | (apply w_neS2F; rfl; rfl; rfl; omega) | (apply w_eqS3T; rfl; rfl; rfl; omega) | (apply w_eqS3F; rfl; rfl; rfl; omega) | (apply w_neS3T; rfl; rfl; rfl; omega) | (apply w_neS3F; rfl; rfl; rfl; omega) | (apply w_eqS3; rfl; rfl; rfl) | (apply w_neS3; rfl; rfl; rfl) | (apply w_eqS2; rfl; rfl; rfl) | (apply w_neS2; rfl; rfl; rfl) | (apply w_maxL; rfl; rfl; rfl; omega) | (apply w_maxG; rfl; rfl; rfl; omega) | (apply w_max; rfl; rfl; rfl) | (apply w_neB; rfl; rfl; rfl; rfl) | (apply w_eqB; rfl; rfl; rfl; rfl) | refine spl ?_ ?_ | intro hc)
        all_goals (refine At_ret1 (by (first | exact .inl rfl | exact .inr rfl)) Try.results5 rfl ⟨by rfl, rfl⟩ (by (exact frm)))
theorem hands_all (v : Value) (ops : List OpT) (m : Int) (R : List HP) (h : OpsIn R v ops) : Called Try.prog 5 [v, int m] R (is (.bool true) R) := by
  by_cases h1 : 80 < ops.length ∨ m < 0 ∨ 3 < m
  · exact hands_no v ops m R h h1
  · obtain ⟨k, rfl⟩ := Int.eq_ofNat_of_zero_le (show 0 ≤ m by omega)
    exact hands_ok v ops k (by omega) R h (by omega)
end Go.Proofs.Ytoaaoijdknbanaa
