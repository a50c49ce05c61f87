/- SpreadPlays: the document's answer: On, Idle; both hold the same. Conditions: none. -/
import Derived.Test.YtoddjdghjpdomaaSpR
set_option linter.all false
set_option linter.deprecated false
namespace Go.Proofs.Ytoddjdghjpdomaa
open Go.Sep
variable [B0 : Base]
attribute [local irreducible] rcells
set_option maxHeartbeats 4000000 in
theorem rOn_ok (bx N : Nat) (L : List Sv) (h64 : L.length = 64) (w : Int) (R : List HP) : Called Try.prog 33 [ptr bx, int w] (rsb bx N L :: R) (is (int (onR L w)) (rsb bx N L :: R)) := by
  unfold rsb
  refine Fn2 Try.func33 rfl Try.ntmps33 rfl ?_
  (repeat' first | refine stp ?_ | intro v' hv' | intro (b : Nat) | (apply w_convU; rfl; rfl; omega; omega) | (apply w_convI; rfl; rfl; omega; omega) | (apply w_quoU; rfl; rfl; rfl; omega; omega; omega) | (apply w_remU; rfl; rfl; rfl; omega; omega) | (apply w_ld0; rfl; rfl; ((focus ((repeat (first | exact hr1 _ | exact hr2 _ | exact hr3 _ | apply Rd.there)); done)))) | (apply w_ld; rfl; rfl; ((focus ((repeat (first | exact hr1 _ | exact hr2 _ | exact hr3 _ | apply Rd.there)); done)))) | (apply w_minL; rfl; rfl; rfl; omega) | (apply w_minG; rfl; rfl; rfl; omega) | (apply w_min; rfl; rfl; rfl) | (apply w_mfR; rfl; rfl) | (apply w_cvp; rfl; rfl; exact inferInstance; rfl; rfl; assumption) | (apply w_eqS2T; rfl; rfl; rfl; omega) | (apply w_eqS2F; rfl; rfl; rfl; omega) | (apply w_neS2T; rfl; rfl; rfl; omega) | (apply w_neS2F; rfl; rfl; rfl; omega) | (apply w_eqS3T; rfl; rfl; rfl; omega) | (apply w_eqS3F; rfl; rfl; rfl; omega) | (apply w_neS3T; rfl; rfl; rfl; omega) | (apply w_neS3F; rfl; rfl; rfl; omega) | (apply w_eqS3; rfl; rfl; rfl) | (apply w_neS3; rfl; rfl; rfl) | (apply w_eqS2; rfl; rfl; rfl) | (apply w_neS2; rfl; rfl; rfl) | (apply w_maxL; rfl; rfl; rfl; omega) | (apply w_maxG; rfl; rfl; rfl; omega) | (apply w_max; rfl; rfl; rfl) | (apply w_neB; rfl; rfl; rfl; rfl) | (apply w_eqB; rfl; rfl; rfl; rfl) | refine spl ?_ ?_ | intro hc)
  refine C_loopK [4, 5, 6, 7, 8, 9, 10, 11, 12, 13, 14, 15, 16, 17, 18, 19, 20, 21, 22, 23, 24, 25, 26, 27, 28, 29, 30, 31, 32, 33, 34, 35, 36, 37] (fun x : Nat => 64 - x) (fun x => [(5, int x)]) (fun _ => pt bx 57 (rcells N L) :: R) (fun x => x ≤ 64 ∧ ∀ j, j < x → onB w (svA L j) = false) 0 ⟨Nat.zero_le _, fun j hj => absurd hj (Nat.not_lt_zero j)⟩ (by (focus ((repeat (first | exact Keep.nil | apply Keep.drop rfl | apply Keep.keep rfl)); done))) (by (exact sbf)) (by (exact frm)) ?_
  rintro i ⟨hi, hz⟩
  dsimp only [List.cons_append, List.nil_append]
  by_cases hlt : i < 64
  · have hiL : i < L.length := by omega
    have hr1 : ∀ R, Rd (pt bx 57 (rcells N L) :: R) ⟨bx, 0 + 1 + i * 5 + 0, none⟩ (.bool (svA L i).is) := fun R => Rd.sv (f := 0) hiL rfl
    have hr2 : ∀ R, Rd (pt bx 57 (rcells N L) :: R) ⟨bx, 0 + 1 + i * 5 + 4, none⟩ (.bool (svA L i).runs) := fun R => Rd.sv (f := 4) hiL rfl
    have hr3 : ∀ R, Rd (pt bx 57 (rcells N L) :: R) ⟨bx, 0 + 1 + i * 5 + 3, none⟩ (int (svA L i).w) := fun R => Rd.sv (f := 3) hiL rfl
    have hno : onB w (svA L i) = false → ∀ j, j < i + 1 → onB w (svA L j) = false := fun h j hj => by
      by_cases e : j = i
      · subst e; exact h
      · exact hz j (by omega)
    have hyes : onB w (svA L i) = true → onR L w = (i : Int) := fun h => by
      unfold onR
      have : L.findIdx? (onB w) = some i := by
        refine List.findIdx?_eq_some_iff_getElem.2 ⟨hiL, ?_, fun j hj => ?_⟩
        · have := svA_get hiL; rw [List.getElem?_eq_getElem hiL] at this; injection this with this; rw [this]; exact h
        · have hjL : j < L.length := by omega
          have := svA_get hjL; rw [List.getElem?_eq_getElem hjL] at this; injection this with this; rw [this]
          simp [hz j hj]
      rw [this]
    unfold onB at hno hyes
    cases c1 : (svA L i).is with
    | false =>
      rw [c1] at hr1 hno
      have hno := hno rfl
      (repeat' first | refine stp ?_ | intro v' hv' | intro (b : Nat) | (apply w_convU; rfl; rfl; omega; omega) | (apply w_convI; rfl; rfl; omega; omega) | (apply w_quoU; rfl; rfl; rfl; omega; omega; omega) | (apply w_remU; rfl; rfl; rfl; omega; omega) | (apply w_ld0; rfl; rfl; ((focus ((repeat (first | exact hr1 _ | exact hr2 _ | exact hr3 _ | apply Rd.there)); done)))) | (apply w_ld; rfl; rfl; ((focus ((repeat (first | exact hr1 _ | exact hr2 _ | exact hr3 _ | apply Rd.there)); done)))) | (apply w_minL; rfl; rfl; rfl; omega) | (apply w_minG; rfl; rfl; rfl; omega) | (apply w_min; rfl; rfl; rfl) | (apply w_mfR; rfl; rfl) | (apply w_cvp; rfl; rfl; exact inferInstance; rfl; rfl; assumption) | (apply w_eqS2T; rfl; rfl; rfl; omega) | (apply w_eqS2F; rfl; rfl; rfl; omega) | (apply w_neS2T; rfl; rfl; rfl; omega) | (apply w_neS2F; rfl; rfl; rfl; omega) | (apply w_eqS3T; rfl; rfl; rfl; omega) | (apply w_eqS3F; rfl; rfl; rfl; omega) | (apply w_neS3T; rfl; rfl; rfl; omega) | (apply w_neS3F; rfl; rfl; rfl; omega) | (apply w_eqS3; rfl; rfl; rfl) | (apply w_neS3; rfl; rfl; rfl) | (apply w_eqS2; rfl; rfl; rfl) | (apply w_neS2; rfl; rfl; rfl) | (apply w_maxL; rfl; rfl; rfl; omega) | (apply w_maxG; rfl; rfl; rfl; omega) | (apply w_max; rfl; rfl; rfl) | (apply w_neB; rfl; rfl; rfl; rfl) | (apply w_eqB; rfl; rfl; rfl; rfl) | refine spl ?_ ?_ | intro hc)
      exact At_againK (i + 1) ⟨hlt, hno⟩ (by omega) (by (exact sbf)) (by (exact sbf)) (by (exact frm))
    | true =>
      rw [c1] at hr1 hno hyes
      cases c2 : (svA L i).runs with
      | false =>
        rw [c2] at hr2 hno
        have hno := hno rfl
        (repeat' first | refine stp ?_ | intro v' hv' | intro (b : Nat) | (apply w_convU; rfl; rfl; omega; omega) | (apply w_convI; rfl; rfl; omega; omega) | (apply w_quoU; rfl; rfl; rfl; omega; omega; omega) | (apply w_remU; rfl; rfl; rfl; omega; omega) | (apply w_ld0; rfl; rfl; ((focus ((repeat (first | exact hr1 _ | exact hr2 _ | exact hr3 _ | apply Rd.there)); done)))) | (apply w_ld; rfl; rfl; ((focus ((repeat (first | exact hr1 _ | exact hr2 _ | exact hr3 _ | apply Rd.there)); done)))) | (apply w_minL; rfl; rfl; rfl; omega) | (apply w_minG; rfl; rfl; rfl; omega) | (apply w_min; rfl; rfl; rfl) | (apply w_mfR; rfl; rfl) | (apply w_cvp; rfl; rfl; exact inferInstance; rfl; rfl; assumption) | (apply w_eqS2T; rfl; rfl; rfl; omega) | (apply w_eqS2F; rfl; rfl; rfl; omega) | (apply w_neS2T; rfl; rfl; rfl; omega) | (apply w_neS2F; rfl; rfl; rfl; omega) | (apply w_eqS3T; rfl; rfl; rfl; omega) | (apply w_eqS3F; rfl; rfl; rfl; omega) | (apply w_neS3T; rfl; rfl; rfl; omega) | (apply w_neS3F; rfl; rfl; rfl; omega) | (apply w_eqS3; rfl; rfl; rfl) | (apply w_neS3; rfl; rfl; rfl) | (apply w_eqS2; rfl; rfl; rfl) | (apply w_neS2; rfl; rfl; rfl) | (apply w_maxL; rfl; rfl; rfl; omega) | (apply w_maxG; rfl; rfl; rfl; omega) | (apply w_max; rfl; rfl; rfl) | (apply w_neB; rfl; rfl; rfl; rfl) | (apply w_eqB; rfl; rfl; rfl; rfl) | refine spl ?_ ?_ | intro hc)
        exact At_againK (i + 1) ⟨hlt, hno⟩ (by omega) (by (exact sbf)) (by (exact sbf)) (by (exact frm))
      | true =>
        rw [c2] at hr2 hno hyes
        generalize (svA L i).w = wi at *
        by_cases c3 : wi = w
        · rw [hyes (by simp [c3])]
          (repeat' first | refine stp ?_ | intro v' hv' | intro (b : Nat) | (apply w_convU; rfl; rfl; omega; omega) | (apply w_convI; rfl; rfl; omega; omega) | (apply w_quoU; rfl; rfl; rfl; omega; omega; omega) | (apply w_remU; rfl; rfl; rfl; omega; omega) | (apply w_ld0; rfl; rfl; ((focus ((repeat (first | exact hr1 _ | exact hr2 _ | exact hr3 _ | apply Rd.there)); done)))) | (apply w_ld; rfl; rfl; ((focus ((repeat (first | exact hr1 _ | exact hr2 _ | exact hr3 _ | apply Rd.there)); done)))) | (apply w_minL; rfl; rfl; rfl; omega) | (apply w_minG; rfl; rfl; rfl; omega) | (apply w_min; rfl; rfl; rfl) | (apply w_mfR; rfl; rfl) | (apply w_cvp; rfl; rfl; exact inferInstance; rfl; rfl; assumption) | (apply w_eqS2T; rfl; rfl; rfl; omega) | (apply w_eqS2F; rfl; rfl; rfl; omega) | (apply w_neS2T; rfl; rfl; rfl; omega) | (apply w_neS2F; rfl; rfl; rfl; omega) | (apply w_eqS3T; rfl; rfl; rfl; omega) | (apply w_eqS3F; rfl; rfl; rfl; omega) | (apply w_neS3T; rfl; rfl; rfl; omega) | (apply w_neS3F; rfl; rfl; rfl; omega) | (apply w_eqS3; rfl; rfl; rfl) | (apply w_neS3; rfl; rfl; rfl) | (apply w_eqS2; rfl; rfl; rfl) | (apply w_neS2; rfl; rfl; rfl) | (apply w_maxL; rfl; rfl; rfl; omega) | (apply w_maxG; rfl; rfl; rfl; omega) | (apply w_max; rfl; rfl; rfl) | (apply w_neB; rfl; rfl; rfl; rfl) | (apply w_eqB; rfl; rfl; rfl; rfl) | refine spl ?_ ?_ | intro hc)
          all_goals (refine At_ret1 (by (first | exact .inl rfl | exact .inr rfl)) Try.results33 rfl ⟨by rfl, rfl⟩ (by (exact frm)))
        · have hno := hno (by simp [c3])
          (repeat' first | refine stp ?_ | intro v' hv' | intro (b : Nat) | (apply w_convU; rfl; rfl; omega; omega) | (apply w_convI; rfl; rfl; omega; omega) | (apply w_quoU; rfl; rfl; rfl; omega; omega; omega) | (apply w_remU; rfl; rfl; rfl; omega; omega) | (apply w_ld0; rfl; rfl; ((focus ((repeat (first | exact hr1 _ | exact hr2 _ | exact hr3 _ | apply Rd.there)); done)))) | (apply w_ld; rfl; rfl; ((focus ((repeat (first | exact hr1 _ | exact hr2 _ | exact hr3 _ | apply Rd.there)); done)))) | (apply w_minL; rfl; rfl; rfl; omega) | (apply w_minG; rfl; rfl; rfl; omega) | (apply w_min; rfl; rfl; rfl) | (apply w_mfR; rfl; rfl) | (apply w_cvp; rfl; rfl; exact inferInstance; rfl; rfl; assumption) | (apply w_eqS2T; rfl; rfl; rfl; omega) | (apply w_eqS2F; rfl; rfl; rfl; omega) | (apply w_neS2T; rfl; rfl; rfl; omega) | (apply w_neS2F; rfl; rfl; rfl; omega) | (apply w_eqS3T; rfl; rfl; rfl; omega) | (apply w_eqS3F; rfl; rfl; rfl; omega) | (apply w_neS3T; rfl; rfl; rfl; omega) | (apply w_neS3F; rfl; rfl; rfl; omega) | (apply w_eqS3; rfl; rfl; rfl) | (apply w_neS3; rfl; rfl; rfl) | (apply w_eqS2; rfl; rfl; rfl) | (apply w_neS2; rfl; rfl; rfl) | (apply w_maxL; rfl; rfl; rfl; omega) | (apply w_maxG; rfl; rfl; rfl; omega) | (apply w_max; rfl; rfl; rfl) | (apply w_neB; rfl; rfl; rfl; rfl) | (apply w_eqB; rfl; rfl; rfl; rfl) | refine spl ?_ ?_ | intro hc)
          exact At_againK (i + 1) ⟨hlt, hno⟩ (by omega) (by (exact sbf)) (by (exact sbf)) (by (exact frm))
  · obtain rfl : i = 64 := by omega
    have e : onR L w = -1 := by
      unfold onR
      have : L.findIdx? (onB w) = none := List.findIdx?_eq_none_iff.2 fun s hs => by
        obtain ⟨j, hj⟩ := List.getElem?_of_mem hs
        have hjl := (List.getElem?_eq_some_iff.1 hj).1
        have h1 := svA_get hjl
        rw [hj] at h1
        injection h1 with h1
        rw [h1]; exact hz j (by omega)
      rw [this]
    rw [e]
    (repeat' first | refine stp ?_ | intro v' hv' | intro (b : Nat) | (apply w_convU; rfl; rfl; omega; omega) | (apply w_convI; rfl; rfl; omega; omega) | (apply w_quoU; rfl; rfl; rfl; omega; omega; omega) | (apply w_remU; rfl; rfl; rfl; omega; omega) | (apply w_ld0; rfl; rfl; ((focus ((repeat (first | exact hr1 _ | exact hr2 _ | exact hr3 _ | apply Rd.there)); done)))) | (apply w_ld; rfl; rfl; ((focus ((repeat (first | exact hr1 _ | exact hr2 _ | exact hr3 _ | apply Rd.there)); done)))) | (apply w_minL; rfl; rfl; rfl; omega) | (apply w_minG; rfl; rfl; rfl; omega) | (apply w_min; rfl; rfl; rfl) | (apply w_mfR; rfl; rfl) | (apply w_cvp; rfl; rfl; exact inferInstance; rfl; rfl; assumption) | (apply w_eqS2T; rfl; rfl; rfl; omega) | (apply w_eqS2F; rfl; rfl; rfl; omega) | (apply w_neS2T; rfl; rfl; rfl; omega) | (apply w_neS2F; rfl; rfl; rfl; omega) | (apply w_eqS3T; rfl; rfl; rfl; omega) | (apply w_eqS3F; rfl; rfl; rfl; omega) | (apply w_neS3T; rfl; rfl; rfl; omega) | (apply w_neS3F; rfl; rfl; rfl; omega) | (apply w_eqS3; rfl; rfl; rfl) | (apply w_neS3; rfl; rfl; rfl) | (apply w_eqS2; rfl; rfl; rfl) | (apply w_neS2; rfl; rfl; rfl) | (apply w_maxL; rfl; rfl; rfl; omega) | (apply w_maxG; rfl; rfl; rfl; omega) | (apply w_max; rfl; rfl; rfl) | (apply w_neB; rfl; rfl; rfl; rfl) | (apply w_eqB; rfl; rfl; rfl; rfl) | refine spl ?_ ?_ | intro hc)
    all_goals (refine At_ret1 (by (first | exact .inl rfl | exact .inr rfl)) Try.results33 rfl ⟨by rfl, rfl⟩ (by (exact frm)))
theorem Rd.svN {b N : Nat} {es : List Sv} {R : List HP} : Rd (pt b 57 (rcells N es) :: R) ⟨b, 0 + 0, none⟩ (int (N : Int)) := Rd.pt (by unfold rcells; rfl)
set_option maxHeartbeats 4000000 in
theorem rIdle_ok (bx N : Nat) (hN16 : N ≤ 16) (L : List Sv) (h64 : L.length = 64) (res : Int) (hres : (∃ t : Nat, res = (t : Int) ∧ t < N ∧ onR L t < 0 ∧ ∀ j : Nat, j < t → ¬ onR L j < 0) ∨ (res = -1 ∧ ∀ j : Nat, j < N → ¬ onR L j < 0)) (R : List HP) : Called Try.prog 49 [ptr bx] (rsb bx N L :: R) (is (int res) (rsb bx N L :: R)) := by
  have hO := rOn_ok bx N L h64
  unfold rsb at hO ⊢
  refine Fn1 Try.func49 rfl Try.ntmps49 rfl ?_
  (repeat' first | refine stp ?_ | intro v' hv' | intro (b : Nat) | (apply w_convU; rfl; rfl; omega; omega) | (apply w_convI; rfl; rfl; omega; omega) | (apply w_quoU; rfl; rfl; rfl; omega; omega; omega) | (apply w_remU; rfl; rfl; rfl; omega; omega) | (apply w_ld0; rfl; rfl; exact Rd.svN) | (apply w_minL; rfl; rfl; rfl; omega) | (apply w_minG; rfl; rfl; rfl; omega) | (apply w_min; rfl; rfl; rfl) | (apply w_mfR; rfl; rfl) | (apply w_cvp; rfl; rfl; exact inferInstance; rfl; rfl; assumption) | (apply w_eqS2T; rfl; rfl; rfl; omega) | (apply w_eqS2F; rfl; rfl; rfl; omega) | (apply w_neS2T; rfl; rfl; rfl; omega) | (apply w_neS2F; rfl; rfl; rfl; omega) | (apply w_eqS3T; rfl; rfl; rfl; omega) | (apply w_eqS3F; rfl; rfl; rfl; omega) | (apply w_neS3T; rfl; rfl; rfl; omega) | (apply w_neS3F; rfl; rfl; rfl; omega) | (apply w_eqS3; rfl; rfl; rfl) | (apply w_neS3; rfl; rfl; rfl) | (apply w_eqS2; rfl; rfl; rfl) | (apply w_neS2; rfl; rfl; rfl) | (apply w_maxL; rfl; rfl; rfl; omega) | (apply w_maxG; rfl; rfl; rfl; omega) | (apply w_max; rfl; rfl; rfl) | (apply w_neB; rfl; rfl; rfl; rfl) | (apply w_eqB; rfl; rfl; rfl; rfl) | refine spl ?_ ?_ | intro hc)
  refine C_loopK [2, 3, 4, 5, 6, 7, 8, 9, 10, 11, 12, 13, 14, 15, 16] (fun x : Nat => N - x) (fun x => [(3, int x)]) (fun _ => pt bx 57 (rcells N L) :: R) (fun x => x ≤ N ∧ ∀ j : Nat, j < x → ¬ onR L j < 0) 0 ⟨Nat.zero_le _, fun j hj => absurd hj (Nat.not_lt_zero j)⟩ (by (focus ((repeat (first | exact Keep.nil | apply Keep.drop rfl | apply Keep.keep rfl)); done))) (by (exact sbf)) (by (exact frm)) ?_
  rintro i ⟨hi, hz⟩
  dsimp only [List.cons_append, List.nil_append]
  by_cases hlt : i < N
  · have hO := hO i
    by_cases hc : onR L i < 0
    · have e : res = (i : Int) := by
        rcases hres with ⟨t, h1, h2, h3, h4⟩ | ⟨h1, h2⟩
        · rcases Nat.lt_trichotomy i t with h | h | h
          · exact absurd hc (h4 i h)
          · rw [h1, h]
          · exact absurd h3 (hz t h)
        · exact absurd hc (h2 i hlt)
      rw [e]
      generalize onR L i = o at *
      (repeat' first | refine stp ?_ | intro v' hv' | intro (b : Nat) | (apply w_convU; rfl; rfl; omega; omega) | (apply w_convI; rfl; rfl; omega; omega) | (apply w_quoU; rfl; rfl; rfl; omega; omega; omega) | (apply w_remU; rfl; rfl; rfl; omega; omega) | (apply w_ld0; rfl; rfl; exact Rd.svN) | (apply w_minL; rfl; rfl; rfl; omega) | (apply w_minG; rfl; rfl; rfl; omega) | (apply w_min; rfl; rfl; rfl) | (apply w_mfR; rfl; rfl) | (apply w_cvp; rfl; rfl; exact inferInstance; rfl; rfl; assumption) | (apply w_eqS2T; rfl; rfl; rfl; omega) | (apply w_eqS2F; rfl; rfl; rfl; omega) | (apply w_neS2T; rfl; rfl; rfl; omega) | (apply w_neS2F; rfl; rfl; rfl; omega) | (apply w_eqS3T; rfl; rfl; rfl; omega) | (apply w_eqS3F; rfl; rfl; rfl; omega) | (apply w_neS3T; rfl; rfl; rfl; omega) | (apply w_neS3F; rfl; rfl; rfl; omega) | (apply w_eqS3; rfl; rfl; rfl) | (apply w_neS3; rfl; rfl; rfl) | (apply w_eqS2; rfl; rfl; rfl) | (apply w_neS2; rfl; rfl; rfl) | (apply w_maxL; rfl; rfl; rfl; omega) | (apply w_maxG; rfl; rfl; rfl; omega) | (apply w_max; rfl; rfl; rfl) | (apply w_neB; rfl; rfl; rfl; rfl) | (apply w_eqB; rfl; rfl; rfl; rfl) | refine spl ?_ ?_ | intro hc)
      all_goals (refine At_ret1 (by (first | exact .inl rfl | exact .inr rfl)) Try.results49 rfl ⟨by rfl, rfl⟩ (by (exact frm)))
    · have hz2 : ∀ j : Nat, j < i + 1 → ¬ onR L j < 0 := fun j hj => by
        by_cases e : j = i
        · subst e; exact hc
        · exact hz j (by omega)
      generalize onR L i = o at *
      (repeat' first | refine stp ?_ | intro v' hv' | intro (b : Nat) | (apply w_convU; rfl; rfl; omega; omega) | (apply w_convI; rfl; rfl; omega; omega) | (apply w_quoU; rfl; rfl; rfl; omega; omega; omega) | (apply w_remU; rfl; rfl; rfl; omega; omega) | (apply w_ld0; rfl; rfl; exact Rd.svN) | (apply w_minL; rfl; rfl; rfl; omega) | (apply w_minG; rfl; rfl; rfl; omega) | (apply w_min; rfl; rfl; rfl) | (apply w_mfR; rfl; rfl) | (apply w_cvp; rfl; rfl; exact inferInstance; rfl; rfl; assumption) | (apply w_eqS2T; rfl; rfl; rfl; omega) | (apply w_eqS2F; rfl; rfl; rfl; omega) | (apply w_neS2T; rfl; rfl; rfl; omega) | (apply w_neS2F; rfl; rfl; rfl; omega) | (apply w_eqS3T; rfl; rfl; rfl; omega) | (apply w_eqS3F; rfl; rfl; rfl; omega) | (apply w_neS3T; rfl; rfl; rfl; omega) | (apply w_neS3F; rfl; rfl; rfl; omega) | (apply w_eqS3; rfl; rfl; rfl) | (apply w_neS3; rfl; rfl; rfl) | (apply w_eqS2; rfl; rfl; rfl) | (apply w_neS2; rfl; rfl; rfl) | (apply w_maxL; rfl; rfl; rfl; omega) | (apply w_maxG; rfl; rfl; rfl; omega) | (apply w_max; rfl; rfl; rfl) | (apply w_neB; rfl; rfl; rfl; rfl) | (apply w_eqB; rfl; rfl; rfl; rfl) | refine spl ?_ ?_ | intro hc)
      exact At_againK (i + 1) ⟨hlt, hz2⟩ (by omega) (by (exact sbf)) (by (exact sbf)) (by (exact frm))
  · obtain rfl : i = N := by omega
    have e : res = -1 := by
      rcases hres with ⟨t, h1, h2, h3, h4⟩ | ⟨h1, h2⟩
      · exact absurd h3 (hz t h2)
      · exact h1
    rw [e]
    (repeat' first | refine stp ?_ | intro v' hv' | intro (b : Nat) | (apply w_convU; rfl; rfl; omega; omega) | (apply w_convI; rfl; rfl; omega; omega) | (apply w_quoU; rfl; rfl; rfl; omega; omega; omega) | (apply w_remU; rfl; rfl; rfl; omega; omega) | (apply w_ld0; rfl; rfl; exact Rd.svN) | (apply w_minL; rfl; rfl; rfl; omega) | (apply w_minG; rfl; rfl; rfl; omega) | (apply w_min; rfl; rfl; rfl) | (apply w_mfR; rfl; rfl) | (apply w_cvp; rfl; rfl; exact inferInstance; rfl; rfl; assumption) | (apply w_eqS2T; rfl; rfl; rfl; omega) | (apply w_eqS2F; rfl; rfl; rfl; omega) | (apply w_neS2T; rfl; rfl; rfl; omega) | (apply w_neS2F; rfl; rfl; rfl; omega) | (apply w_eqS3T; rfl; rfl; rfl; omega) | (apply w_eqS3F; rfl; rfl; rfl; omega) | (apply w_neS3T; rfl; rfl; rfl; omega) | (apply w_neS3F; rfl; rfl; rfl; omega) | (apply w_eqS3; rfl; rfl; rfl) | (apply w_neS3; rfl; rfl; rfl) | (apply w_eqS2; rfl; rfl; rfl) | (apply w_neS2; rfl; rfl; rfl) | (apply w_maxL; rfl; rfl; rfl; omega) | (apply w_maxG; rfl; rfl; rfl; omega) | (apply w_max; rfl; rfl; rfl) | (apply w_neB; rfl; rfl; rfl; rfl) | (apply w_eqB; rfl; rfl; rfl; rfl) | refine spl ?_ ?_ | intro hc)
    all_goals (refine At_ret1 (by (first | exact .inl rfl | exact .inr rfl)) Try.results49 rfl ⟨by rfl, rfl⟩ (by (exact frm)))
/-! ### Both hold the same -/
structure RelS (M : List Wk) (L : List Sv) : Prop where
  len : L.length = 64
  run : ∀ i, i < M.length → (wkA M i).runs = true → svA L (wkA M i).k.id.toNat = ⟨true, (wkA M i).k, i, true⟩
  wait : ∀ i, i < M.length → ∀ z ∈ (wkA M i).q, svA L z.id.toNat = ⟨true, z, i, false⟩
  no : ∀ j : Nat, j < 64 → (∀ x ∈ rk M ++ wq M, x.id ≠ (j : Int)) → svA L j = sv0
theorem RelS.is_cases {M : List Wk} {L : List Sv} (h : RelS M L) {j : Nat} (hj : j < 64) (hi : (svA L j).is = true) : (∃ i, i < M.length ∧ (wkA M i).runs = true ∧ (wkA M i).k.id = (j : Int)) ∨ (∃ i z, i < M.length ∧ z ∈ (wkA M i).q ∧ z.id = (j : Int)) := by
  by_cases hc : ∀ x ∈ rk M ++ wq M, x.id ≠ (j : Int)
  · rw [h.no j hj hc] at hi; cases hi
  · have : ∃ x ∈ rk M ++ wq M, x.id = (j : Int) := Classical.byContradiction fun hn => hc fun x hx e => hn ⟨x, hx, e⟩
    obtain ⟨x, hx, e⟩ := this
    rcases List.mem_append.1 hx with hx | hx
    · obtain ⟨i, h1, h2, rfl⟩ := rk_mem.1 hx
      exact .inl ⟨i, h1, h2, e⟩
    · obtain ⟨i, h1, h2⟩ := wq_mem.1 hx
      exact .inr ⟨i, x, h1, h2, e⟩
theorem id_nat {M : List Wk} (h : WfS M) {x : Ky} (hx : x ∈ rk M ++ wq M) : ((x.id.toNat : Nat) : Int) = x.id ∧ x.id.toNat < 64 := by
  obtain ⟨b0, b1, -, -⟩ := h.kb x hx
  omega
theorem on_rel {M : List Wk} {L : List Sv} (hw : WfS M) (h : RelS M L) (w : Nat) : onR L w = if w < M.length ∧ (wkA M w).runs = true then (wkA M w).k.id else -1 := by
  unfold onR
  cases hf : L.findIdx? (onB (w : Int)) with
  | none =>
    have hn := List.findIdx?_eq_none_iff.1 hf
    rw [if_neg]
    rintro ⟨h1, h2⟩
    have hid := id_nat hw (List.mem_append_left _ (rk_mem.2 ⟨w, h1, h2, rfl⟩))
    have := hn _ (List.mem_of_getElem? (svA_get (L := L) (i := (wkA M w).k.id.toNat) (by rw [h.len]; exact hid.2)))
    rw [h.run w h1 h2] at this
    simp [onB] at this
  | some j =>
    obtain ⟨h1, h2, -⟩ := List.findIdx?_eq_some_iff_getElem.1 hf
    have hg := svA_get h1
    rw [List.getElem?_eq_getElem h1] at hg
    injection hg with hg
    rw [hg] at h2
    have hj64 : j < 64 := by rw [← h.len]; exact h1
    unfold onB at h2
    simp only [Bool.and_eq_true, decide_eq_true_eq] at h2
    obtain ⟨⟨c1, c2⟩, c3⟩ := h2
    dsimp only
    rcases h.is_cases hj64 c1 with ⟨i, a1, a2, a3⟩ | ⟨i, z, a1, a2, a3⟩
    · have := h.run i a1 a2
      rw [a3, Int.toNat_natCast] at this
      rw [this] at c3
      dsimp only at c3
      obtain rfl : i = w := by omega
      rw [if_pos ⟨a1, a2⟩, a3]
    · have := h.wait i a1 z a2
      rw [a3, Int.toNat_natCast] at this
      rw [this] at c2
      cases c2
theorem least_rel {M : List Wk} {L : List Sv} (hw : WfS M) (h : RelS M L) : leastR L 64 = if leastM M < 0 then -1 else (headK (wkA M (leastM M).toNat)).id := by
  have hsp := leastR_spec L 64
  by_cases h0 : leastM M < 0
  · rw [if_pos h0]
    have hq := least_none.1 h0
    rcases hsp with ⟨h1, -⟩ | ⟨i, hi, h1, ⟨c1, c2⟩, -⟩
    · exact h1
    · exfalso
      rcases h.is_cases hi c1 with ⟨a, a1, a2, a3⟩ | ⟨a, z, a1, a2, a3⟩
      · have := h.run a a1 a2
        rw [a3, Int.toNat_natCast] at this
        rw [this] at c2; cases c2
      · have : z ∈ wq M := wq_mem.2 ⟨a, a1, a2⟩
        rw [hq] at this; cases this
  · rw [if_neg h0]
    obtain ⟨f, x, r, hf, hlf, hq, hhd, hxm, hlt⟩ := least_some hw h0
    rw [hlf, Int.toNat_natCast, hhd]
    have hxid := id_nat hw (List.mem_append_right _ hxm)
    have hxs := h.wait f hf x (by rw [hq]; exact List.mem_cons_self)
    rcases hsp with ⟨h1, h2⟩ | ⟨i, hi, h1, ⟨c1, c2⟩, h3⟩
    · exact absurd (by rw [hxs]; exact ⟨rfl, rfl⟩) (h2 x.id.toNat hxid.2)
    · rw [h1]
      rcases h.is_cases hi c1 with ⟨a, a1, a2, a3⟩ | ⟨a, z, a1, a2, a3⟩
      · have := h.run a a1 a2
        rw [a3, Int.toNat_natCast] at this
        rw [this] at c2; cases c2
      · have hz := h.wait a a1 z a2
        rw [a3, Int.toNat_natCast] at hz
        have hmin := h3 x.id.toNat hxid.2 (by rw [hxs]; exact ⟨rfl, rfl⟩)
        rw [hxs, hz] at hmin
        dsimp only at hmin
        by_cases e : z = x
        · rw [← a3, e]
        · have := hlt z (wq_mem.2 ⟨a, a1, a2⟩) e
          rw [this] at hmin; cases hmin
theorem last_rel {M : List Wk} {L : List Sv} (hw : WfS M) (h : RelS M L) (hne : rk M ≠ []) : ∃ t, t < M.length ∧ (wkA M t).runs = true ∧ lastR L 64 = (wkA M t).k.id ∧ ∀ r ∈ rk M, kyB (wkA M t).k r = false := by
  rcases lastR_spec L 64 with ⟨h1, h2⟩ | ⟨i, hi, h1, ⟨c1, c2⟩, h3⟩
  · exfalso
    cases hr : rk M with
    | nil => exact hne hr
    | cons y l =>
      have hy : y ∈ rk M := by rw [hr]; exact List.mem_cons_self
      obtain ⟨a, a1, a2, rfl⟩ := rk_mem.1 hy
      have hid := id_nat hw (List.mem_append_left _ hy)
      exact h2 _ hid.2 (by rw [h.run a a1 a2]; exact ⟨rfl, rfl⟩)
  · rcases h.is_cases hi c1 with ⟨a, a1, a2, a3⟩ | ⟨a, z, a1, a2, a3⟩
    · refine ⟨a, a1, a2, by rw [h1, a3], fun r hr => ?_⟩
      obtain ⟨b, b1, b2, rfl⟩ := rk_mem.1 hr
      have hid := id_nat hw (List.mem_append_left _ hr)
      have := h3 _ hid.2 (by rw [h.run b b1 b2]; exact ⟨rfl, rfl⟩)
      have hs := h.run a a1 a2
      rw [a3, Int.toNat_natCast] at hs
      rw [h.run b b1 b2, hs] at this
      exact this
    · have hz := h.wait a a1 z a2
      rw [a3, Int.toNat_natCast] at hz
      rw [hz] at c2; cases c2
def stL (M : List Wk) (L : List Sv) : List Sv := match stepM M with
  | none => L
  | some (m, _) => (if (wkA M m.2.2.toNat).runs = true then L.set (wkA M m.2.2.toNat).k.id.toNat ⟨true, (wkA M m.2.2.toNat).k, m.2.2, false⟩ else L).set m.1.toNat ⟨true, headK (wkA M m.2.1.toNat), m.2.2, true⟩
theorem run_inj' {M : List Wk} (h : WfS M) {i j : Nat} (hi : i < M.length) (hj : j < M.length) (ri : (wkA M i).runs = true) (rj : (wkA M j).runs = true) (e : (wkA M i).k.id = (wkA M j).k.id) : i = j := by
  have h1 := (findM_at h hi).1 ri
  have h2 := (findM_at h hj).1 rj
  rw [e, h2] at h1
  simp only [Option.some.injEq, Prod.mk.injEq, and_true] at h1
  exact h1.symm
theorem rel_step {M M' : List Wk} {m : Mv} {L : List Sv} (hw : WfS M) (h : RelS M L) (hs : stepM M = some (m, M')) : RelS M' (stL M L) := by
  unfold stL
  rw [hs]
  dsimp only
  have hw' := hw.step hs
  obtain ⟨hst, f, t, x, r, rfl, hf, ht, hq, rfl, -, -⟩ := step_some hw hs
  have hhd : headK (wkA M f) = x := by unfold headK; rw [hq]; rfl
  dsimp only
  simp only [Int.toNat_natCast, hhd]
  have hpp := hst.perm
  obtain ⟨-, hp2⟩ := popM_perm hf hq
  have hxq : x ∈ wq M := wq_mem.2 ⟨f, hf, by rw [hq]; exact List.mem_cons_self⟩
  have hxid := id_nat hw (List.mem_append_right _ hxq)
  have hnq : ∀ z ∈ wq (popM M f), z.id ≠ x.id := fun z hz e => by
    have hnd := hw.nodup
    rw [List.map_append] at hnd
    have h3 := (hp2.map (·.id)).nodup_iff.1 (List.nodup_append.1 hnd).2.1
    rw [List.map_cons, List.nodup_cons] at h3
    exact h3.1 (List.mem_map.2 ⟨z, hz, e⟩)
  have htp : t < (popM M f).length := by rw [popM_len]; exact ht
  have hpl := popM_len M f
  have hpq : ∀ i, i < M.length → ∀ z ∈ (wkA (popM M f) i).q, z ∈ (wkA M i).q := fun i hi z hz => by
    unfold popM at hz
    rw [wkA_set hf] at hz
    by_cases e : f = i
    · subst e; rw [if_pos rfl] at hz; exact List.mem_of_mem_tail hz
    · rw [if_neg e] at hz; exact hz
  have hL1 : ∀ L1, L1 = (if (wkA M t).runs = true then L.set (wkA M t).k.id.toNat ⟨true, (wkA M t).k, (t : Int), false⟩ else L) → L1.length = 64 ∧ ∀ j : Nat, ((wkA M t).runs = true → (wkA M t).k.id ≠ (j : Int)) → svA L1 j = svA L j := fun L1 e => by
    subst e
    split
    · rename_i hr
      have hid := id_nat hw (List.mem_append_left _ (rk_mem.2 ⟨t, ht, hr, rfl⟩))
      refine ⟨by rw [List.length_set]; exact h.len, fun j hj => ?_⟩
      rw [svA_set (by rw [h.len]; exact hid.2), if_neg (by have := hj hr; omega)]
    · exact ⟨h.len, fun j _ => rfl⟩
  obtain ⟨hl64, hsame⟩ := hL1 _ rfl
  have hkt : (wkA M t).runs = true → svA (if (wkA M t).runs = true then L.set (wkA M t).k.id.toNat ⟨true, (wkA M t).k, (t : Int), false⟩ else L) (wkA M t).k.id.toNat = ⟨true, (wkA M t).k, (t : Int), false⟩ := fun hr => by
    have hid := id_nat hw (List.mem_append_left _ (rk_mem.2 ⟨t, ht, hr, rfl⟩))
    rw [if_pos hr, svA_set (by rw [h.len]; exact hid.2), if_pos rfl]
  generalize (if (wkA M t).runs = true then L.set (wkA M t).k.id.toNat ⟨true, (wkA M t).k, (t : Int), false⟩ else L) = L1 at *
  have hset : ∀ j, svA (L1.set x.id.toNat ⟨true, x, (t : Int), true⟩) j = if x.id.toNat = j then ⟨true, x, (t : Int), true⟩ else svA L1 j := fun j => svA_set (by rw [hl64]; exact hxid.2)
  refine ⟨by rw [List.length_set]; exact hl64, fun i hi hr => ?_, fun i hi z hz => ?_, fun j hj hn => ?_⟩
  · rw [List.length_set, popM_len] at hi
    rw [wkA_set htp] at hr ⊢
    by_cases e : t = i
    · subst e
      rw [if_pos rfl]
      unfold runW
      dsimp only
      rw [hset, if_pos rfl]
    · rw [if_neg e] at hr ⊢
      obtain ⟨p1, p2⟩ := popM_at hf i
      rw [p1] at hr
      rw [p2]
      have hkm : (wkA M i).k ∈ rk M := rk_mem.2 ⟨i, hi, hr, rfl⟩
      have hid := id_nat hw (List.mem_append_left _ hkm)
      have hne : (wkA M i).k.id ≠ x.id := id_ne_app hw.nodup hkm hxq
      rw [hset, if_neg (by omega), hsame _ (fun hrt he => e (run_inj' hw ht hi hrt hr (by rw [he, hid.1])))]
      exact h.run i hi hr
  · rw [List.length_set, popM_len] at hi
    rw [wkA_set htp] at hz
    have key : ∀ z, z ∈ (wkA (popM M f) i).q → svA (L1.set x.id.toNat ⟨true, x, (t : Int), true⟩) z.id.toNat = ⟨true, z, i, false⟩ := fun z hz => by
      have hzm := hpq i hi z hz
      have hzq : z ∈ wq M := wq_mem.2 ⟨i, hi, hzm⟩
      have hid := id_nat hw (List.mem_append_right _ hzq)
      have hne := hnq z (wq_mem.2 ⟨i, by omega, hz⟩)
      rw [hset, if_neg (by omega), hsame _ (fun hrt he => id_ne_app hw.nodup (rk_mem.2 ⟨t, ht, hrt, rfl⟩) hzq (by rw [he, hid.1]))]
      exact h.wait i hi z hzm
    by_cases e : t = i
    · subst e
      rw [if_pos rfl] at hz
      unfold runW at hz
      dsimp only at hz
      obtain ⟨p1, p2⟩ := popM_at hf t
      rw [p1, p2] at hz
      by_cases hr : (wkA M t).runs = true
      · rw [if_pos hr] at hz
        rcases insK_mem.1 hz with rfl | hz
        · have hkm : (wkA M t).k ∈ rk M := rk_mem.2 ⟨t, ht, hr, rfl⟩
          have hid := id_nat hw (List.mem_append_left _ hkm)
          have hne : (wkA M t).k.id ≠ x.id := id_ne_app hw.nodup hkm hxq
          rw [hset, if_neg (by omega)]
          exact hkt hr
        · exact key z hz
      · rw [if_neg hr] at hz; exact key z hz
    · rw [if_neg e] at hz; exact key z hz
  · have hn2 : ∀ y ∈ rk M ++ wq M, y.id ≠ (j : Int) := fun y hy => hn y (hpp.mem_iff.2 hy)
    rw [hset, if_neg (by have := hn2 x (List.mem_append_right _ hxq); omega), hsame _ (fun hrt he => hn2 _ (List.mem_append_left _ (rk_mem.2 ⟨t, ht, hrt, rfl⟩)) he)]
    exact h.no j hj hn2
end Go.Proofs.Ytoddjdghjpdomaa
