/- CbsRefills and CbsSpends: they answer true. Conditions: none. -/
import Derived.Test.YtecfbhenljkaaaaCbsG
set_option linter.all false
set_option linter.deprecated false
namespace Go.Proofs.Ytecfbhenljkaaaa
open Go.Sep
variable [B0 : Base]
set_option maxHeartbeats 8000000 in
theorem refills_ok (now q d t l e x : Int) (hq0 : W64 now) (R : List HP) : Called Try.prog 3 [int now, par q d t, num l e x] R (is (.bool true) R) := by
  have hW := wrong_ok now q d t l e x
  by_cases h0 : wrongE now q d t l e x = 0
  · rw [h0] at hW
    have hR := refill_ok now q d t l e x
    unfold refillM at hR
    rw [if_neg (by simpa using h0)] at hR
    unfold refillC at hR
    obtain ⟨hp, ht, hn⟩ := wrongE_0 h0
    have hp' := hp
    unfold parOk at hp'
    have hn' := numE_0 hn
    have ht' := timeE_0 ht
    by_cases hlq : l ≤ q
    · by_cases hl : 0 < l
      · rw [if_pos hl] at hR
        dsimp only [numV] at hR
        refine Fn3 Try.func3 rfl Try.ntmps3 rfl ?_
        (repeat' first | refine stp ?_ | intro v' hv' | intro (b : Nat) | (apply w_convU; rfl; rfl; omega; omega) | (apply w_convI; rfl; rfl; omega; omega) | (apply w_quoU; rfl; rfl; rfl; omega; omega; omega) | (apply w_remU; rfl; rfl; rfl; omega; omega) | (apply w_eqS3T; rfl; rfl; rfl; omega) | (apply w_eqS3F; rfl; rfl; rfl; omega) | (apply w_neS3T; rfl; rfl; rfl; omega) | (apply w_neS3F; rfl; rfl; rfl; omega) | (apply w_eqS3; rfl; rfl; rfl) | (apply w_neS3; rfl; rfl; rfl) | (apply w_eqS2; rfl; rfl; rfl) | (apply w_neS2; rfl; rfl; rfl) | (apply w_maxL; rfl; rfl; rfl; omega) | (apply w_maxG; rfl; rfl; rfl; omega) | (apply w_max; rfl; rfl; rfl) | (apply w_cp; rfl; rfl; first | assumption | exact plain_ok _ _ _ | exact awake_ok | exact wrong_ok _ _ _ _ _ _ _) | refine spl ?_ ?_ | intro hc)
        all_goals (refine At_ret1 (by (first | exact .inl rfl | exact .inr rfl)) Try.results3 rfl ⟨by rfl, rfl⟩ (by (exact frm)))
      · rw [if_neg hl] at hR
        obtain ⟨k0, k1, k2, k3, k4, k5, k6⟩ := k_bounds hp hn'.1 hl
        by_cases hx : 1099511627776 ≤ x + (-l / q + 1) * t
        · rw [if_pos hx] at hR
          dsimp only [numV] at hR
          refine Fn3 Try.func3 rfl Try.ntmps3 rfl ?_
          (repeat' first | refine stp ?_ | intro v' hv' | intro (b : Nat) | (apply w_convU; rfl; rfl; omega; omega) | (apply w_convI; rfl; rfl; omega; omega) | (apply w_quoU; rfl; rfl; rfl; omega; omega; omega) | (apply w_remU; rfl; rfl; rfl; omega; omega) | (apply w_eqS3T; rfl; rfl; rfl; omega) | (apply w_eqS3F; rfl; rfl; rfl; omega) | (apply w_neS3T; rfl; rfl; rfl; omega) | (apply w_neS3F; rfl; rfl; rfl; omega) | (apply w_eqS3; rfl; rfl; rfl) | (apply w_neS3; rfl; rfl; rfl) | (apply w_eqS2; rfl; rfl; rfl) | (apply w_neS2; rfl; rfl; rfl) | (apply w_maxL; rfl; rfl; rfl; omega) | (apply w_maxG; rfl; rfl; rfl; omega) | (apply w_max; rfl; rfl; rfl) | (apply w_cp; rfl; rfl; first | assumption | exact plain_ok _ _ _ | exact awake_ok | exact wrong_ok _ _ _ _ _ _ _) | refine spl ?_ ?_ | intro hc)
          all_goals (refine At_ret1 (by (first | exact .inl rfl | exact .inr rfl)) Try.results3 rfl ⟨by rfl, rfl⟩ (by (exact frm)))
        · rw [if_neg hx] at hR
          by_cases hb : x + (-l / q + 1) * t - t + d ≤ now
          · rw [if_pos hb] at hR
            unfold freshM at hR
            rw [if_neg (by simpa using hp), if_neg (by simpa using ht)] at hR
            by_cases hx2 : 1099511627776 ≤ now + t
            · rw [if_pos hx2] at hR
              dsimp only [numV] at hR
              refine Fn3 Try.func3 rfl Try.ntmps3 rfl ?_
              (repeat' first | refine stp ?_ | intro v' hv' | intro (b : Nat) | (apply w_convU; rfl; rfl; omega; omega) | (apply w_convI; rfl; rfl; omega; omega) | (apply w_quoU; rfl; rfl; rfl; omega; omega; omega) | (apply w_remU; rfl; rfl; rfl; omega; omega) | (apply w_eqS3T; rfl; rfl; rfl; omega) | (apply w_eqS3F; rfl; rfl; rfl; omega) | (apply w_neS3T; rfl; rfl; rfl; omega) | (apply w_neS3F; rfl; rfl; rfl; omega) | (apply w_eqS3; rfl; rfl; rfl) | (apply w_neS3; rfl; rfl; rfl) | (apply w_eqS2; rfl; rfl; rfl) | (apply w_neS2; rfl; rfl; rfl) | (apply w_maxL; rfl; rfl; rfl; omega) | (apply w_maxG; rfl; rfl; rfl; omega) | (apply w_max; rfl; rfl; rfl) | (apply w_cp; rfl; rfl; first | assumption | exact plain_ok _ _ _ | exact awake_ok | exact wrong_ok _ _ _ _ _ _ _) | refine spl ?_ ?_ | intro hc)
              all_goals (refine At_ret1 (by (first | exact .inl rfl | exact .inr rfl)) Try.results3 rfl ⟨by rfl, rfl⟩ (by (exact frm)))
            · rw [if_neg hx2] at hR
              dsimp only [numV] at hR
              refine Fn3 Try.func3 rfl Try.ntmps3 rfl ?_
              (repeat' first | refine stp ?_ | intro v' hv' | intro (b : Nat) | (apply w_convU; rfl; rfl; omega; omega) | (apply w_convI; rfl; rfl; omega; omega) | (apply w_quoU; rfl; rfl; rfl; omega; omega; omega) | (apply w_remU; rfl; rfl; rfl; omega; omega) | (apply w_eqS3T; rfl; rfl; rfl; omega) | (apply w_eqS3F; rfl; rfl; rfl; omega) | (apply w_neS3T; rfl; rfl; rfl; omega) | (apply w_neS3F; rfl; rfl; rfl; omega) | (apply w_eqS3; rfl; rfl; rfl) | (apply w_neS3; rfl; rfl; rfl) | (apply w_eqS2; rfl; rfl; rfl) | (apply w_neS2; rfl; rfl; rfl) | (apply w_maxL; rfl; rfl; rfl; omega) | (apply w_maxG; rfl; rfl; rfl; omega) | (apply w_max; rfl; rfl; rfl) | (apply w_cp; rfl; rfl; first | assumption | exact plain_ok _ _ _ | exact awake_ok | exact wrong_ok _ _ _ _ _ _ _) | refine spl ?_ ?_ | intro hc)
              all_goals (refine At_ret1 (by (first | exact .inl rfl | exact .inr rfl)) Try.results3 rfl ⟨by rfl, rfl⟩ (by (exact frm)))
          · rw [if_neg hb] at hR
            dsimp only [numV] at hR
            have e1 : (x + (-l / q + 1) * t - x) / t = -l / q + 1 := by
              rw [show x + (-l / q + 1) * t - x = (-l / q + 1) * t from by omega]
              exact Int.mul_ediv_cancel _ (by omega)
            have e2 : (x + (-l / q + 1) * t - x) / t * t = (-l / q + 1) * t := by rw [e1]
            have e3 : (x + (-l / q + 1) * t - x) / t * q = (-l / q + 1) * q := by rw [e1]
            refine Fn3 Try.func3 rfl Try.ntmps3 rfl ?_
            (repeat' first | refine stp ?_ | intro v' hv' | intro (b : Nat) | (apply w_convU; rfl; rfl; omega; omega) | (apply w_convI; rfl; rfl; omega; omega) | (apply w_quoU; rfl; rfl; rfl; omega; omega; omega) | (apply w_remU; rfl; rfl; rfl; omega; omega) | (apply w_eqS3T; rfl; rfl; rfl; omega) | (apply w_eqS3F; rfl; rfl; rfl; omega) | (apply w_neS3T; rfl; rfl; rfl; omega) | (apply w_neS3F; rfl; rfl; rfl; omega) | (apply w_eqS3; rfl; rfl; rfl) | (apply w_neS3; rfl; rfl; rfl) | (apply w_eqS2; rfl; rfl; rfl) | (apply w_neS2; rfl; rfl; rfl) | (apply w_maxL; rfl; rfl; rfl; omega) | (apply w_maxG; rfl; rfl; rfl; omega) | (apply w_max; rfl; rfl; rfl) | (apply w_cp; rfl; rfl; first | assumption | exact plain_ok _ _ _ | exact awake_ok | exact wrong_ok _ _ _ _ _ _ _) | refine spl ?_ ?_ | intro hc)
            all_goals (refine At_ret1 (by (first | exact .inl rfl | exact .inr rfl)) Try.results3 rfl ⟨by rfl, rfl⟩ (by (exact frm)))
    · clear hR
      refine Fn3 Try.func3 rfl Try.ntmps3 rfl ?_
      (repeat' first | refine stp ?_ | intro v' hv' | intro (b : Nat) | (apply w_convU; rfl; rfl; omega; omega) | (apply w_convI; rfl; rfl; omega; omega) | (apply w_quoU; rfl; rfl; rfl; omega; omega; omega) | (apply w_remU; rfl; rfl; rfl; omega; omega) | (apply w_eqS3T; rfl; rfl; rfl; omega) | (apply w_eqS3F; rfl; rfl; rfl; omega) | (apply w_neS3T; rfl; rfl; rfl; omega) | (apply w_neS3F; rfl; rfl; rfl; omega) | (apply w_eqS3; rfl; rfl; rfl) | (apply w_neS3; rfl; rfl; rfl) | (apply w_eqS2; rfl; rfl; rfl) | (apply w_neS2; rfl; rfl; rfl) | (apply w_maxL; rfl; rfl; rfl; omega) | (apply w_maxG; rfl; rfl; rfl; omega) | (apply w_max; rfl; rfl; rfl) | (apply w_cp; rfl; rfl; first | assumption | exact plain_ok _ _ _ | exact awake_ok | exact wrong_ok _ _ _ _ _ _ _) | refine spl ?_ ?_ | intro hc)
      all_goals (refine At_ret1 (by (first | exact .inl rfl | exact .inr rfl)) Try.results3 rfl ⟨by rfl, rfl⟩ (by (exact frm)))
  · refine Fn3 Try.func3 rfl Try.ntmps3 rfl ?_
    (repeat' first | refine stp ?_ | intro v' hv' | intro (b : Nat) | (apply w_convU; rfl; rfl; omega; omega) | (apply w_convI; rfl; rfl; omega; omega) | (apply w_quoU; rfl; rfl; rfl; omega; omega; omega) | (apply w_remU; rfl; rfl; rfl; omega; omega) | (apply w_eqS3T; rfl; rfl; rfl; omega) | (apply w_eqS3F; rfl; rfl; rfl; omega) | (apply w_neS3T; rfl; rfl; rfl; omega) | (apply w_neS3F; rfl; rfl; rfl; omega) | (apply w_eqS3; rfl; rfl; rfl) | (apply w_neS3; rfl; rfl; rfl) | (apply w_eqS2; rfl; rfl; rfl) | (apply w_neS2; rfl; rfl; rfl) | (apply w_maxL; rfl; rfl; rfl; omega) | (apply w_maxG; rfl; rfl; rfl; omega) | (apply w_max; rfl; rfl; rfl) | (apply w_cp; rfl; rfl; first | assumption | exact plain_ok _ _ _ | exact awake_ok | exact wrong_ok _ _ _ _ _ _ _) | refine spl ?_ ?_ | intro hc)
    all_goals (refine At_ret1 (by (first | exact .inl rfl | exact .inr rfl)) Try.results3 rfl ⟨by rfl, rfl⟩ (by (exact frm)))
end Go.Proofs.Ytecfbhenljkaaaa
