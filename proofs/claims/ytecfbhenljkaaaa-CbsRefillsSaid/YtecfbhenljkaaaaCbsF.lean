/- cbs: numbers refilled, and how much of a period is behind. Conditions: none. -/
import Derived.Test.YtecfbhenljkaaaaCbsE
import Derived.Test.YtecfbhenljkaaaaMorb
set_option linter.all false
set_option linter.deprecated false
namespace Go.Proofs.Ytecfbhenljkaaaa
open Go.Sep
variable [B0 : Base]
instance : FlatEq Try.prog 25 3 := ⟨by kernel_rfl⟩
instance : FlatEq Try.prog 28 3 := ⟨by kernel_rfl⟩
/-- Numbers refilled, where nothing is wrong. -/
def refillC (now q d t l e x : Int) : (Int × Int × Int) × Int :=
  if 0 < l then ((l, e, x), 0) else if 1099511627776 ≤ x + (-l / q + 1) * t then ((0, 0, 0), 21) else if x + (-l / q + 1) * t - t + d ≤ now then freshM now q d t else ((l + (-l / q + 1) * q, x + (-l / q + 1) * t - t + d, x + (-l / q + 1) * t), 0)
def refillM (now q d t l e x : Int) : (Int × Int × Int) × Int := if wrongE now q d t l e x ≠ 0 then ((0, 0, 0), wrongE now q d t l e x) else refillC now q d t l e x
/-- How many budgets, and what they are, where none is left. -/
theorem k_bounds {q d t l : Int} (hp : parOk q d t) (h : -1073741824 ≤ l) (hl : ¬ 0 < l) :
    0 ≤ -l / q ∧ -l / q ≤ 1073741824 ∧ 0 ≤ (-l / q + 1) * t ∧ (-l / q + 1) * t ≤ 1073741825 * 1073741824 ∧ 1 ≤ l + (-l / q + 1) * q ∧ l + (-l / q + 1) * q ≤ q ∧ (-l / q + 1) * q ≤ 2147483648 := by
  unfold parOk at hp
  have h1 : 0 ≤ -l / q := Int.ediv_nonneg (by omega) (by omega)
  have h2 : -l / q ≤ -l := Int.ediv_le_self _ (by omega)
  have h3 := Int.emod_add_mul_ediv (-l) q
  have h4 := Int.emod_nonneg (-l) (show q ≠ 0 by omega)
  have h5 := Int.emod_lt_of_pos (-l) (show 0 < q by omega)
  have h6 : (-l / q + 1) * q = q * (-l / q) + q := by rw [Int.add_mul, Int.one_mul, Int.mul_comm]
  exact ⟨h1, by omega, Int.mul_nonneg (by omega) (by omega), Int.mul_le_mul (by omega) (by omega) (by omega) (by omega), by omega, by omega, by omega⟩
set_option maxHeartbeats 4000000 in
theorem refill_ok (now q d t l e x : Int) (R : List HP) : Called Try.prog 10 [int now, par q d t, num l e x] R (is (.tuple #[numV (refillM now q d t l e x).1, int (refillM now q d t l e x).2]) R) := by
  have hF := first3W now q d t l e x
  unfold refillM refillC
  by_cases h0 : wrongE now q d t l e x = 0
  · rw [if_neg (by simpa using h0)]
    rw [h0] at hF
    obtain ⟨hp, ht, hn⟩ := wrongE_0 h0
    have hp' := hp
    unfold parOk at hp'
    have hn' := numE_0 hn
    have ht' := timeE_0 ht
    by_cases hl : 0 < l
    · rw [if_pos hl]
      refine Fn3 Try.func10 rfl Try.ntmps10 rfl ?_
      (repeat' first | refine C_drawI (id := 1) [0, 2, 4, 1, 3, 5, 6, 7, 8] (by kernel_rfl) (by kernel_rfl) (by kernel_rfl) rfl ?_ | refine stp ?_ | intro v' hv' | intro (b : Nat) | (apply w_convU; rfl; rfl; omega; omega) | (apply w_convI; rfl; rfl; omega; omega) | (apply w_quoU; rfl; rfl; rfl; omega; omega; omega) | (apply w_remU; rfl; rfl; rfl; omega; omega) | (apply w_eqS3T; rfl; rfl; rfl; omega) | (apply w_eqS3F; rfl; rfl; rfl; omega) | (apply w_neS3T; rfl; rfl; rfl; omega) | (apply w_neS3F; rfl; rfl; rfl; omega) | (apply w_eqS3; rfl; rfl; rfl) | (apply w_neS3; rfl; rfl; rfl) | (apply w_eqS2; rfl; rfl; rfl) | (apply w_neS2; rfl; rfl; rfl) | (apply w_maxL; rfl; rfl; rfl; omega) | (apply w_maxG; rfl; rfl; rfl; omega) | (apply w_max; rfl; rfl; rfl) | (apply w_cp; rfl; rfl; first | assumption | exact pcheck_ok _ _ _ | exact time_ok _ | exact check_ok _ _ _ | exact fresh_ok _ _ _ _ | exact rfresh_ok _ _ _ _) | (apply w_cq; rfl; rfl; apply Called.at (h := hF _ (by assumption)); ((focus ((repeat (first | exact Rep.here | apply Rep.there)); done)))) | refine spl ?_ ?_ | intro hc)
      all_goals (apply At_retR (by (first | exact .inl rfl | exact .inr rfl)) Try.results10; ((focus ((repeat (first | exact ResR.nil | (apply ResR.tmp; rfl) | (apply ResR.one; rfl; (focus ((repeat (first | assumption | exact .pt rfl | exact .sl ‹_› rfl | exact .sl1 (by first | assumption | rfl) | apply Rd.there)); done))) | (apply ResR.agg; rfl; (focus ((repeat (first | assumption | exact .pt | exact .sl ‹_› | apply RdAll.there)); done)); rfl))); done))); (refine ⟨?_, rfl⟩; rfl); ((exact frm)))
    · rw [if_neg hl]
      obtain ⟨k0, k1, k2, k3, k4, k5, k6⟩ := k_bounds hp hn'.1 hl
      have hA := after_ok x ((-l / q + 1) * t)
      by_cases hx : 1099511627776 ≤ x + (-l / q + 1) * t
      · rw [if_pos hx]
        rw [show afterV x ((-l / q + 1) * t) = (0, 21) from by unfold afterV; rw [if_neg (by simpa using timeE_in hn'.2.2.2), if_neg (by omega), if_pos (by omega)]] at hA
        dsimp only at hA
        refine Fn3 Try.func10 rfl Try.ntmps10 rfl ?_
        (repeat' first | refine C_drawI (id := 1) [0, 2, 4, 1, 3, 5, 6, 7, 8] (by kernel_rfl) (by kernel_rfl) (by kernel_rfl) rfl ?_ | refine stp ?_ | intro v' hv' | intro (b : Nat) | (apply w_convU; rfl; rfl; omega; omega) | (apply w_convI; rfl; rfl; omega; omega) | (apply w_quoU; rfl; rfl; rfl; omega; omega; omega) | (apply w_remU; rfl; rfl; rfl; omega; omega) | (apply w_eqS3T; rfl; rfl; rfl; omega) | (apply w_eqS3F; rfl; rfl; rfl; omega) | (apply w_neS3T; rfl; rfl; rfl; omega) | (apply w_neS3F; rfl; rfl; rfl; omega) | (apply w_eqS3; rfl; rfl; rfl) | (apply w_neS3; rfl; rfl; rfl) | (apply w_eqS2; rfl; rfl; rfl) | (apply w_neS2; rfl; rfl; rfl) | (apply w_maxL; rfl; rfl; rfl; omega) | (apply w_maxG; rfl; rfl; rfl; omega) | (apply w_max; rfl; rfl; rfl) | (apply w_cp; rfl; rfl; first | assumption | exact pcheck_ok _ _ _ | exact time_ok _ | exact check_ok _ _ _ | exact fresh_ok _ _ _ _ | exact rfresh_ok _ _ _ _) | (apply w_cq; rfl; rfl; apply Called.at (h := hF _ (by assumption)); ((focus ((repeat (first | exact Rep.here | apply Rep.there)); done)))) | refine spl ?_ ?_ | intro hc)
        all_goals (apply At_retR (by (first | exact .inl rfl | exact .inr rfl)) Try.results10; ((focus ((repeat (first | exact ResR.nil | (apply ResR.tmp; rfl) | (apply ResR.one; rfl; (focus ((repeat (first | assumption | exact .pt rfl | exact .sl ‹_› rfl | exact .sl1 (by first | assumption | rfl) | apply Rd.there)); done))) | (apply ResR.agg; rfl; (focus ((repeat (first | assumption | exact .pt | exact .sl ‹_› | apply RdAll.there)); done)); rfl))); done))); (refine ⟨?_, rfl⟩; rfl); ((exact frm)))
      · rw [if_neg hx]
        rw [show afterV x ((-l / q + 1) * t) = (x + (-l / q + 1) * t, 0) from by unfold afterV; rw [if_neg (by simpa using timeE_in hn'.2.2.2), if_neg (by omega), if_neg (by omega)]] at hA
        dsimp only at hA
        by_cases hb : x + (-l / q + 1) * t - t + d ≤ now
        · rw [if_pos hb]
          refine Fn3 Try.func10 rfl Try.ntmps10 rfl ?_
          (repeat' first | refine C_drawI (id := 1) [0, 2, 4, 1, 3, 5, 6, 7, 8] (by kernel_rfl) (by kernel_rfl) (by kernel_rfl) rfl ?_ | refine stp ?_ | intro v' hv' | intro (b : Nat) | (apply w_convU; rfl; rfl; omega; omega) | (apply w_convI; rfl; rfl; omega; omega) | (apply w_quoU; rfl; rfl; rfl; omega; omega; omega) | (apply w_remU; rfl; rfl; rfl; omega; omega) | (apply w_eqS3T; rfl; rfl; rfl; omega) | (apply w_eqS3F; rfl; rfl; rfl; omega) | (apply w_neS3T; rfl; rfl; rfl; omega) | (apply w_neS3F; rfl; rfl; rfl; omega) | (apply w_eqS3; rfl; rfl; rfl) | (apply w_neS3; rfl; rfl; rfl) | (apply w_eqS2; rfl; rfl; rfl) | (apply w_neS2; rfl; rfl; rfl) | (apply w_maxL; rfl; rfl; rfl; omega) | (apply w_maxG; rfl; rfl; rfl; omega) | (apply w_max; rfl; rfl; rfl) | (apply w_cp; rfl; rfl; first | assumption | exact pcheck_ok _ _ _ | exact time_ok _ | exact check_ok _ _ _ | exact fresh_ok _ _ _ _ | exact rfresh_ok _ _ _ _) | (apply w_cq; rfl; rfl; apply Called.at (h := hF _ (by assumption)); ((focus ((repeat (first | exact Rep.here | apply Rep.there)); done)))) | refine spl ?_ ?_ | intro hc)
          all_goals (apply At_retR (by (first | exact .inl rfl | exact .inr rfl)) Try.results10; ((focus ((repeat (first | exact ResR.nil | (apply ResR.tmp; rfl) | (apply ResR.one; rfl; (focus ((repeat (first | assumption | exact .pt rfl | exact .sl ‹_› rfl | exact .sl1 (by first | assumption | rfl) | apply Rd.there)); done))) | (apply ResR.agg; rfl; (focus ((repeat (first | assumption | exact .pt | exact .sl ‹_› | apply RdAll.there)); done)); rfl))); done))); (refine ⟨?_, rfl⟩; rfl); ((exact frm)))
        · rw [if_neg hb]
          refine Fn3 Try.func10 rfl Try.ntmps10 rfl ?_
          (repeat' first | refine C_drawI (id := 1) [0, 2, 4, 1, 3, 5, 6, 7, 8] (by kernel_rfl) (by kernel_rfl) (by kernel_rfl) rfl ?_ | refine stp ?_ | intro v' hv' | intro (b : Nat) | (apply w_convU; rfl; rfl; omega; omega) | (apply w_convI; rfl; rfl; omega; omega) | (apply w_quoU; rfl; rfl; rfl; omega; omega; omega) | (apply w_remU; rfl; rfl; rfl; omega; omega) | (apply w_eqS3T; rfl; rfl; rfl; omega) | (apply w_eqS3F; rfl; rfl; rfl; omega) | (apply w_neS3T; rfl; rfl; rfl; omega) | (apply w_neS3F; rfl; rfl; rfl; omega) | (apply w_eqS3; rfl; rfl; rfl) | (apply w_neS3; rfl; rfl; rfl) | (apply w_eqS2; rfl; rfl; rfl) | (apply w_neS2; rfl; rfl; rfl) | (apply w_maxL; rfl; rfl; rfl; omega) | (apply w_maxG; rfl; rfl; rfl; omega) | (apply w_max; rfl; rfl; rfl) | (apply w_cp; rfl; rfl; first | assumption | exact pcheck_ok _ _ _ | exact time_ok _ | exact check_ok _ _ _ | exact fresh_ok _ _ _ _ | exact rfresh_ok _ _ _ _) | (apply w_cq; rfl; rfl; apply Called.at (h := hF _ (by assumption)); ((focus ((repeat (first | exact Rep.here | apply Rep.there)); done)))) | refine spl ?_ ?_ | intro hc)
          all_goals (apply At_retR (by (first | exact .inl rfl | exact .inr rfl)) Try.results10; ((focus ((repeat (first | exact ResR.nil | (apply ResR.tmp; rfl) | (apply ResR.one; rfl; (focus ((repeat (first | assumption | exact .pt rfl | exact .sl ‹_› rfl | exact .sl1 (by first | assumption | rfl) | apply Rd.there)); done))) | (apply ResR.agg; rfl; (focus ((repeat (first | assumption | exact .pt | exact .sl ‹_› | apply RdAll.there)); done)); rfl))); done))); (refine ⟨?_, rfl⟩; rfl); ((exact frm)))
  · rw [if_pos h0]
    refine Fn3 Try.func10 rfl Try.ntmps10 rfl ?_
    (repeat' first | refine C_drawI (id := 1) [0, 2, 4, 1, 3, 5, 6, 7, 8] (by kernel_rfl) (by kernel_rfl) (by kernel_rfl) rfl ?_ | refine stp ?_ | intro v' hv' | intro (b : Nat) | (apply w_convU; rfl; rfl; omega; omega) | (apply w_convI; rfl; rfl; omega; omega) | (apply w_quoU; rfl; rfl; rfl; omega; omega; omega) | (apply w_remU; rfl; rfl; rfl; omega; omega) | (apply w_eqS3T; rfl; rfl; rfl; omega) | (apply w_eqS3F; rfl; rfl; rfl; omega) | (apply w_neS3T; rfl; rfl; rfl; omega) | (apply w_neS3F; rfl; rfl; rfl; omega) | (apply w_eqS3; rfl; rfl; rfl) | (apply w_neS3; rfl; rfl; rfl) | (apply w_eqS2; rfl; rfl; rfl) | (apply w_neS2; rfl; rfl; rfl) | (apply w_maxL; rfl; rfl; rfl; omega) | (apply w_maxG; rfl; rfl; rfl; omega) | (apply w_max; rfl; rfl; rfl) | (apply w_cp; rfl; rfl; first | assumption | exact pcheck_ok _ _ _ | exact time_ok _ | exact check_ok _ _ _ | exact fresh_ok _ _ _ _ | exact rfresh_ok _ _ _ _) | (apply w_cq; rfl; rfl; apply Called.at (h := hF _ (by assumption)); ((focus ((repeat (first | exact Rep.here | apply Rep.there)); done)))) | refine spl ?_ ?_ | intro hc)
    all_goals (apply At_retR (by (first | exact .inl rfl | exact .inr rfl)) Try.results10; ((focus ((repeat (first | exact ResR.nil | (apply ResR.tmp; rfl) | (apply ResR.one; rfl; (focus ((repeat (first | assumption | exact .pt rfl | exact .sl ‹_› rfl | exact .sl1 (by first | assumption | rfl) | apply Rd.there)); done))) | (apply ResR.agg; rfl; (focus ((repeat (first | assumption | exact .pt | exact .sl ‹_› | apply RdAll.there)); done)); rfl))); done))); (refine ⟨?_, rfl⟩; rfl); ((exact frm)))
set_option maxHeartbeats 4000000 in
theorem rrefill_ok (now q d t l e x : Int) (h0 : wrongE now q d t l e x = 0) (R : List HP) : Called Try.prog 13 [int now, par q d t, num l e x] R (is (.tuple #[numV (refillC now q d t l e x).1, int (refillC now q d t l e x).2]) R) := by
  unfold refillC
  obtain ⟨hp, ht, hn⟩ := wrongE_0 h0
  have hp' := hp
  unfold parOk at hp'
  have hn' := numE_0 hn
  have ht' := timeE_0 ht
  by_cases hl : 0 < l
  · rw [if_pos hl]
    refine Fn3 Try.func13 rfl Try.ntmps13 rfl ?_
    (repeat' first | refine stp ?_ | intro v' hv' | intro (b : Nat) | (apply w_convU; rfl; rfl; omega; omega) | (apply w_convI; rfl; rfl; omega; omega) | (apply w_quoU; rfl; rfl; rfl; omega; omega; omega) | (apply w_remU; rfl; rfl; rfl; omega; omega) | (apply w_eqS3T; rfl; rfl; rfl; omega) | (apply w_eqS3F; rfl; rfl; rfl; omega) | (apply w_neS3T; rfl; rfl; rfl; omega) | (apply w_neS3F; rfl; rfl; rfl; omega) | (apply w_eqS3; rfl; rfl; rfl) | (apply w_neS3; rfl; rfl; rfl) | (apply w_eqS2; rfl; rfl; rfl) | (apply w_neS2; rfl; rfl; rfl) | (apply w_maxL; rfl; rfl; rfl; omega) | (apply w_maxG; rfl; rfl; rfl; omega) | (apply w_max; rfl; rfl; rfl) | (apply w_cp; rfl; rfl; first | assumption | exact pcheck_ok _ _ _ | exact time_ok _ | exact check_ok _ _ _ | exact fresh_ok _ _ _ _ | exact rfresh_ok _ _ _ _) | (apply w_cq; rfl; rfl; apply Called.at (h := hF _ (by assumption)); ((focus ((repeat (first | exact Rep.here | apply Rep.there)); done)))) | refine spl ?_ ?_ | intro hc)
    all_goals (apply At_retR (by (first | exact .inl rfl | exact .inr rfl)) Try.results13; ((focus ((repeat (first | exact ResR.nil | (apply ResR.tmp; rfl) | (apply ResR.one; rfl; (focus ((repeat (first | assumption | exact .pt rfl | exact .sl ‹_› rfl | exact .sl1 (by first | assumption | rfl) | apply Rd.there)); done))) | (apply ResR.agg; rfl; (focus ((repeat (first | assumption | exact .pt | exact .sl ‹_› | apply RdAll.there)); done)); rfl))); done))); (refine ⟨?_, rfl⟩; rfl); ((exact frm)))
  · rw [if_neg hl]
    obtain ⟨k0, k1, k2, k3, k4, k5, k6⟩ := k_bounds hp hn'.1 hl
    by_cases hx : 1099511627776 ≤ x + (-l / q + 1) * t
    · rw [if_pos hx]
      refine Fn3 Try.func13 rfl Try.ntmps13 rfl ?_
      (repeat' first | refine stp ?_ | intro v' hv' | intro (b : Nat) | (apply w_convU; rfl; rfl; omega; omega) | (apply w_convI; rfl; rfl; omega; omega) | (apply w_quoU; rfl; rfl; rfl; omega; omega; omega) | (apply w_remU; rfl; rfl; rfl; omega; omega) | (apply w_eqS3T; rfl; rfl; rfl; omega) | (apply w_eqS3F; rfl; rfl; rfl; omega) | (apply w_neS3T; rfl; rfl; rfl; omega) | (apply w_neS3F; rfl; rfl; rfl; omega) | (apply w_eqS3; rfl; rfl; rfl) | (apply w_neS3; rfl; rfl; rfl) | (apply w_eqS2; rfl; rfl; rfl) | (apply w_neS2; rfl; rfl; rfl) | (apply w_maxL; rfl; rfl; rfl; omega) | (apply w_maxG; rfl; rfl; rfl; omega) | (apply w_max; rfl; rfl; rfl) | (apply w_cp; rfl; rfl; first | assumption | exact pcheck_ok _ _ _ | exact time_ok _ | exact check_ok _ _ _ | exact fresh_ok _ _ _ _ | exact rfresh_ok _ _ _ _) | (apply w_cq; rfl; rfl; apply Called.at (h := hF _ (by assumption)); ((focus ((repeat (first | exact Rep.here | apply Rep.there)); done)))) | refine spl ?_ ?_ | intro hc)
      all_goals (apply At_retR (by (first | exact .inl rfl | exact .inr rfl)) Try.results13; ((focus ((repeat (first | exact ResR.nil | (apply ResR.tmp; rfl) | (apply ResR.one; rfl; (focus ((repeat (first | assumption | exact .pt rfl | exact .sl ‹_› rfl | exact .sl1 (by first | assumption | rfl) | apply Rd.there)); done))) | (apply ResR.agg; rfl; (focus ((repeat (first | assumption | exact .pt | exact .sl ‹_› | apply RdAll.there)); done)); rfl))); done))); (refine ⟨?_, rfl⟩; rfl); ((exact frm)))
    · rw [if_neg hx]
      by_cases hb : x + (-l / q + 1) * t - t + d ≤ now
      · rw [if_pos hb]
        refine Fn3 Try.func13 rfl Try.ntmps13 rfl ?_
        (repeat' first | refine stp ?_ | intro v' hv' | intro (b : Nat) | (apply w_convU; rfl; rfl; omega; omega) | (apply w_convI; rfl; rfl; omega; omega) | (apply w_quoU; rfl; rfl; rfl; omega; omega; omega) | (apply w_remU; rfl; rfl; rfl; omega; omega) | (apply w_eqS3T; rfl; rfl; rfl; omega) | (apply w_eqS3F; rfl; rfl; rfl; omega) | (apply w_neS3T; rfl; rfl; rfl; omega) | (apply w_neS3F; rfl; rfl; rfl; omega) | (apply w_eqS3; rfl; rfl; rfl) | (apply w_neS3; rfl; rfl; rfl) | (apply w_eqS2; rfl; rfl; rfl) | (apply w_neS2; rfl; rfl; rfl) | (apply w_maxL; rfl; rfl; rfl; omega) | (apply w_maxG; rfl; rfl; rfl; omega) | (apply w_max; rfl; rfl; rfl) | (apply w_cp; rfl; rfl; first | assumption | exact pcheck_ok _ _ _ | exact time_ok _ | exact check_ok _ _ _ | exact fresh_ok _ _ _ _ | exact rfresh_ok _ _ _ _) | (apply w_cq; rfl; rfl; apply Called.at (h := hF _ (by assumption)); ((focus ((repeat (first | exact Rep.here | apply Rep.there)); done)))) | refine spl ?_ ?_ | intro hc)
        all_goals (apply At_retR (by (first | exact .inl rfl | exact .inr rfl)) Try.results13; ((focus ((repeat (first | exact ResR.nil | (apply ResR.tmp; rfl) | (apply ResR.one; rfl; (focus ((repeat (first | assumption | exact .pt rfl | exact .sl ‹_› rfl | exact .sl1 (by first | assumption | rfl) | apply Rd.there)); done))) | (apply ResR.agg; rfl; (focus ((repeat (first | assumption | exact .pt | exact .sl ‹_› | apply RdAll.there)); done)); rfl))); done))); (refine ⟨?_, rfl⟩; rfl); ((exact frm)))
      · rw [if_neg hb]
        refine Fn3 Try.func13 rfl Try.ntmps13 rfl ?_
        (repeat' first | refine stp ?_ | intro v' hv' | intro (b : Nat) | (apply w_convU; rfl; rfl; omega; omega) | (apply w_convI; rfl; rfl; omega; omega) | (apply w_quoU; rfl; rfl; rfl; omega; omega; omega) | (apply w_remU; rfl; rfl; rfl; omega; omega) | (apply w_eqS3T; rfl; rfl; rfl; omega) | (apply w_eqS3F; rfl; rfl; rfl; omega) | (apply w_neS3T; rfl; rfl; rfl; omega) | (apply w_neS3F; rfl; rfl; rfl; omega) | (apply w_eqS3; rfl; rfl; rfl) | (apply w_neS3; rfl; rfl; rfl) | (apply w_eqS2; rfl; rfl; rfl) | (apply w_neS2; rfl; rfl; rfl) | (apply w_maxL; rfl; rfl; rfl; omega) | (apply w_maxG; rfl; rfl; rfl; omega) | (apply w_max; rfl; rfl; rfl) | (apply w_cp; rfl; rfl; first | assumption | exact pcheck_ok _ _ _ | exact time_ok _ | exact check_ok _ _ _ | exact fresh_ok _ _ _ _ | exact rfresh_ok _ _ _ _) | (apply w_cq; rfl; rfl; apply Called.at (h := hF _ (by assumption)); ((focus ((repeat (first | exact Rep.here | apply Rep.there)); done)))) | refine spl ?_ ?_ | intro hc)
        all_goals (apply At_retR (by (first | exact .inl rfl | exact .inr rfl)) Try.results13; ((focus ((repeat (first | exact ResR.nil | (apply ResR.tmp; rfl) | (apply ResR.one; rfl; (focus ((repeat (first | assumption | exact .pt rfl | exact .sl ‹_› rfl | exact .sl1 (by first | assumption | rfl) | apply Rd.there)); done))) | (apply ResR.agg; rfl; (focus ((repeat (first | assumption | exact .pt | exact .sl ‹_› | apply RdAll.there)); done)); rfl))); done))); (refine ⟨?_, rfl⟩; rfl); ((exact frm)))
end Go.Proofs.Ytecfbhenljkaaaa
