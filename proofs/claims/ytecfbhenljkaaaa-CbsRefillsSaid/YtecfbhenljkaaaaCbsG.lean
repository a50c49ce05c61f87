/- cbs: from when a server has no claim any more; the functions of the statements. Conditions: none. -/
import Derived.Test.YtecfbhenljkaaaaCbsF
set_option linter.all false
set_option linter.deprecated false
namespace Go.Proofs.Ytecfbhenljkaaaa
open Go.Sep
variable [B0 : Base]
def lagV (q t l e : Int) : Int := if l < 1 then e else if 0 < e - l * t / q then e - l * t / q else 0
def lagM (q d t l e x : Int) : Int × Int := if ¬ parOk q d t then (0, 1) else if numE l e x ≠ 0 then (0, numE l e x) else (lagV q t l e, 0)
theorem way_bounds {q d t l : Int} (hp : parOk q d t) (h : l ≤ 1073741824) (hl : 0 ≤ l) : 0 ≤ l * t ∧ l * t ≤ 1073741824 * 1073741824 ∧ 0 ≤ l * t / q ∧ l * t / q ≤ 1073741824 * 1073741824 := by
  unfold parOk at hp
  have h1 : 0 ≤ l * t := Int.mul_nonneg hl (by omega)
  have h2 : l * t ≤ 1073741824 * 1073741824 := Int.mul_le_mul h (by omega) (by omega) (by omega)
  have h3 := Int.ediv_le_self q h1
  exact ⟨h1, h2, Int.ediv_nonneg h1 (by omega), by omega⟩
set_option maxHeartbeats 4000000 in
theorem lag_ok (q d t l e x : Int) (R : List HP) : Called Try.prog 14 [par q d t, num l e x] R (is (.tuple #[int (lagM q d t l e x).1, int (lagM q d t l e x).2]) R) := by
  have hF := first2 (parE q d t) (numE l e x)
  unfold lagM
  by_cases hp : parOk q d t
  · rw [if_neg (by simpa using hp)]
    have hp' := hp
    unfold parOk at hp'
    by_cases hn : numE l e x = 0
    · rw [if_neg (by simpa using hn)]
      rw [show (if parE q d t ≠ 0 then parE q d t else numE l e x) = 0 from by rw [parE_ok hp, hn]; rfl] at hF
      have hn' := numE_0 hn
      unfold lagV
      by_cases hl : l < 1
      · rw [if_pos hl]
        have hD := div_ok 0 t q (by omega) (by omega) (by omega) (by omega) (by omega) (by omega)
        rw [Int.zero_mul, Int.zero_ediv] at hD
        by_cases hz : l = 0
        · subst hz
          by_cases he : e = 0
          · subst he
            refine Fn2 Try.func14 rfl Try.ntmps14 rfl ?_
            (repeat' first | refine C_drawI (id := 1) [0, 2, 1, 3, 4, 5, 6] (by kernel_rfl) (by kernel_rfl) (by kernel_rfl) rfl ?_ | refine stp ?_ | intro v' hv' | intro (b : Nat) | (apply w_convU; rfl; rfl; omega; omega) | (apply w_convI; rfl; rfl; omega; omega) | (apply w_quoU; rfl; rfl; rfl; omega; omega; omega) | (apply w_remU; rfl; rfl; rfl; omega; omega) | (apply w_eqS3T; rfl; rfl; rfl; omega) | (apply w_eqS3F; rfl; rfl; rfl; omega) | (apply w_neS3T; rfl; rfl; rfl; omega) | (apply w_neS3F; rfl; rfl; rfl; omega) | (apply w_eqS3; rfl; rfl; rfl) | (apply w_neS3; rfl; rfl; rfl) | (apply w_eqS2; rfl; rfl; rfl) | (apply w_neS2; rfl; rfl; rfl) | (apply w_maxL; rfl; rfl; rfl; omega) | (apply w_maxG; rfl; rfl; rfl; omega) | (apply w_max; rfl; rfl; rfl) | (apply w_cp; rfl; rfl; first | assumption | exact pcheck_ok _ _ _ | exact check_ok _ _ _) | (apply w_cq; rfl; rfl; apply Called.at (h := hF _ (by assumption)); ((focus ((repeat (first | exact Rep.here | apply Rep.there)); done)))) | refine spl ?_ ?_ | intro hc)
            all_goals (apply At_retR (by (first | exact .inl rfl | exact .inr rfl)) Try.results14; ((focus ((repeat (first | exact ResR.nil | (apply ResR.tmp; rfl) | (apply ResR.one; rfl; (focus ((repeat (first | assumption | exact .pt rfl | exact .sl ‹_› rfl | exact .sl1 (by first | assumption | rfl) | apply Rd.there)); done))) | (apply ResR.agg; rfl; (focus ((repeat (first | assumption | exact .pt | exact .sl ‹_› | apply RdAll.there)); done)); rfl))); done))); (refine ⟨?_, rfl⟩; rfl); ((exact frm)))
          · refine Fn2 Try.func14 rfl Try.ntmps14 rfl ?_
            (repeat' first | refine C_drawI (id := 1) [0, 2, 1, 3, 4, 5, 6] (by kernel_rfl) (by kernel_rfl) (by kernel_rfl) rfl ?_ | refine stp ?_ | intro v' hv' | intro (b : Nat) | (apply w_convU; rfl; rfl; omega; omega) | (apply w_convI; rfl; rfl; omega; omega) | (apply w_quoU; rfl; rfl; rfl; omega; omega; omega) | (apply w_remU; rfl; rfl; rfl; omega; omega) | (apply w_eqS3T; rfl; rfl; rfl; omega) | (apply w_eqS3F; rfl; rfl; rfl; omega) | (apply w_neS3T; rfl; rfl; rfl; omega) | (apply w_neS3F; rfl; rfl; rfl; omega) | (apply w_eqS3; rfl; rfl; rfl) | (apply w_neS3; rfl; rfl; rfl) | (apply w_eqS2; rfl; rfl; rfl) | (apply w_neS2; rfl; rfl; rfl) | (apply w_maxL; rfl; rfl; rfl; omega) | (apply w_maxG; rfl; rfl; rfl; omega) | (apply w_max; rfl; rfl; rfl) | (apply w_cp; rfl; rfl; first | assumption | exact pcheck_ok _ _ _ | exact check_ok _ _ _) | (apply w_cq; rfl; rfl; apply Called.at (h := hF _ (by assumption)); ((focus ((repeat (first | exact Rep.here | apply Rep.there)); done)))) | refine spl ?_ ?_ | intro hc)
            all_goals (apply At_retR (by (first | exact .inl rfl | exact .inr rfl)) Try.results14; ((focus ((repeat (first | exact ResR.nil | (apply ResR.tmp; rfl) | (apply ResR.one; rfl; (focus ((repeat (first | assumption | exact .pt rfl | exact .sl ‹_› rfl | exact .sl1 (by first | assumption | rfl) | apply Rd.there)); done))) | (apply ResR.agg; rfl; (focus ((repeat (first | assumption | exact .pt | exact .sl ‹_› | apply RdAll.there)); done)); rfl))); done))); (refine ⟨?_, rfl⟩; (first | rfl | (simp only [Int.sub_zero]; rfl))); ((exact frm)))
        · by_cases he : e = 0
          · subst he
            refine Fn2 Try.func14 rfl Try.ntmps14 rfl ?_
            (repeat' first | refine C_drawI (id := 1) [0, 2, 1, 3, 4, 5, 6] (by kernel_rfl) (by kernel_rfl) (by kernel_rfl) rfl ?_ | refine stp ?_ | intro v' hv' | intro (b : Nat) | (apply w_convU; rfl; rfl; omega; omega) | (apply w_convI; rfl; rfl; omega; omega) | (apply w_quoU; rfl; rfl; rfl; omega; omega; omega) | (apply w_remU; rfl; rfl; rfl; omega; omega) | (apply w_eqS3T; rfl; rfl; rfl; omega) | (apply w_eqS3F; rfl; rfl; rfl; omega) | (apply w_neS3T; rfl; rfl; rfl; omega) | (apply w_neS3F; rfl; rfl; rfl; omega) | (apply w_eqS3; rfl; rfl; rfl) | (apply w_neS3; rfl; rfl; rfl) | (apply w_eqS2; rfl; rfl; rfl) | (apply w_neS2; rfl; rfl; rfl) | (apply w_maxL; rfl; rfl; rfl; omega) | (apply w_maxG; rfl; rfl; rfl; omega) | (apply w_max; rfl; rfl; rfl) | (apply w_cp; rfl; rfl; first | assumption | exact pcheck_ok _ _ _ | exact check_ok _ _ _) | (apply w_cq; rfl; rfl; apply Called.at (h := hF _ (by assumption)); ((focus ((repeat (first | exact Rep.here | apply Rep.there)); done)))) | refine spl ?_ ?_ | intro hc)
            all_goals (apply At_retR (by (first | exact .inl rfl | exact .inr rfl)) Try.results14; ((focus ((repeat (first | exact ResR.nil | (apply ResR.tmp; rfl) | (apply ResR.one; rfl; (focus ((repeat (first | assumption | exact .pt rfl | exact .sl ‹_› rfl | exact .sl1 (by first | assumption | rfl) | apply Rd.there)); done))) | (apply ResR.agg; rfl; (focus ((repeat (first | assumption | exact .pt | exact .sl ‹_› | apply RdAll.there)); done)); rfl))); done))); (refine ⟨?_, rfl⟩; rfl); ((exact frm)))
          · refine Fn2 Try.func14 rfl Try.ntmps14 rfl ?_
            (repeat' first | refine C_drawI (id := 1) [0, 2, 1, 3, 4, 5, 6] (by kernel_rfl) (by kernel_rfl) (by kernel_rfl) rfl ?_ | refine stp ?_ | intro v' hv' | intro (b : Nat) | (apply w_convU; rfl; rfl; omega; omega) | (apply w_convI; rfl; rfl; omega; omega) | (apply w_quoU; rfl; rfl; rfl; omega; omega; omega) | (apply w_remU; rfl; rfl; rfl; omega; omega) | (apply w_eqS3T; rfl; rfl; rfl; omega) | (apply w_eqS3F; rfl; rfl; rfl; omega) | (apply w_neS3T; rfl; rfl; rfl; omega) | (apply w_neS3F; rfl; rfl; rfl; omega) | (apply w_eqS3; rfl; rfl; rfl) | (apply w_neS3; rfl; rfl; rfl) | (apply w_eqS2; rfl; rfl; rfl) | (apply w_neS2; rfl; rfl; rfl) | (apply w_maxL; rfl; rfl; rfl; omega) | (apply w_maxG; rfl; rfl; rfl; omega) | (apply w_max; rfl; rfl; rfl) | (apply w_cp; rfl; rfl; first | assumption | exact pcheck_ok _ _ _ | exact check_ok _ _ _) | (apply w_cq; rfl; rfl; apply Called.at (h := hF _ (by assumption)); ((focus ((repeat (first | exact Rep.here | apply Rep.there)); done)))) | refine spl ?_ ?_ | intro hc)
            all_goals (apply At_retR (by (first | exact .inl rfl | exact .inr rfl)) Try.results14; ((focus ((repeat (first | exact ResR.nil | (apply ResR.tmp; rfl) | (apply ResR.one; rfl; (focus ((repeat (first | assumption | exact .pt rfl | exact .sl ‹_› rfl | exact .sl1 (by first | assumption | rfl) | apply Rd.there)); done))) | (apply ResR.agg; rfl; (focus ((repeat (first | assumption | exact .pt | exact .sl ‹_› | apply RdAll.there)); done)); rfl))); done))); (refine ⟨?_, rfl⟩; (first | rfl | (simp only [Int.sub_zero]; rfl))); ((exact frm)))
      · rw [if_neg hl]
        have hD := div_ok l t q (by omega) (by omega) (by omega) (by omega) (by omega) (by omega)
        obtain ⟨w1, w2, w3, w4⟩ := way_bounds hp hn'.2.1 (by omega)
        refine Fn2 Try.func14 rfl Try.ntmps14 rfl ?_
        (repeat' first | refine C_drawI (id := 1) [0, 2, 1, 3, 4, 5, 6] (by kernel_rfl) (by kernel_rfl) (by kernel_rfl) rfl ?_ | refine stp ?_ | intro v' hv' | intro (b : Nat) | (apply w_convU; rfl; rfl; omega; omega) | (apply w_convI; rfl; rfl; omega; omega) | (apply w_quoU; rfl; rfl; rfl; omega; omega; omega) | (apply w_remU; rfl; rfl; rfl; omega; omega) | (apply w_eqS3T; rfl; rfl; rfl; omega) | (apply w_eqS3F; rfl; rfl; rfl; omega) | (apply w_neS3T; rfl; rfl; rfl; omega) | (apply w_neS3F; rfl; rfl; rfl; omega) | (apply w_eqS3; rfl; rfl; rfl) | (apply w_neS3; rfl; rfl; rfl) | (apply w_eqS2; rfl; rfl; rfl) | (apply w_neS2; rfl; rfl; rfl) | (apply w_maxL; rfl; rfl; rfl; omega) | (apply w_maxG; rfl; rfl; rfl; omega) | (apply w_max; rfl; rfl; rfl) | (apply w_cp; rfl; rfl; first | assumption | exact pcheck_ok _ _ _ | exact check_ok _ _ _) | (apply w_cq; rfl; rfl; apply Called.at (h := hF _ (by assumption)); ((focus ((repeat (first | exact Rep.here | apply Rep.there)); done)))) | refine spl ?_ ?_ | intro hc)
        all_goals (apply At_retR (by (first | exact .inl rfl | exact .inr rfl)) Try.results14; ((focus ((repeat (first | exact ResR.nil | (apply ResR.tmp; rfl) | (apply ResR.one; rfl; (focus ((repeat (first | assumption | exact .pt rfl | exact .sl ‹_› rfl | exact .sl1 (by first | assumption | rfl) | apply Rd.there)); done))) | (apply ResR.agg; rfl; (focus ((repeat (first | assumption | exact .pt | exact .sl ‹_› | apply RdAll.there)); done)); rfl))); done))); (refine ⟨?_, rfl⟩; rfl); ((exact frm)))
    · rw [if_pos hn]
      rw [show (if parE q d t ≠ 0 then parE q d t else numE l e x) = numE l e x from by rw [parE_ok hp]; rfl] at hF
      refine Fn2 Try.func14 rfl Try.ntmps14 rfl ?_
      (repeat' first | refine C_drawI (id := 1) [0, 2, 1, 3, 4, 5, 6] (by kernel_rfl) (by kernel_rfl) (by kernel_rfl) rfl ?_ | refine stp ?_ | intro v' hv' | intro (b : Nat) | (apply w_convU; rfl; rfl; omega; omega) | (apply w_convI; rfl; rfl; omega; omega) | (apply w_quoU; rfl; rfl; rfl; omega; omega; omega) | (apply w_remU; rfl; rfl; rfl; omega; omega) | (apply w_eqS3T; rfl; rfl; rfl; omega) | (apply w_eqS3F; rfl; rfl; rfl; omega) | (apply w_neS3T; rfl; rfl; rfl; omega) | (apply w_neS3F; rfl; rfl; rfl; omega) | (apply w_eqS3; rfl; rfl; rfl) | (apply w_neS3; rfl; rfl; rfl) | (apply w_eqS2; rfl; rfl; rfl) | (apply w_neS2; rfl; rfl; rfl) | (apply w_maxL; rfl; rfl; rfl; omega) | (apply w_maxG; rfl; rfl; rfl; omega) | (apply w_max; rfl; rfl; rfl) | (apply w_cp; rfl; rfl; first | assumption | exact pcheck_ok _ _ _ | exact check_ok _ _ _) | (apply w_cq; rfl; rfl; apply Called.at (h := hF _ (by assumption)); ((focus ((repeat (first | exact Rep.here | apply Rep.there)); done)))) | refine spl ?_ ?_ | intro hc)
      all_goals (apply At_retR (by (first | exact .inl rfl | exact .inr rfl)) Try.results14; ((focus ((repeat (first | exact ResR.nil | (apply ResR.tmp; rfl) | (apply ResR.one; rfl; (focus ((repeat (first | assumption | exact .pt rfl | exact .sl ‹_› rfl | exact .sl1 (by first | assumption | rfl) | apply Rd.there)); done))) | (apply ResR.agg; rfl; (focus ((repeat (first | assumption | exact .pt | exact .sl ‹_› | apply RdAll.there)); done)); rfl))); done))); (refine ⟨?_, rfl⟩; rfl); ((exact frm)))
  · rw [if_pos hp]
    rw [show (if parE q d t ≠ 0 then parE q d t else numE l e x) = 1 from by rw [parE_no hp]; rfl] at hF
    refine Fn2 Try.func14 rfl Try.ntmps14 rfl ?_
    (repeat' first | refine C_drawI (id := 1) [0, 2, 1, 3, 4, 5, 6] (by kernel_rfl) (by kernel_rfl) (by kernel_rfl) rfl ?_ | refine stp ?_ | intro v' hv' | intro (b : Nat) | (apply w_convU; rfl; rfl; omega; omega) | (apply w_convI; rfl; rfl; omega; omega) | (apply w_quoU; rfl; rfl; rfl; omega; omega; omega) | (apply w_remU; rfl; rfl; rfl; omega; omega) | (apply w_eqS3T; rfl; rfl; rfl; omega) | (apply w_eqS3F; rfl; rfl; rfl; omega) | (apply w_neS3T; rfl; rfl; rfl; omega) | (apply w_neS3F; rfl; rfl; rfl; omega) | (apply w_eqS3; rfl; rfl; rfl) | (apply w_neS3; rfl; rfl; rfl) | (apply w_eqS2; rfl; rfl; rfl) | (apply w_neS2; rfl; rfl; rfl) | (apply w_maxL; rfl; rfl; rfl; omega) | (apply w_maxG; rfl; rfl; rfl; omega) | (apply w_max; rfl; rfl; rfl) | (apply w_cp; rfl; rfl; first | assumption | exact pcheck_ok _ _ _ | exact check_ok _ _ _) | (apply w_cq; rfl; rfl; apply Called.at (h := hF _ (by assumption)); ((focus ((repeat (first | exact Rep.here | apply Rep.there)); done)))) | refine spl ?_ ?_ | intro hc)
    all_goals (apply At_retR (by (first | exact .inl rfl | exact .inr rfl)) Try.results14; ((focus ((repeat (first | exact ResR.nil | (apply ResR.tmp; rfl) | (apply ResR.one; rfl; (focus ((repeat (first | assumption | exact .pt rfl | exact .sl ‹_› rfl | exact .sl1 (by first | assumption | rfl) | apply Rd.there)); done))) | (apply ResR.agg; rfl; (focus ((repeat (first | assumption | exact .pt | exact .sl ‹_› | apply RdAll.there)); done)); rfl))); done))); (refine ⟨?_, rfl⟩; rfl); ((exact frm)))
set_option maxHeartbeats 4000000 in
theorem rlag_ok (q d t l e x : Int) (hp : parOk q d t) (hn : numE l e x = 0) (R : List HP) : Called Try.prog 15 [par q d t, num l e x] R (is (int (lagV q t l e)) R) := by
  have hp' := hp
  unfold parOk at hp'
  have hn' := numE_0 hn
  unfold lagV
  by_cases hl : l < 1
  · rw [if_pos hl]
    refine Fn2 Try.func15 rfl Try.ntmps15 rfl ?_
    (repeat' first | refine stp ?_ | intro v' hv' | intro (b : Nat) | (apply w_convU; rfl; rfl; omega; omega) | (apply w_convI; rfl; rfl; omega; omega) | (apply w_quoU; rfl; rfl; rfl; omega; omega; omega) | (apply w_remU; rfl; rfl; rfl; omega; omega) | (apply w_eqS3T; rfl; rfl; rfl; omega) | (apply w_eqS3F; rfl; rfl; rfl; omega) | (apply w_neS3T; rfl; rfl; rfl; omega) | (apply w_neS3F; rfl; rfl; rfl; omega) | (apply w_eqS3; rfl; rfl; rfl) | (apply w_neS3; rfl; rfl; rfl) | (apply w_eqS2; rfl; rfl; rfl) | (apply w_neS2; rfl; rfl; rfl) | (apply w_maxL; rfl; rfl; rfl; omega) | (apply w_maxG; rfl; rfl; rfl; omega) | (apply w_max; rfl; rfl; rfl) | (apply w_cp; rfl; rfl; first | assumption | exact pcheck_ok _ _ _ | exact check_ok _ _ _) | (apply w_cq; rfl; rfl; apply Called.at (h := hF _ (by assumption)); ((focus ((repeat (first | exact Rep.here | apply Rep.there)); done)))) | refine spl ?_ ?_ | intro hc)
    all_goals (refine At_ret1 (by (first | exact .inl rfl | exact .inr rfl)) Try.results15 rfl ⟨by rfl, rfl⟩ (by (exact frm)))
  · rw [if_neg hl]
    obtain ⟨w1, w2, w3, w4⟩ := way_bounds hp hn'.2.1 (by omega)
    refine Fn2 Try.func15 rfl Try.ntmps15 rfl ?_
    (repeat' first | refine stp ?_ | intro v' hv' | intro (b : Nat) | (apply w_convU; rfl; rfl; omega; omega) | (apply w_convI; rfl; rfl; omega; omega) | (apply w_quoU; rfl; rfl; rfl; omega; omega; omega) | (apply w_remU; rfl; rfl; rfl; omega; omega) | (apply w_eqS3T; rfl; rfl; rfl; omega) | (apply w_eqS3F; rfl; rfl; rfl; omega) | (apply w_neS3T; rfl; rfl; rfl; omega) | (apply w_neS3F; rfl; rfl; rfl; omega) | (apply w_eqS3; rfl; rfl; rfl) | (apply w_neS3; rfl; rfl; rfl) | (apply w_eqS2; rfl; rfl; rfl) | (apply w_neS2; rfl; rfl; rfl) | (apply w_maxL; rfl; rfl; rfl; omega) | (apply w_maxG; rfl; rfl; rfl; omega) | (apply w_max; rfl; rfl; rfl) | (apply w_cp; rfl; rfl; first | assumption | exact pcheck_ok _ _ _ | exact check_ok _ _ _) | (apply w_cq; rfl; rfl; apply Called.at (h := hF _ (by assumption)); ((focus ((repeat (first | exact Rep.here | apply Rep.there)); done)))) | refine spl ?_ ?_ | intro hc)
    all_goals (refine At_ret1 (by (first | exact .inl rfl | exact .inr rfl)) Try.results15 rfl ⟨by rfl, rfl⟩ (by (exact frm)))
theorem plain_ok (l e x : Int) (R : List HP) : Called Try.prog 8 [num l e x] R (is (num l e x) R) := by
  refine Fn1 Try.func8 rfl Try.ntmps8 rfl ?_
  (repeat' first | refine stp ?_ | intro v' hv' | intro (b : Nat) | (apply w_convU; rfl; rfl; omega; omega) | (apply w_convI; rfl; rfl; omega; omega) | (apply w_quoU; rfl; rfl; rfl; omega; omega; omega) | (apply w_remU; rfl; rfl; rfl; omega; omega) | (apply w_eqS3T; rfl; rfl; rfl; omega) | (apply w_eqS3F; rfl; rfl; rfl; omega) | (apply w_neS3T; rfl; rfl; rfl; omega) | (apply w_neS3F; rfl; rfl; rfl; omega) | (apply w_eqS3; rfl; rfl; rfl) | (apply w_neS3; rfl; rfl; rfl) | (apply w_eqS2; rfl; rfl; rfl) | (apply w_neS2; rfl; rfl; rfl) | (apply w_maxL; rfl; rfl; rfl; omega) | (apply w_maxG; rfl; rfl; rfl; omega) | (apply w_max; rfl; rfl; rfl) | (apply w_cp; rfl; rfl; first | assumption | exact pcheck_ok _ _ _ | exact check_ok _ _ _) | (apply w_cq; rfl; rfl; apply Called.at (h := hF _ (by assumption)); ((focus ((repeat (first | exact Rep.here | apply Rep.there)); done)))) | refine spl ?_ ?_ | intro hc)
  all_goals (apply At_retR (by (first | exact .inl rfl | exact .inr rfl)) Try.results8; ((focus ((repeat (first | exact ResR.nil | (apply ResR.tmp; rfl) | (apply ResR.one; rfl; (focus ((repeat (first | assumption | exact .pt rfl | exact .sl ‹_› rfl | exact .sl1 (by first | assumption | rfl) | apply Rd.there)); done))) | (apply ResR.agg; rfl; (focus ((repeat (first | assumption | exact .pt | exact .sl ‹_› | apply RdAll.there)); done)); rfl))); done))); (refine ⟨?_, rfl⟩; rfl); ((exact frm)))
set_option maxHeartbeats 4000000 in
theorem awake_ok (R : List HP) : Called Try.prog 9 [] R (is (.bool true) R) := by
  have hA := fresh_ok 7 10 50 100
  rw [show freshM 7 10 50 100 = ((10, 57, 107), 0) from by decide] at hA
  have hB := refill_ok 60 10 50 100 (-5) 57 107
  rw [show refillM 60 10 50 100 (-5) 57 107 = ((5, 157, 207), 0) from by decide] at hB
  have hC := lag_ok 10 50 100 5 157 207
  rw [show lagM 10 50 100 5 157 207 = (107, 0) from by decide] at hC
  dsimp only [numV] at hA hB hC
  refine Fn0 Try.func9 rfl Try.ntmps9 ?_
  (repeat' first | refine stp ?_ | intro v' hv' | intro (b : Nat) | (apply w_convU; rfl; rfl; omega; omega) | (apply w_convI; rfl; rfl; omega; omega) | (apply w_quoU; rfl; rfl; rfl; omega; omega; omega) | (apply w_remU; rfl; rfl; rfl; omega; omega) | (apply w_eqS3T; rfl; rfl; rfl; omega) | (apply w_eqS3F; rfl; rfl; rfl; omega) | (apply w_neS3T; rfl; rfl; rfl; omega) | (apply w_neS3F; rfl; rfl; rfl; omega) | (apply w_eqS3; rfl; rfl; rfl) | (apply w_neS3; rfl; rfl; rfl) | (apply w_eqS2; rfl; rfl; rfl) | (apply w_neS2; rfl; rfl; rfl) | (apply w_maxL; rfl; rfl; rfl; omega) | (apply w_maxG; rfl; rfl; rfl; omega) | (apply w_max; rfl; rfl; rfl) | (apply w_cp; rfl; rfl; assumption) | refine spl ?_ ?_ | intro hc)
  all_goals (refine At_ret1 (by (first | exact .inl rfl | exact .inr rfl)) Try.results9 rfl ⟨by rfl, rfl⟩ (by (exact frm)))
end Go.Proofs.Ytecfbhenljkaaaa
