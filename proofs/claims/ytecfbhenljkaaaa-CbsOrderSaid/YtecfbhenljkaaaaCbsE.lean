/- cbs: what is wrong, charged, refilled. Conditions: none. -/
import Derived.Test.YtecfbhenljkaaaaCbsD
set_option linter.all false
set_option linter.deprecated false
namespace Go.Proofs.Ytecfbhenljkaaaa
open Go.Sep
variable [B0 : Base]
/-- What is wrong with params, a time, and numbers. -/
def wrongE (now q d t l e x : Int) : Int := if ¬ parOk q d t then 1 else if timeE now ≠ 0 then timeE now else numE l e x
theorem wrongE_0 {now q d t l e x : Int} (h : wrongE now q d t l e x = 0) : parOk q d t ∧ timeE now = 0 ∧ numE l e x = 0 := by
  unfold wrongE at h
  by_cases hp : parOk q d t
  · rw [if_neg (by simpa using hp)] at h
    by_cases ht : timeE now = 0
    · rw [if_neg (by simpa using ht)] at h; exact ⟨hp, ht, h⟩
    · rw [if_pos ht] at h; exact absurd h ht
  · rw [if_pos hp] at h; cases h
theorem timeE_0 {t : Int} (h : timeE t = 0) : 0 ≤ t ∧ t < 1099511627776 := (timeE_or t).resolve_left (by simpa using h)
theorem timeE_in {t : Int} (h : 0 ≤ t ∧ t < 1099511627776) : timeE t = 0 := by unfold timeE; rw [if_neg (by omega), if_neg (by omega)]
theorem numE_0 {l e x : Int} (h : numE l e x = 0) : -1073741824 ≤ l ∧ l ≤ 1073741824 ∧ (0 ≤ e ∧ e < 1099511627776) ∧ 0 ≤ x ∧ x < 1099511627776 := by
  unfold numE at h
  by_cases hl : l < -1073741824 ∨ 1073741824 < l
  · rw [if_pos hl] at h; cases h
  · rw [if_neg hl] at h
    by_cases he : timeE e = 0
    · rw [if_neg (by simpa using he)] at h
      exact ⟨by omega, by omega, timeE_0 he, timeE_0 h⟩
    · rw [if_pos he] at h; exact absurd h he
theorem first3W (now q d t l e x : Int) (v : Value) (hv : IsSl v 3) (R : List HP) : Called Try.prog 20 [v] (sl 26 1 v [[int (parE q d t)], [int (timeE now)], [int (numE l e x)]] :: R) (is (int (wrongE now q d t l e x)) (sl 26 1 v [[int (parE q d t)], [int (timeE now)], [int (numE l e x)]] :: R)) := by
  have := first3 (parE q d t) (timeE now) (numE l e x) v hv R
  rwa [show (if parE q d t ≠ 0 then parE q d t else if timeE now ≠ 0 then timeE now else numE l e x) = wrongE now q d t l e x from by
    unfold wrongE parE; by_cases hp : parOk q d t <;> simp [hp]] at this

set_option maxHeartbeats 2000000 in
theorem wrong_ok (now q d t l e x : Int) (R : List HP) : Called Try.prog 7 [int now, par q d t, num l e x] R (is (int (wrongE now q d t l e x)) R) := by
  refine Fn3 Try.func7 rfl Try.ntmps7 rfl ?_
  (repeat' first | refine stp ?_ | intro v' hv' | intro (b : Nat) | (apply w_convU; rfl; rfl; omega; omega) | (apply w_convI; rfl; rfl; omega; omega) | (apply w_quoU; rfl; rfl; rfl; omega; omega; omega) | (apply w_remU; rfl; rfl; rfl; omega; omega) | (apply w_cp; rfl; rfl; first | assumption | exact rtime_ok _ | exact may_ok _ _ _ | exact rcheck_ok _ _ _ | exact check_ok _ _ _) | refine spl ?_ ?_ | intro hc)
  all_goals (refine At_ret1 (by (first | exact .inl rfl | exact .inr rfl)) Try.results7 rfl ⟨by (unfold wrongE; congr 1; grind), rfl⟩ (by (exact frm)))
set_option maxHeartbeats 2000000 in
theorem rfresh_ok (now q d t : Int) (R : List HP) : Called Try.prog 25 [int now, par q d t] R (is (.tuple #[numV (freshM now q d t).1, int (freshM now q d t).2]) R) := by
  have hn := timeE_or now
  have hn2 := timeE_or (now + t)
  by_cases hp : parOk q d t
  · have hp' := hp
    unfold parOk at hp'
    have hM := may_ok q d t
    rw [decide_eq_true hp] at hM
    by_cases ht : timeE now = 0
    · have e : freshM now q d t = if 1099511627776 ≤ now + t then ((0, 0, 0), 21) else ((q, now + d, now + t), 0) := by unfold freshM; rw [if_neg (by simpa using hp), if_neg (by simpa using ht)]
      rw [e]
      by_cases hb : 1099511627776 ≤ now + t
      · rw [if_pos hb]
        have h21 : timeE (now + t) = 21 := by unfold timeE; rw [if_neg (by omega), if_pos hb]
        have hT := rtime_ok (now + t)
        have hT0 := rtime_ok now
        rw [h21] at hT
        rw [ht] at hT0
        refine Fn2 Try.func25 rfl Try.ntmps25 rfl ?_
        (repeat' first | refine stp ?_ | intro v' hv' | intro (b : Nat) | (apply w_convU; rfl; rfl; omega; omega) | (apply w_convI; rfl; rfl; omega; omega) | (apply w_quoU; rfl; rfl; rfl; omega; omega; omega) | (apply w_remU; rfl; rfl; rfl; omega; omega) | (apply w_cp; rfl; rfl; first | assumption | exact rtime_ok _ | exact may_ok _ _ _ | exact rcheck_ok _ _ _ | exact check_ok _ _ _) | refine spl ?_ ?_ | intro hc)
        (apply At_retR (by (first | exact .inl rfl | exact .inr rfl)) Try.results25; ((focus ((repeat (first | exact ResR.nil | (apply ResR.tmp; rfl) | (apply ResR.one; rfl; (focus ((repeat (first | assumption | exact .pt rfl | exact .sl ‹_› rfl | exact .sl1 (by first | assumption | rfl) | apply Rd.there)); done))) | (apply ResR.agg; rfl; (focus ((repeat (first | assumption | exact .pt | exact .sl ‹_› | apply RdAll.there)); done)); rfl))); done))); (refine ⟨?_, rfl⟩; rfl); ((exact frm)))
      · rw [if_neg hb]
        have h21 : timeE (now + t) = 0 := by unfold timeE; rw [if_neg (by omega), if_neg hb]
        have hT := rtime_ok (now + t)
        have hT0 := rtime_ok now
        rw [h21] at hT
        rw [ht] at hT0
        refine Fn2 Try.func25 rfl Try.ntmps25 rfl ?_
        (repeat' first | refine stp ?_ | intro v' hv' | intro (b : Nat) | (apply w_convU; rfl; rfl; omega; omega) | (apply w_convI; rfl; rfl; omega; omega) | (apply w_quoU; rfl; rfl; rfl; omega; omega; omega) | (apply w_remU; rfl; rfl; rfl; omega; omega) | (apply w_cp; rfl; rfl; first | assumption | exact rtime_ok _ | exact may_ok _ _ _ | exact rcheck_ok _ _ _ | exact check_ok _ _ _) | refine spl ?_ ?_ | intro hc)
        (apply At_retR (by (first | exact .inl rfl | exact .inr rfl)) Try.results25; ((focus ((repeat (first | exact ResR.nil | (apply ResR.tmp; rfl) | (apply ResR.one; rfl; (focus ((repeat (first | assumption | exact .pt rfl | exact .sl ‹_› rfl | exact .sl1 (by first | assumption | rfl) | apply Rd.there)); done))) | (apply ResR.agg; rfl; (focus ((repeat (first | assumption | exact .pt | exact .sl ‹_› | apply RdAll.there)); done)); rfl))); done))); (refine ⟨?_, rfl⟩; rfl); ((exact frm)))
    · have e : freshM now q d t = ((0, 0, 0), timeE now) := by unfold freshM; rw [if_neg (by simpa using hp), if_pos ht]
      rw [e]
      have hT0 := rtime_ok now
      refine Fn2 Try.func25 rfl Try.ntmps25 rfl ?_
      (repeat' first | refine stp ?_ | intro v' hv' | intro (b : Nat) | (apply w_convU; rfl; rfl; omega; omega) | (apply w_convI; rfl; rfl; omega; omega) | (apply w_quoU; rfl; rfl; rfl; omega; omega; omega) | (apply w_remU; rfl; rfl; rfl; omega; omega) | (apply w_cp; rfl; rfl; first | assumption | exact rtime_ok _ | exact may_ok _ _ _ | exact rcheck_ok _ _ _ | exact check_ok _ _ _) | refine spl ?_ ?_ | intro hc)
      (apply At_retR (by (first | exact .inl rfl | exact .inr rfl)) Try.results25; ((focus ((repeat (first | exact ResR.nil | (apply ResR.tmp; rfl) | (apply ResR.one; rfl; (focus ((repeat (first | assumption | exact .pt rfl | exact .sl ‹_› rfl | exact .sl1 (by first | assumption | rfl) | apply Rd.there)); done))) | (apply ResR.agg; rfl; (focus ((repeat (first | assumption | exact .pt | exact .sl ‹_› | apply RdAll.there)); done)); rfl))); done))); (refine ⟨?_, rfl⟩; rfl); ((exact frm)))
  · have e : freshM now q d t = ((0, 0, 0), 1) := by unfold freshM; rw [if_pos hp]
    rw [e]
    have hM := may_ok q d t
    rw [decide_eq_false hp] at hM
    refine Fn2 Try.func25 rfl Try.ntmps25 rfl ?_
    (repeat' first | refine stp ?_ | intro v' hv' | intro (b : Nat) | (apply w_convU; rfl; rfl; omega; omega) | (apply w_convI; rfl; rfl; omega; omega) | (apply w_quoU; rfl; rfl; rfl; omega; omega; omega) | (apply w_remU; rfl; rfl; rfl; omega; omega) | (apply w_cp; rfl; rfl; first | assumption | exact rtime_ok _ | exact may_ok _ _ _ | exact rcheck_ok _ _ _ | exact check_ok _ _ _) | refine spl ?_ ?_ | intro hc)
    (apply At_retR (by (first | exact .inl rfl | exact .inr rfl)) Try.results25; ((focus ((repeat (first | exact ResR.nil | (apply ResR.tmp; rfl) | (apply ResR.one; rfl; (focus ((repeat (first | assumption | exact .pt rfl | exact .sl ‹_› rfl | exact .sl1 (by first | assumption | rfl) | apply Rd.there)); done))) | (apply ResR.agg; rfl; (focus ((repeat (first | assumption | exact .pt | exact .sl ‹_› | apply RdAll.there)); done)); rfl))); done))); (refine ⟨?_, rfl⟩; rfl); ((exact frm)))

/-- Numbers behind some time that was spent. -/
def chargeM (l e x s : Int) : (Int × Int × Int) × Int := if numE l e x ≠ 0 then ((0, 0, 0), numE l e x) else if s < 0 ∨ l + 1073741824 < s then ((0, 0, 0), 10) else ((l - s, e, x), 0)
set_option maxHeartbeats 2000000 in
theorem charge_ok (l e x s : Int) (R : List HP) : Called Try.prog 11 [num l e x, int s] R (is (.tuple #[numV (chargeM l e x s).1, int (chargeM l e x s).2]) R) := by
  have hC := check_ok l e x
  unfold chargeM
  by_cases h0 : numE l e x = 0
  · rw [if_neg (by simpa using h0)]
    rw [h0] at hC
    have hn := numE_0 h0
    by_cases hs : s < 0 ∨ l + 1073741824 < s
    · rw [if_pos hs]
      refine Fn2 Try.func11 rfl Try.ntmps11 rfl ?_
      (repeat' first | refine stp ?_ | intro v' hv' | intro (b : Nat) | (apply w_convU; rfl; rfl; omega; omega) | (apply w_convI; rfl; rfl; omega; omega) | (apply w_quoU; rfl; rfl; rfl; omega; omega; omega) | (apply w_remU; rfl; rfl; rfl; omega; omega) | (apply w_cp; rfl; rfl; first | assumption | exact rtime_ok _ | exact may_ok _ _ _ | exact rcheck_ok _ _ _ | exact check_ok _ _ _) | refine spl ?_ ?_ | intro hc)
      all_goals first | (exfalso; omega) | skip
      all_goals (apply At_retR (by (first | exact .inl rfl | exact .inr rfl)) Try.results11; ((focus ((repeat (first | exact ResR.nil | (apply ResR.tmp; rfl) | (apply ResR.one; rfl; (focus ((repeat (first | assumption | exact .pt rfl | exact .sl ‹_› rfl | exact .sl1 (by first | assumption | rfl) | apply Rd.there)); done))) | (apply ResR.agg; rfl; (focus ((repeat (first | assumption | exact .pt | exact .sl ‹_› | apply RdAll.there)); done)); rfl))); done))); (refine ⟨?_, rfl⟩; rfl); ((exact frm)))
    · rw [if_neg hs]
      refine Fn2 Try.func11 rfl Try.ntmps11 rfl ?_
      (repeat' first | refine stp ?_ | intro v' hv' | intro (b : Nat) | (apply w_convU; rfl; rfl; omega; omega) | (apply w_convI; rfl; rfl; omega; omega) | (apply w_quoU; rfl; rfl; rfl; omega; omega; omega) | (apply w_remU; rfl; rfl; rfl; omega; omega) | (apply w_cp; rfl; rfl; first | assumption | exact rtime_ok _ | exact may_ok _ _ _ | exact rcheck_ok _ _ _ | exact check_ok _ _ _) | refine spl ?_ ?_ | intro hc)
      all_goals first | (exfalso; omega) | skip
      all_goals (apply At_retR (by (first | exact .inl rfl | exact .inr rfl)) Try.results11; ((focus ((repeat (first | exact ResR.nil | (apply ResR.tmp; rfl) | (apply ResR.one; rfl; (focus ((repeat (first | assumption | exact .pt rfl | exact .sl ‹_› rfl | exact .sl1 (by first | assumption | rfl) | apply Rd.there)); done))) | (apply ResR.agg; rfl; (focus ((repeat (first | assumption | exact .pt | exact .sl ‹_› | apply RdAll.there)); done)); rfl))); done))); (refine ⟨?_, rfl⟩; rfl); ((exact frm)))
  · rw [if_pos h0]
    refine Fn2 Try.func11 rfl Try.ntmps11 rfl ?_
    (repeat' first | refine stp ?_ | intro v' hv' | intro (b : Nat) | (apply w_convU; rfl; rfl; omega; omega) | (apply w_convI; rfl; rfl; omega; omega) | (apply w_quoU; rfl; rfl; rfl; omega; omega; omega) | (apply w_remU; rfl; rfl; rfl; omega; omega) | (apply w_cp; rfl; rfl; first | assumption | exact rtime_ok _ | exact may_ok _ _ _ | exact rcheck_ok _ _ _ | exact check_ok _ _ _) | refine spl ?_ ?_ | intro hc)
    all_goals (apply At_retR (by (first | exact .inl rfl | exact .inr rfl)) Try.results11; ((focus ((repeat (first | exact ResR.nil | (apply ResR.tmp; rfl) | (apply ResR.one; rfl; (focus ((repeat (first | assumption | exact .pt rfl | exact .sl ‹_› rfl | exact .sl1 (by first | assumption | rfl) | apply Rd.there)); done))) | (apply ResR.agg; rfl; (focus ((repeat (first | assumption | exact .pt | exact .sl ‹_› | apply RdAll.there)); done)); rfl))); done))); (refine ⟨?_, rfl⟩; rfl); ((exact frm)))
end Go.Proofs.Ytecfbhenljkaaaa
