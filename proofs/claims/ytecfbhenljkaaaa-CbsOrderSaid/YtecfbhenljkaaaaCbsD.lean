/- cbs: numbers of a period that begins now. Conditions: none. -/
import Derived.Test.YtecfbhenljkaaaaCbsC
set_option linter.all false
set_option linter.deprecated false
namespace Go.Proofs.Ytecfbhenljkaaaa
open Go.Sep
variable [B0 : Base]
def numV (x : Int × Int × Int) : Value := num x.1 x.2.1 x.2.2
def freshM (now q d t : Int) : (Int × Int × Int) × Int :=
  if ¬ parOk q d t then ((0, 0, 0), 1) else if timeE now ≠ 0 then ((0, 0, 0), timeE now) else if 1099511627776 ≤ now + t then ((0, 0, 0), 21) else ((q, now + d, now + t), 0)
theorem parE_ok {q d t : Int} (h : parOk q d t) : parE q d t = 0 := if_pos h
theorem parE_no {q d t : Int} (h : ¬ parOk q d t) : parE q d t = 1 := if_neg h
set_option maxHeartbeats 2000000 in
theorem fresh_ok (now q d t : Int) (R : List HP) : Called Try.prog 19 [int now, par q d t] R (is (.tuple #[numV (freshM now q d t).1, int (freshM now q d t).2]) R) := by
  have hP := pcheck_ok q d t
  have hT := time_ok now
  have hF := first2 (parE q d t) (timeE now)
  by_cases hp : parOk q d t
  · rw [parE_ok hp] at hP hF
    by_cases ht : timeE now = 0
    · have hn := timeE_or now
      rw [ht] at hT hF
      simp only [ne_eq, not_true_eq_false, if_false] at hF
      have hp' := hp
      unfold parOk at hp'
      have go : ∀ a b x y : Int, afterV now d = (a, x) → afterV now t = (b, y) → freshM now q d t = (if x ≠ 0 then ((0, 0, 0), x) else if y ≠ 0 then ((0, 0, 0), y) else ((q, a, b), 0)) → Called Try.prog 19 [int now, par q d t] R (is (.tuple #[numV (freshM now q d t).1, int (freshM now q d t).2]) R) := by
        intro a b x y h1 h2 h3
        rw [h3]
        have hA := after_ok now d
        have hB := after_ok now t
        rw [h1] at hA
        rw [h2] at hB
        dsimp only at hA hB
        have hG := first2 x y
        clear h1 h2 h3
        by_cases hx : x = 0
        · subst hx
          by_cases hy : y = 0
          · subst hy
            clear hG
            refine Fn2 Try.func19 rfl Try.ntmps19 rfl ?_
            (repeat' first | refine stp ?_ | intro v' hv' | intro (b : Nat) | (apply w_convU; rfl; rfl; omega; omega) | (apply w_convI; rfl; rfl; omega; omega) | (apply w_quoU; rfl; rfl; rfl; omega; omega; omega) | (apply w_remU; rfl; rfl; rfl; omega; omega) | (apply w_cp; rfl; rfl; assumption) | (apply w_cq; rfl; rfl; apply Called.at (h := hF _ (by assumption)); ((focus ((repeat (first | exact Rep.here | apply Rep.there)); done)))) | (apply w_cq; rfl; rfl; apply Called.at (h := hG _ (by assumption)); ((focus ((repeat (first | exact Rep.here | apply Rep.there)); done)))) | refine spl ?_ ?_ | intro hc)
            (apply At_retR (by (first | exact .inl rfl | exact .inr rfl)) Try.results19; ((focus ((repeat (first | exact ResR.nil | (apply ResR.tmp; rfl) | (apply ResR.one; rfl; (focus ((repeat (first | assumption | exact .pt rfl | exact .sl ‹_› rfl | exact .sl1 (by first | assumption | rfl) | apply Rd.there)); done))) | (apply ResR.agg; rfl; (focus ((repeat (first | assumption | exact .pt | exact .sl ‹_› | apply RdAll.there)); done)); rfl))); done))); (refine ⟨?_, rfl⟩; rfl); ((exact frm)))
          · simp only [ne_eq, not_true_eq_false, if_false, hy, not_false_eq_true, if_true] at hG ⊢
            refine Fn2 Try.func19 rfl Try.ntmps19 rfl ?_
            (repeat' first | refine stp ?_ | intro v' hv' | intro (b : Nat) | (apply w_convU; rfl; rfl; omega; omega) | (apply w_convI; rfl; rfl; omega; omega) | (apply w_quoU; rfl; rfl; rfl; omega; omega; omega) | (apply w_remU; rfl; rfl; rfl; omega; omega) | (apply w_cp; rfl; rfl; assumption) | (apply w_cq; rfl; rfl; apply Called.at (h := hF _ (by assumption)); ((focus ((repeat (first | exact Rep.here | apply Rep.there)); done)))) | (apply w_cq; rfl; rfl; apply Called.at (h := hG _ (by assumption)); ((focus ((repeat (first | exact Rep.here | apply Rep.there)); done)))) | refine spl ?_ ?_ | intro hc)
            (apply At_retR (by (first | exact .inl rfl | exact .inr rfl)) Try.results19; ((focus ((repeat (first | exact ResR.nil | (apply ResR.tmp; rfl) | (apply ResR.one; rfl; (focus ((repeat (first | assumption | exact .pt rfl | exact .sl ‹_› rfl | exact .sl1 (by first | assumption | rfl) | apply Rd.there)); done))) | (apply ResR.agg; rfl; (focus ((repeat (first | assumption | exact .pt | exact .sl ‹_› | apply RdAll.there)); done)); rfl))); done))); (refine ⟨?_, rfl⟩; rfl); ((exact frm)))
        · rw [if_pos hx] at hG ⊢
          refine Fn2 Try.func19 rfl Try.ntmps19 rfl ?_
          (repeat' first | refine stp ?_ | intro v' hv' | intro (b : Nat) | (apply w_convU; rfl; rfl; omega; omega) | (apply w_convI; rfl; rfl; omega; omega) | (apply w_quoU; rfl; rfl; rfl; omega; omega; omega) | (apply w_remU; rfl; rfl; rfl; omega; omega) | (apply w_cp; rfl; rfl; assumption) | (apply w_cq; rfl; rfl; apply Called.at (h := hF _ (by assumption)); ((focus ((repeat (first | exact Rep.here | apply Rep.there)); done)))) | (apply w_cq; rfl; rfl; apply Called.at (h := hG _ (by assumption)); ((focus ((repeat (first | exact Rep.here | apply Rep.there)); done)))) | refine spl ?_ ?_ | intro hc)
          (apply At_retR (by (first | exact .inl rfl | exact .inr rfl)) Try.results19; ((focus ((repeat (first | exact ResR.nil | (apply ResR.tmp; rfl) | (apply ResR.one; rfl; (focus ((repeat (first | assumption | exact .pt rfl | exact .sl ‹_› rfl | exact .sl1 (by first | assumption | rfl) | apply Rd.there)); done))) | (apply ResR.agg; rfl; (focus ((repeat (first | assumption | exact .pt | exact .sl ‹_› | apply RdAll.there)); done)); rfl))); done))); (refine ⟨?_, rfl⟩; rfl); ((exact frm)))
      refine go (afterV now d).1 (afterV now t).1 (afterV now d).2 (afterV now t).2 rfl rfl ?_
      unfold freshM afterV
      rw [if_neg (by simpa using hp)]
      simp only [ht, ne_eq, not_true_eq_false, if_false]
      (repeat' split) <;> first | rfl | (exfalso; simp_all; omega) | (exfalso; simp_all)
    · have e : freshM now q d t = ((0, 0, 0), timeE now) := by unfold freshM; rw [if_neg (by simpa using hp), if_pos ht]
      rw [e]
      simp only [ne_eq, not_true_eq_false, if_false] at hF
      refine Fn2 Try.func19 rfl Try.ntmps19 rfl ?_
      (repeat' first | refine stp ?_ | intro v' hv' | intro (b : Nat) | (apply w_convU; rfl; rfl; omega; omega) | (apply w_convI; rfl; rfl; omega; omega) | (apply w_quoU; rfl; rfl; rfl; omega; omega; omega) | (apply w_remU; rfl; rfl; rfl; omega; omega) | (apply w_cp; rfl; rfl; assumption) | (apply w_cq; rfl; rfl; apply Called.at (h := hF _ (by assumption)); ((focus ((repeat (first | exact Rep.here | apply Rep.there)); done)))) | (apply w_cq; rfl; rfl; apply Called.at (h := hG _ (by assumption)); ((focus ((repeat (first | exact Rep.here | apply Rep.there)); done)))) | refine spl ?_ ?_ | intro hc)
      (apply At_retR (by (first | exact .inl rfl | exact .inr rfl)) Try.results19; ((focus ((repeat (first | exact ResR.nil | (apply ResR.tmp; rfl) | (apply ResR.one; rfl; (focus ((repeat (first | assumption | exact .pt rfl | exact .sl ‹_› rfl | exact .sl1 (by first | assumption | rfl) | apply Rd.there)); done))) | (apply ResR.agg; rfl; (focus ((repeat (first | assumption | exact .pt | exact .sl ‹_› | apply RdAll.there)); done)); rfl))); done))); (refine ⟨?_, rfl⟩; rfl); ((exact frm)))
  · have e : freshM now q d t = ((0, 0, 0), 1) := by unfold freshM; rw [if_pos hp]
    rw [e]
    rw [parE_no hp] at hP hF
    rw [if_pos (by decide)] at hF
    refine Fn2 Try.func19 rfl Try.ntmps19 rfl ?_
    (repeat' first | refine stp ?_ | intro v' hv' | intro (b : Nat) | (apply w_convU; rfl; rfl; omega; omega) | (apply w_convI; rfl; rfl; omega; omega) | (apply w_quoU; rfl; rfl; rfl; omega; omega; omega) | (apply w_remU; rfl; rfl; rfl; omega; omega) | (apply w_cp; rfl; rfl; assumption) | (apply w_cq; rfl; rfl; apply Called.at (h := hF _ (by assumption)); ((focus ((repeat (first | exact Rep.here | apply Rep.there)); done)))) | (apply w_cq; rfl; rfl; apply Called.at (h := hG _ (by assumption)); ((focus ((repeat (first | exact Rep.here | apply Rep.there)); done)))) | refine spl ?_ ?_ | intro hc)
    (apply At_retR (by (first | exact .inl rfl | exact .inr rfl)) Try.results19; ((focus ((repeat (first | exact ResR.nil | (apply ResR.tmp; rfl) | (apply ResR.one; rfl; (focus ((repeat (first | assumption | exact .pt rfl | exact .sl ‹_› rfl | exact .sl1 (by first | assumption | rfl) | apply Rd.there)); done))) | (apply ResR.agg; rfl; (focus ((repeat (first | assumption | exact .pt | exact .sl ‹_› | apply RdAll.there)); done)); rfl))); done))); (refine ⟨?_, rfl⟩; rfl); ((exact frm)))
end Go.Proofs.Ytecfbhenljkaaaa
