/- cbs: numbers, what is wrong with them, fresh ones. Conditions: none. -/
import Derived.Test.YtecfbhenljkaaaaCbsB
set_option linter.all false
set_option linter.deprecated false
namespace Go.Proofs.Ytecfbhenljkaaaa
open Go.Sep
variable [B0 : Base]
theorem first2 (a b : Int) (v : Value) (hv : IsSl v 2) (R : List HP) : Called Try.prog 20 [v] (sl 26 1 v [[int a], [int b]] :: R) (is (int (if a ≠ 0 then a else b)) (sl 26 1 v [[int a], [int b]] :: R)) := by
  have := first_ok v [a, b] hv R
  rwa [show firstE [a, b] = if a ≠ 0 then a else b from by unfold firstE; by_cases h : a = 0 <;> by_cases h' : b = 0 <;> simp [List.find?_cons, h, h']] at this
theorem first3 (a b c : Int) (v : Value) (hv : IsSl v 3) (R : List HP) : Called Try.prog 20 [v] (sl 26 1 v [[int a], [int b], [int c]] :: R) (is (int (if a ≠ 0 then a else if b ≠ 0 then b else c)) (sl 26 1 v [[int a], [int b], [int c]] :: R)) := by
  have := first_ok v [a, b, c] hv R
  rwa [show firstE [a, b, c] = if a ≠ 0 then a else if b ≠ 0 then b else c from by unfold firstE; by_cases h : a = 0 <;> by_cases h' : b = 0 <;> by_cases h'' : c = 0 <;> simp [List.find?_cons, h, h', h'']] at this

abbrev num (l e x : Int) : Value := .agg #[int l, int e, int x]
/-- What is wrong with numbers. -/
def numE (l e x : Int) : Int := if l < -1073741824 ∨ 1073741824 < l then 10 else if timeE e ≠ 0 then timeE e else timeE x
set_option maxHeartbeats 1000000 in
theorem check_ok (l e x : Int) (R : List HP) : Called Try.prog 23 [num l e x] R (is (int (numE l e x)) R) := by
  refine Fn1 Try.func23 rfl Try.ntmps23 rfl ?_
  (repeat' first | refine C_drawI (id := 3) [] [0, 1, 3, 4, 2, 5, 6, 7, 8] (by kernel_rfl) (by kernel_rfl) (by kernel_rfl) rfl ?_ | refine stp ?_ | intro v' hv' | intro (b : Nat) | (apply w_convU; rfl; rfl; omega; omega) | (apply w_convI; rfl; rfl; omega; omega) | (apply w_quoU; rfl; rfl; rfl; omega; omega; omega) | (apply w_remU; rfl; rfl; rfl; omega; omega) | (apply w_cp; rfl; rfl; first | assumption | exact time_ok _ | exact rtime_ok _) | (apply w_cq; rfl; rfl; exact Called.at (by (focus ((repeat (first | exact Rep.here | apply Rep.there)); done))) (first2 _ _ _ (by assumption))) | refine spl ?_ ?_ | intro hc)
  all_goals (refine At_ret1 (by (first | exact .inl rfl | exact .inr rfl)) Try.results23 rfl ⟨by (unfold numE; congr 1; grind), rfl⟩ (by (exact frm)))
set_option maxHeartbeats 1000000 in
theorem rcheck_ok (l e x : Int) (R : List HP) : Called Try.prog 12 [num l e x] R (is (int (numE l e x)) R) := by
  refine Fn1 Try.func12 rfl Try.ntmps12 rfl ?_
  (repeat' first | refine stp ?_ | intro v' hv' | intro (b : Nat) | (apply w_convU; rfl; rfl; omega; omega) | (apply w_convI; rfl; rfl; omega; omega) | (apply w_quoU; rfl; rfl; rfl; omega; omega; omega) | (apply w_remU; rfl; rfl; rfl; omega; omega) | (apply w_cp; rfl; rfl; first | assumption | exact time_ok _ | exact rtime_ok _) | (apply w_cq; rfl; rfl; exact Called.at (by (focus ((repeat (first | exact Rep.here | apply Rep.there)); done))) (first2 _ _ _ (by assumption))) | refine spl ?_ ?_ | intro hc)
  all_goals (refine At_ret1 (by (first | exact .inl rfl | exact .inr rfl)) Try.results12 rfl ⟨by (unfold numE; congr 1; grind), rfl⟩ (by (exact frm)))
end Go.Proofs.Ytecfbhenljkaaaa
