/- Products, and how often a number is in one. Conditions: none. -/
import Derived.Test.YtecfbhenljkaaaaCbsM
set_option linter.all false
set_option linter.deprecated false
namespace Go.Proofs.Ytecfbhenljkaaaa
open Go.Sep
variable [B0 : Base]
set_option maxHeartbeats 1000000 in
theorem div64_ok (x y : Int) (hx0 : 0 ≤ x) (hx : x < 18446744073709551616) (hy0 : 0 < y) (hy : y < 18446744073709551616) (R : List HP) :
    Called Try.prog 29 [u64 0, u64 x, u64 y] R (is (.tuple #[u64 (x / y), u64 (x % y)]) R) := by
  refine Fn3 Try.func29 rfl Try.ntmps29 rfl ?_
  by_cases h0 : y = 0
  · omega
  have hle : ¬ y ≤ 0 := by omega
  (repeat' first | refine stp ?_ | intro v' hv' | intro (b : Nat) | (apply w_convU; rfl; rfl; omega; omega) | (apply w_convI; rfl; rfl; omega; omega) | (apply w_quoU; rfl; rfl; rfl; omega; omega; omega) | (apply w_remU; rfl; rfl; rfl; omega; omega) | refine spl ?_ ?_ | intro hc)
  (refine At_ret2 (by (first | exact .inl rfl | exact .inr rfl)) Try.results29 rfl rfl ⟨by rfl, rfl⟩ (by (exact frm)))
def wide (x : Int) : List Value := [u64 (x / 18446744073709551616), u64 (x % 18446744073709551616)]
set_option maxHeartbeats 1000000 in
theorem prod_ok (a b : Int) (ha : 0 ≤ a) (hb : 0 ≤ b) (ha' : a ≤ 9223372036854775807) (hb' : b ≤ 9223372036854775807) (R : List HP) :
    Called Try.prog 28 [int a, int b] R (is (.tuple #[.agg (wide (a * b)).toArray, int 0]) R) := by
  refine Fn2 Try.func28 rfl Try.ntmps28 rfl ?_
  (repeat' first | refine stp ?_ | intro v' hv' | intro (b : Nat) | (apply w_convU; rfl; rfl; omega; omega) | (apply w_convI; rfl; rfl; omega; omega) | (apply w_quoU; rfl; rfl; rfl; omega; omega; omega) | (apply w_remU; rfl; rfl; rfl; omega; omega) | (apply w_cp; rfl; rfl; exact mul64_ok _ _ (by omega) (by omega) (by omega) (by omega)) | refine spl ?_ ?_ | intro hc)
  (apply At_retR (by (first | exact .inl rfl | exact .inr rfl)) Try.results28; ((focus ((repeat (first | exact ResR.nil | (apply ResR.tmp; rfl) | (apply ResR.one; rfl; (focus ((repeat (first | assumption | exact .pt rfl | exact .sl ‹_› rfl | exact .sl1 (by first | assumption | rfl) | apply Rd.there)); done))) | (apply ResR.agg; rfl; (focus ((repeat (first | assumption | exact .pt | exact .sl ‹_› | apply RdAll.there)); done)); rfl))); done))); (refine ⟨?_, rfl⟩; rfl); ((exact frm)))
theorem prod_small (a b : Int) (ha : 0 ≤ a) (hb : 0 ≤ b) (ha' : a ≤ 1099511627776) (hb' : b ≤ 2097152) (R : List HP) :
    Called Try.prog 28 [int a, int b] R (is (.tuple #[.agg #[u64 0, u64 (a * b)], int 0]) R) := by
  have h := prod_ok a b ha hb (by omega) (by omega) R
  have h0 : 0 ≤ a * b := Int.mul_nonneg ha hb
  have h1 : a * b ≤ 1099511627776 * 2097152 := Int.mul_le_mul ha' hb' hb (by omega)
  rwa [show (wide (a * b)).toArray = #[u64 0, u64 (a * b)] from by unfold wide; rw [Int.ediv_eq_zero_of_lt h0 (by omega), Int.emod_eq_of_lt h0 (by omega)]] at h
theorem prod_mid (a b : Int) (ha : 0 ≤ a) (hb : 0 ≤ b) (ha' : a ≤ 1073741824) (hb' : b ≤ 1073741824) (R : List HP) :
    Called Try.prog 28 [int a, int b] R (is (.tuple #[.agg #[u64 0, u64 (a * b)], int 0]) R) := by
  have h := prod_ok a b ha hb (by omega) (by omega) R
  have h0 : 0 ≤ a * b := Int.mul_nonneg ha hb
  have h1 : a * b ≤ 1073741824 * 1073741824 := Int.mul_le_mul ha' hb' hb (by omega)
  rwa [show (wide (a * b)).toArray = #[u64 0, u64 (a * b)] from by unfold wide; rw [Int.ediv_eq_zero_of_lt h0 (by omega), Int.emod_eq_of_lt h0 (by omega)]] at h
/-- How often a number is in a product of two small ones. -/
theorem div_ok (a b c : Int) (ha : 0 ≤ a) (hb : 0 ≤ b) (ha' : a ≤ 1073741824) (hb' : b ≤ 1073741824) (hc : 0 < c) (hc' : c ≤ 1073741824) (R : List HP) :
    Called Try.prog 26 [int a, int b, int c, .bool false] R (is (.tuple #[int (a * b / c), int 0]) R) := by
  have h0 : 0 ≤ a * b := Int.mul_nonneg ha hb
  have h1 : a * b ≤ 1073741824 * 1073741824 := Int.mul_le_mul ha' hb' hb (by omega)
  have hP := prod_mid a b ha hb ha' hb'
  have hD := div64_ok (a * b) c h0 (by omega) hc (by omega)
  have hq0 : 0 ≤ a * b / c := Int.ediv_nonneg h0 (by omega)
  have hq1 : a * b / c ≤ a * b := Int.ediv_le_self _ h0
  have hn1 : ¬ c = 0 := by omega
  have hn2 : ¬ c < 0 := by omega
  have hn3 : ¬ c ≤ 0 := by omega
  have hn4 : ¬ a * b / c = 9223372036854775807 := by omega
  have hn5 : ¬ 9223372036854775807 < a * b / c := by omega
  refine Fn4 Try.func26 rfl Try.ntmps26 rfl ?_
  generalize a * b / c = q at *
  generalize a * b % c = r at *
  generalize a * b = m at *
  (repeat' first | refine stp ?_ | intro v' hv' | intro (b : Nat) | (apply w_convU; rfl; rfl; omega; omega) | (apply w_convI; rfl; rfl; omega; omega) | (apply w_quoU; rfl; rfl; rfl; omega; omega; omega) | (apply w_remU; rfl; rfl; rfl; omega; omega) | (apply w_cp; rfl; rfl; assumption) | refine spl ?_ ?_ | intro hc)
  all_goals (refine At_ret2 (by (first | exact .inl rfl | exact .inr rfl)) Try.results26 rfl rfl ⟨by rfl, rfl⟩ (by (exact frm)))
end Go.Proofs.Ytecfbhenljkaaaa
