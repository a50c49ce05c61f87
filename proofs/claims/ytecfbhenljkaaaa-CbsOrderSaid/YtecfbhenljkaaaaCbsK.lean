/- cbs: which of two products is less, and what fits. Conditions: none. -/
import Derived.Test.YtecfbhenljkaaaaCbsJ
set_option linter.all false
set_option linter.deprecated false
namespace Go.Proofs.Ytecfbhenljkaaaa
open Go.Sep
variable [B0 : Base]
instance : FlatEq Try.prog 56 2 := ⟨by kernel_rfl⟩
abbrev wid (h l : Int) : Value := .agg #[u64 h, u64 l]
theorem wless_ok (h l h' l' : Int) (R : List HP) : Called Try.prog 33 [wid h l, wid h' l'] R (is (.bool (decide (if h = h' then l < l' else h < h'))) R) := by
  by_cases hh : h = h'
  · refine Fn2 Try.func33 rfl Try.ntmps33 rfl ?_
    (repeat' first | refine stp ?_ | intro v' hv' | intro (b : Nat) | (apply w_convU; rfl; rfl; omega; omega) | (apply w_convI; rfl; rfl; omega; omega) | (apply w_quoU; rfl; rfl; rfl; omega; omega; omega) | (apply w_remU; rfl; rfl; rfl; omega; omega) | (apply w_mfR; rfl; rfl) | (apply w_cvp; rfl; rfl; exact inferInstance; rfl; rfl; assumption) | (apply w_eqS2T; rfl; rfl; rfl; omega) | (apply w_eqS2F; rfl; rfl; rfl; omega) | (apply w_neS2T; rfl; rfl; rfl; omega) | (apply w_neS2F; rfl; rfl; rfl; omega) | (apply w_eqS3T; rfl; rfl; rfl; omega) | (apply w_eqS3F; rfl; rfl; rfl; omega) | (apply w_neS3T; rfl; rfl; rfl; omega) | (apply w_neS3F; rfl; rfl; rfl; omega) | (apply w_eqS3; rfl; rfl; rfl) | (apply w_neS3; rfl; rfl; rfl) | (apply w_eqS2; rfl; rfl; rfl) | (apply w_neS2; rfl; rfl; rfl) | (apply w_maxL; rfl; rfl; rfl; omega) | (apply w_maxG; rfl; rfl; rfl; omega) | (apply w_max; rfl; rfl; rfl) | refine spl ?_ ?_ | intro hc)
    all_goals (refine At_ret1 (by (first | exact .inl rfl | exact .inr rfl)) Try.results33 rfl ⟨by (simp only [hh, if_true]), rfl⟩ (by (exact frm)))
  · refine Fn2 Try.func33 rfl Try.ntmps33 rfl ?_
    (repeat' first | refine stp ?_ | intro v' hv' | intro (b : Nat) | (apply w_convU; rfl; rfl; omega; omega) | (apply w_convI; rfl; rfl; omega; omega) | (apply w_quoU; rfl; rfl; rfl; omega; omega; omega) | (apply w_remU; rfl; rfl; rfl; omega; omega) | (apply w_mfR; rfl; rfl) | (apply w_cvp; rfl; rfl; exact inferInstance; rfl; rfl; assumption) | (apply w_eqS2T; rfl; rfl; rfl; omega) | (apply w_eqS2F; rfl; rfl; rfl; omega) | (apply w_neS2T; rfl; rfl; rfl; omega) | (apply w_neS2F; rfl; rfl; rfl; omega) | (apply w_eqS3T; rfl; rfl; rfl; omega) | (apply w_eqS3F; rfl; rfl; rfl; omega) | (apply w_neS3T; rfl; rfl; rfl; omega) | (apply w_neS3F; rfl; rfl; rfl; omega) | (apply w_eqS3; rfl; rfl; rfl) | (apply w_neS3; rfl; rfl; rfl) | (apply w_eqS2; rfl; rfl; rfl) | (apply w_neS2; rfl; rfl; rfl) | (apply w_maxL; rfl; rfl; rfl; omega) | (apply w_maxG; rfl; rfl; rfl; omega) | (apply w_max; rfl; rfl; rfl) | refine spl ?_ ?_ | intro hc)
    all_goals (refine At_ret1 (by (first | exact .inl rfl | exact .inr rfl)) Try.results33 rfl ⟨by (simp only [hh, if_false]), rfl⟩ (by (exact frm)))
set_option maxHeartbeats 2000000 in
theorem less_ok (a b c d : Int) (ha : 0 ≤ a) (hb : 0 ≤ b) (ha' : a ≤ 9223372036854775807) (hb' : b ≤ 9223372036854775807) (hc : 0 ≤ c) (hd : 0 ≤ d) (hc' : c ≤ 9223372036854775807) (hd' : d ≤ 9223372036854775807) (R : List HP) :
    Called Try.prog 30 [int a, int b, int c, int d] R (is (.tuple #[.bool (decide (a * b < c * d)), int 0]) R) := by
  have hP := prod_ok a b ha hb ha' hb'
  have hQ := prod_ok c d hc hd hc' hd'
  dsimp only [wide] at hP hQ
  have hW := wless_ok (a * b / 18446744073709551616) (a * b % 18446744073709551616) (c * d / 18446744073709551616) (c * d % 18446744073709551616)
  rw [show decide (if a * b / 18446744073709551616 = c * d / 18446744073709551616 then a * b % 18446744073709551616 < c * d % 18446744073709551616 else a * b / 18446744073709551616 < c * d / 18446744073709551616) = decide (a * b < c * d) from by
    congr 1; rw [eq_iff_iff]; split <;> omega] at hW
  generalize a * b = x at *
  generalize c * d = y at *
  by_cases hxy : x = y
  · rw [decide_eq_false (by omega)] at hW ⊢
    subst hxy
    refine Fn4 Try.func30 rfl Try.ntmps30 rfl ?_
    (repeat' first | refine stp ?_ | intro v' hv' | intro (b : Nat) | (apply w_convU; rfl; rfl; omega; omega) | (apply w_convI; rfl; rfl; omega; omega) | (apply w_quoU; rfl; rfl; rfl; omega; omega; omega) | (apply w_remU; rfl; rfl; rfl; omega; omega) | (apply w_mfR; rfl; rfl) | (apply w_cvp; rfl; rfl; exact inferInstance; rfl; rfl; assumption) | (apply w_eqS2T; rfl; rfl; rfl; omega) | (apply w_eqS2F; rfl; rfl; rfl; omega) | (apply w_neS2T; rfl; rfl; rfl; omega) | (apply w_neS2F; rfl; rfl; rfl; omega) | (apply w_eqS3T; rfl; rfl; rfl; omega) | (apply w_eqS3F; rfl; rfl; rfl; omega) | (apply w_neS3T; rfl; rfl; rfl; omega) | (apply w_neS3F; rfl; rfl; rfl; omega) | (apply w_eqS3; rfl; rfl; rfl) | (apply w_neS3; rfl; rfl; rfl) | (apply w_eqS2; rfl; rfl; rfl) | (apply w_neS2; rfl; rfl; rfl) | (apply w_maxL; rfl; rfl; rfl; omega) | (apply w_maxG; rfl; rfl; rfl; omega) | (apply w_max; rfl; rfl; rfl) | (apply w_cp; rfl; rfl; assumption) | refine spl ?_ ?_ | intro hc)
    all_goals (refine At_ret2 (by (first | exact .inl rfl | exact .inr rfl)) Try.results30 rfl rfl ⟨by rfl, rfl⟩ (by (exact frm)))
  · have hne : ¬ (x / 18446744073709551616 = y / 18446744073709551616 ∧ x % 18446744073709551616 = y % 18446744073709551616) := by omega
    refine Fn4 Try.func30 rfl Try.ntmps30 rfl ?_
    (repeat' first | refine stp ?_ | intro v' hv' | intro (b : Nat) | (apply w_convU; rfl; rfl; omega; omega) | (apply w_convI; rfl; rfl; omega; omega) | (apply w_quoU; rfl; rfl; rfl; omega; omega; omega) | (apply w_remU; rfl; rfl; rfl; omega; omega) | (apply w_mfR; rfl; rfl) | (apply w_cvp; rfl; rfl; exact inferInstance; rfl; rfl; assumption) | (apply w_eqS2T; rfl; rfl; rfl; omega) | (apply w_eqS2F; rfl; rfl; rfl; omega) | (apply w_neS2T; rfl; rfl; rfl; omega) | (apply w_neS2F; rfl; rfl; rfl; omega) | (apply w_eqS3T; rfl; rfl; rfl; omega) | (apply w_eqS3F; rfl; rfl; rfl; omega) | (apply w_neS3T; rfl; rfl; rfl; omega) | (apply w_neS3F; rfl; rfl; rfl; omega) | (apply w_eqS3; rfl; rfl; rfl) | (apply w_neS3; rfl; rfl; rfl) | (apply w_eqS2; rfl; rfl; rfl) | (apply w_neS2; rfl; rfl; rfl) | (apply w_maxL; rfl; rfl; rfl; omega) | (apply w_maxG; rfl; rfl; rfl; omega) | (apply w_max; rfl; rfl; rfl) | (apply w_cp; rfl; rfl; assumption) | refine spl ?_ ?_ | intro hc)
    all_goals (refine At_ret2 (by (first | exact .inl rfl | exact .inr rfl)) Try.results30 rfl rfl ⟨by rfl, rfl⟩ (by (exact frm)))
/-- Whether what is left may be spent up to the deadline. -/
def fitsV (now q d l e : Int) : Bool := if e ≤ now then false else !decide ((e - now) * q < (if l < 0 then 0 else l) * d)
theorem fitsV_anti {now q d l m e : Int} (hd : 0 ≤ d) (h : m ≤ l) (hf : fitsV now q d l e = true) : fitsV now q d m e = true := by
  unfold fitsV at *
  by_cases he : e ≤ now
  · rw [if_pos he] at hf; cases hf
  · rw [if_neg he] at *
    simp only [Bool.not_eq_true', decide_eq_false_iff_not] at *
    have : (if m < 0 then 0 else m) * d ≤ (if l < 0 then 0 else l) * d := Int.mul_le_mul_of_nonneg_right (by split <;> split <;> omega) hd
    omega
set_option maxHeartbeats 2000000 in
theorem fits0_ok (now q d t l e x : Int) (hp : parOk q d t) (ht : timeE now = 0) (hn : numE l e x = 0) (R : List HP) : Called Try.prog 27 [int now, par q d t, num l e x] R (is (.bool (fitsV now q d l e)) R) := by
  have hp' := hp
  unfold parOk at hp'
  have hn' := numE_0 hn
  have ht' := timeE_0 ht
  unfold fitsV
  by_cases he : e ≤ now
  · rw [if_pos he]
    refine Fn3 Try.func27 rfl Try.ntmps27 rfl ?_
    (repeat' first | refine stp ?_ | intro v' hv' | intro (b : Nat) | (apply w_convU; rfl; rfl; omega; omega) | (apply w_convI; rfl; rfl; omega; omega) | (apply w_quoU; rfl; rfl; rfl; omega; omega; omega) | (apply w_remU; rfl; rfl; rfl; omega; omega) | (apply w_mfR; rfl; rfl) | (apply w_cvp; rfl; rfl; exact inferInstance; rfl; rfl; assumption) | (apply w_eqS2T; rfl; rfl; rfl; omega) | (apply w_eqS2F; rfl; rfl; rfl; omega) | (apply w_neS2T; rfl; rfl; rfl; omega) | (apply w_neS2F; rfl; rfl; rfl; omega) | (apply w_eqS3T; rfl; rfl; rfl; omega) | (apply w_eqS3F; rfl; rfl; rfl; omega) | (apply w_neS3T; rfl; rfl; rfl; omega) | (apply w_neS3F; rfl; rfl; rfl; omega) | (apply w_eqS3; rfl; rfl; rfl) | (apply w_neS3; rfl; rfl; rfl) | (apply w_eqS2; rfl; rfl; rfl) | (apply w_neS2; rfl; rfl; rfl) | (apply w_maxL; rfl; rfl; rfl; omega) | (apply w_maxG; rfl; rfl; rfl; omega) | (apply w_max; rfl; rfl; rfl) | (apply w_cp; rfl; rfl; assumption) | refine spl ?_ ?_ | intro hc)
    all_goals (refine At_ret1 (by (first | exact .inl rfl | exact .inr rfl)) Try.results27 rfl ⟨by rfl, rfl⟩ (by (exact frm)))
  · rw [if_neg he]
    by_cases hl : l < 0
    · rw [if_pos hl]
      have hL := less_ok (e - now) q 0 d (by omega) (by omega) (by omega) (by omega) (by omega) (by omega) (by omega) (by omega)
      refine Fn3 Try.func27 rfl Try.ntmps27 rfl ?_
      (repeat' first | refine stp ?_ | intro v' hv' | intro (b : Nat) | (apply w_convU; rfl; rfl; omega; omega) | (apply w_convI; rfl; rfl; omega; omega) | (apply w_quoU; rfl; rfl; rfl; omega; omega; omega) | (apply w_remU; rfl; rfl; rfl; omega; omega) | (apply w_mfR; rfl; rfl) | (apply w_cvp; rfl; rfl; exact inferInstance; rfl; rfl; assumption) | (apply w_eqS2T; rfl; rfl; rfl; omega) | (apply w_eqS2F; rfl; rfl; rfl; omega) | (apply w_neS2T; rfl; rfl; rfl; omega) | (apply w_neS2F; rfl; rfl; rfl; omega) | (apply w_eqS3T; rfl; rfl; rfl; omega) | (apply w_eqS3F; rfl; rfl; rfl; omega) | (apply w_neS3T; rfl; rfl; rfl; omega) | (apply w_neS3F; rfl; rfl; rfl; omega) | (apply w_eqS3; rfl; rfl; rfl) | (apply w_neS3; rfl; rfl; rfl) | (apply w_eqS2; rfl; rfl; rfl) | (apply w_neS2; rfl; rfl; rfl) | (apply w_maxL; rfl; rfl; rfl; omega) | (apply w_maxG; rfl; rfl; rfl; omega) | (apply w_max; rfl; rfl; rfl) | (apply w_cp; rfl; rfl; assumption) | refine spl ?_ ?_ | intro hc)
      all_goals (refine At_ret1 (by (first | exact .inl rfl | exact .inr rfl)) Try.results27 rfl ⟨by rfl, rfl⟩ (by (exact frm)))
    · rw [if_neg hl]
      have hL := less_ok (e - now) q l d (by omega) (by omega) (by omega) (by omega) (by omega) (by omega) (by omega) (by omega)
      refine Fn3 Try.func27 rfl Try.ntmps27 rfl ?_
      (repeat' first | refine stp ?_ | intro v' hv' | intro (b : Nat) | (apply w_convU; rfl; rfl; omega; omega) | (apply w_convI; rfl; rfl; omega; omega) | (apply w_quoU; rfl; rfl; rfl; omega; omega; omega) | (apply w_remU; rfl; rfl; rfl; omega; omega) | (apply w_mfR; rfl; rfl) | (apply w_cvp; rfl; rfl; exact inferInstance; rfl; rfl; assumption) | (apply w_eqS2T; rfl; rfl; rfl; omega) | (apply w_eqS2F; rfl; rfl; rfl; omega) | (apply w_neS2T; rfl; rfl; rfl; omega) | (apply w_neS2F; rfl; rfl; rfl; omega) | (apply w_eqS3T; rfl; rfl; rfl; omega) | (apply w_eqS3F; rfl; rfl; rfl; omega) | (apply w_neS3T; rfl; rfl; rfl; omega) | (apply w_neS3F; rfl; rfl; rfl; omega) | (apply w_eqS3; rfl; rfl; rfl) | (apply w_neS3; rfl; rfl; rfl) | (apply w_eqS2; rfl; rfl; rfl) | (apply w_neS2; rfl; rfl; rfl) | (apply w_maxL; rfl; rfl; rfl; omega) | (apply w_maxG; rfl; rfl; rfl; omega) | (apply w_max; rfl; rfl; rfl) | (apply w_cp; rfl; rfl; assumption) | refine spl ?_ ?_ | intro hc)
      all_goals (refine At_ret1 (by (first | exact .inl rfl | exact .inr rfl)) Try.results27 rfl ⟨by rfl, rfl⟩ (by (exact frm)))
set_option maxHeartbeats 2000000 in
theorem fits_ok (now q d t l e x : Int) (h0 : wrongE now q d t l e x = 0) (R : List HP) : Called Try.prog 18 [int now, par q d t, num l e x] R (is (.tuple #[.bool (fitsV now q d l e), int 0]) R) := by
  have hF := first3W now q d t l e x
  rw [h0] at hF
  obtain ⟨hp, ht, hn⟩ := wrongE_0 h0
  have hf := fits0_ok now q d t l e x hp ht hn
  refine Fn3 Try.func18 rfl Try.ntmps18 rfl ?_
  (repeat' first | refine C_drawI (id := 1) [] [0, 2, 4, 1, 3, 5, 6, 7, 8] (by kernel_rfl) (by kernel_rfl) (by kernel_rfl) rfl ?_ | refine stp ?_ | intro v' hv' | intro (b : Nat) | (apply w_convU; rfl; rfl; omega; omega) | (apply w_convI; rfl; rfl; omega; omega) | (apply w_quoU; rfl; rfl; rfl; omega; omega; omega) | (apply w_remU; rfl; rfl; rfl; omega; omega) | (apply w_mfR; rfl; rfl) | (apply w_cvp; rfl; rfl; exact inferInstance; rfl; rfl; assumption) | (apply w_eqS2T; rfl; rfl; rfl; omega) | (apply w_eqS2F; rfl; rfl; rfl; omega) | (apply w_neS2T; rfl; rfl; rfl; omega) | (apply w_neS2F; rfl; rfl; rfl; omega) | (apply w_eqS3T; rfl; rfl; rfl; omega) | (apply w_eqS3F; rfl; rfl; rfl; omega) | (apply w_neS3T; rfl; rfl; rfl; omega) | (apply w_neS3F; rfl; rfl; rfl; omega) | (apply w_eqS3; rfl; rfl; rfl) | (apply w_neS3; rfl; rfl; rfl) | (apply w_eqS2; rfl; rfl; rfl) | (apply w_neS2; rfl; rfl; rfl) | (apply w_maxL; rfl; rfl; rfl; omega) | (apply w_maxG; rfl; rfl; rfl; omega) | (apply w_max; rfl; rfl; rfl) | (apply w_cp; rfl; rfl; first | assumption | exact pcheck_ok _ _ _ | exact time_ok _ | exact check_ok _ _ _) | (apply w_cq; rfl; rfl; apply Called.at (h := hF _ (by assumption)); ((focus ((repeat (first | exact Rep.here | apply Rep.there)); done)))) | refine spl ?_ ?_ | intro hc)
  all_goals (refine At_ret2 (by (first | exact .inl rfl | exact .inr rfl)) Try.results18 rfl rfl ⟨by rfl, rfl⟩ (by (exact frm)))
/-! ### Who has less left is refilled no earlier -/
theorem refill_order {now q d t l m e x : Int} (hp : parOk q d t) (hn : -1073741824 ≤ l) (hm : -1073741824 ≤ m) (hml : m ≤ l) (hl : l ≤ 0) (ht : now + t < 1099511627776) (hnow : timeE now = 0) (h1 : (refillC now q d t l e x).2 = 0) (h2 : (refillC now q d t m e x).2 = 0) :
    (refillC now q d t l e x).1.2.1 ≤ (refillC now q d t m e x).1.2.1 ∨ (refillC now q d t l e x).1.2.2 = now + t := by
  have hp' := hp
  unfold parOk at hp'
  have f : freshM now q d t = ((q, now + d, now + t), 0) := by unfold freshM; rw [if_neg (by simpa using hp), if_neg (by simpa using hnow), if_neg (by omega)]
  have k : (-l / q + 1) * t ≤ (-m / q + 1) * t := Int.mul_le_mul_of_nonneg_right (by have := Int.ediv_le_ediv (show 0 < q by omega) (show -l ≤ -m by omega); omega) (by omega)
  unfold refillC at *
  rw [if_neg (by omega)] at *
  rw [if_neg (show ¬ 0 < m by omega)] at *
  by_cases hx : 1099511627776 ≤ x + (-l / q + 1) * t
  · rw [if_pos hx] at h1; cases h1
  · rw [if_neg hx] at *
    by_cases hx2 : 1099511627776 ≤ x + (-m / q + 1) * t
    · rw [if_pos hx2] at h2; cases h2
    · rw [if_neg hx2] at *
      by_cases hb : x + (-l / q + 1) * t - t + d ≤ now
      · rw [if_pos hb, f]; exact .inr rfl
      · rw [if_neg hb, if_neg (show ¬ (x + (-m / q + 1) * t - t + d ≤ now) by omega)]
        exact .inl (show x + (-l / q + 1) * t - t + d ≤ x + (-m / q + 1) * t - t + d by omega)
end Go.Proofs.Ytecfbhenljkaaaa
