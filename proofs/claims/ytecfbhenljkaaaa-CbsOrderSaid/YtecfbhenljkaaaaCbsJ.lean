/- CbsLags: it answers true. Conditions: none. -/
import Derived.Test.YtecfbhenljkaaaaCbsI
set_option linter.all false
set_option linter.deprecated false
namespace Go.Proofs.Ytecfbhenljkaaaa
open Go.Sep
variable [B0 : Base]
/-! ### In plain numbers -/
theorem lagV_bounds {q t l e : Int} (he : 0 ≤ e) (hq : 0 < q) (ht : 0 ≤ t) : 0 ≤ lagV q t l e ∧ lagV q t l e ≤ e := by
  unfold lagV
  by_cases hl : l < 1
  · rw [if_pos hl]; omega
  · rw [if_neg hl]
    have : 0 ≤ l * t / q := Int.ediv_nonneg (Int.mul_nonneg (by omega) ht) (by omega)
    split <;> omega
theorem lagV_le {q t l e : Int} (he : 0 ≤ e) (hq : 0 < q) (ht : 0 ≤ t) (hl : 0 < l) : (e - lagV q t l e) * q ≤ l * t := by
  unfold lagV
  rw [if_neg (by omega)]
  have h0 : 0 ≤ l * t := Int.mul_nonneg (by omega) ht
  have h1 := Int.emod_add_mul_ediv (l * t) q
  have h2 := Int.emod_nonneg (l * t) (show q ≠ 0 by omega)
  have h3 : q * (l * t / q) ≤ l * t := by omega
  split
  · rw [show e - (e - l * t / q) = l * t / q from by omega, Int.mul_comm]; exact h3
  · have : e ≤ l * t / q := by omega
    have := Int.mul_le_mul_of_nonneg_left this (show 0 ≤ q by omega)
    rw [Int.sub_zero, Int.mul_comm]; omega
theorem lagV_gt {q t l e : Int} (hq : 0 < q) (hl : 0 < l) (ha : 0 < lagV q t l e) : l * t < (e - lagV q t l e + 1) * q := by
  unfold lagV at *
  rw [if_neg (by omega)] at *
  have h1 := Int.emod_add_mul_ediv (l * t) q
  have h2 := Int.emod_lt_of_pos (l * t) hq
  split at ha
  · rw [if_pos ‹_›, show e - (e - l * t / q) = l * t / q from by omega, Int.add_mul, Int.one_mul, Int.mul_comm (l * t / q) q]; omega
  · omega
theorem lagV_anti {q t l m e : Int} (he : 0 ≤ e) (hq : 0 < q) (ht : 0 ≤ t) (h : m ≤ l) : lagV q t l e ≤ lagV q t m e := by
  by_cases hm : m < 1
  · rw [show lagV q t m e = e from if_pos hm]; exact (lagV_bounds he hq ht).2
  · unfold lagV
    rw [if_neg (by omega), if_neg hm]
    have h1 : m * t / q ≤ l * t / q := Int.ediv_le_ediv hq (Int.mul_le_mul_of_nonneg_right h ht)
    split <;> split <;> omega
set_option maxHeartbeats 16000000 in
theorem lags_go (q d t l e x s w a b m1 m2 m3 ce : Int) (hs1 : -9223372036854775808 ≤ s) (hs2 : s ≤ 9223372036854775807)
    (hW : ∀ R, Called Try.prog 7 [int 0, par q d t, num l e x] R (is (int w) R))
    (h : w ≠ 0 ∨ w = 0 ∧ (s < 0 ∨ 1073741824 < s) ∨ w = 0 ∧ ¬ (s < 0 ∨ 1073741824 < s) ∧ (-1073741824 ≤ l ∧ l ≤ 1073741824 ∧ 0 ≤ e ∧ e < 1099511627776) ∧ (1 ≤ q ∧ q ≤ 1073741824 ∧ 0 ≤ t ∧ t ≤ 1073741824) ∧
      (∀ R, Called Try.prog 16 [par q d t] R (is (.bool true) R)) ∧
      (∀ R, Called Try.prog 14 [par q d t, num l e x] R (is (.tuple #[int a, int 0]) R)) ∧
      (0 ≤ a ∧ a ≤ e) ∧ (0 < l → 0 ≤ (e - a) * q ∧ (e - a) * q ≤ l * t ∧ l * t ≤ 1073741824 * 1073741824 ∧ (0 < a → l * t < (e - a + 1) * q ∧ (e - a + 1) * q ≤ 1073741824 * 1073741824 + 1073741824)) ∧
      (∀ R, Called Try.prog 11 [num l e x, int s] R (is (.tuple #[num m1 m2 m3, int ce]) R)) ∧
      (ce = 10 ∨ ce = 0 ∧ a ≤ b ∧ (∀ R, Called Try.prog 14 [par q d t, num m1 m2 m3] R (is (.tuple #[int b, int 0]) R)))) (R : List HP) :
    Called Try.prog 5 [par q d t, num l e x, int s] R (is (.bool true) R) := by
  rcases h with hw | ⟨hw, hs⟩ | ⟨hw, hs, hl, hq, hM, hL, hab, hlt, hC, hce⟩
  · refine Fn3 Try.func5 rfl Try.ntmps5 rfl ?_
    (repeat' first | refine stp ?_ | intro v' hv' | intro (b : Nat) | (apply w_convU; rfl; rfl; omega; omega) | (apply w_convI; rfl; rfl; omega; omega) | (apply w_quoU; rfl; rfl; rfl; omega; omega; omega) | (apply w_remU; rfl; rfl; rfl; omega; omega) | (apply w_mfR; rfl; rfl) | (apply w_cvp; rfl; rfl; exact inferInstance; rfl; rfl; assumption) | (apply w_eqS2T; rfl; rfl; rfl; omega) | (apply w_eqS2F; rfl; rfl; rfl; omega) | (apply w_neS2T; rfl; rfl; rfl; omega) | (apply w_neS2F; rfl; rfl; rfl; omega) | (apply w_eqS3T; rfl; rfl; rfl; omega) | (apply w_eqS3F; rfl; rfl; rfl; omega) | (apply w_neS3T; rfl; rfl; rfl; omega) | (apply w_neS3F; rfl; rfl; rfl; omega) | (apply w_eqS3; rfl; rfl; rfl) | (apply w_neS3; rfl; rfl; rfl) | (apply w_eqS2; rfl; rfl; rfl) | (apply w_neS2; rfl; rfl; rfl) | (apply w_maxL; rfl; rfl; rfl; omega) | (apply w_maxG; rfl; rfl; rfl; omega) | (apply w_max; rfl; rfl; rfl) | (apply w_cp; rfl; rfl; first | assumption | exact plain_ok _ _ _ | exact awake_ok) | refine spl ?_ ?_ | intro hc)
    all_goals (refine At_ret1 (by (first | exact .inl rfl | exact .inr rfl)) Try.results5 rfl ⟨by rfl, rfl⟩ (by (exact frm)))
  · refine Fn3 Try.func5 rfl Try.ntmps5 rfl ?_
    (repeat' first | refine stp ?_ | intro v' hv' | intro (b : Nat) | (apply w_convU; rfl; rfl; omega; omega) | (apply w_convI; rfl; rfl; omega; omega) | (apply w_quoU; rfl; rfl; rfl; omega; omega; omega) | (apply w_remU; rfl; rfl; rfl; omega; omega) | (apply w_mfR; rfl; rfl) | (apply w_cvp; rfl; rfl; exact inferInstance; rfl; rfl; assumption) | (apply w_eqS2T; rfl; rfl; rfl; omega) | (apply w_eqS2F; rfl; rfl; rfl; omega) | (apply w_neS2T; rfl; rfl; rfl; omega) | (apply w_neS2F; rfl; rfl; rfl; omega) | (apply w_eqS3T; rfl; rfl; rfl; omega) | (apply w_eqS3F; rfl; rfl; rfl; omega) | (apply w_neS3T; rfl; rfl; rfl; omega) | (apply w_neS3F; rfl; rfl; rfl; omega) | (apply w_eqS3; rfl; rfl; rfl) | (apply w_neS3; rfl; rfl; rfl) | (apply w_eqS2; rfl; rfl; rfl) | (apply w_neS2; rfl; rfl; rfl) | (apply w_maxL; rfl; rfl; rfl; omega) | (apply w_maxG; rfl; rfl; rfl; omega) | (apply w_max; rfl; rfl; rfl) | (apply w_cp; rfl; rfl; first | assumption | exact plain_ok _ _ _ | exact awake_ok) | refine spl ?_ ?_ | intro hc)
    all_goals (refine At_ret1 (by (first | exact .inl rfl | exact .inr rfl)) Try.results5 rfl ⟨by rfl, rfl⟩ (by (exact frm)))
  · subst hw
    rcases hce with hce | ⟨hce, hb, hL2⟩ <;> subst hce
    all_goals by_cases hl0 : 0 < l
    all_goals first | (have hlt' := hlt hl0; clear hlt) | clear hlt
    all_goals by_cases ha0 : 0 < a
    all_goals first | (obtain ⟨f1, f2, f3, f4⟩ := hlt'; have f5 := f4 ha0; clear f4) | (obtain ⟨f1, f2, f3, f4⟩ := hlt'; clear f4) | skip
    all_goals refine Fn3 Try.func5 rfl Try.ntmps5 rfl ?_
    all_goals (repeat' first | refine stp ?_ | intro v' hv' | intro (b : Nat) | (apply w_convU; rfl; rfl; omega; omega) | (apply w_convI; rfl; rfl; omega; omega) | (apply w_quoU; rfl; rfl; rfl; omega; omega; omega) | (apply w_remU; rfl; rfl; rfl; omega; omega) | (apply w_mfR; rfl; rfl) | (apply w_cvp; rfl; rfl; exact inferInstance; rfl; rfl; assumption) | (apply w_eqS2T; rfl; rfl; rfl; omega) | (apply w_eqS2F; rfl; rfl; rfl; omega) | (apply w_neS2T; rfl; rfl; rfl; omega) | (apply w_neS2F; rfl; rfl; rfl; omega) | (apply w_eqS3T; rfl; rfl; rfl; omega) | (apply w_eqS3F; rfl; rfl; rfl; omega) | (apply w_neS3T; rfl; rfl; rfl; omega) | (apply w_neS3F; rfl; rfl; rfl; omega) | (apply w_eqS3; rfl; rfl; rfl) | (apply w_neS3; rfl; rfl; rfl) | (apply w_eqS2; rfl; rfl; rfl) | (apply w_neS2; rfl; rfl; rfl) | (apply w_maxL; rfl; rfl; rfl; omega) | (apply w_maxG; rfl; rfl; rfl; omega) | (apply w_max; rfl; rfl; rfl) | (apply w_cp; rfl; rfl; first | assumption | exact plain_ok _ _ _ | exact awake_ok) | refine spl ?_ ?_ | intro hc)
    all_goals (refine At_ret1 (by (first | exact .inl rfl | exact .inr rfl)) Try.results5 rfl ⟨by rfl, rfl⟩ (by (exact frm)))
theorem lags_ok (q d t l e x s : Int) (hs : W64 s) (R : List HP) : Called Try.prog 5 [par q d t, num l e x, int s] R (is (.bool true) R) := by
  refine lags_go q d t l e x s _ (lagV q t l e) (lagV q t (l - s) e) (chargeM l e x s).1.1 (chargeM l e x s).1.2.1 (chargeM l e x s).1.2.2 (chargeM l e x s).2 hs.1 hs.2 (wrong_ok _ _ _ _ _ _ _) ?_ R
  by_cases h0 : wrongE 0 q d t l e x = 0
  · obtain ⟨hp, -, hn⟩ := wrongE_0 h0
    have hp' := hp
    unfold parOk at hp'
    have hn' := numE_0 hn
    by_cases hss : s < 0 ∨ 1073741824 < s
    · exact .inr (.inl ⟨h0, hss⟩)
    · refine .inr (.inr ⟨h0, hss, ⟨hn'.1, hn'.2.1, hn'.2.2.1.1, hn'.2.2.1.2⟩, ⟨hp'.1, by omega, by omega, hp'.2.2.2⟩, ?_, ?_, lagV_bounds hn'.2.2.1.1 (by omega) (by omega), ?_, charge_ok l e x s, ?_⟩)
      · have := may_ok q d t
        rwa [decide_eq_true hp] at this
      · have := lag_ok q d t l e x
        rwa [lagM_ok hp hn] at this
      · intro hl
        have b1 := lagV_bounds (l := l) hn'.2.2.1.1 (show 0 < q by omega) (show 0 ≤ t by omega)
        have b2 := lagV_le hn'.2.2.1.1 (show 0 < q by omega) (show 0 ≤ t by omega) hl
        have b3 := way_bounds hp hn'.2.1 (show 0 ≤ l by omega)
        have b4 : 0 ≤ (e - lagV q t l e) * q := Int.mul_nonneg (by omega) (by omega)
        refine ⟨b4, b2, b3.2.1, fun ha => ⟨lagV_gt (by omega) hl ha, ?_⟩⟩
        rw [Int.add_mul, Int.one_mul]; omega
      · unfold chargeM
        rw [if_neg (by simpa using hn)]
        by_cases hb : s < 0 ∨ l + 1073741824 < s
        · rw [if_pos hb]; exact .inl rfl
        · rw [if_neg hb]
          have hn2 : numE (l - s) e x = 0 := by
            unfold numE
            rw [if_neg (by omega), if_neg (by rw [timeE_in hn'.2.2.1]; decide), timeE_in hn'.2.2.2]
          refine .inr ⟨rfl, lagV_anti hn'.2.2.1.1 (by omega) (by omega) (by omega), ?_⟩
          have := lag_ok q d t (l - s) e x
          rwa [lagM_ok hp hn2] at this
  · exact .inl h0
end Go.Proofs.Ytecfbhenljkaaaa
