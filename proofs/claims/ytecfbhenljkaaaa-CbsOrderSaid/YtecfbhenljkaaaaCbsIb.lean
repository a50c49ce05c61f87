/- CbsSpends: it answers true. Conditions: none. -/
import Derived.Test.YtecfbhenljkaaaaCbsIa
set_option linter.all false
set_option linter.deprecated false
namespace Go.Proofs.Ytecfbhenljkaaaa
open Go.Sep
variable [B0 : Base]
set_option maxHeartbeats 4000000 in
theorem spends_go110 (now q d t l e x c ca cb cc ce w w0 ra rb rc re lv le : Int) (h1 : -9223372036854775808 ≤ now) (h2 : now ≤ 9223372036854775807)
    (hK : ∀ R, Called Try.prog 12 [num l e x] R (is (int c) R)) (hC : ∀ R, Called Try.prog 11 [num l e x, int now] R (is (.tuple #[num ca cb cc, int ce]) R))
    (hc : c = 0 ∧ (now < 0 ∨ l + 1073741824 < now) ∧ ce = 10 ∧ ca = 0 ∧ cb = 0 ∧ cc = 0)
    (hW : ∀ R, Called Try.prog 7 [int now, par q d t, num l e x] R (is (int w) R))
    (hW0 : ∀ R, Called Try.prog 7 [int 0, par q d t, num l e x] R (is (int w0) R))
    (hR : ∀ R, Called Try.prog 10 [int now, par q d t, num l e x] R (is (.tuple #[num ra rb rc, int re]) R))
    (hr : w = 0 ∧ ∀ R, Called Try.prog 13 [int now, par q d t, num l e x] R (is (.tuple #[num ra rb rc, int re]) R))
    (hL : ∀ R, Called Try.prog 14 [par q d t, num l e x] R (is (.tuple #[int lv, int le]) R))
    (hl : w0 ≠ 0 ∧ le = w0 ∧ lv = 0) (hlb : c = 0 → -1073741824 ≤ l ∧ l ≤ 1073741824) (R : List HP) :
    Called Try.prog 4 [int now, par q d t, num l e x] R (is (.bool true) R) := by
  obtain ⟨c1, c0, c2, c3, c4, c5⟩ := hc
  obtain ⟨hw, hrr⟩ := hr
  obtain ⟨hw0, g5, g6⟩ := hl
  have hlb' := hlb c1
  clear hlb
  subst c2 c3 c4 c5 g5
  subst c1
  subst g6
  subst hw
  refine Fn3 Try.func4 rfl Try.ntmps4 rfl ?_
  (repeat' first | refine C_drawI (id := 12) [some 95, some 96] [0, 1, 2, 3, 4, 5, 6, 7, 8, 9, 10] (by kernel_rfl) (by kernel_rfl) (by kernel_rfl) rfl ?_ | refine C_drawI (id := 13) [] [0, 1, 2, 3, 4, 6, 5, 7, 8] (by kernel_rfl) (by kernel_rfl) (by kernel_rfl) rfl ?_ | refine stp ?_ | intro v' hv' | intro (b : Nat) | (apply w_convU; rfl; rfl; omega; omega) | (apply w_convI; rfl; rfl; omega; omega) | (apply w_quoU; rfl; rfl; rfl; omega; omega; omega) | (apply w_remU; rfl; rfl; rfl; omega; omega) | (apply w_mfR; rfl; rfl) | (apply w_cvp; rfl; rfl; exact inferInstance; rfl; rfl; assumption) | (apply w_eqS2T; rfl; rfl; rfl; omega) | (apply w_eqS2F; rfl; rfl; rfl; omega) | (apply w_neS2T; rfl; rfl; rfl; omega) | (apply w_neS2F; rfl; rfl; rfl; omega) | (apply w_eqS3T; rfl; rfl; rfl; omega) | (apply w_eqS3F; rfl; rfl; rfl; omega) | (apply w_neS3T; rfl; rfl; rfl; omega) | (apply w_neS3F; rfl; rfl; rfl; omega) | (apply w_eqS3; rfl; rfl; rfl) | (apply w_neS3; rfl; rfl; rfl) | (apply w_eqS2; rfl; rfl; rfl) | (apply w_neS2; rfl; rfl; rfl) | (apply w_maxL; rfl; rfl; rfl; omega) | (apply w_maxG; rfl; rfl; rfl; omega) | (apply w_max; rfl; rfl; rfl) | (apply w_cp; rfl; rfl; first | assumption | exact plain_ok _ _ _ | exact awake_ok) | refine spl ?_ ?_ | intro hc)
  all_goals (refine At_ret1 (by (first | exact .inl rfl | exact .inr rfl)) Try.results4 rfl ⟨by rfl, rfl⟩ (by (exact frm)))
set_option maxHeartbeats 4000000 in
theorem spends_go111 (now q d t l e x c ca cb cc ce w w0 ra rb rc re lv le : Int) (h1 : -9223372036854775808 ≤ now) (h2 : now ≤ 9223372036854775807)
    (hK : ∀ R, Called Try.prog 12 [num l e x] R (is (int c) R)) (hC : ∀ R, Called Try.prog 11 [num l e x, int now] R (is (.tuple #[num ca cb cc, int ce]) R))
    (hc : c = 0 ∧ (now < 0 ∨ l + 1073741824 < now) ∧ ce = 10 ∧ ca = 0 ∧ cb = 0 ∧ cc = 0)
    (hW : ∀ R, Called Try.prog 7 [int now, par q d t, num l e x] R (is (int w) R))
    (hW0 : ∀ R, Called Try.prog 7 [int 0, par q d t, num l e x] R (is (int w0) R))
    (hR : ∀ R, Called Try.prog 10 [int now, par q d t, num l e x] R (is (.tuple #[num ra rb rc, int re]) R))
    (hr : w = 0 ∧ ∀ R, Called Try.prog 13 [int now, par q d t, num l e x] R (is (.tuple #[num ra rb rc, int re]) R))
    (hL : ∀ R, Called Try.prog 14 [par q d t, num l e x] R (is (.tuple #[int lv, int le]) R))
    (hl : w0 = 0 ∧ le = 0 ∧ ∀ R, Called Try.prog 15 [par q d t, num l e x] R (is (int lv) R)) (hlb : c = 0 → -1073741824 ≤ l ∧ l ≤ 1073741824) (R : List HP) :
    Called Try.prog 4 [int now, par q d t, num l e x] R (is (.bool true) R) := by
  obtain ⟨c1, c0, c2, c3, c4, c5⟩ := hc
  obtain ⟨hw, hrr⟩ := hr
  obtain ⟨hw0, g5, hll⟩ := hl
  have hlb' := hlb c1
  clear hlb
  subst c2 c3 c4 c5 g5
  subst c1
  subst hw0
  subst hw
  refine Fn3 Try.func4 rfl Try.ntmps4 rfl ?_
  (repeat' first | refine C_drawI (id := 12) [some 95, some 96] [0, 1, 2, 3, 4, 5, 6, 7, 8, 9, 10] (by kernel_rfl) (by kernel_rfl) (by kernel_rfl) rfl ?_ | refine C_drawI (id := 13) [] [0, 1, 2, 3, 4, 6, 5, 7, 8] (by kernel_rfl) (by kernel_rfl) (by kernel_rfl) rfl ?_ | refine stp ?_ | intro v' hv' | intro (b : Nat) | (apply w_convU; rfl; rfl; omega; omega) | (apply w_convI; rfl; rfl; omega; omega) | (apply w_quoU; rfl; rfl; rfl; omega; omega; omega) | (apply w_remU; rfl; rfl; rfl; omega; omega) | (apply w_mfR; rfl; rfl) | (apply w_cvp; rfl; rfl; exact inferInstance; rfl; rfl; assumption) | (apply w_eqS2T; rfl; rfl; rfl; omega) | (apply w_eqS2F; rfl; rfl; rfl; omega) | (apply w_neS2T; rfl; rfl; rfl; omega) | (apply w_neS2F; rfl; rfl; rfl; omega) | (apply w_eqS3T; rfl; rfl; rfl; omega) | (apply w_eqS3F; rfl; rfl; rfl; omega) | (apply w_neS3T; rfl; rfl; rfl; omega) | (apply w_neS3F; rfl; rfl; rfl; omega) | (apply w_eqS3; rfl; rfl; rfl) | (apply w_neS3; rfl; rfl; rfl) | (apply w_eqS2; rfl; rfl; rfl) | (apply w_neS2; rfl; rfl; rfl) | (apply w_maxL; rfl; rfl; rfl; omega) | (apply w_maxG; rfl; rfl; rfl; omega) | (apply w_max; rfl; rfl; rfl) | (apply w_cp; rfl; rfl; first | assumption | exact plain_ok _ _ _ | exact awake_ok) | refine spl ?_ ?_ | intro hc)
  all_goals (refine At_ret1 (by (first | exact .inl rfl | exact .inr rfl)) Try.results4 rfl ⟨by rfl, rfl⟩ (by (exact frm)))
set_option maxHeartbeats 4000000 in
theorem spends_go200 (now q d t l e x c ca cb cc ce w w0 ra rb rc re lv le : Int) (h1 : -9223372036854775808 ≤ now) (h2 : now ≤ 9223372036854775807)
    (hK : ∀ R, Called Try.prog 12 [num l e x] R (is (int c) R)) (hC : ∀ R, Called Try.prog 11 [num l e x, int now] R (is (.tuple #[num ca cb cc, int ce]) R))
    (hc : c = 0 ∧ ¬ (now < 0 ∨ l + 1073741824 < now) ∧ ce = 0 ∧ ca = l - now ∧ cb = e ∧ cc = x)
    (hW : ∀ R, Called Try.prog 7 [int now, par q d t, num l e x] R (is (int w) R))
    (hW0 : ∀ R, Called Try.prog 7 [int 0, par q d t, num l e x] R (is (int w0) R))
    (hR : ∀ R, Called Try.prog 10 [int now, par q d t, num l e x] R (is (.tuple #[num ra rb rc, int re]) R))
    (hr : w ≠ 0 ∧ re = w ∧ ra = 0 ∧ rb = 0 ∧ rc = 0)
    (hL : ∀ R, Called Try.prog 14 [par q d t, num l e x] R (is (.tuple #[int lv, int le]) R))
    (hl : w0 ≠ 0 ∧ le = w0 ∧ lv = 0) (hlb : c = 0 → -1073741824 ≤ l ∧ l ≤ 1073741824) (R : List HP) :
    Called Try.prog 4 [int now, par q d t, num l e x] R (is (.bool true) R) := by
  obtain ⟨c1, c0, c2, c3, c4, c5⟩ := hc
  obtain ⟨hw, g1, g2, g3, g4⟩ := hr
  obtain ⟨hw0, g5, g6⟩ := hl
  have hlb' := hlb c1
  clear hlb
  subst c2 c3 c4 c5 g5
  subst c1
  subst g6
  subst g1 g2 g3 g4
  refine Fn3 Try.func4 rfl Try.ntmps4 rfl ?_
  (repeat' first | refine C_drawI (id := 12) [some 95, some 96] [0, 1, 2, 3, 4, 5, 6, 7, 8, 9, 10] (by kernel_rfl) (by kernel_rfl) (by kernel_rfl) rfl ?_ | refine C_drawI (id := 13) [] [0, 1, 2, 3, 4, 6, 5, 7, 8] (by kernel_rfl) (by kernel_rfl) (by kernel_rfl) rfl ?_ | refine stp ?_ | intro v' hv' | intro (b : Nat) | (apply w_convU; rfl; rfl; omega; omega) | (apply w_convI; rfl; rfl; omega; omega) | (apply w_quoU; rfl; rfl; rfl; omega; omega; omega) | (apply w_remU; rfl; rfl; rfl; omega; omega) | (apply w_mfR; rfl; rfl) | (apply w_cvp; rfl; rfl; exact inferInstance; rfl; rfl; assumption) | (apply w_eqS2T; rfl; rfl; rfl; omega) | (apply w_eqS2F; rfl; rfl; rfl; omega) | (apply w_neS2T; rfl; rfl; rfl; omega) | (apply w_neS2F; rfl; rfl; rfl; omega) | (apply w_eqS3T; rfl; rfl; rfl; omega) | (apply w_eqS3F; rfl; rfl; rfl; omega) | (apply w_neS3T; rfl; rfl; rfl; omega) | (apply w_neS3F; rfl; rfl; rfl; omega) | (apply w_eqS3; rfl; rfl; rfl) | (apply w_neS3; rfl; rfl; rfl) | (apply w_eqS2; rfl; rfl; rfl) | (apply w_neS2; rfl; rfl; rfl) | (apply w_maxL; rfl; rfl; rfl; omega) | (apply w_maxG; rfl; rfl; rfl; omega) | (apply w_max; rfl; rfl; rfl) | (apply w_cp; rfl; rfl; first | assumption | exact plain_ok _ _ _ | exact awake_ok) | refine spl ?_ ?_ | intro hc)
  all_goals (refine At_ret1 (by (first | exact .inl rfl | exact .inr rfl)) Try.results4 rfl ⟨by rfl, rfl⟩ (by (exact frm)))
end Go.Proofs.Ytecfbhenljkaaaa
