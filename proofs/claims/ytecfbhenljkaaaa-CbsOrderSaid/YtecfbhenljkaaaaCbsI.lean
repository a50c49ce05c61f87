/- CbsSpends: it answers true. Conditions: none. -/
import Derived.Test.YtecfbhenljkaaaaCbsIc
set_option linter.all false
set_option linter.deprecated false
namespace Go.Proofs.Ytecfbhenljkaaaa
open Go.Sep
variable [B0 : Base]
theorem spends_go (now q d t l e x c ca cb cc ce w w0 ra rb rc re lv le : Int) (h1 : -9223372036854775808 ≤ now) (h2 : now ≤ 9223372036854775807)
    (hK : ∀ R, Called Try.prog 12 [num l e x] R (is (int c) R)) (hC : ∀ R, Called Try.prog 11 [num l e x, int now] R (is (.tuple #[num ca cb cc, int ce]) R))
    (hc : c ≠ 0 ∧ ce = c ∧ ca = 0 ∧ cb = 0 ∧ cc = 0 ∨ c = 0 ∧ (now < 0 ∨ l + 1073741824 < now) ∧ ce = 10 ∧ ca = 0 ∧ cb = 0 ∧ cc = 0 ∨ c = 0 ∧ ¬ (now < 0 ∨ l + 1073741824 < now) ∧ ce = 0 ∧ ca = l - now ∧ cb = e ∧ cc = x)
    (hW : ∀ R, Called Try.prog 7 [int now, par q d t, num l e x] R (is (int w) R))
    (hW0 : ∀ R, Called Try.prog 7 [int 0, par q d t, num l e x] R (is (int w0) R))
    (hR : ∀ R, Called Try.prog 10 [int now, par q d t, num l e x] R (is (.tuple #[num ra rb rc, int re]) R))
    (hr : w ≠ 0 ∧ re = w ∧ ra = 0 ∧ rb = 0 ∧ rc = 0 ∨ w = 0 ∧ ∀ R, Called Try.prog 13 [int now, par q d t, num l e x] R (is (.tuple #[num ra rb rc, int re]) R))
    (hL : ∀ R, Called Try.prog 14 [par q d t, num l e x] R (is (.tuple #[int lv, int le]) R))
    (hl : w0 ≠ 0 ∧ le = w0 ∧ lv = 0 ∨ w0 = 0 ∧ le = 0 ∧ ∀ R, Called Try.prog 15 [par q d t, num l e x] R (is (int lv) R)) (hlb : c = 0 → -1073741824 ≤ l ∧ l ≤ 1073741824) (hcw : c ≠ 0 → w ≠ 0 ∧ w0 ≠ 0) (R : List HP) :
    Called Try.prog 4 [int now, par q d t, num l e x] R (is (.bool true) R) := by
  rcases hc with hc | hc | hc <;> rcases hr with hr | hr <;> rcases hl with hl | hl
  · exact spends_go000 now q d t l e x c ca cb cc ce w w0 ra rb rc re lv le h1 h2 hK hC hc hW hW0 hR hr hL hl hlb R
  · exact absurd hl.1 (hcw hc.1).2
  · exact absurd hr.1 (hcw hc.1).1
  · exact absurd hr.1 (hcw hc.1).1
  · exact spends_go100 now q d t l e x c ca cb cc ce w w0 ra rb rc re lv le h1 h2 hK hC hc hW hW0 hR hr hL hl hlb R
  · exact spends_go101 now q d t l e x c ca cb cc ce w w0 ra rb rc re lv le h1 h2 hK hC hc hW hW0 hR hr hL hl hlb R
  · exact spends_go110 now q d t l e x c ca cb cc ce w w0 ra rb rc re lv le h1 h2 hK hC hc hW hW0 hR hr hL hl hlb R
  · exact spends_go111 now q d t l e x c ca cb cc ce w w0 ra rb rc re lv le h1 h2 hK hC hc hW hW0 hR hr hL hl hlb R
  · exact spends_go200 now q d t l e x c ca cb cc ce w w0 ra rb rc re lv le h1 h2 hK hC hc hW hW0 hR hr hL hl hlb R
  · exact spends_go201 now q d t l e x c ca cb cc ce w w0 ra rb rc re lv le h1 h2 hK hC hc hW hW0 hR hr hL hl hlb R
  · exact spends_go210 now q d t l e x c ca cb cc ce w w0 ra rb rc re lv le h1 h2 hK hC hc hW hW0 hR hr hL hl hlb R
  · exact spends_go211 now q d t l e x c ca cb cc ce w w0 ra rb rc re lv le h1 h2 hK hC hc hW hW0 hR hr hL hl hlb R
theorem spends_ok (now q d t l e x : Int) (hq0 : W64 now) (R : List HP) : Called Try.prog 4 [int now, par q d t, num l e x] R (is (.bool true) R) := by
  have hC := charge_ok l e x now
  have hR := refill_ok now q d t l e x
  have hL := lag_ok q d t l e x
  refine spends_go now q d t l e x (numE l e x) _ _ _ _ (wrongE now q d t l e x) (wrongE 0 q d t l e x) _ _ _ _ _ _ hq0.1 hq0.2 (rcheck_ok l e x) hC ?_ (wrong_ok _ _ _ _ _ _ _) (wrong_ok _ _ _ _ _ _ _) hR ?_ hL ?_ (fun h => ⟨(numE_0 h).1, (numE_0 h).2.1⟩) (fun h => ⟨fun g => h (wrongE_0 g).2.2, fun g => h (wrongE_0 g).2.2⟩) R
  · unfold chargeM
    by_cases h0 : numE l e x = 0
    · rw [if_neg (by simpa using h0)]
      by_cases hs : now < 0 ∨ l + 1073741824 < now
      · rw [if_pos hs]; exact .inr (.inl ⟨h0, hs, rfl, rfl, rfl, rfl⟩)
      · rw [if_neg hs]; exact .inr (.inr ⟨h0, hs, rfl, rfl, rfl, rfl⟩)
    · rw [if_pos h0]; exact .inl ⟨h0, rfl, rfl, rfl, rfl⟩
  · by_cases h0 : wrongE now q d t l e x = 0
    · refine .inr ⟨h0, fun R => ?_⟩
      have := rrefill_ok now q d t l e x h0 R
      unfold refillM
      rw [if_neg (by simpa using h0)]
      exact this
    · unfold refillM
      rw [if_pos h0]
      exact .inl ⟨h0, rfl, rfl, rfl, rfl⟩
  · by_cases h0 : wrongE 0 q d t l e x = 0
    · obtain ⟨hp, -, hn⟩ := wrongE_0 h0
      rw [lagM_ok hp hn]
      exact .inr ⟨h0, rfl, rlag_ok q d t l e x hp hn⟩
    · rw [lagM_no h0]
      exact .inl ⟨h0, rfl, rfl⟩
end Go.Proofs.Ytecfbhenljkaaaa
