/- CbsOrder: it answers true. Conditions: none. -/
import Derived.Test.YtecfbhenljkaaaaCbsK
set_option linter.all false
set_option linter.deprecated false
namespace Go.Proofs.Ytecfbhenljkaaaa
open Go.Sep
variable [B0 : Base]
/-- What is so of one that has less left. -/
theorem order_facts {now q d t l e x m : Int} (h0 : wrongE now q d t l e x = 0) (hnt : now + t < 1099511627776) (hml : m ≤ l) (hm : numE m e x = 0) :
    ∃ (a b : Int) (c f : Bool) (x1 x2 x3 xe y1 y2 y3 ye : Int), a ≤ b ∧ (c = false ∨ c = true ∧ f = true) ∧ (xe = 0 → ye = 0 → l ≤ 0 → x2 ≤ y2 ∨ x3 = now + t) ∧
      (∀ R, Called Try.prog 14 [par q d t, num l e x] R (is (.tuple #[int a, int 0]) R)) ∧
      (∀ R, Called Try.prog 14 [par q d t, num m e x] R (is (.tuple #[int b, int 0]) R)) ∧
      (∀ R, Called Try.prog 18 [int now, par q d t, num l e x] R (is (.tuple #[.bool c, int 0]) R)) ∧
      (∀ R, Called Try.prog 18 [int now, par q d t, num m e x] R (is (.tuple #[.bool f, int 0]) R)) ∧
      (∀ R, Called Try.prog 10 [int now, par q d t, num l e x] R (is (.tuple #[num x1 x2 x3, int xe]) R)) ∧
      (∀ R, Called Try.prog 10 [int now, par q d t, num m e x] R (is (.tuple #[num y1 y2 y3, int ye]) R)) := by
  obtain ⟨hp, ht, hn⟩ := wrongE_0 h0
  have hp' := hp
  unfold parOk at hp'
  have hn' := numE_0 hn
  have hm' := numE_0 hm
  have hm0 : wrongE now q d t m e x = 0 := by unfold wrongE; rw [if_neg (by simpa using hp), if_neg (by simpa using ht)]; exact hm
  refine ⟨lagV q t l e, lagV q t m e, fitsV now q d l e, fitsV now q d m e, (refillC now q d t l e x).1.1, (refillC now q d t l e x).1.2.1, (refillC now q d t l e x).1.2.2, (refillC now q d t l e x).2,
    (refillC now q d t m e x).1.1, (refillC now q d t m e x).1.2.1, (refillC now q d t m e x).1.2.2, (refillC now q d t m e x).2, lagV_anti hn'.2.2.1.1 (by omega) (by omega) hml, ?_, ?_, ?_, ?_, fits_ok now q d t l e x h0, fits_ok now q d t m e x hm0, ?_, ?_⟩
  · cases hc : fitsV now q d l e with
    | false => exact .inl rfl
    | true => exact .inr ⟨rfl, fitsV_anti (by omega) hml hc⟩
  · exact fun h1 h2 hl => refill_order hp hn'.1 hm'.1 hml hl hnt ht h1 h2
  · have := lag_ok q d t l e x
    rwa [lagM_ok hp hn] at this
  · have := lag_ok q d t m e x
    rwa [lagM_ok hp hm] at this
  · have := refill_ok now q d t l e x
    unfold refillM at this
    rwa [if_neg (by simpa using h0)] at this
  · have := refill_ok now q d t m e x
    unfold refillM at this
    rwa [if_neg (by simpa using hm0)] at this
set_option maxHeartbeats 16000000 in
theorem order_ok (now q d t l e x : Int) (hq0 : W64 now) (R : List HP) : Called Try.prog 6 [int now, par q d t, num l e x] R (is (.bool true) R) := by
  have hW := wrong_ok now q d t l e x
  by_cases h0 : wrongE now q d t l e x = 0
  · rw [h0] at hW
    obtain ⟨hp, ht, hn⟩ := wrongE_0 h0
    have hp' := hp
    unfold parOk at hp'
    have hn' := numE_0 hn
    have ht' := timeE_0 ht
    have hT := rtime_ok (now + t)
    have hM := may_ok q d t
    rw [decide_eq_true hp] at hM
    by_cases hnt : timeE (now + t) = 0
    · rw [hnt] at hT
      have hnt' := timeE_0 hnt
      refine Fn3 Try.func6 rfl Try.ntmps6 rfl ?_
      (repeat' first | refine stp ?_ | intro v' hv' | intro (b : Nat) | (apply w_convU; rfl; rfl; omega; omega) | (apply w_convI; rfl; rfl; omega; omega) | (apply w_quoU; rfl; rfl; rfl; omega; omega; omega) | (apply w_remU; rfl; rfl; rfl; omega; omega) | (apply w_mfR; rfl; rfl) | (apply w_cvp; rfl; rfl; exact inferInstance; rfl; rfl; assumption) | (apply w_eqS2T; rfl; rfl; rfl; omega) | (apply w_eqS2F; rfl; rfl; rfl; omega) | (apply w_neS2T; rfl; rfl; rfl; omega) | (apply w_neS2F; rfl; rfl; rfl; omega) | (apply w_eqS3T; rfl; rfl; rfl; omega) | (apply w_eqS3F; rfl; rfl; rfl; omega) | (apply w_neS3T; rfl; rfl; rfl; omega) | (apply w_neS3F; rfl; rfl; rfl; omega) | (apply w_eqS3; rfl; rfl; rfl) | (apply w_neS3; rfl; rfl; rfl) | (apply w_eqS2; rfl; rfl; rfl) | (apply w_neS2; rfl; rfl; rfl) | (apply w_maxL; rfl; rfl; rfl; omega) | (apply w_maxG; rfl; rfl; rfl; omega) | (apply w_max; rfl; rfl; rfl) | (apply w_cp; rfl; rfl; first | assumption | exact plain_ok _ _ _ | exact awake_ok | exact rcheck_ok _ _ _ | exact rtime_ok _) | refine spl ?_ ?_ | intro hc)
      rename_i b4
      obtain ⟨b5, hb5⟩ : ∃ r, r = b := ⟨_, rfl⟩
      subst hb5
      refine C_loopK [6, 7, 8, 9, 10, 11, 12, 13, 14, 15, 16, 17, 18, 19, 20, 36, 37, 38, 39, 40, 41, 42, 43, 44, 45, 46, 47, 48, 49, 50, 51, 52, 53, 54, 55, 56, 57, 58, 59, 60, 61, 62, 63, 64, 65, 66, 67, 68, 69, 70, 71, 72, 73, 74, 75, 76, 77, 78, 79, 80, 81, 82, 83, 84, 85, 86, 87, 88, 89, 90, 91, 92, 93, 94, 95, 96, 97, 98, 99, 100, 101, 102, 103, 104, 105, 106, 107, 108, 109, 110, 111, 112, 113, 114, 115, 116, 117, 118, 119, 120, 121, 122, 123, 124, 125, 126, 127, 128, 129, 130, 131, 132, 133, 134, 135, 136, 137, 138, 139, 140, 141, 142, 143, 144, 145, 146, 147, 148, 149] (fun k : Nat => 2 - k) (fun k => [(7, int k)]) (fun _ => pt b5 25 [int l, int e, int x] :: pt b4 23 [int q, int d, int t] :: R) (fun k => k ≤ 2) 0 (Nat.zero_le _) (by (focus ((repeat (first | exact Keep.nil | apply Keep.drop rfl | apply Keep.keep rfl)); done))) (by (exact sbf)) (by (exact frm)) ?_
      intro k hk
      dsimp only [List.cons_append, List.nil_append]
      by_cases hlt : k < 2
      · have go : ∀ m, m ≤ l → numE m e x = 0 → ∃ u, u = m := fun m _ _ => ⟨m, rfl⟩
        rcases (show k = 0 ∨ k = 1 by omega) with rfl | rfl
        · by_cases hm : numE (l - 1) e x = 0
          · have hK := rcheck_ok (l - 1) e x
            rw [hm] at hK
            obtain ⟨a, b, c, f, x1, x2, x3, xe, y1, y2, y3, ye, f1, f2, f3, c1, c2, c3, c4, c5, c6⟩ := order_facts h0 hnt'.2 (show l - 1 ≤ l by omega) hm
            rcases f2 with rfl | ⟨rfl, rfl⟩
            · (repeat' first | refine stp ?_ | intro v' hv' | intro (b : Nat) | (apply w_convU; rfl; rfl; omega; omega) | (apply w_convI; rfl; rfl; omega; omega) | (apply w_quoU; rfl; rfl; rfl; omega; omega; omega) | (apply w_remU; rfl; rfl; rfl; omega; omega) | (apply w_mfR; rfl; rfl) | (apply w_cvp; rfl; rfl; exact inferInstance; rfl; rfl; assumption) | (apply w_eqS2T; rfl; rfl; rfl; omega) | (apply w_eqS2F; rfl; rfl; rfl; omega) | (apply w_neS2T; rfl; rfl; rfl; omega) | (apply w_neS2F; rfl; rfl; rfl; omega) | (apply w_eqS3T; rfl; rfl; rfl; omega) | (apply w_eqS3F; rfl; rfl; rfl; omega) | (apply w_neS3T; rfl; rfl; rfl; omega) | (apply w_neS3F; rfl; rfl; rfl; omega) | (apply w_eqS3; rfl; rfl; rfl) | (apply w_neS3; rfl; rfl; rfl) | (apply w_eqS2; rfl; rfl; rfl) | (apply w_neS2; rfl; rfl; rfl) | (apply w_maxL; rfl; rfl; rfl; omega) | (apply w_maxG; rfl; rfl; rfl; omega) | (apply w_max; rfl; rfl; rfl) | (apply w_cp; rfl; rfl; first | assumption | exact plain_ok _ _ _ | exact awake_ok | exact rcheck_ok _ _ _ | exact rtime_ok _) | refine spl ?_ ?_ | intro hc)
              all_goals first | (exfalso; omega) | refine At_againK 1 (by omega) (by omega) (by (exact sbf)) (by (exact sbf)) (by (exact frm))
            · (repeat' first | refine stp ?_ | intro v' hv' | intro (b : Nat) | (apply w_convU; rfl; rfl; omega; omega) | (apply w_convI; rfl; rfl; omega; omega) | (apply w_quoU; rfl; rfl; rfl; omega; omega; omega) | (apply w_remU; rfl; rfl; rfl; omega; omega) | (apply w_mfR; rfl; rfl) | (apply w_cvp; rfl; rfl; exact inferInstance; rfl; rfl; assumption) | (apply w_eqS2T; rfl; rfl; rfl; omega) | (apply w_eqS2F; rfl; rfl; rfl; omega) | (apply w_neS2T; rfl; rfl; rfl; omega) | (apply w_neS2F; rfl; rfl; rfl; omega) | (apply w_eqS3T; rfl; rfl; rfl; omega) | (apply w_eqS3F; rfl; rfl; rfl; omega) | (apply w_neS3T; rfl; rfl; rfl; omega) | (apply w_neS3F; rfl; rfl; rfl; omega) | (apply w_eqS3; rfl; rfl; rfl) | (apply w_neS3; rfl; rfl; rfl) | (apply w_eqS2; rfl; rfl; rfl) | (apply w_neS2; rfl; rfl; rfl) | (apply w_maxL; rfl; rfl; rfl; omega) | (apply w_maxG; rfl; rfl; rfl; omega) | (apply w_max; rfl; rfl; rfl) | (apply w_cp; rfl; rfl; first | assumption | exact plain_ok _ _ _ | exact awake_ok | exact rcheck_ok _ _ _ | exact rtime_ok _) | refine spl ?_ ?_ | intro hc)
              all_goals first | (exfalso; omega) | refine At_againK 1 (by omega) (by omega) (by (exact sbf)) (by (exact sbf)) (by (exact frm))
          · (repeat' first | refine stp ?_ | intro v' hv' | intro (b : Nat) | (apply w_convU; rfl; rfl; omega; omega) | (apply w_convI; rfl; rfl; omega; omega) | (apply w_quoU; rfl; rfl; rfl; omega; omega; omega) | (apply w_remU; rfl; rfl; rfl; omega; omega) | (apply w_mfR; rfl; rfl) | (apply w_cvp; rfl; rfl; exact inferInstance; rfl; rfl; assumption) | (apply w_eqS2T; rfl; rfl; rfl; omega) | (apply w_eqS2F; rfl; rfl; rfl; omega) | (apply w_neS2T; rfl; rfl; rfl; omega) | (apply w_neS2F; rfl; rfl; rfl; omega) | (apply w_eqS3T; rfl; rfl; rfl; omega) | (apply w_eqS3F; rfl; rfl; rfl; omega) | (apply w_neS3T; rfl; rfl; rfl; omega) | (apply w_neS3F; rfl; rfl; rfl; omega) | (apply w_eqS3; rfl; rfl; rfl) | (apply w_neS3; rfl; rfl; rfl) | (apply w_eqS2; rfl; rfl; rfl) | (apply w_neS2; rfl; rfl; rfl) | (apply w_maxL; rfl; rfl; rfl; omega) | (apply w_maxG; rfl; rfl; rfl; omega) | (apply w_max; rfl; rfl; rfl) | (apply w_cp; rfl; rfl; first | assumption | exact plain_ok _ _ _ | exact awake_ok | exact rcheck_ok _ _ _ | exact rtime_ok _) | refine spl ?_ ?_ | intro hc)
            all_goals first | (exfalso; omega) | refine At_againK 1 (by omega) (by omega) (by (exact sbf)) (by (exact sbf)) (by (exact frm))
        · by_cases hm : numE (l - q) e x = 0
          · have hK := rcheck_ok (l - q) e x
            rw [hm] at hK
            obtain ⟨a, b, c, f, x1, x2, x3, xe, y1, y2, y3, ye, f1, f2, f3, c1, c2, c3, c4, c5, c6⟩ := order_facts h0 hnt'.2 (show l - q ≤ l by omega) hm
            rcases f2 with rfl | ⟨rfl, rfl⟩
            · (repeat' first | refine stp ?_ | intro v' hv' | intro (b : Nat) | (apply w_convU; rfl; rfl; omega; omega) | (apply w_convI; rfl; rfl; omega; omega) | (apply w_quoU; rfl; rfl; rfl; omega; omega; omega) | (apply w_remU; rfl; rfl; rfl; omega; omega) | (apply w_mfR; rfl; rfl) | (apply w_cvp; rfl; rfl; exact inferInstance; rfl; rfl; assumption) | (apply w_eqS2T; rfl; rfl; rfl; omega) | (apply w_eqS2F; rfl; rfl; rfl; omega) | (apply w_neS2T; rfl; rfl; rfl; omega) | (apply w_neS2F; rfl; rfl; rfl; omega) | (apply w_eqS3T; rfl; rfl; rfl; omega) | (apply w_eqS3F; rfl; rfl; rfl; omega) | (apply w_neS3T; rfl; rfl; rfl; omega) | (apply w_neS3F; rfl; rfl; rfl; omega) | (apply w_eqS3; rfl; rfl; rfl) | (apply w_neS3; rfl; rfl; rfl) | (apply w_eqS2; rfl; rfl; rfl) | (apply w_neS2; rfl; rfl; rfl) | (apply w_maxL; rfl; rfl; rfl; omega) | (apply w_maxG; rfl; rfl; rfl; omega) | (apply w_max; rfl; rfl; rfl) | (apply w_cp; rfl; rfl; first | assumption | exact plain_ok _ _ _ | exact awake_ok | exact rcheck_ok _ _ _ | exact rtime_ok _) | refine spl ?_ ?_ | intro hc)
              all_goals first | (exfalso; omega) | refine At_againK 2 (by omega) (by omega) (by (exact sbf)) (by (exact sbf)) (by (exact frm))
            · (repeat' first | refine stp ?_ | intro v' hv' | intro (b : Nat) | (apply w_convU; rfl; rfl; omega; omega) | (apply w_convI; rfl; rfl; omega; omega) | (apply w_quoU; rfl; rfl; rfl; omega; omega; omega) | (apply w_remU; rfl; rfl; rfl; omega; omega) | (apply w_mfR; rfl; rfl) | (apply w_cvp; rfl; rfl; exact inferInstance; rfl; rfl; assumption) | (apply w_eqS2T; rfl; rfl; rfl; omega) | (apply w_eqS2F; rfl; rfl; rfl; omega) | (apply w_neS2T; rfl; rfl; rfl; omega) | (apply w_neS2F; rfl; rfl; rfl; omega) | (apply w_eqS3T; rfl; rfl; rfl; omega) | (apply w_eqS3F; rfl; rfl; rfl; omega) | (apply w_neS3T; rfl; rfl; rfl; omega) | (apply w_neS3F; rfl; rfl; rfl; omega) | (apply w_eqS3; rfl; rfl; rfl) | (apply w_neS3; rfl; rfl; rfl) | (apply w_eqS2; rfl; rfl; rfl) | (apply w_neS2; rfl; rfl; rfl) | (apply w_maxL; rfl; rfl; rfl; omega) | (apply w_maxG; rfl; rfl; rfl; omega) | (apply w_max; rfl; rfl; rfl) | (apply w_cp; rfl; rfl; first | assumption | exact plain_ok _ _ _ | exact awake_ok | exact rcheck_ok _ _ _ | exact rtime_ok _) | refine spl ?_ ?_ | intro hc)
              all_goals first | (exfalso; omega) | refine At_againK 2 (by omega) (by omega) (by (exact sbf)) (by (exact sbf)) (by (exact frm))
          · (repeat' first | refine stp ?_ | intro v' hv' | intro (b : Nat) | (apply w_convU; rfl; rfl; omega; omega) | (apply w_convI; rfl; rfl; omega; omega) | (apply w_quoU; rfl; rfl; rfl; omega; omega; omega) | (apply w_remU; rfl; rfl; rfl; omega; omega) | (apply w_mfR; rfl; rfl) | (apply w_cvp; rfl; rfl; exact inferInstance; rfl; rfl; assumption) | (apply w_eqS2T; rfl; rfl; rfl; omega) | (apply w_eqS2F; rfl; rfl; rfl; omega) | (apply w_neS2T; rfl; rfl; rfl; omega) | (apply w_neS2F; rfl; rfl; rfl; omega) | (apply w_eqS3T; rfl; rfl; rfl; omega) | (apply w_eqS3F; rfl; rfl; rfl; omega) | (apply w_neS3T; rfl; rfl; rfl; omega) | (apply w_neS3F; rfl; rfl; rfl; omega) | (apply w_eqS3; rfl; rfl; rfl) | (apply w_neS3; rfl; rfl; rfl) | (apply w_eqS2; rfl; rfl; rfl) | (apply w_neS2; rfl; rfl; rfl) | (apply w_maxL; rfl; rfl; rfl; omega) | (apply w_maxG; rfl; rfl; rfl; omega) | (apply w_max; rfl; rfl; rfl) | (apply w_cp; rfl; rfl; first | assumption | exact plain_ok _ _ _ | exact awake_ok | exact rcheck_ok _ _ _ | exact rtime_ok _) | refine spl ?_ ?_ | intro hc)
            all_goals first | (exfalso; omega) | refine At_againK 2 (by omega) (by omega) (by (exact sbf)) (by (exact sbf)) (by (exact frm))
      · (repeat' first | refine stp ?_ | intro v' hv' | intro (b : Nat) | (apply w_convU; rfl; rfl; omega; omega) | (apply w_convI; rfl; rfl; omega; omega) | (apply w_quoU; rfl; rfl; rfl; omega; omega; omega) | (apply w_remU; rfl; rfl; rfl; omega; omega) | (apply w_mfR; rfl; rfl) | (apply w_cvp; rfl; rfl; exact inferInstance; rfl; rfl; assumption) | (apply w_eqS2T; rfl; rfl; rfl; omega) | (apply w_eqS2F; rfl; rfl; rfl; omega) | (apply w_neS2T; rfl; rfl; rfl; omega) | (apply w_neS2F; rfl; rfl; rfl; omega) | (apply w_eqS3T; rfl; rfl; rfl; omega) | (apply w_eqS3F; rfl; rfl; rfl; omega) | (apply w_neS3T; rfl; rfl; rfl; omega) | (apply w_neS3F; rfl; rfl; rfl; omega) | (apply w_eqS3; rfl; rfl; rfl) | (apply w_neS3; rfl; rfl; rfl) | (apply w_eqS2; rfl; rfl; rfl) | (apply w_neS2; rfl; rfl; rfl) | (apply w_maxL; rfl; rfl; rfl; omega) | (apply w_maxG; rfl; rfl; rfl; omega) | (apply w_max; rfl; rfl; rfl) | (apply w_cp; rfl; rfl; first | assumption | exact plain_ok _ _ _ | exact awake_ok | exact rcheck_ok _ _ _ | exact rtime_ok _) | refine spl ?_ ?_ | intro hc)
        all_goals (refine At_ret1 (by (first | exact .inl rfl | exact .inr rfl)) Try.results6 rfl ⟨by rfl, rfl⟩ (by (exact frm)))
    · refine Fn3 Try.func6 rfl Try.ntmps6 rfl ?_
      (repeat' first | refine stp ?_ | intro v' hv' | intro (b : Nat) | (apply w_convU; rfl; rfl; omega; omega) | (apply w_convI; rfl; rfl; omega; omega) | (apply w_quoU; rfl; rfl; rfl; omega; omega; omega) | (apply w_remU; rfl; rfl; rfl; omega; omega) | (apply w_mfR; rfl; rfl) | (apply w_cvp; rfl; rfl; exact inferInstance; rfl; rfl; assumption) | (apply w_eqS2T; rfl; rfl; rfl; omega) | (apply w_eqS2F; rfl; rfl; rfl; omega) | (apply w_neS2T; rfl; rfl; rfl; omega) | (apply w_neS2F; rfl; rfl; rfl; omega) | (apply w_eqS3T; rfl; rfl; rfl; omega) | (apply w_eqS3F; rfl; rfl; rfl; omega) | (apply w_neS3T; rfl; rfl; rfl; omega) | (apply w_neS3F; rfl; rfl; rfl; omega) | (apply w_eqS3; rfl; rfl; rfl) | (apply w_neS3; rfl; rfl; rfl) | (apply w_eqS2; rfl; rfl; rfl) | (apply w_neS2; rfl; rfl; rfl) | (apply w_maxL; rfl; rfl; rfl; omega) | (apply w_maxG; rfl; rfl; rfl; omega) | (apply w_max; rfl; rfl; rfl) | (apply w_cp; rfl; rfl; first | assumption | exact plain_ok _ _ _ | exact awake_ok | exact rcheck_ok _ _ _ | exact rtime_ok _) | refine spl ?_ ?_ | intro hc)
      all_goals (refine At_ret1 (by (first | exact .inl rfl | exact .inr rfl)) Try.results6 rfl ⟨by rfl, rfl⟩ (by (exact frm)))
  · refine Fn3 Try.func6 rfl Try.ntmps6 rfl ?_
    (repeat' first | refine stp ?_ | intro v' hv' | intro (b : Nat) | (apply w_convU; rfl; rfl; omega; omega) | (apply w_convI; rfl; rfl; omega; omega) | (apply w_quoU; rfl; rfl; rfl; omega; omega; omega) | (apply w_remU; rfl; rfl; rfl; omega; omega) | (apply w_mfR; rfl; rfl) | (apply w_cvp; rfl; rfl; exact inferInstance; rfl; rfl; assumption) | (apply w_eqS2T; rfl; rfl; rfl; omega) | (apply w_eqS2F; rfl; rfl; rfl; omega) | (apply w_neS2T; rfl; rfl; rfl; omega) | (apply w_neS2F; rfl; rfl; rfl; omega) | (apply w_eqS3T; rfl; rfl; rfl; omega) | (apply w_eqS3F; rfl; rfl; rfl; omega) | (apply w_neS3T; rfl; rfl; rfl; omega) | (apply w_neS3F; rfl; rfl; rfl; omega) | (apply w_eqS3; rfl; rfl; rfl) | (apply w_neS3; rfl; rfl; rfl) | (apply w_eqS2; rfl; rfl; rfl) | (apply w_neS2; rfl; rfl; rfl) | (apply w_maxL; rfl; rfl; rfl; omega) | (apply w_maxG; rfl; rfl; rfl; omega) | (apply w_max; rfl; rfl; rfl) | (apply w_cp; rfl; rfl; first | assumption | exact plain_ok _ _ _ | exact awake_ok | exact rcheck_ok _ _ _ | exact rtime_ok _) | refine spl ?_ ?_ | intro hc)
    all_goals (refine At_ret1 (by (first | exact .inl rfl | exact .inr rfl)) Try.results6 rfl ⟨by rfl, rfl⟩ (by (exact frm)))
end Go.Proofs.Ytecfbhenljkaaaa
