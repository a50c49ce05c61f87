/- mutex: Lock, Try, Unlock, Owner, Flag. Conditions: none. -/
import Derived.Test.YtoaaoijdknbanaaMutD
set_option linter.all false
set_option linter.deprecated false
namespace Go.Proofs.Ytoaaoijdknbanaa
open Go.Sep
variable [B0 : Base]
theorem mayI_no {N : Nat} {m n t : Int} (h : mayI N m n t ≠ 0) : mayI N m n t = 10 := by
  unfold mayI at *
  split at h
  · exact absurd rfl h
  · rename_i h2; rw [if_neg h2]
theorem lk_at {M : List Lk} {lv : Value} {ls : List (Value × Lk)} (hok : MtOk M lv ls) {m : Int} (h0 : 0 ≤ m) (h1 : m < ls.length) : ∃ k : Nat, m = k ∧ k < ls.length ∧ ∃ p, ls[k]? = some p ∧ lkA M k = p.2 ∧ M[k]? = some p.2 := by
  obtain ⟨k, rfl⟩ := Int.eq_ofNat_of_zero_le h0
  have hk : k < ls.length := by omega
  refine ⟨k, rfl, hk, ls[k], by simp [hk], ?_⟩
  have := hok.get (i := k) (p := ls[k]) (by simp [hk])
  exact ⟨this.2.1, this.1⟩
theorem own_ge {M : List Lk} {lv : Value} {ls : List (Value × Lk)} (hok : MtOk M lv ls) {k : Nat} {p : Value × Lk} (h : ls[k]? = some p) : -1 ≤ p.2.own ∧ p.2.own < 64 := (hok.get h).2.2.2.2
set_option maxHeartbeats 4000000 in
theorem ready_low (tb : Nat) (lv : Value) (ls : List (Value × Lk)) (M : List Lk) (m n t : Int) (hok : MtOk M lv ls) (R : List HP) :
    Called Try.prog 29 [ptr tb, int m, int n, int t] (pt tb 69 [lv] :: sl 66 3 lv (ls.map lkE) :: qsH ls :: R) (is (int (readyI M m n t)) (pt tb 69 [lv] :: sl 66 3 lv (ls.map lkE) :: qsH ls :: R)) := by
  have hM := may_low tb lv ls.length hok.lisl m n t
  have hW := waits_low tb lv ls M n hok
  have hl := hok.lisl
  have hlen := hok.len
  unfold readyI
  rw [hlen]
  by_cases h0 : mayI ls.length m n t = 0
  · obtain ⟨a, b, -⟩ := mayI_0.1 h0
    rw [if_neg (by simp [h0])]
    rw [h0] at hM
    obtain ⟨k, rfl, hk, p, hp, hp2, -⟩ := lk_at hok a b
    have hr1 : ∀ X, Rd (sl 66 3 lv (ls.map lkE) :: X) ⟨vb lv, vo lv + k * 3 + 0, none⟩ (int p.2.own) := fun X => Rd.lk hp rfl
    rw [show ((k : Int)).toNat = k from by simp, hp2]
    cases hw : (waitAt M n).isSome with
    | true =>
      rw [hw] at hW
      refine Fn4 Try.func29 rfl Try.ntmps29 rfl ?_
      (repeat' first | refine stp ?_ | intro v' hv' | intro (b : Nat) | (apply w_convU; rfl; rfl; omega; omega) | (apply w_convI; rfl; rfl; omega; omega) | (apply w_quoU; rfl; rfl; rfl; omega; omega; omega) | (apply w_remU; rfl; rfl; rfl; omega; omega) | (apply w_minL; rfl; rfl; rfl; omega) | (apply w_minG; rfl; rfl; rfl; omega) | (apply w_min; rfl; rfl; rfl) | (apply w_mfR; rfl; rfl) | (apply w_cvp; rfl; rfl; exact inferInstance; rfl; rfl; assumption) | (apply w_eqS2T; rfl; rfl; rfl; omega) | (apply w_eqS2F; rfl; rfl; rfl; omega) | (apply w_neS2T; rfl; rfl; rfl; omega) | (apply w_neS2F; rfl; rfl; rfl; omega) | (apply w_eqS3T; rfl; rfl; rfl; omega) | (apply w_eqS3F; rfl; rfl; rfl; omega) | (apply w_neS3T; rfl; rfl; rfl; omega) | (apply w_neS3F; rfl; rfl; rfl; omega) | (apply w_eqS3; rfl; rfl; rfl) | (apply w_neS3; rfl; rfl; rfl) | (apply w_eqS2; rfl; rfl; rfl) | (apply w_neS2; rfl; rfl; rfl) | (apply w_maxL; rfl; rfl; rfl; omega) | (apply w_maxG; rfl; rfl; rfl; omega) | (apply w_max; rfl; rfl; rfl) | (apply w_neB; rfl; rfl; rfl; rfl) | (apply w_eqB; rfl; rfl; rfl; rfl) | (apply w_ld0; rfl; rfl; ((focus ((repeat (first | assumption | exact hr1 _ | exact hr2 _ | apply Rd.there)); done)))) | (apply w_ld; rfl; rfl; ((focus ((repeat (first | assumption | exact hr1 _ | exact hr2 _ | apply Rd.there)); done)))) | (apply w_st; rfl; rfl; rfl; ((focus ((repeat (first | exact hs1 _ | apply St.there)); done))); ((exact kmf))) | (apply w_cq; rfl; rfl; apply Called.at (h := hM); ((focus ((repeat (first | exact Rep.here | apply Rep.there)); done)))) | (apply w_cq; rfl; rfl; exact hW _) | (apply w_cq; rfl; rfl; exact hY _) | refine spl ?_ ?_ | intro hc)
      all_goals (refine At_ret1 (by (first | exact .inl rfl | exact .inr rfl)) Try.results29 rfl ⟨by rfl, rfl⟩ (by (exact frm)))
    | false =>
      rw [hw] at hW
      by_cases ho : p.2.own = n
      · rw [if_pos ho]
        refine Fn4 Try.func29 rfl Try.ntmps29 rfl ?_
        (repeat' first | refine stp ?_ | intro v' hv' | intro (b : Nat) | (apply w_convU; rfl; rfl; omega; omega) | (apply w_convI; rfl; rfl; omega; omega) | (apply w_quoU; rfl; rfl; rfl; omega; omega; omega) | (apply w_remU; rfl; rfl; rfl; omega; omega) | (apply w_minL; rfl; rfl; rfl; omega) | (apply w_minG; rfl; rfl; rfl; omega) | (apply w_min; rfl; rfl; rfl) | (apply w_mfR; rfl; rfl) | (apply w_cvp; rfl; rfl; exact inferInstance; rfl; rfl; assumption) | (apply w_eqS2T; rfl; rfl; rfl; omega) | (apply w_eqS2F; rfl; rfl; rfl; omega) | (apply w_neS2T; rfl; rfl; rfl; omega) | (apply w_neS2F; rfl; rfl; rfl; omega) | (apply w_eqS3T; rfl; rfl; rfl; omega) | (apply w_eqS3F; rfl; rfl; rfl; omega) | (apply w_neS3T; rfl; rfl; rfl; omega) | (apply w_neS3F; rfl; rfl; rfl; omega) | (apply w_eqS3; rfl; rfl; rfl) | (apply w_neS3; rfl; rfl; rfl) | (apply w_eqS2; rfl; rfl; rfl) | (apply w_neS2; rfl; rfl; rfl) | (apply w_maxL; rfl; rfl; rfl; omega) | (apply w_maxG; rfl; rfl; rfl; omega) | (apply w_max; rfl; rfl; rfl) | (apply w_neB; rfl; rfl; rfl; rfl) | (apply w_eqB; rfl; rfl; rfl; rfl) | (apply w_ld0; rfl; rfl; ((focus ((repeat (first | assumption | exact hr1 _ | exact hr2 _ | apply Rd.there)); done)))) | (apply w_ld; rfl; rfl; ((focus ((repeat (first | assumption | exact hr1 _ | exact hr2 _ | apply Rd.there)); done)))) | (apply w_st; rfl; rfl; rfl; ((focus ((repeat (first | exact hs1 _ | apply St.there)); done))); ((exact kmf))) | (apply w_cq; rfl; rfl; apply Called.at (h := hM); ((focus ((repeat (first | exact Rep.here | apply Rep.there)); done)))) | (apply w_cq; rfl; rfl; exact hW _) | (apply w_cq; rfl; rfl; exact hY _) | refine spl ?_ ?_ | intro hc)
        all_goals (refine At_ret1 (by (first | exact .inl rfl | exact .inr rfl)) Try.results29 rfl ⟨by rfl, rfl⟩ (by (exact frm)))
      · rw [if_neg ho]
        refine Fn4 Try.func29 rfl Try.ntmps29 rfl ?_
        (repeat' first | refine stp ?_ | intro v' hv' | intro (b : Nat) | (apply w_convU; rfl; rfl; omega; omega) | (apply w_convI; rfl; rfl; omega; omega) | (apply w_quoU; rfl; rfl; rfl; omega; omega; omega) | (apply w_remU; rfl; rfl; rfl; omega; omega) | (apply w_minL; rfl; rfl; rfl; omega) | (apply w_minG; rfl; rfl; rfl; omega) | (apply w_min; rfl; rfl; rfl) | (apply w_mfR; rfl; rfl) | (apply w_cvp; rfl; rfl; exact inferInstance; rfl; rfl; assumption) | (apply w_eqS2T; rfl; rfl; rfl; omega) | (apply w_eqS2F; rfl; rfl; rfl; omega) | (apply w_neS2T; rfl; rfl; rfl; omega) | (apply w_neS2F; rfl; rfl; rfl; omega) | (apply w_eqS3T; rfl; rfl; rfl; omega) | (apply w_eqS3F; rfl; rfl; rfl; omega) | (apply w_neS3T; rfl; rfl; rfl; omega) | (apply w_neS3F; rfl; rfl; rfl; omega) | (apply w_eqS3; rfl; rfl; rfl) | (apply w_neS3; rfl; rfl; rfl) | (apply w_eqS2; rfl; rfl; rfl) | (apply w_neS2; rfl; rfl; rfl) | (apply w_maxL; rfl; rfl; rfl; omega) | (apply w_maxG; rfl; rfl; rfl; omega) | (apply w_max; rfl; rfl; rfl) | (apply w_neB; rfl; rfl; rfl; rfl) | (apply w_eqB; rfl; rfl; rfl; rfl) | (apply w_ld0; rfl; rfl; ((focus ((repeat (first | assumption | exact hr1 _ | exact hr2 _ | apply Rd.there)); done)))) | (apply w_ld; rfl; rfl; ((focus ((repeat (first | assumption | exact hr1 _ | exact hr2 _ | apply Rd.there)); done)))) | (apply w_st; rfl; rfl; rfl; ((focus ((repeat (first | exact hs1 _ | apply St.there)); done))); ((exact kmf))) | (apply w_cq; rfl; rfl; apply Called.at (h := hM); ((focus ((repeat (first | exact Rep.here | apply Rep.there)); done)))) | (apply w_cq; rfl; rfl; exact hW _) | (apply w_cq; rfl; rfl; exact hY _) | refine spl ?_ ?_ | intro hc)
        all_goals (refine At_ret1 (by (first | exact .inl rfl | exact .inr rfl)) Try.results29 rfl ⟨by rfl, rfl⟩ (by (exact frm)))
  · rw [if_pos h0, mayI_no h0]
    rw [mayI_no h0] at hM
    refine Fn4 Try.func29 rfl Try.ntmps29 rfl ?_
    (repeat' first | refine stp ?_ | intro v' hv' | intro (b : Nat) | (apply w_convU; rfl; rfl; omega; omega) | (apply w_convI; rfl; rfl; omega; omega) | (apply w_quoU; rfl; rfl; rfl; omega; omega; omega) | (apply w_remU; rfl; rfl; rfl; omega; omega) | (apply w_minL; rfl; rfl; rfl; omega) | (apply w_minG; rfl; rfl; rfl; omega) | (apply w_min; rfl; rfl; rfl) | (apply w_mfR; rfl; rfl) | (apply w_cvp; rfl; rfl; exact inferInstance; rfl; rfl; assumption) | (apply w_eqS2T; rfl; rfl; rfl; omega) | (apply w_eqS2F; rfl; rfl; rfl; omega) | (apply w_neS2T; rfl; rfl; rfl; omega) | (apply w_neS2F; rfl; rfl; rfl; omega) | (apply w_eqS3T; rfl; rfl; rfl; omega) | (apply w_eqS3F; rfl; rfl; rfl; omega) | (apply w_neS3T; rfl; rfl; rfl; omega) | (apply w_neS3F; rfl; rfl; rfl; omega) | (apply w_eqS3; rfl; rfl; rfl) | (apply w_neS3; rfl; rfl; rfl) | (apply w_eqS2; rfl; rfl; rfl) | (apply w_neS2; rfl; rfl; rfl) | (apply w_maxL; rfl; rfl; rfl; omega) | (apply w_maxG; rfl; rfl; rfl; omega) | (apply w_max; rfl; rfl; rfl) | (apply w_neB; rfl; rfl; rfl; rfl) | (apply w_eqB; rfl; rfl; rfl; rfl) | (apply w_ld0; rfl; rfl; ((focus ((repeat (first | assumption | exact hr1 _ | exact hr2 _ | apply Rd.there)); done)))) | (apply w_ld; rfl; rfl; ((focus ((repeat (first | assumption | exact hr1 _ | exact hr2 _ | apply Rd.there)); done)))) | (apply w_st; rfl; rfl; rfl; ((focus ((repeat (first | exact hs1 _ | apply St.there)); done))); ((exact kmf))) | (apply w_cq; rfl; rfl; apply Called.at (h := hM); ((focus ((repeat (first | exact Rep.here | apply Rep.there)); done)))) | (apply w_cq; rfl; rfl; exact hW _) | (apply w_cq; rfl; rfl; exact hY _) | refine spl ?_ ?_ | intro hc)
    all_goals (refine At_ret1 (by (first | exact .inl rfl | exact .inr rfl)) Try.results29 rfl ⟨by rfl, rfl⟩ (by (exact frm)))
theorem readyI_0 {M : List Lk} {m n t : Int} (h : readyI M m n t = 0) : (0 ≤ m ∧ m < M.length ∧ 0 ≤ n ∧ n < 64 ∧ 0 ≤ t ∧ t < 1099511627776) ∧ waitAt M n = none ∧ (lkA M m.toNat).own ≠ n := by
  unfold readyI at h
  split at h
  · rename_i hm; exact absurd h hm
  · rename_i hm
    refine ⟨mayI_0.1 (by simpa using hm), ?_⟩
    split at h
    · cases h
    · rename_i hw
      split at h
      · cases h
      · rename_i ho
        exact ⟨by simpa using hw, ho⟩
theorem readyI_v (M : List Lk) (m n t : Int) : readyI M m n t = 0 ∨ readyI M m n t = 10 ∨ readyI M m n t = 15 ∨ readyI M m n t = 16 := by
  unfold readyI
  by_cases h0 : mayI M.length m n t = 0
  · rw [if_neg (by simp [h0])]
    split
    · simp
    · split <;> simp
  · rw [if_pos h0, mayI_no h0]; simp
set_option maxHeartbeats 4000000 in
theorem Lock_ok (tb : Nat) (M : List Lk) (m n t : Int) (R : List HP) :
    Called Try.prog 11 [ptr tb, int m, int n, int t] (mtb tb M :: R) (is (.tuple #[.bool (lockM M m n t).1.1, int (lockM M m n t).1.2]) (mtb tb (lockM M m n t).2 :: R)) := by
  refine Fn4 Try.func11 rfl Try.ntmps11 rfl ?_
  refine C_mtb fun lv ls hok => ?_
  have hfold : ∀ {M'} {ls'} (h : MtOk M' lv ls') w, Sat w (pt tb 69 [lv] :: sl 66 3 lv (ls'.map lkE) :: qsH ls' :: R) → Sat w (mtb tb M' :: R) := fun h w hs => mtb_fold h hs
  have hY := ready_low tb lv ls M m n t hok
  have hl := hok.lisl
  have hlen := hok.len
  have hwf := hok.wf.lock m n t
  unfold lockM at *
  by_cases h0 : readyI M m n t = 0
  · obtain ⟨⟨a, b, c, d, e, f⟩, hw, ho⟩ := readyI_0 h0
    have hnn : ¬ (readyI M m n t ≠ 0) := by simp [h0]
    simp only [if_neg hnn] at *
    clear hnn
    rw [h0] at hY
    rw [hlen] at b
    obtain ⟨k, rfl, hk, p, hp, hp2, hp3⟩ := lk_at hok a b
    have hr1 : ∀ X, Rd (sl 66 3 lv (ls.map lkE) :: X) ⟨vb lv, vo lv + k * 3 + 0, none⟩ (int p.2.own) := fun X => Rd.lk hp rfl
    simp only [show ((k : Int)).toNat = k from by simp, hp2] at *
    by_cases h1 : p.2.own = -1
    · have h1n : ¬ (p.2.own ≠ -1) := by simp [h1]
      simp only [if_neg h1n] at *
      clear h1n
      have hs1 : ∀ L, St (sl 66 3 lv (ls.map lkE) :: L) ⟨vb lv, vo lv + k * 3 + 0, none⟩ (int n) (sl 66 3 lv ((ls.set k (p.1, ⟨n, p.2.flag, p.2.q⟩)).map lkE) :: L) := fun L => St.lk hp (by decide) rfl
      have hok2 : MtOk (M.set k ⟨n, p.2.flag, p.2.q⟩) lv (ls.set k (p.1, ⟨n, p.2.flag, p.2.q⟩)) := hok.set (hok.isl p (List.mem_of_getElem? hp)) hwf
      (repeat' first | refine stp ?_ | intro v' hv' | intro (b : Nat) | (apply w_convU; rfl; rfl; omega; omega) | (apply w_convI; rfl; rfl; omega; omega) | (apply w_quoU; rfl; rfl; rfl; omega; omega; omega) | (apply w_remU; rfl; rfl; rfl; omega; omega) | (apply w_minL; rfl; rfl; rfl; omega) | (apply w_minG; rfl; rfl; rfl; omega) | (apply w_min; rfl; rfl; rfl) | (apply w_mfR; rfl; rfl) | (apply w_cvp; rfl; rfl; exact inferInstance; rfl; rfl; assumption) | (apply w_eqS2T; rfl; rfl; rfl; omega) | (apply w_eqS2F; rfl; rfl; rfl; omega) | (apply w_neS2T; rfl; rfl; rfl; omega) | (apply w_neS2F; rfl; rfl; rfl; omega) | (apply w_eqS3T; rfl; rfl; rfl; omega) | (apply w_eqS3F; rfl; rfl; rfl; omega) | (apply w_neS3T; rfl; rfl; rfl; omega) | (apply w_neS3F; rfl; rfl; rfl; omega) | (apply w_eqS3; rfl; rfl; rfl) | (apply w_neS3; rfl; rfl; rfl) | (apply w_eqS2; rfl; rfl; rfl) | (apply w_neS2; rfl; rfl; rfl) | (apply w_maxL; rfl; rfl; rfl; omega) | (apply w_maxG; rfl; rfl; rfl; omega) | (apply w_max; rfl; rfl; rfl) | (apply w_neB; rfl; rfl; rfl; rfl) | (apply w_eqB; rfl; rfl; rfl; rfl) | (apply w_ld0; rfl; rfl; ((focus ((repeat (first | assumption | exact hr1 _ | exact hr2 _ | apply Rd.there)); done)))) | (apply w_ld; rfl; rfl; ((focus ((repeat (first | assumption | exact hr1 _ | exact hr2 _ | apply Rd.there)); done)))) | (apply w_st; rfl; rfl; rfl; ((focus ((repeat (first | exact hs1 _ | apply St.there)); done))); ((exact kmf))) | (apply w_cq; rfl; rfl; apply Called.at (h := hM); ((focus ((repeat (first | exact Rep.here | apply Rep.there)); done)))) | (apply w_cq; rfl; rfl; exact hW _) | (apply w_cq; rfl; rfl; exact hY _) | refine spl ?_ ?_ | intro hc)
      refine At_ret2 (by (first | exact .inl rfl | exact .inr rfl)) Try.results11 rfl rfl ⟨rfl, rfl⟩ (fun w hs => ?_)
      refine hfold hok2 w ?_
      have h2 : Sat w (qsH ls :: sl 66 3 lv ((ls.set k (p.1, ⟨n, p.2.flag, p.2.q⟩)).map lkE) :: pt tb 69 [lv] :: R) := Sel.sat (by (focus ((repeat (first | exact Sel.refl | (apply Sel.cons; (focus ((repeat (first | exact Del.here | apply Del.there)); done))) | refine Sel.drop ?_)); done))) hs
      have h3 := qs_close hk (v := p.1) (k := ⟨n, p.2.flag, p.2.q⟩) (qs_open hp h2)
      exact Sel.sat (by (focus ((repeat (first | exact Sel.refl | (apply Sel.cons; (focus ((repeat (first | exact Del.here | apply Del.there)); done))) | refine Sel.drop ?_)); done))) h3
    · simp only [if_pos h1] at *
      have hg := hok.get hp
      (repeat' first | refine stp ?_ | intro v' hv' | intro (b : Nat) | (apply w_convU; rfl; rfl; omega; omega) | (apply w_convI; rfl; rfl; omega; omega) | (apply w_quoU; rfl; rfl; rfl; omega; omega; omega) | (apply w_remU; rfl; rfl; rfl; omega; omega) | (apply w_minL; rfl; rfl; rfl; omega) | (apply w_minG; rfl; rfl; rfl; omega) | (apply w_min; rfl; rfl; rfl) | (apply w_mfR; rfl; rfl) | (apply w_cvp; rfl; rfl; exact inferInstance; rfl; rfl; assumption) | (apply w_eqS2T; rfl; rfl; rfl; omega) | (apply w_eqS2F; rfl; rfl; rfl; omega) | (apply w_neS2T; rfl; rfl; rfl; omega) | (apply w_neS2F; rfl; rfl; rfl; omega) | (apply w_eqS3T; rfl; rfl; rfl; omega) | (apply w_eqS3F; rfl; rfl; rfl; omega) | (apply w_neS3T; rfl; rfl; rfl; omega) | (apply w_neS3F; rfl; rfl; rfl; omega) | (apply w_eqS3; rfl; rfl; rfl) | (apply w_neS3; rfl; rfl; rfl) | (apply w_eqS2; rfl; rfl; rfl) | (apply w_neS2; rfl; rfl; rfl) | (apply w_maxL; rfl; rfl; rfl; omega) | (apply w_maxG; rfl; rfl; rfl; omega) | (apply w_max; rfl; rfl; rfl) | (apply w_neB; rfl; rfl; rfl; rfl) | (apply w_eqB; rfl; rfl; rfl; rfl) | (apply w_ld0; rfl; rfl; ((focus ((repeat (first | assumption | exact hr1 _ | exact hr2 _ | apply Rd.there)); done)))) | (apply w_ld; rfl; rfl; ((focus ((repeat (first | assumption | exact hr1 _ | exact hr2 _ | apply Rd.there)); done)))) | (apply w_st; rfl; rfl; rfl; ((focus ((repeat (first | exact hs1 _ | apply St.there)); done))); ((exact kmf))) | (apply w_cq; rfl; rfl; apply Called.at (h := hM); ((focus ((repeat (first | exact Rep.here | apply Rep.there)); done)))) | (apply w_cq; rfl; rfl; exact hW _) | (apply w_cq; rfl; rfl; exact hY _) | refine spl ?_ ?_ | intro hc)
      refine W_sat (L' := sl 46 2 p.1 (p.2.q.map kyE) :: sl 66 3 lv (ls.map lkE) :: pt tb 69 [lv] :: qsH (ls.eraseIdx k) :: R) (fun w hs => ?_) ?_
      · have h2 : Sat w (qsH ls :: sl 66 3 lv (ls.map lkE) :: pt tb 69 [lv] :: R) := Sel.sat (by (focus ((repeat (first | exact Sel.refl | (apply Sel.cons; (focus ((repeat (first | exact Del.here | apply Del.there)); done))) | refine Sel.drop ?_)); done))) hs
        exact Sel.sat (by (focus ((repeat (first | exact Sel.refl | (apply Sel.cons; (focus ((repeat (first | exact Del.here | apply Del.there)); done))) | refine Sel.drop ?_)); done))) (qs_open hp h2)
      apply w_cl
      rfl; rfl
      exact put_ok (vb lv) (vo lv + k * 3 + 2) p.1 p.2.q ⟨t, n⟩ (by omega) (sl 66 3 lv (ls.map lkE) :: pt tb 69 [lv] :: qsH (ls.eraseIdx k) :: R) (fun v' => sl 66 3 lv ((ls.set k (v', { p.2 with q := insK p.2.q ⟨t, n⟩ })).map lkE) :: pt tb 69 [lv] :: qsH (ls.eraseIdx k) :: R) hg.2.2.1 (Rd.lk hp rfl) (fun v' => St.lk hp (by decide) rfl)
      obtain ⟨v0, hv0⟩ := IsSl.any (N := (insK p.2.q ⟨t, n⟩).length) (by rw [insK_len]; omega)
      exact ⟨_, _, rfl, v0, hv0, rfl⟩
      rintro _ _ ⟨rfl, v2, hv2, rfl⟩
      refine ⟨by (exact kmf), ?_⟩
      have hok2 : MtOk (M.set k { p.2 with q := insK p.2.q ⟨t, n⟩ }) lv (ls.set k (v2, { p.2 with q := insK p.2.q ⟨t, n⟩ })) := hok.set hv2 hwf
      (repeat' first | refine stp ?_ | intro v' hv' | intro (b : Nat) | (apply w_convU; rfl; rfl; omega; omega) | (apply w_convI; rfl; rfl; omega; omega) | (apply w_quoU; rfl; rfl; rfl; omega; omega; omega) | (apply w_remU; rfl; rfl; rfl; omega; omega) | (apply w_minL; rfl; rfl; rfl; omega) | (apply w_minG; rfl; rfl; rfl; omega) | (apply w_min; rfl; rfl; rfl) | (apply w_mfR; rfl; rfl) | (apply w_cvp; rfl; rfl; exact inferInstance; rfl; rfl; assumption) | (apply w_eqS2T; rfl; rfl; rfl; omega) | (apply w_eqS2F; rfl; rfl; rfl; omega) | (apply w_neS2T; rfl; rfl; rfl; omega) | (apply w_neS2F; rfl; rfl; rfl; omega) | (apply w_eqS3T; rfl; rfl; rfl; omega) | (apply w_eqS3F; rfl; rfl; rfl; omega) | (apply w_neS3T; rfl; rfl; rfl; omega) | (apply w_neS3F; rfl; rfl; rfl; omega) | (apply w_eqS3; rfl; rfl; rfl) | (apply w_neS3; rfl; rfl; rfl) | (apply w_eqS2; rfl; rfl; rfl) | (apply w_neS2; rfl; rfl; rfl) | (apply w_maxL; rfl; rfl; rfl; omega) | (apply w_maxG; rfl; rfl; rfl; omega) | (apply w_max; rfl; rfl; rfl) | (apply w_neB; rfl; rfl; rfl; rfl) | (apply w_eqB; rfl; rfl; rfl; rfl) | (apply w_ld0; rfl; rfl; ((focus ((repeat (first | assumption | exact hr1 _ | exact hr2 _ | apply Rd.there)); done)))) | (apply w_ld; rfl; rfl; ((focus ((repeat (first | assumption | exact hr1 _ | exact hr2 _ | apply Rd.there)); done)))) | (apply w_st; rfl; rfl; rfl; ((focus ((repeat (first | exact hs1 _ | apply St.there)); done))); ((exact kmf))) | (apply w_cq; rfl; rfl; apply Called.at (h := hM); ((focus ((repeat (first | exact Rep.here | apply Rep.there)); done)))) | (apply w_cq; rfl; rfl; exact hW _) | (apply w_cq; rfl; rfl; exact hY _) | refine spl ?_ ?_ | intro hc)
      refine At_ret2 (by (first | exact .inl rfl | exact .inr rfl)) Try.results11 rfl rfl ⟨rfl, rfl⟩ (fun w hs => ?_)
      refine hfold hok2 w ?_
      have h2 : Sat w (sl 46 2 v2 ((insK p.2.q ⟨t, n⟩).map kyE) :: qsH (ls.eraseIdx k) :: sl 66 3 lv ((ls.set k (v2, { p.2 with q := insK p.2.q ⟨t, n⟩ })).map lkE) :: pt tb 69 [lv] :: R) := Sel.sat (by (focus ((repeat (first | exact Sel.refl | (apply Sel.cons; (focus ((repeat (first | exact Del.here | apply Del.there)); done))) | refine Sel.drop ?_)); done))) hs
      have h3 := qs_close hk (v := v2) (k := { p.2 with q := insK p.2.q ⟨t, n⟩ }) h2
      exact Sel.sat (by (focus ((repeat (first | exact Sel.refl | (apply Sel.cons; (focus ((repeat (first | exact Del.here | apply Del.there)); done))) | refine Sel.drop ?_)); done))) h3
  · simp only [if_pos h0] at *
    generalize readyI M m n t = e at *
    (repeat' first | refine stp ?_ | intro v' hv' | intro (b : Nat) | (apply w_convU; rfl; rfl; omega; omega) | (apply w_convI; rfl; rfl; omega; omega) | (apply w_quoU; rfl; rfl; rfl; omega; omega; omega) | (apply w_remU; rfl; rfl; rfl; omega; omega) | (apply w_minL; rfl; rfl; rfl; omega) | (apply w_minG; rfl; rfl; rfl; omega) | (apply w_min; rfl; rfl; rfl) | (apply w_mfR; rfl; rfl) | (apply w_cvp; rfl; rfl; exact inferInstance; rfl; rfl; assumption) | (apply w_eqS2T; rfl; rfl; rfl; omega) | (apply w_eqS2F; rfl; rfl; rfl; omega) | (apply w_neS2T; rfl; rfl; rfl; omega) | (apply w_neS2F; rfl; rfl; rfl; omega) | (apply w_eqS3T; rfl; rfl; rfl; omega) | (apply w_eqS3F; rfl; rfl; rfl; omega) | (apply w_neS3T; rfl; rfl; rfl; omega) | (apply w_neS3F; rfl; rfl; rfl; omega) | (apply w_eqS3; rfl; rfl; rfl) | (apply w_neS3; rfl; rfl; rfl) | (apply w_eqS2; rfl; rfl; rfl) | (apply w_neS2; rfl; rfl; rfl) | (apply w_maxL; rfl; rfl; rfl; omega) | (apply w_maxG; rfl; rfl; rfl; omega) | (apply w_max; rfl; rfl; rfl) | (apply w_neB; rfl; rfl; rfl; rfl) | (apply w_eqB; rfl; rfl; rfl; rfl) | (apply w_ld0; rfl; rfl; ((focus ((repeat (first | assumption | exact hr1 _ | exact hr2 _ | apply Rd.there)); done)))) | (apply w_ld; rfl; rfl; ((focus ((repeat (first | assumption | exact hr1 _ | exact hr2 _ | apply Rd.there)); done)))) | (apply w_st; rfl; rfl; rfl; ((focus ((repeat (first | exact hs1 _ | apply St.there)); done))); ((exact kmf))) | (apply w_cq; rfl; rfl; apply Called.at (h := hM); ((focus ((repeat (first | exact Rep.here | apply Rep.there)); done)))) | (apply w_cq; rfl; rfl; exact hW _) | (apply w_cq; rfl; rfl; exact hY _) | refine spl ?_ ?_ | intro hc)
    refine At_ret2 (by (first | exact .inl rfl | exact .inr rfl)) Try.results11 rfl rfl ⟨rfl, rfl⟩ (fun w hs => ?_)
    exact hfold hok w hs
set_option maxHeartbeats 4000000 in
theorem Try_ok (tb : Nat) (M : List Lk) (m n : Int) (R : List HP) :
    Called Try.prog 12 [ptr tb, int m, int n] (mtb tb M :: R) (is (int (tryM M m n).1) (mtb tb (tryM M m n).2 :: R)) := by
  refine Fn3 Try.func12 rfl Try.ntmps12 rfl ?_
  refine C_mtb fun lv ls hok => ?_
  have hfold : ∀ {M'} {ls'} (h : MtOk M' lv ls') w, Sat w (pt tb 69 [lv] :: sl 66 3 lv (ls'.map lkE) :: qsH ls' :: R) → Sat w (mtb tb M' :: R) := fun h w hs => mtb_fold h hs
  have hY := ready_low tb lv ls M m n 0 hok
  have hl := hok.lisl
  have hlen := hok.len
  have hwf := hok.wf.try m n
  unfold tryM at *
  by_cases h0 : readyI M m n 0 = 0
  · obtain ⟨⟨a, b, c, d, e, f⟩, hw, ho⟩ := readyI_0 h0
    have hnn : ¬ (readyI M m n 0 ≠ 0) := by simp [h0]
    simp only [if_neg hnn] at *
    clear hnn
    rw [h0] at hY
    rw [hlen] at b
    obtain ⟨k, rfl, hk, p, hp, hp2, hp3⟩ := lk_at hok a b
    have hr1 : ∀ X, Rd (sl 66 3 lv (ls.map lkE) :: X) ⟨vb lv, vo lv + k * 3 + 0, none⟩ (int p.2.own) := fun X => Rd.lk hp rfl
    simp only [show ((k : Int)).toNat = k from by simp, hp2] at *
    by_cases h1 : p.2.own = -1
    · have h1n : ¬ (p.2.own ≠ -1) := by simp [h1]
      simp only [if_neg h1n] at *
      clear h1n
      have hs1 : ∀ L, St (sl 66 3 lv (ls.map lkE) :: L) ⟨vb lv, vo lv + k * 3 + 0, none⟩ (int n) (sl 66 3 lv ((ls.set k (p.1, ⟨n, p.2.flag, p.2.q⟩)).map lkE) :: L) := fun L => St.lk hp (by decide) rfl
      have hok2 : MtOk (M.set k ⟨n, p.2.flag, p.2.q⟩) lv (ls.set k (p.1, ⟨n, p.2.flag, p.2.q⟩)) := hok.set (hok.isl p (List.mem_of_getElem? hp)) hwf
      (repeat' first | refine stp ?_ | intro v' hv' | intro (b : Nat) | (apply w_convU; rfl; rfl; omega; omega) | (apply w_convI; rfl; rfl; omega; omega) | (apply w_quoU; rfl; rfl; rfl; omega; omega; omega) | (apply w_remU; rfl; rfl; rfl; omega; omega) | (apply w_minL; rfl; rfl; rfl; omega) | (apply w_minG; rfl; rfl; rfl; omega) | (apply w_min; rfl; rfl; rfl) | (apply w_mfR; rfl; rfl) | (apply w_cvp; rfl; rfl; exact inferInstance; rfl; rfl; assumption) | (apply w_eqS2T; rfl; rfl; rfl; omega) | (apply w_eqS2F; rfl; rfl; rfl; omega) | (apply w_neS2T; rfl; rfl; rfl; omega) | (apply w_neS2F; rfl; rfl; rfl; omega) | (apply w_eqS3T; rfl; rfl; rfl; omega) | (apply w_eqS3F; rfl; rfl; rfl; omega) | (apply w_neS3T; rfl; rfl; rfl; omega) | (apply w_neS3F; rfl; rfl; rfl; omega) | (apply w_eqS3; rfl; rfl; rfl) | (apply w_neS3; rfl; rfl; rfl) | (apply w_eqS2; rfl; rfl; rfl) | (apply w_neS2; rfl; rfl; rfl) | (apply w_maxL; rfl; rfl; rfl; omega) | (apply w_maxG; rfl; rfl; rfl; omega) | (apply w_max; rfl; rfl; rfl) | (apply w_neB; rfl; rfl; rfl; rfl) | (apply w_eqB; rfl; rfl; rfl; rfl) | (apply w_ld0; rfl; rfl; ((focus ((repeat (first | assumption | exact hr1 _ | exact hr2 _ | apply Rd.there)); done)))) | (apply w_ld; rfl; rfl; ((focus ((repeat (first | assumption | exact hr1 _ | exact hr2 _ | apply Rd.there)); done)))) | (apply w_st; rfl; rfl; rfl; ((focus ((repeat (first | exact hs1 _ | apply St.there)); done))); ((exact kmf))) | (apply w_cq; rfl; rfl; apply Called.at (h := hM); ((focus ((repeat (first | exact Rep.here | apply Rep.there)); done)))) | (apply w_cq; rfl; rfl; exact hW _) | (apply w_cq; rfl; rfl; exact hY _) | refine spl ?_ ?_ | intro hc)
      refine At_ret1 (by (first | exact .inl rfl | exact .inr rfl)) Try.results12 rfl ⟨rfl, rfl⟩ (fun w hs => ?_)
      refine hfold hok2 w ?_
      have h2 : Sat w (qsH ls :: sl 66 3 lv ((ls.set k (p.1, ⟨n, p.2.flag, p.2.q⟩)).map lkE) :: pt tb 69 [lv] :: R) := Sel.sat (by (focus ((repeat (first | exact Sel.refl | (apply Sel.cons; (focus ((repeat (first | exact Del.here | apply Del.there)); done))) | refine Sel.drop ?_)); done))) hs
      have h3 := qs_close hk (v := p.1) (k := ⟨n, p.2.flag, p.2.q⟩) (qs_open hp h2)
      exact Sel.sat (by (focus ((repeat (first | exact Sel.refl | (apply Sel.cons; (focus ((repeat (first | exact Del.here | apply Del.there)); done))) | refine Sel.drop ?_)); done))) h3
    · simp only [if_pos h1] at *
      (repeat' first | refine stp ?_ | intro v' hv' | intro (b : Nat) | (apply w_convU; rfl; rfl; omega; omega) | (apply w_convI; rfl; rfl; omega; omega) | (apply w_quoU; rfl; rfl; rfl; omega; omega; omega) | (apply w_remU; rfl; rfl; rfl; omega; omega) | (apply w_minL; rfl; rfl; rfl; omega) | (apply w_minG; rfl; rfl; rfl; omega) | (apply w_min; rfl; rfl; rfl) | (apply w_mfR; rfl; rfl) | (apply w_cvp; rfl; rfl; exact inferInstance; rfl; rfl; assumption) | (apply w_eqS2T; rfl; rfl; rfl; omega) | (apply w_eqS2F; rfl; rfl; rfl; omega) | (apply w_neS2T; rfl; rfl; rfl; omega) | (apply w_neS2F; rfl; rfl; rfl; omega) | (apply w_eqS3T; rfl; rfl; rfl; omega) | (apply w_eqS3F; rfl; rfl; rfl; omega) | (apply w_neS3T; rfl; rfl; rfl; omega) | (apply w_neS3F; rfl; rfl; rfl; omega) | (apply w_eqS3; rfl; rfl; rfl) | (apply w_neS3; rfl; rfl; rfl) | (apply w_eqS2; rfl; rfl; rfl) | (apply w_neS2; rfl; rfl; rfl) | (apply w_maxL; rfl; rfl; rfl; omega) | (apply w_maxG; rfl; rfl; rfl; omega) | (apply w_max; rfl; rfl; rfl) | (apply w_neB; rfl; rfl; rfl; rfl) | (apply w_eqB; rfl; rfl; rfl; rfl) | (apply w_ld0; rfl; rfl; ((focus ((repeat (first | assumption | exact hr1 _ | exact hr2 _ | apply Rd.there)); done)))) | (apply w_ld; rfl; rfl; ((focus ((repeat (first | assumption | exact hr1 _ | exact hr2 _ | apply Rd.there)); done)))) | (apply w_st; rfl; rfl; rfl; ((focus ((repeat (first | exact hs1 _ | apply St.there)); done))); ((exact kmf))) | (apply w_cq; rfl; rfl; apply Called.at (h := hM); ((focus ((repeat (first | exact Rep.here | apply Rep.there)); done)))) | (apply w_cq; rfl; rfl; exact hW _) | (apply w_cq; rfl; rfl; exact hY _) | refine spl ?_ ?_ | intro hc)
      refine At_ret1 (by (first | exact .inl rfl | exact .inr rfl)) Try.results12 rfl ⟨rfl, rfl⟩ (fun w hs => ?_)
      exact hfold hok w hs
  · simp only [if_pos h0] at *
    generalize readyI M m n 0 = e at *
    (repeat' first | refine stp ?_ | intro v' hv' | intro (b : Nat) | (apply w_convU; rfl; rfl; omega; omega) | (apply w_convI; rfl; rfl; omega; omega) | (apply w_quoU; rfl; rfl; rfl; omega; omega; omega) | (apply w_remU; rfl; rfl; rfl; omega; omega) | (apply w_minL; rfl; rfl; rfl; omega) | (apply w_minG; rfl; rfl; rfl; omega) | (apply w_min; rfl; rfl; rfl) | (apply w_mfR; rfl; rfl) | (apply w_cvp; rfl; rfl; exact inferInstance; rfl; rfl; assumption) | (apply w_eqS2T; rfl; rfl; rfl; omega) | (apply w_eqS2F; rfl; rfl; rfl; omega) | (apply w_neS2T; rfl; rfl; rfl; omega) | (apply w_neS2F; rfl; rfl; rfl; omega) | (apply w_eqS3T; rfl; rfl; rfl; omega) | (apply w_eqS3F; rfl; rfl; rfl; omega) | (apply w_neS3T; rfl; rfl; rfl; omega) | (apply w_neS3F; rfl; rfl; rfl; omega) | (apply w_eqS3; rfl; rfl; rfl) | (apply w_neS3; rfl; rfl; rfl) | (apply w_eqS2; rfl; rfl; rfl) | (apply w_neS2; rfl; rfl; rfl) | (apply w_maxL; rfl; rfl; rfl; omega) | (apply w_maxG; rfl; rfl; rfl; omega) | (apply w_max; rfl; rfl; rfl) | (apply w_neB; rfl; rfl; rfl; rfl) | (apply w_eqB; rfl; rfl; rfl; rfl) | (apply w_ld0; rfl; rfl; ((focus ((repeat (first | assumption | exact hr1 _ | exact hr2 _ | apply Rd.there)); done)))) | (apply w_ld; rfl; rfl; ((focus ((repeat (first | assumption | exact hr1 _ | exact hr2 _ | apply Rd.there)); done)))) | (apply w_st; rfl; rfl; rfl; ((focus ((repeat (first | exact hs1 _ | apply St.there)); done))); ((exact kmf))) | (apply w_cq; rfl; rfl; apply Called.at (h := hM); ((focus ((repeat (first | exact Rep.here | apply Rep.there)); done)))) | (apply w_cq; rfl; rfl; exact hW _) | (apply w_cq; rfl; rfl; exact hY _) | refine spl ?_ ?_ | intro hc)
    refine At_ret1 (by (first | exact .inl rfl | exact .inr rfl)) Try.results12 rfl ⟨rfl, rfl⟩ (fun w hs => ?_)
    exact hfold hok w hs
set_option maxHeartbeats 4000000 in
theorem Unlock_ok (tb : Nat) (M : List Lk) (m n : Int) (R : List HP) :
    Called Try.prog 14 [ptr tb, int m, int n] (mtb tb M :: R) (is (.tuple #[int (unlockM M m n).1.1, int (unlockM M m n).1.2]) (mtb tb (unlockM M m n).2 :: R)) := by
  refine Fn3 Try.func14 rfl Try.ntmps14 rfl ?_
  refine C_mtb fun lv ls hok => ?_
  have hfold : ∀ {M'} {ls'} (h : MtOk M' lv ls') w, Sat w (pt tb 69 [lv] :: sl 66 3 lv (ls'.map lkE) :: qsH ls' :: R) → Sat w (mtb tb M' :: R) := fun h w hs => mtb_fold h hs
  have hM := may_low tb lv ls.length hok.lisl m n 0
  have hl := hok.lisl
  have hlen := hok.len
  have hwf := hok.wf.unlock m n
  unfold unlockM at *
  rw [hlen] at *
  by_cases h0 : mayI ls.length m n 0 = 0
  · obtain ⟨a, b, c, d, e, f⟩ := mayI_0.1 h0
    have hnn : ¬ (mayI ls.length m n 0 ≠ 0) := by simp [h0]
    simp only [if_neg hnn] at *
    clear hnn
    rw [h0] at hM
    obtain ⟨k, rfl, hk, p, hp, hp2, hp3⟩ := lk_at hok a b
    have hr1 : ∀ X, Rd (sl 66 3 lv (ls.map lkE) :: X) ⟨vb lv, vo lv + k * 3 + 0, none⟩ (int p.2.own) := fun X => Rd.lk hp rfl
    simp only [show ((k : Int)).toNat = k from by simp, hp2] at *
    by_cases h1 : p.2.own = n
    · have h1n : ¬ (p.2.own ≠ n) := by simp [h1]
      simp only [if_neg h1n] at *
      clear h1n
      have hg := hok.get hp
      (repeat' first | refine stp ?_ | intro v' hv' | intro (b : Nat) | (apply w_convU; rfl; rfl; omega; omega) | (apply w_convI; rfl; rfl; omega; omega) | (apply w_quoU; rfl; rfl; rfl; omega; omega; omega) | (apply w_remU; rfl; rfl; rfl; omega; omega) | (apply w_minL; rfl; rfl; rfl; omega) | (apply w_minG; rfl; rfl; rfl; omega) | (apply w_min; rfl; rfl; rfl) | (apply w_mfR; rfl; rfl) | (apply w_cvp; rfl; rfl; exact inferInstance; rfl; rfl; assumption) | (apply w_eqS2T; rfl; rfl; rfl; omega) | (apply w_eqS2F; rfl; rfl; rfl; omega) | (apply w_neS2T; rfl; rfl; rfl; omega) | (apply w_neS2F; rfl; rfl; rfl; omega) | (apply w_eqS3T; rfl; rfl; rfl; omega) | (apply w_eqS3F; rfl; rfl; rfl; omega) | (apply w_neS3T; rfl; rfl; rfl; omega) | (apply w_neS3F; rfl; rfl; rfl; omega) | (apply w_eqS3; rfl; rfl; rfl) | (apply w_neS3; rfl; rfl; rfl) | (apply w_eqS2; rfl; rfl; rfl) | (apply w_neS2; rfl; rfl; rfl) | (apply w_maxL; rfl; rfl; rfl; omega) | (apply w_maxG; rfl; rfl; rfl; omega) | (apply w_max; rfl; rfl; rfl) | (apply w_neB; rfl; rfl; rfl; rfl) | (apply w_eqB; rfl; rfl; rfl; rfl) | (apply w_ld0; rfl; rfl; ((focus ((repeat (first | assumption | exact hr1 _ | exact hr2 _ | apply Rd.there)); done)))) | (apply w_ld; rfl; rfl; ((focus ((repeat (first | assumption | exact hr1 _ | exact hr2 _ | apply Rd.there)); done)))) | (apply w_st; rfl; rfl; rfl; ((focus ((repeat (first | exact hs1 _ | apply St.there)); done))); ((exact kmf))) | (apply w_cq; rfl; rfl; apply Called.at (h := hM); ((focus ((repeat (first | exact Rep.here | apply Rep.there)); done)))) | (apply w_cq; rfl; rfl; exact hW _) | (apply w_cq; rfl; rfl; exact hY _) | refine spl ?_ ?_ | intro hc)
      refine W_sat (L' := sl 66 3 lv (ls.map lkE) :: sl 46 2 p.1 (p.2.q.map kyE) :: pt tb 69 [lv] :: qsH (ls.eraseIdx k) :: R) (fun w hs => ?_) ?_
      · have h2 : Sat w (qsH ls :: sl 66 3 lv (ls.map lkE) :: pt tb 69 [lv] :: R) := Sel.sat (by (focus ((repeat (first | exact Sel.refl | (apply Sel.cons; (focus ((repeat (first | exact Del.here | apply Del.there)); done))) | refine Sel.drop ?_)); done))) hs
        exact Sel.sat (by (focus ((repeat (first | exact Sel.refl | (apply Sel.cons; (focus ((repeat (first | exact Del.here | apply Del.there)); done))) | refine Sel.drop ?_)); done))) (qs_open hp h2)
      apply w_cl
      rfl; rfl
      exact hand_ok lv ls k p hp hg.2.2.1 (by omega) false _
      obtain ⟨v0, hv0⟩ := IsSl.any (N := (handM p.2 false).q.length) (by have := hg.2.2.2.1; unfold handM; split <;> simp_all; omega)
      exact ⟨_, _, v0, rfl, hv0, rfl⟩
      rintro _ _ ⟨v2, rfl, hv2, rfl⟩
      refine ⟨by (exact kmf), ?_⟩
      have hok2 : MtOk (M.set k (handM p.2 false)) lv (ls.set k (v2, handM p.2 false)) := hok.set hv2 hwf
      (repeat' first | refine stp ?_ | intro v' hv' | intro (b : Nat) | (apply w_convU; rfl; rfl; omega; omega) | (apply w_convI; rfl; rfl; omega; omega) | (apply w_quoU; rfl; rfl; rfl; omega; omega; omega) | (apply w_remU; rfl; rfl; rfl; omega; omega) | (apply w_minL; rfl; rfl; rfl; omega) | (apply w_minG; rfl; rfl; rfl; omega) | (apply w_min; rfl; rfl; rfl) | (apply w_mfR; rfl; rfl) | (apply w_cvp; rfl; rfl; exact inferInstance; rfl; rfl; assumption) | (apply w_eqS2T; rfl; rfl; rfl; omega) | (apply w_eqS2F; rfl; rfl; rfl; omega) | (apply w_neS2T; rfl; rfl; rfl; omega) | (apply w_neS2F; rfl; rfl; rfl; omega) | (apply w_eqS3T; rfl; rfl; rfl; omega) | (apply w_eqS3F; rfl; rfl; rfl; omega) | (apply w_neS3T; rfl; rfl; rfl; omega) | (apply w_neS3F; rfl; rfl; rfl; omega) | (apply w_eqS3; rfl; rfl; rfl) | (apply w_neS3; rfl; rfl; rfl) | (apply w_eqS2; rfl; rfl; rfl) | (apply w_neS2; rfl; rfl; rfl) | (apply w_maxL; rfl; rfl; rfl; omega) | (apply w_maxG; rfl; rfl; rfl; omega) | (apply w_max; rfl; rfl; rfl) | (apply w_neB; rfl; rfl; rfl; rfl) | (apply w_eqB; rfl; rfl; rfl; rfl) | (apply w_ld0; rfl; rfl; ((focus ((repeat (first | assumption | exact hr1 _ | exact hr2 _ | apply Rd.there)); done)))) | (apply w_ld; rfl; rfl; ((focus ((repeat (first | assumption | exact hr1 _ | exact hr2 _ | apply Rd.there)); done)))) | (apply w_st; rfl; rfl; rfl; ((focus ((repeat (first | exact hs1 _ | apply St.there)); done))); ((exact kmf))) | (apply w_cq; rfl; rfl; apply Called.at (h := hM); ((focus ((repeat (first | exact Rep.here | apply Rep.there)); done)))) | (apply w_cq; rfl; rfl; exact hW _) | (apply w_cq; rfl; rfl; exact hY _) | refine spl ?_ ?_ | intro hc)
      refine At_ret2 (by (first | exact .inl rfl | exact .inr rfl)) Try.results14 rfl rfl ⟨rfl, rfl⟩ (fun w hs => ?_)
      refine hfold hok2 w ?_
      have h2 : Sat w (sl 46 2 v2 ((handM p.2 false).q.map kyE) :: qsH (ls.eraseIdx k) :: sl 66 3 lv ((ls.set k (v2, handM p.2 false)).map lkE) :: pt tb 69 [lv] :: R) := Sel.sat (by (focus ((repeat (first | exact Sel.refl | (apply Sel.cons; (focus ((repeat (first | exact Del.here | apply Del.there)); done))) | refine Sel.drop ?_)); done))) hs
      have h3 := qs_close hk (v := v2) (k := handM p.2 false) h2
      exact Sel.sat (by (focus ((repeat (first | exact Sel.refl | (apply Sel.cons; (focus ((repeat (first | exact Del.here | apply Del.there)); done))) | refine Sel.drop ?_)); done))) h3
    · simp only [if_pos h1] at *
      (repeat' first | refine stp ?_ | intro v' hv' | intro (b : Nat) | (apply w_convU; rfl; rfl; omega; omega) | (apply w_convI; rfl; rfl; omega; omega) | (apply w_quoU; rfl; rfl; rfl; omega; omega; omega) | (apply w_remU; rfl; rfl; rfl; omega; omega) | (apply w_minL; rfl; rfl; rfl; omega) | (apply w_minG; rfl; rfl; rfl; omega) | (apply w_min; rfl; rfl; rfl) | (apply w_mfR; rfl; rfl) | (apply w_cvp; rfl; rfl; exact inferInstance; rfl; rfl; assumption) | (apply w_eqS2T; rfl; rfl; rfl; omega) | (apply w_eqS2F; rfl; rfl; rfl; omega) | (apply w_neS2T; rfl; rfl; rfl; omega) | (apply w_neS2F; rfl; rfl; rfl; omega) | (apply w_eqS3T; rfl; rfl; rfl; omega) | (apply w_eqS3F; rfl; rfl; rfl; omega) | (apply w_neS3T; rfl; rfl; rfl; omega) | (apply w_neS3F; rfl; rfl; rfl; omega) | (apply w_eqS3; rfl; rfl; rfl) | (apply w_neS3; rfl; rfl; rfl) | (apply w_eqS2; rfl; rfl; rfl) | (apply w_neS2; rfl; rfl; rfl) | (apply w_maxL; rfl; rfl; rfl; omega) | (apply w_maxG; rfl; rfl; rfl; omega) | (apply w_max; rfl; rfl; rfl) | (apply w_neB; rfl; rfl; rfl; rfl) | (apply w_eqB; rfl; rfl; rfl; rfl) | (apply w_ld0; rfl; rfl; ((focus ((repeat (first | assumption | exact hr1 _ | exact hr2 _ | apply Rd.there)); done)))) | (apply w_ld; rfl; rfl; ((focus ((repeat (first | assumption | exact hr1 _ | exact hr2 _ | apply Rd.there)); done)))) | (apply w_st; rfl; rfl; rfl; ((focus ((repeat (first | exact hs1 _ | apply St.there)); done))); ((exact kmf))) | (apply w_cq; rfl; rfl; apply Called.at (h := hM); ((focus ((repeat (first | exact Rep.here | apply Rep.there)); done)))) | (apply w_cq; rfl; rfl; exact hW _) | (apply w_cq; rfl; rfl; exact hY _) | refine spl ?_ ?_ | intro hc)
      refine At_ret2 (by (first | exact .inl rfl | exact .inr rfl)) Try.results14 rfl rfl ⟨rfl, rfl⟩ (fun w hs => ?_)
      exact hfold hok w hs
  · simp only [if_pos h0] at *
    rw [mayI_no h0] at hM ⊢
    (repeat' first | refine stp ?_ | intro v' hv' | intro (b : Nat) | (apply w_convU; rfl; rfl; omega; omega) | (apply w_convI; rfl; rfl; omega; omega) | (apply w_quoU; rfl; rfl; rfl; omega; omega; omega) | (apply w_remU; rfl; rfl; rfl; omega; omega) | (apply w_minL; rfl; rfl; rfl; omega) | (apply w_minG; rfl; rfl; rfl; omega) | (apply w_min; rfl; rfl; rfl) | (apply w_mfR; rfl; rfl) | (apply w_cvp; rfl; rfl; exact inferInstance; rfl; rfl; assumption) | (apply w_eqS2T; rfl; rfl; rfl; omega) | (apply w_eqS2F; rfl; rfl; rfl; omega) | (apply w_neS2T; rfl; rfl; rfl; omega) | (apply w_neS2F; rfl; rfl; rfl; omega) | (apply w_eqS3T; rfl; rfl; rfl; omega) | (apply w_eqS3F; rfl; rfl; rfl; omega) | (apply w_neS3T; rfl; rfl; rfl; omega) | (apply w_neS3F; rfl; rfl; rfl; omega) | (apply w_eqS3; rfl; rfl; rfl) | (apply w_neS3; rfl; rfl; rfl) | (apply w_eqS2; rfl; rfl; rfl) | (apply w_neS2; rfl; rfl; rfl) | (apply w_maxL; rfl; rfl; rfl; omega) | (apply w_maxG; rfl; rfl; rfl; omega) | (apply w_max; rfl; rfl; rfl) | (apply w_neB; rfl; rfl; rfl; rfl) | (apply w_eqB; rfl; rfl; rfl; rfl) | (apply w_ld0; rfl; rfl; ((focus ((repeat (first | assumption | exact hr1 _ | exact hr2 _ | apply Rd.there)); done)))) | (apply w_ld; rfl; rfl; ((focus ((repeat (first | assumption | exact hr1 _ | exact hr2 _ | apply Rd.there)); done)))) | (apply w_st; rfl; rfl; rfl; ((focus ((repeat (first | exact hs1 _ | apply St.there)); done))); ((exact kmf))) | (apply w_cq; rfl; rfl; apply Called.at (h := hM); ((focus ((repeat (first | exact Rep.here | apply Rep.there)); done)))) | (apply w_cq; rfl; rfl; exact hW _) | (apply w_cq; rfl; rfl; exact hY _) | refine spl ?_ ?_ | intro hc)
    refine At_ret2 (by (first | exact .inl rfl | exact .inr rfl)) Try.results14 rfl rfl ⟨rfl, rfl⟩ (fun w hs => ?_)
    exact hfold hok w hs
set_option maxHeartbeats 4000000 in
theorem Owner_ok (tb : Nat) (M : List Lk) (m : Int) (R : List HP) :
    Called Try.prog 13 [ptr tb, int m] (mtb tb M :: R) (is (.tuple #[int (ownerM M m).1, int (ownerM M m).2]) (mtb tb M :: R)) := by
  refine Fn2 Try.func13 rfl Try.ntmps13 rfl ?_
  refine C_mtb fun lv ls hok => ?_
  have hfold : ∀ w, Sat w (pt tb 69 [lv] :: sl 66 3 lv (ls.map lkE) :: qsH ls :: R) → Sat w (mtb tb M :: R) := fun w hs => mtb_fold hok hs
  have hM := may_low tb lv ls.length hok.lisl m 0 0
  have hl := hok.lisl
  have hlen := hok.len
  unfold ownerM
  rw [hlen]
  by_cases h0 : mayI ls.length m 0 0 = 0
  · obtain ⟨a, b, c, d, e, f⟩ := mayI_0.1 h0
    have hnn : ¬ (mayI ls.length m 0 0 ≠ 0) := by simp [h0]
    simp only [if_neg hnn]
    clear hnn
    rw [h0] at hM
    obtain ⟨k, rfl, hk, p, hp, hp2, hp3⟩ := lk_at hok a b
    have hr1 : ∀ X, Rd (sl 66 3 lv (ls.map lkE) :: X) ⟨vb lv, vo lv + k * 3 + 0, none⟩ (int p.2.own) := fun X => Rd.lk hp rfl
    simp only [show ((k : Int)).toNat = k from by simp, hp2] at *
    by_cases h1 : p.2.own = -1
    · simp only [if_pos h1]
      (repeat' first | refine stp ?_ | intro v' hv' | intro (b : Nat) | (apply w_convU; rfl; rfl; omega; omega) | (apply w_convI; rfl; rfl; omega; omega) | (apply w_quoU; rfl; rfl; rfl; omega; omega; omega) | (apply w_remU; rfl; rfl; rfl; omega; omega) | (apply w_minL; rfl; rfl; rfl; omega) | (apply w_minG; rfl; rfl; rfl; omega) | (apply w_min; rfl; rfl; rfl) | (apply w_mfR; rfl; rfl) | (apply w_cvp; rfl; rfl; exact inferInstance; rfl; rfl; assumption) | (apply w_eqS2T; rfl; rfl; rfl; omega) | (apply w_eqS2F; rfl; rfl; rfl; omega) | (apply w_neS2T; rfl; rfl; rfl; omega) | (apply w_neS2F; rfl; rfl; rfl; omega) | (apply w_eqS3T; rfl; rfl; rfl; omega) | (apply w_eqS3F; rfl; rfl; rfl; omega) | (apply w_neS3T; rfl; rfl; rfl; omega) | (apply w_neS3F; rfl; rfl; rfl; omega) | (apply w_eqS3; rfl; rfl; rfl) | (apply w_neS3; rfl; rfl; rfl) | (apply w_eqS2; rfl; rfl; rfl) | (apply w_neS2; rfl; rfl; rfl) | (apply w_maxL; rfl; rfl; rfl; omega) | (apply w_maxG; rfl; rfl; rfl; omega) | (apply w_max; rfl; rfl; rfl) | (apply w_neB; rfl; rfl; rfl; rfl) | (apply w_eqB; rfl; rfl; rfl; rfl) | (apply w_ld0; rfl; rfl; ((focus ((repeat (first | assumption | exact hr1 _ | exact hr2 _ | apply Rd.there)); done)))) | (apply w_ld; rfl; rfl; ((focus ((repeat (first | assumption | exact hr1 _ | exact hr2 _ | apply Rd.there)); done)))) | (apply w_st; rfl; rfl; rfl; ((focus ((repeat (first | exact hs1 _ | apply St.there)); done))); ((exact kmf))) | (apply w_cq; rfl; rfl; apply Called.at (h := hM); ((focus ((repeat (first | exact Rep.here | apply Rep.there)); done)))) | (apply w_cq; rfl; rfl; exact hW _) | (apply w_cq; rfl; rfl; exact hY _) | refine spl ?_ ?_ | intro hc)
      refine At_ret2 (by (first | exact .inl rfl | exact .inr rfl)) Try.results13 rfl rfl ⟨rfl, rfl⟩ (fun w hs => ?_)
      exact hfold w hs
    · simp only [if_neg h1]
      (repeat' first | refine stp ?_ | intro v' hv' | intro (b : Nat) | (apply w_convU; rfl; rfl; omega; omega) | (apply w_convI; rfl; rfl; omega; omega) | (apply w_quoU; rfl; rfl; rfl; omega; omega; omega) | (apply w_remU; rfl; rfl; rfl; omega; omega) | (apply w_minL; rfl; rfl; rfl; omega) | (apply w_minG; rfl; rfl; rfl; omega) | (apply w_min; rfl; rfl; rfl) | (apply w_mfR; rfl; rfl) | (apply w_cvp; rfl; rfl; exact inferInstance; rfl; rfl; assumption) | (apply w_eqS2T; rfl; rfl; rfl; omega) | (apply w_eqS2F; rfl; rfl; rfl; omega) | (apply w_neS2T; rfl; rfl; rfl; omega) | (apply w_neS2F; rfl; rfl; rfl; omega) | (apply w_eqS3T; rfl; rfl; rfl; omega) | (apply w_eqS3F; rfl; rfl; rfl; omega) | (apply w_neS3T; rfl; rfl; rfl; omega) | (apply w_neS3F; rfl; rfl; rfl; omega) | (apply w_eqS3; rfl; rfl; rfl) | (apply w_neS3; rfl; rfl; rfl) | (apply w_eqS2; rfl; rfl; rfl) | (apply w_neS2; rfl; rfl; rfl) | (apply w_maxL; rfl; rfl; rfl; omega) | (apply w_maxG; rfl; rfl; rfl; omega) | (apply w_max; rfl; rfl; rfl) | (apply w_neB; rfl; rfl; rfl; rfl) | (apply w_eqB; rfl; rfl; rfl; rfl) | (apply w_ld0; rfl; rfl; ((focus ((repeat (first | assumption | exact hr1 _ | exact hr2 _ | apply Rd.there)); done)))) | (apply w_ld; rfl; rfl; ((focus ((repeat (first | assumption | exact hr1 _ | exact hr2 _ | apply Rd.there)); done)))) | (apply w_st; rfl; rfl; rfl; ((focus ((repeat (first | exact hs1 _ | apply St.there)); done))); ((exact kmf))) | (apply w_cq; rfl; rfl; apply Called.at (h := hM); ((focus ((repeat (first | exact Rep.here | apply Rep.there)); done)))) | (apply w_cq; rfl; rfl; exact hW _) | (apply w_cq; rfl; rfl; exact hY _) | refine spl ?_ ?_ | intro hc)
      refine At_ret2 (by (first | exact .inl rfl | exact .inr rfl)) Try.results13 rfl rfl ⟨rfl, rfl⟩ (fun w hs => ?_)
      exact hfold w hs
  · simp only [if_pos h0]
    rw [mayI_no h0] at hM ⊢
    (repeat' first | refine stp ?_ | intro v' hv' | intro (b : Nat) | (apply w_convU; rfl; rfl; omega; omega) | (apply w_convI; rfl; rfl; omega; omega) | (apply w_quoU; rfl; rfl; rfl; omega; omega; omega) | (apply w_remU; rfl; rfl; rfl; omega; omega) | (apply w_minL; rfl; rfl; rfl; omega) | (apply w_minG; rfl; rfl; rfl; omega) | (apply w_min; rfl; rfl; rfl) | (apply w_mfR; rfl; rfl) | (apply w_cvp; rfl; rfl; exact inferInstance; rfl; rfl; assumption) | (apply w_eqS2T; rfl; rfl; rfl; omega) | (apply w_eqS2F; rfl; rfl; rfl; omega) | (apply w_neS2T; rfl; rfl; rfl; omega) | (apply w_neS2F; rfl; rfl; rfl; omega) | (apply w_eqS3T; rfl; rfl; rfl; omega) | (apply w_eqS3F; rfl; rfl; rfl; omega) | (apply w_neS3T; rfl; rfl; rfl; omega) | (apply w_neS3F; rfl; rfl; rfl; omega) | (apply w_eqS3; rfl; rfl; rfl) | (apply w_neS3; rfl; rfl; rfl) | (apply w_eqS2; rfl; rfl; rfl) | (apply w_neS2; rfl; rfl; rfl) | (apply w_maxL; rfl; rfl; rfl; omega) | (apply w_maxG; rfl; rfl; rfl; omega) | (apply w_max; rfl; rfl; rfl) | (apply w_neB; rfl; rfl; rfl; rfl) | (apply w_eqB; rfl; rfl; rfl; rfl) | (apply w_ld0; rfl; rfl; ((focus ((repeat (first | assumption | exact hr1 _ | exact hr2 _ | apply Rd.there)); done)))) | (apply w_ld; rfl; rfl; ((focus ((repeat (first | assumption | exact hr1 _ | exact hr2 _ | apply Rd.there)); done)))) | (apply w_st; rfl; rfl; rfl; ((focus ((repeat (first | exact hs1 _ | apply St.there)); done))); ((exact kmf))) | (apply w_cq; rfl; rfl; apply Called.at (h := hM); ((focus ((repeat (first | exact Rep.here | apply Rep.there)); done)))) | (apply w_cq; rfl; rfl; exact hW _) | (apply w_cq; rfl; rfl; exact hY _) | refine spl ?_ ?_ | intro hc)
    refine At_ret2 (by (first | exact .inl rfl | exact .inr rfl)) Try.results13 rfl rfl ⟨rfl, rfl⟩ (fun w hs => ?_)
    exact hfold w hs
set_option maxHeartbeats 4000000 in
theorem Flag_ok (tb : Nat) (M : List Lk) (m : Int) (R : List HP) :
    Called Try.prog 23 [ptr tb, int m] (mtb tb M :: R) (is (.tuple #[.bool (flagM M m).1, int (flagM M m).2]) (mtb tb M :: R)) := by
  refine Fn2 Try.func23 rfl Try.ntmps23 rfl ?_
  refine C_mtb fun lv ls hok => ?_
  have hfold : ∀ w, Sat w (pt tb 69 [lv] :: sl 66 3 lv (ls.map lkE) :: qsH ls :: R) → Sat w (mtb tb M :: R) := fun w hs => mtb_fold hok hs
  have hM := may_low tb lv ls.length hok.lisl m 0 0
  have hl := hok.lisl
  have hlen := hok.len
  unfold flagM
  rw [hlen]
  by_cases h0 : mayI ls.length m 0 0 = 0
  · obtain ⟨a, b, c, d, e, f⟩ := mayI_0.1 h0
    have hnn : ¬ (mayI ls.length m 0 0 ≠ 0) := by simp [h0]
    simp only [if_neg hnn]
    clear hnn
    rw [h0] at hM
    obtain ⟨k, rfl, hk, p, hp, hp2, hp3⟩ := lk_at hok a b
    have hr1 : ∀ X, Rd (sl 66 3 lv (ls.map lkE) :: X) ⟨vb lv, vo lv + k * 3 + 1, none⟩ (.bool p.2.flag) := fun X => Rd.lk hp rfl
    simp only [show ((k : Int)).toNat = k from by simp, hp2] at *
    (repeat' first | refine stp ?_ | intro v' hv' | intro (b : Nat) | (apply w_convU; rfl; rfl; omega; omega) | (apply w_convI; rfl; rfl; omega; omega) | (apply w_quoU; rfl; rfl; rfl; omega; omega; omega) | (apply w_remU; rfl; rfl; rfl; omega; omega) | (apply w_minL; rfl; rfl; rfl; omega) | (apply w_minG; rfl; rfl; rfl; omega) | (apply w_min; rfl; rfl; rfl) | (apply w_mfR; rfl; rfl) | (apply w_cvp; rfl; rfl; exact inferInstance; rfl; rfl; assumption) | (apply w_eqS2T; rfl; rfl; rfl; omega) | (apply w_eqS2F; rfl; rfl; rfl; omega) | (apply w_neS2T; rfl; rfl; rfl; omega) | (apply w_neS2F; rfl; rfl; rfl; omega) | (apply w_eqS3T; rfl; rfl; rfl; omega) | (apply w_eqS3F; rfl; rfl; rfl; omega) | (apply w_neS3T; rfl; rfl; rfl; omega) | (apply w_neS3F; rfl; rfl; rfl; omega) | (apply w_eqS3; rfl; rfl; rfl) | (apply w_neS3; rfl; rfl; rfl) | (apply w_eqS2; rfl; rfl; rfl) | (apply w_neS2; rfl; rfl; rfl) | (apply w_maxL; rfl; rfl; rfl; omega) | (apply w_maxG; rfl; rfl; rfl; omega) | (apply w_max; rfl; rfl; rfl) | (apply w_neB; rfl; rfl; rfl; rfl) | (apply w_eqB; rfl; rfl; rfl; rfl) | (apply w_ld0; rfl; rfl; ((focus ((repeat (first | assumption | exact hr1 _ | exact hr2 _ | apply Rd.there)); done)))) | (apply w_ld; rfl; rfl; ((focus ((repeat (first | assumption | exact hr1 _ | exact hr2 _ | apply Rd.there)); done)))) | (apply w_st; rfl; rfl; rfl; ((focus ((repeat (first | exact hs1 _ | apply St.there)); done))); ((exact kmf))) | (apply w_cq; rfl; rfl; apply Called.at (h := hM); ((focus ((repeat (first | exact Rep.here | apply Rep.there)); done)))) | (apply w_cq; rfl; rfl; exact hW _) | (apply w_cq; rfl; rfl; exact hY _) | refine spl ?_ ?_ | intro hc)
    refine At_ret2 (by (first | exact .inl rfl | exact .inr rfl)) Try.results23 rfl rfl ⟨rfl, rfl⟩ (fun w hs => ?_)
    exact hfold w hs
  · simp only [if_pos h0]
    rw [mayI_no h0] at hM ⊢
    (repeat' first | refine stp ?_ | intro v' hv' | intro (b : Nat) | (apply w_convU; rfl; rfl; omega; omega) | (apply w_convI; rfl; rfl; omega; omega) | (apply w_quoU; rfl; rfl; rfl; omega; omega; omega) | (apply w_remU; rfl; rfl; rfl; omega; omega) | (apply w_minL; rfl; rfl; rfl; omega) | (apply w_minG; rfl; rfl; rfl; omega) | (apply w_min; rfl; rfl; rfl) | (apply w_mfR; rfl; rfl) | (apply w_cvp; rfl; rfl; exact inferInstance; rfl; rfl; assumption) | (apply w_eqS2T; rfl; rfl; rfl; omega) | (apply w_eqS2F; rfl; rfl; rfl; omega) | (apply w_neS2T; rfl; rfl; rfl; omega) | (apply w_neS2F; rfl; rfl; rfl; omega) | (apply w_eqS3T; rfl; rfl; rfl; omega) | (apply w_eqS3F; rfl; rfl; rfl; omega) | (apply w_neS3T; rfl; rfl; rfl; omega) | (apply w_neS3F; rfl; rfl; rfl; omega) | (apply w_eqS3; rfl; rfl; rfl) | (apply w_neS3; rfl; rfl; rfl) | (apply w_eqS2; rfl; rfl; rfl) | (apply w_neS2; rfl; rfl; rfl) | (apply w_maxL; rfl; rfl; rfl; omega) | (apply w_maxG; rfl; rfl; rfl; omega) | (apply w_max; rfl; rfl; rfl) | (apply w_neB; rfl; rfl; rfl; rfl) | (apply w_eqB; rfl; rfl; rfl; rfl) | (apply w_ld0; rfl; rfl; ((focus ((repeat (first | assumption | exact hr1 _ | exact hr2 _ | apply Rd.there)); done)))) | (apply w_ld; rfl; rfl; ((focus ((repeat (first | assumption | exact hr1 _ | exact hr2 _ | apply Rd.there)); done)))) | (apply w_st; rfl; rfl; rfl; ((focus ((repeat (first | exact hs1 _ | apply St.there)); done))); ((exact kmf))) | (apply w_cq; rfl; rfl; apply Called.at (h := hM); ((focus ((repeat (first | exact Rep.here | apply Rep.there)); done)))) | (apply w_cq; rfl; rfl; exact hW _) | (apply w_cq; rfl; rfl; exact hY _) | refine spl ?_ ?_ | intro hc)
    refine At_ret2 (by (first | exact .inl rfl | exact .inr rfl)) Try.results23 rfl rfl ⟨rfl, rfl⟩ (fun w hs => ?_)
    exact hfold w hs
end Go.Proofs.Ytoaaoijdknbanaa
