/- mutex: Held, Waits, Waiters, New. Conditions: none. -/
import Derived.Test.YtoaaoijdknbanaaMutF
set_option linter.all false
set_option linter.deprecated false
namespace Go.Proofs.Ytoaaoijdknbanaa
open Go.Sep
variable [B0 : Base]
def niE (i : Nat) : List Value := [int (i : Int)]
theorem ni_one (i : Nat) : (niE i).all Value.oneCell' = true := rfl
def heldK (M : List Lk) (n : Int) (k : Nat) : List Nat := (List.range k).filter fun i => decide ((lkA M i).own = n)
theorem heldK_succ (M : List Lk) (n : Int) (k : Nat) : heldK M n (k + 1) = heldK M n k ++ (if (lkA M k).own = n then [k] else []) := by
  unfold heldK
  rw [List.range_succ, List.filter_append, List.filter_cons, List.filter_nil]
  by_cases h : (lkA M k).own = n
  · rw [if_pos (decide_eq_true h), if_pos h]
  · rw [if_neg (by simpa using h), if_neg h]
theorem heldK_len (M : List Lk) (n : Int) (k : Nat) : (heldK M n k).length ≤ k := by
  have := List.length_filter_le (fun i => decide ((lkA M i).own = n)) (List.range k)
  rw [List.length_range] at this
  exact this
set_option maxHeartbeats 4000000 in
theorem Held_ok (tb : Nat) (M : List Lk) (n : Int) (R : List HP) :
    Called Try.prog 22 [ptr tb, int n] (mtb tb M :: R) (retSl 3 1 ((heldM M n).map niE) (mtb tb M :: R)) := by
  refine Called.isl ?_
  refine Fn2 Try.func22 rfl Try.ntmps22 rfl ?_
  refine C_mtb fun lv ls hok => ?_
  have hfold : ∀ {X} w, Sat w (pt tb 69 [lv] :: sl 66 3 lv (ls.map lkE) :: qsH ls :: X) → Sat w (mtb tb M :: X) := fun w hs => mtb_fold hok hs
  have hn := thread_ok n
  have hlv := hok.lisl
  have hN := hlv.len
  have hlen := hok.len
  have hfew := hok.few
  unfold heldM
  by_cases h0 : 0 ≤ n ∧ n < 64
  · rw [if_pos h0]
    rw [decide_eq_true h0] at hn
    (repeat' first | refine stp ?_ | intro v' hv' | intro (b : Nat) | (apply w_convU; rfl; rfl; omega; omega) | (apply w_convI; rfl; rfl; omega; omega) | (apply w_quoU; rfl; rfl; rfl; omega; omega; omega) | (apply w_remU; rfl; rfl; rfl; omega; omega) | (apply w_minL; rfl; rfl; rfl; omega) | (apply w_minG; rfl; rfl; rfl; omega) | (apply w_min; rfl; rfl; rfl) | (apply w_mfR; rfl; rfl) | (apply w_cvp; rfl; rfl; exact inferInstance; rfl; rfl; assumption) | (apply w_eqS2T; rfl; rfl; rfl; omega) | (apply w_eqS2F; rfl; rfl; rfl; omega) | (apply w_neS2T; rfl; rfl; rfl; omega) | (apply w_neS2F; rfl; rfl; rfl; omega) | (apply w_eqS3T; rfl; rfl; rfl; omega) | (apply w_eqS3F; rfl; rfl; rfl; omega) | (apply w_neS3T; rfl; rfl; rfl; omega) | (apply w_neS3F; rfl; rfl; rfl; omega) | (apply w_eqS3; rfl; rfl; rfl) | (apply w_neS3; rfl; rfl; rfl) | (apply w_eqS2; rfl; rfl; rfl) | (apply w_neS2; rfl; rfl; rfl) | (apply w_maxL; rfl; rfl; rfl; omega) | (apply w_maxG; rfl; rfl; rfl; omega) | (apply w_max; rfl; rfl; rfl) | (apply w_neB; rfl; rfl; rfl; rfl) | (apply w_eqB; rfl; rfl; rfl; rfl) | (apply w_sa; rfl; rfl; rfl; exact hoq; ((focus ((repeat (first | exact .pt rfl | apply StAll.there)); done))); ((exact kmf))) | (apply w_cp; rfl; rfl; exact hn) | refine spl ?_ ?_ | intro hc)
    refine C_loopK (α := Nat × Value) [5, 6, 7, 20, 21, 22, 23, 24, 25, 26, 27, 28, 29, 30, 31, 32, 33] (fun x => ls.length - x.1) (fun x => [(5, x.2), (20, int x.1)]) (fun x => sl 3 1 x.2 ((heldK M n x.1).map niE) :: pt tb 69 [lv] :: sl 66 3 lv (ls.map lkE) :: qsH ls :: R) (fun x => x.1 ≤ ls.length ∧ IsSl x.2 (heldK M n x.1).length) (0, .slice none 0 0) ⟨Nat.zero_le _, IsSl.nil⟩ (by (focus ((repeat (first | exact Keep.nil | apply Keep.drop rfl | apply Keep.keep rfl)); done))) (by (exact sbf)) (fun w hs => hs.sl_nil) ?_
    rintro ⟨k, v⟩ ⟨hk, hv⟩
    dsimp only [List.cons_append, List.nil_append] at *
    have hl := heldK_len M n k
    by_cases hlt : k < ls.length
    · have hp : ls[k]? = some ls[k] := by simp [hlt]
      obtain ⟨hMk, hlk, hpi, hp64, -, -⟩ := hok.get hp
      have hhs := heldK_succ M n k
      rw [hlk] at hhs
      have hpe : (ls.map lkE)[k]? = some [int ls[k].2.own, .bool ls[k].2.flag, ls[k].1] := by rw [List.getElem?_map, hp]; rfl
      generalize ls[k] = p at *
      obtain ⟨qv, own, fl, q⟩ := p
      dsimp only at *
      have hoq : [int own, .bool fl, qv].all Value.oneCell' = true := by rw [List.all_cons, List.all_cons, List.all_cons, hpi.one]; rfl
      by_cases ho : own = n
      · rw [if_pos ho] at hhs
        (repeat' first | refine stp ?_ | intro v' hv' | intro (b : Nat) | (apply w_convU; rfl; rfl; omega; omega) | (apply w_convI; rfl; rfl; omega; omega) | (apply w_quoU; rfl; rfl; rfl; omega; omega; omega) | (apply w_remU; rfl; rfl; rfl; omega; omega) | (apply w_minL; rfl; rfl; rfl; omega) | (apply w_minG; rfl; rfl; rfl; omega) | (apply w_min; rfl; rfl; rfl) | (apply w_mfR; rfl; rfl) | (apply w_cvp; rfl; rfl; exact inferInstance; rfl; rfl; assumption) | (apply w_eqS2T; rfl; rfl; rfl; omega) | (apply w_eqS2F; rfl; rfl; rfl; omega) | (apply w_neS2T; rfl; rfl; rfl; omega) | (apply w_neS2F; rfl; rfl; rfl; omega) | (apply w_eqS3T; rfl; rfl; rfl; omega) | (apply w_eqS3F; rfl; rfl; rfl; omega) | (apply w_neS3T; rfl; rfl; rfl; omega) | (apply w_neS3F; rfl; rfl; rfl; omega) | (apply w_eqS3; rfl; rfl; rfl) | (apply w_neS3; rfl; rfl; rfl) | (apply w_eqS2; rfl; rfl; rfl) | (apply w_neS2; rfl; rfl; rfl) | (apply w_maxL; rfl; rfl; rfl; omega) | (apply w_maxG; rfl; rfl; rfl; omega) | (apply w_max; rfl; rfl; rfl) | (apply w_neB; rfl; rfl; rfl; rfl) | (apply w_eqB; rfl; rfl; rfl; rfl) | (apply w_sa; rfl; rfl; rfl; exact hoq; ((focus ((repeat (first | exact .pt rfl | apply StAll.there)); done))); ((exact kmf))) | (apply w_cp; rfl; rfl; exact hn) | refine spl ?_ ?_ | intro hc)
        ((apply w_apM (l2 := [k]); rfl; rfl; rfl; (focus ((repeat (first | exact Del.here | apply Del.there)); done)); ((exact srf)); (intro; rfl); (first | (simp only [List.length_cons, List.length_nil]; omega) | (simp; omega)); (first | (simp only [List.length_cons, List.length_nil]; omega) | (simp; omega))); intro v' hv'; refine ⟨by (exact kmf), ?_⟩)
        (repeat' first | refine stp ?_ | intro v' hv' | intro (b : Nat) | (apply w_convU; rfl; rfl; omega; omega) | (apply w_convI; rfl; rfl; omega; omega) | (apply w_quoU; rfl; rfl; rfl; omega; omega; omega) | (apply w_remU; rfl; rfl; rfl; omega; omega) | (apply w_minL; rfl; rfl; rfl; omega) | (apply w_minG; rfl; rfl; rfl; omega) | (apply w_min; rfl; rfl; rfl) | (apply w_mfR; rfl; rfl) | (apply w_cvp; rfl; rfl; exact inferInstance; rfl; rfl; assumption) | (apply w_eqS2T; rfl; rfl; rfl; omega) | (apply w_eqS2F; rfl; rfl; rfl; omega) | (apply w_neS2T; rfl; rfl; rfl; omega) | (apply w_neS2F; rfl; rfl; rfl; omega) | (apply w_eqS3T; rfl; rfl; rfl; omega) | (apply w_eqS3F; rfl; rfl; rfl; omega) | (apply w_neS3T; rfl; rfl; rfl; omega) | (apply w_neS3F; rfl; rfl; rfl; omega) | (apply w_eqS3; rfl; rfl; rfl) | (apply w_neS3; rfl; rfl; rfl) | (apply w_eqS2; rfl; rfl; rfl) | (apply w_neS2; rfl; rfl; rfl) | (apply w_maxL; rfl; rfl; rfl; omega) | (apply w_maxG; rfl; rfl; rfl; omega) | (apply w_max; rfl; rfl; rfl) | (apply w_neB; rfl; rfl; rfl; rfl) | (apply w_eqB; rfl; rfl; rfl; rfl) | (apply w_sa; rfl; rfl; rfl; exact hoq; ((focus ((repeat (first | exact .pt rfl | apply StAll.there)); done))); ((exact kmf))) | (apply w_cp; rfl; rfl; exact hn) | refine spl ?_ ?_ | intro hc)
        refine At_againK (k + 1, v') ⟨hlt, by rw [hhs]; assumption⟩ (by dsimp only; omega) (by (exact sbf)) (by (exact sbf)) (fun w hs => ?_)
        dsimp only
        rw [hhs]
        exact Sel.sat (by (focus ((repeat (first | exact Sel.refl | (apply Sel.cons; (focus ((repeat (first | exact Del.here | apply Del.there)); done))) | refine Sel.drop ?_)); done))) hs
      · rw [if_neg ho, List.append_nil] at hhs
        (repeat' first | refine stp ?_ | intro v' hv' | intro (b : Nat) | (apply w_convU; rfl; rfl; omega; omega) | (apply w_convI; rfl; rfl; omega; omega) | (apply w_quoU; rfl; rfl; rfl; omega; omega; omega) | (apply w_remU; rfl; rfl; rfl; omega; omega) | (apply w_minL; rfl; rfl; rfl; omega) | (apply w_minG; rfl; rfl; rfl; omega) | (apply w_min; rfl; rfl; rfl) | (apply w_mfR; rfl; rfl) | (apply w_cvp; rfl; rfl; exact inferInstance; rfl; rfl; assumption) | (apply w_eqS2T; rfl; rfl; rfl; omega) | (apply w_eqS2F; rfl; rfl; rfl; omega) | (apply w_neS2T; rfl; rfl; rfl; omega) | (apply w_neS2F; rfl; rfl; rfl; omega) | (apply w_eqS3T; rfl; rfl; rfl; omega) | (apply w_eqS3F; rfl; rfl; rfl; omega) | (apply w_neS3T; rfl; rfl; rfl; omega) | (apply w_neS3F; rfl; rfl; rfl; omega) | (apply w_eqS3; rfl; rfl; rfl) | (apply w_neS3; rfl; rfl; rfl) | (apply w_eqS2; rfl; rfl; rfl) | (apply w_neS2; rfl; rfl; rfl) | (apply w_maxL; rfl; rfl; rfl; omega) | (apply w_maxG; rfl; rfl; rfl; omega) | (apply w_max; rfl; rfl; rfl) | (apply w_neB; rfl; rfl; rfl; rfl) | (apply w_eqB; rfl; rfl; rfl; rfl) | (apply w_sa; rfl; rfl; rfl; exact hoq; ((focus ((repeat (first | exact .pt rfl | apply StAll.there)); done))); ((exact kmf))) | (apply w_cp; rfl; rfl; exact hn) | refine spl ?_ ?_ | intro hc)
        refine At_againK (k + 1, v) ⟨hlt, by rw [hhs]; exact hv⟩ (by dsimp only; omega) (by (exact sbf)) (by (exact sbf)) (fun w hs => ?_)
        dsimp only
        rw [hhs]
        exact Sel.sat (by (focus ((repeat (first | exact Sel.refl | (apply Sel.cons; (focus ((repeat (first | exact Del.here | apply Del.there)); done))) | refine Sel.drop ?_)); done))) hs
    · obtain rfl : k = ls.length := by omega
      have he : heldN M n = heldK M n ls.length := by unfold heldN heldK; rw [hlen]
      rw [he]
      (repeat' first | refine stp ?_ | intro v' hv' | intro (b : Nat) | (apply w_convU; rfl; rfl; omega; omega) | (apply w_convI; rfl; rfl; omega; omega) | (apply w_quoU; rfl; rfl; rfl; omega; omega; omega) | (apply w_remU; rfl; rfl; rfl; omega; omega) | (apply w_minL; rfl; rfl; rfl; omega) | (apply w_minG; rfl; rfl; rfl; omega) | (apply w_min; rfl; rfl; rfl) | (apply w_mfR; rfl; rfl) | (apply w_cvp; rfl; rfl; exact inferInstance; rfl; rfl; assumption) | (apply w_eqS2T; rfl; rfl; rfl; omega) | (apply w_eqS2F; rfl; rfl; rfl; omega) | (apply w_neS2T; rfl; rfl; rfl; omega) | (apply w_neS2F; rfl; rfl; rfl; omega) | (apply w_eqS3T; rfl; rfl; rfl; omega) | (apply w_eqS3F; rfl; rfl; rfl; omega) | (apply w_neS3T; rfl; rfl; rfl; omega) | (apply w_neS3F; rfl; rfl; rfl; omega) | (apply w_eqS3; rfl; rfl; rfl) | (apply w_neS3; rfl; rfl; rfl) | (apply w_eqS2; rfl; rfl; rfl) | (apply w_neS2; rfl; rfl; rfl) | (apply w_maxL; rfl; rfl; rfl; omega) | (apply w_maxG; rfl; rfl; rfl; omega) | (apply w_max; rfl; rfl; rfl) | (apply w_neB; rfl; rfl; rfl; rfl) | (apply w_eqB; rfl; rfl; rfl; rfl) | (apply w_sa; rfl; rfl; rfl; exact hoq; ((focus ((repeat (first | exact .pt rfl | apply StAll.there)); done))); ((exact kmf))) | (apply w_cp; rfl; rfl; exact hn) | refine spl ?_ ?_ | intro hc)
      refine At_ret1 (by (first | exact .inl rfl | exact .inr rfl)) Try.results22 rfl rfl (fun w hs => ?_)
      have h1 : Sat w (pt tb 69 [lv] :: sl 66 3 lv (ls.map lkE) :: qsH ls :: sl 3 1 v ((heldK M n ls.length).map niE) :: R) := Sel.sat (by (focus ((repeat (first | exact Sel.refl | (apply Sel.cons; (focus ((repeat (first | exact Del.here | apply Del.there)); done))) | refine Sel.drop ?_)); done))) hs
      exact (hfold w h1).perm (.swap ..)
  · rw [if_neg h0]
    rw [decide_eq_false h0] at hn
    (repeat' first | refine stp ?_ | intro v' hv' | intro (b : Nat) | (apply w_convU; rfl; rfl; omega; omega) | (apply w_convI; rfl; rfl; omega; omega) | (apply w_quoU; rfl; rfl; rfl; omega; omega; omega) | (apply w_remU; rfl; rfl; rfl; omega; omega) | (apply w_minL; rfl; rfl; rfl; omega) | (apply w_minG; rfl; rfl; rfl; omega) | (apply w_min; rfl; rfl; rfl) | (apply w_mfR; rfl; rfl) | (apply w_cvp; rfl; rfl; exact inferInstance; rfl; rfl; assumption) | (apply w_eqS2T; rfl; rfl; rfl; omega) | (apply w_eqS2F; rfl; rfl; rfl; omega) | (apply w_neS2T; rfl; rfl; rfl; omega) | (apply w_neS2F; rfl; rfl; rfl; omega) | (apply w_eqS3T; rfl; rfl; rfl; omega) | (apply w_eqS3F; rfl; rfl; rfl; omega) | (apply w_neS3T; rfl; rfl; rfl; omega) | (apply w_neS3F; rfl; rfl; rfl; omega) | (apply w_eqS3; rfl; rfl; rfl) | (apply w_neS3; rfl; rfl; rfl) | (apply w_eqS2; rfl; rfl; rfl) | (apply w_neS2; rfl; rfl; rfl) | (apply w_maxL; rfl; rfl; rfl; omega) | (apply w_maxG; rfl; rfl; rfl; omega) | (apply w_max; rfl; rfl; rfl) | (apply w_neB; rfl; rfl; rfl; rfl) | (apply w_eqB; rfl; rfl; rfl; rfl) | (apply w_sa; rfl; rfl; rfl; exact hoq; ((focus ((repeat (first | exact .pt rfl | apply StAll.there)); done))); ((exact kmf))) | (apply w_cp; rfl; rfl; exact hn) | refine spl ?_ ?_ | intro hc)
    refine At_ret1 (by (first | exact .inl rfl | exact .inr rfl)) Try.results22 rfl rfl (fun w hs => ?_)
    exact (hfold w hs).sl_nil
/-! ### Waits -/
theorem KContains_ok (v fv : Value) (l : List Ky) (p : Ky → Bool) (M : List HP) (h : KyIn M v l) (hp : ∀ x ∈ l, Does Try.prog fv [kyV x] M (is (.bool (p x)) M)) :
    Called Try.prog 36 [v, fv] M (is (.bool (l.findIdx? p).isSome) M) := by
  have hI := KIndexFunc_ok v fv l p M h hp
  unfold findI at hI
  cases hf : l.findIdx? p with
  | none =>
    rw [hf] at hI
    dsimp only at hI
    refine Fn2 Try.func36 rfl Try.ntmps36 rfl ?_
    (repeat' first | refine stp ?_ | intro v' hv' | intro (b : Nat) | (apply w_convU; rfl; rfl; omega; omega) | (apply w_convI; rfl; rfl; omega; omega) | (apply w_quoU; rfl; rfl; rfl; omega; omega; omega) | (apply w_remU; rfl; rfl; rfl; omega; omega) | (apply w_minL; rfl; rfl; rfl; omega) | (apply w_minG; rfl; rfl; rfl; omega) | (apply w_min; rfl; rfl; rfl) | (apply w_mfR; rfl; rfl) | (apply w_cvp; rfl; rfl; exact inferInstance; rfl; rfl; assumption) | (apply w_eqS2T; rfl; rfl; rfl; omega) | (apply w_eqS2F; rfl; rfl; rfl; omega) | (apply w_neS2T; rfl; rfl; rfl; omega) | (apply w_neS2F; rfl; rfl; rfl; omega) | (apply w_eqS3T; rfl; rfl; rfl; omega) | (apply w_eqS3F; rfl; rfl; rfl; omega) | (apply w_neS3T; rfl; rfl; rfl; omega) | (apply w_neS3F; rfl; rfl; rfl; omega) | (apply w_eqS3; rfl; rfl; rfl) | (apply w_neS3; rfl; rfl; rfl) | (apply w_eqS2; rfl; rfl; rfl) | (apply w_neS2; rfl; rfl; rfl) | (apply w_maxL; rfl; rfl; rfl; omega) | (apply w_maxG; rfl; rfl; rfl; omega) | (apply w_max; rfl; rfl; rfl) | (apply w_neB; rfl; rfl; rfl; rfl) | (apply w_eqB; rfl; rfl; rfl; rfl) | (apply w_cp; rfl; rfl; exact hI) | refine spl ?_ ?_ | intro hc)
    apply w_cq
    rfl; rfl; exact hI
    (repeat' first | refine stp ?_ | intro v' hv' | intro (b : Nat) | (apply w_convU; rfl; rfl; omega; omega) | (apply w_convI; rfl; rfl; omega; omega) | (apply w_quoU; rfl; rfl; rfl; omega; omega; omega) | (apply w_remU; rfl; rfl; rfl; omega; omega) | (apply w_minL; rfl; rfl; rfl; omega) | (apply w_minG; rfl; rfl; rfl; omega) | (apply w_min; rfl; rfl; rfl) | (apply w_mfR; rfl; rfl) | (apply w_cvp; rfl; rfl; exact inferInstance; rfl; rfl; assumption) | (apply w_eqS2T; rfl; rfl; rfl; omega) | (apply w_eqS2F; rfl; rfl; rfl; omega) | (apply w_neS2T; rfl; rfl; rfl; omega) | (apply w_neS2F; rfl; rfl; rfl; omega) | (apply w_eqS3T; rfl; rfl; rfl; omega) | (apply w_eqS3F; rfl; rfl; rfl; omega) | (apply w_neS3T; rfl; rfl; rfl; omega) | (apply w_neS3F; rfl; rfl; rfl; omega) | (apply w_eqS3; rfl; rfl; rfl) | (apply w_neS3; rfl; rfl; rfl) | (apply w_eqS2; rfl; rfl; rfl) | (apply w_neS2; rfl; rfl; rfl) | (apply w_maxL; rfl; rfl; rfl; omega) | (apply w_maxG; rfl; rfl; rfl; omega) | (apply w_max; rfl; rfl; rfl) | (apply w_neB; rfl; rfl; rfl; rfl) | (apply w_eqB; rfl; rfl; rfl; rfl) | (apply w_cp; rfl; rfl; exact hI) | refine spl ?_ ?_ | intro hc)
    all_goals (refine At_ret1 (by (first | exact .inl rfl | exact .inr rfl)) Try.results36 rfl ⟨by rfl, rfl⟩ (by (exact frm)))
  | some j =>
    rw [hf] at hI
    dsimp only at hI
    refine Fn2 Try.func36 rfl Try.ntmps36 rfl ?_
    (repeat' first | refine stp ?_ | intro v' hv' | intro (b : Nat) | (apply w_convU; rfl; rfl; omega; omega) | (apply w_convI; rfl; rfl; omega; omega) | (apply w_quoU; rfl; rfl; rfl; omega; omega; omega) | (apply w_remU; rfl; rfl; rfl; omega; omega) | (apply w_minL; rfl; rfl; rfl; omega) | (apply w_minG; rfl; rfl; rfl; omega) | (apply w_min; rfl; rfl; rfl) | (apply w_mfR; rfl; rfl) | (apply w_cvp; rfl; rfl; exact inferInstance; rfl; rfl; assumption) | (apply w_eqS2T; rfl; rfl; rfl; omega) | (apply w_eqS2F; rfl; rfl; rfl; omega) | (apply w_neS2T; rfl; rfl; rfl; omega) | (apply w_neS2F; rfl; rfl; rfl; omega) | (apply w_eqS3T; rfl; rfl; rfl; omega) | (apply w_eqS3F; rfl; rfl; rfl; omega) | (apply w_neS3T; rfl; rfl; rfl; omega) | (apply w_neS3F; rfl; rfl; rfl; omega) | (apply w_eqS3; rfl; rfl; rfl) | (apply w_neS3; rfl; rfl; rfl) | (apply w_eqS2; rfl; rfl; rfl) | (apply w_neS2; rfl; rfl; rfl) | (apply w_maxL; rfl; rfl; rfl; omega) | (apply w_maxG; rfl; rfl; rfl; omega) | (apply w_max; rfl; rfl; rfl) | (apply w_neB; rfl; rfl; rfl; rfl) | (apply w_eqB; rfl; rfl; rfl; rfl) | (apply w_cp; rfl; rfl; exact hI) | refine spl ?_ ?_ | intro hc)
    apply w_cq
    rfl; rfl; exact hI
    (repeat' first | refine stp ?_ | intro v' hv' | intro (b : Nat) | (apply w_convU; rfl; rfl; omega; omega) | (apply w_convI; rfl; rfl; omega; omega) | (apply w_quoU; rfl; rfl; rfl; omega; omega; omega) | (apply w_remU; rfl; rfl; rfl; omega; omega) | (apply w_minL; rfl; rfl; rfl; omega) | (apply w_minG; rfl; rfl; rfl; omega) | (apply w_min; rfl; rfl; rfl) | (apply w_mfR; rfl; rfl) | (apply w_cvp; rfl; rfl; exact inferInstance; rfl; rfl; assumption) | (apply w_eqS2T; rfl; rfl; rfl; omega) | (apply w_eqS2F; rfl; rfl; rfl; omega) | (apply w_neS2T; rfl; rfl; rfl; omega) | (apply w_neS2F; rfl; rfl; rfl; omega) | (apply w_eqS3T; rfl; rfl; rfl; omega) | (apply w_eqS3F; rfl; rfl; rfl; omega) | (apply w_neS3T; rfl; rfl; rfl; omega) | (apply w_neS3F; rfl; rfl; rfl; omega) | (apply w_eqS3; rfl; rfl; rfl) | (apply w_neS3; rfl; rfl; rfl) | (apply w_eqS2; rfl; rfl; rfl) | (apply w_neS2; rfl; rfl; rfl) | (apply w_maxL; rfl; rfl; rfl; omega) | (apply w_maxG; rfl; rfl; rfl; omega) | (apply w_max; rfl; rfl; rfl) | (apply w_neB; rfl; rfl; rfl; rfl) | (apply w_eqB; rfl; rfl; rfl; rfl) | (apply w_cp; rfl; rfl; exact hI) | refine spl ?_ ?_ | intro hc)
    all_goals (refine At_ret1 (by (first | exact .inl rfl | exact .inr rfl)) Try.results36 rfl ⟨by (simp; done), rfl⟩ (by (exact frm)))
set_option maxHeartbeats 4000000 in
theorem Waits_ok (tb : Nat) (M : List Lk) (n : Int) (R : List HP) :
    Called Try.prog 21 [ptr tb, int n] (mtb tb M :: R) (is (.tuple #[int (waitsM M n).1, int (waitsM M n).2]) (mtb tb M :: R)) := by
  refine Fn2 Try.func21 rfl Try.ntmps21 rfl ?_
  refine C_mtb fun lv ls hok => ?_
  have hfold : ∀ {X} w, Sat w (pt tb 69 [lv] :: sl 66 3 lv (ls.map lkE) :: qsH ls :: X) → Sat w (mtb tb M :: X) := fun w hs => mtb_fold hok hs
  have hM := may_low tb lv ls.length hok.lisl 0 n 0
  have hlv := hok.lisl
  have hN := hlv.len
  have hlen := hok.len
  unfold waitsM
  rw [hlen]
  by_cases h0 : mayI ls.length 0 n 0 = 0
  · have hnn : ¬ (mayI ls.length 0 n 0 ≠ 0) := by simp [h0]
    simp only [if_neg hnn]
    clear hnn
    rw [h0] at hM
    (repeat' first | refine stp ?_ | intro v' hv' | intro (b : Nat) | (apply w_convU; rfl; rfl; omega; omega) | (apply w_convI; rfl; rfl; omega; omega) | (apply w_quoU; rfl; rfl; rfl; omega; omega; omega) | (apply w_remU; rfl; rfl; rfl; omega; omega) | (apply w_minL; rfl; rfl; rfl; omega) | (apply w_minG; rfl; rfl; rfl; omega) | (apply w_min; rfl; rfl; rfl) | (apply w_mfR; rfl; rfl) | (apply w_cvp; rfl; rfl; exact inferInstance; rfl; rfl; assumption) | (apply w_eqS2T; rfl; rfl; rfl; omega) | (apply w_eqS2F; rfl; rfl; rfl; omega) | (apply w_neS2T; rfl; rfl; rfl; omega) | (apply w_neS2F; rfl; rfl; rfl; omega) | (apply w_eqS3T; rfl; rfl; rfl; omega) | (apply w_eqS3F; rfl; rfl; rfl; omega) | (apply w_neS3T; rfl; rfl; rfl; omega) | (apply w_neS3F; rfl; rfl; rfl; omega) | (apply w_eqS3; rfl; rfl; rfl) | (apply w_neS3; rfl; rfl; rfl) | (apply w_eqS2; rfl; rfl; rfl) | (apply w_neS2; rfl; rfl; rfl) | (apply w_maxL; rfl; rfl; rfl; omega) | (apply w_maxG; rfl; rfl; rfl; omega) | (apply w_max; rfl; rfl; rfl) | (apply w_neB; rfl; rfl; rfl; rfl) | (apply w_eqB; rfl; rfl; rfl; rfl) | (apply w_sa; rfl; rfl; rfl; exact hoq; ((focus ((repeat (first | exact .pt rfl | apply StAll.there)); done))); ((exact kmf))) | (apply w_cq; rfl; rfl; apply Called.at (h := hM); ((focus ((repeat (first | exact Rep.here | apply Rep.there)); done)))) | (apply w_cq; rfl; rfl; exact hI _ (by (focus ((repeat (first | exact hsq _ | apply Sep.Src.there)); done))) (by (focus ((repeat (first | assumption | exact .pt rfl | exact .sl ‹_› rfl | exact .sl1 (by first | assumption | rfl) | apply Rd.there)); done)))) | refine spl ?_ ?_ | intro hc)
    obtain ⟨b3, hb3⟩ : ∃ r, r = b := ⟨_, rfl⟩
    subst hb3
    refine C_loopK [4, 5, 7, 8, 20, 21, 22, 23, 24, 25, 26, 27, 28, 29, 30, 31] (fun k : Nat => ls.length - k) (fun k => [(20, int k)]) (fun _ => pt b3 3 [int n] :: pt tb 69 [lv] :: sl 66 3 lv (ls.map lkE) :: qsH ls :: R) (fun k => k ≤ ls.length ∧ ∀ k' ∈ M.take k, ∀ y ∈ k'.q, y.id ≠ n) 0 ⟨Nat.zero_le _, by simp⟩ (by (focus ((repeat (first | exact Keep.nil | apply Keep.drop rfl | apply Keep.keep rfl)); done))) (by (exact sbf)) (by (exact frm)) ?_
    rintro k ⟨hk, hz⟩
    dsimp only [List.cons_append, List.nil_append]
    by_cases hlt : k < ls.length
    · have hp : ls[k]? = some ls[k] := by simp [hlt]
      obtain ⟨hMk, hlk, hpi, hp64, -, -⟩ := hok.get hp
      have hsq : ∀ X, Sep.Src (qsH ls :: X) ls[k].1 2 (ls[k].2.q.map kyE) := fun X => qsSrc hp
      have hpe : (ls.map lkE)[k]? = some [int ls[k].2.own, .bool ls[k].2.flag, ls[k].1] := by rw [List.getElem?_map, hp]; rfl
      have htk : M.take (k + 1) = M.take k ++ [ls[k].2] := by rw [List.take_add_one, hMk]; rfl
      generalize ls[k] = p at *
      obtain ⟨qv, own, fl, q⟩ := p
      dsimp only at *
      have hoq : [int own, .bool fl, qv].all Value.oneCell' = true := by rw [List.all_cons, List.all_cons, List.all_cons, hpi.one]; rfl
      have hI0 : ∀ L, Sep.Src L qv 2 (q.map kyE) → Rd L ⟨b3, 0, none⟩ (int n) → Called Try.prog 36 [qv, .func (.func 37) #[] #[ptr b3]] L (is (.bool (q.findIdx? (isK n)).isSome) L) :=
        fun L hL hr => KContains_ok qv _ q (isK n) L ⟨hpi, hL⟩ (fun y _ => Does.func (fs := []) (cs := [ptr b3]) (CanEnter.out (P := Try.prog) (f := 37)) (isK2_ok y n b3 L hr))
      cases hf : q.findIdx? (isK n) with
      | none =>
        rw [hf] at hI0
        have hI : ∀ L, Sep.Src L qv 2 (q.map kyE) → Rd L ⟨b3, 0, none⟩ (int n) → Called Try.prog 36 [qv, .func (.func 37) #[] #[ptr b3]] L (is (.bool false) L) := hI0
        clear hI0
        (repeat' first | refine stp ?_ | intro v' hv' | intro (b : Nat) | (apply w_convU; rfl; rfl; omega; omega) | (apply w_convI; rfl; rfl; omega; omega) | (apply w_quoU; rfl; rfl; rfl; omega; omega; omega) | (apply w_remU; rfl; rfl; rfl; omega; omega) | (apply w_minL; rfl; rfl; rfl; omega) | (apply w_minG; rfl; rfl; rfl; omega) | (apply w_min; rfl; rfl; rfl) | (apply w_mfR; rfl; rfl) | (apply w_cvp; rfl; rfl; exact inferInstance; rfl; rfl; assumption) | (apply w_eqS2T; rfl; rfl; rfl; omega) | (apply w_eqS2F; rfl; rfl; rfl; omega) | (apply w_neS2T; rfl; rfl; rfl; omega) | (apply w_neS2F; rfl; rfl; rfl; omega) | (apply w_eqS3T; rfl; rfl; rfl; omega) | (apply w_eqS3F; rfl; rfl; rfl; omega) | (apply w_neS3T; rfl; rfl; rfl; omega) | (apply w_neS3F; rfl; rfl; rfl; omega) | (apply w_eqS3; rfl; rfl; rfl) | (apply w_neS3; rfl; rfl; rfl) | (apply w_eqS2; rfl; rfl; rfl) | (apply w_neS2; rfl; rfl; rfl) | (apply w_maxL; rfl; rfl; rfl; omega) | (apply w_maxG; rfl; rfl; rfl; omega) | (apply w_max; rfl; rfl; rfl) | (apply w_neB; rfl; rfl; rfl; rfl) | (apply w_eqB; rfl; rfl; rfl; rfl) | (apply w_sa; rfl; rfl; rfl; exact hoq; ((focus ((repeat (first | exact .pt rfl | apply StAll.there)); done))); ((exact kmf))) | (apply w_cq; rfl; rfl; apply Called.at (h := hM); ((focus ((repeat (first | exact Rep.here | apply Rep.there)); done)))) | (apply w_cq; rfl; rfl; exact hI _ (by (focus ((repeat (first | exact hsq _ | apply Sep.Src.there)); done))) (by (focus ((repeat (first | assumption | exact .pt rfl | exact .sl ‹_› rfl | exact .sl1 (by first | assumption | rfl) | apply Rd.there)); done)))) | refine spl ?_ ?_ | intro hc)
        refine At_againK (k + 1) ⟨hlt, ?_⟩ (by omega) (by (exact sbf)) (by (exact sbf)) (by (exact frm))
        intro k' hk' y hy
        rw [htk] at hk'
        rcases List.mem_append.1 hk' with h | h
        · exact hz k' h y hy
        · rw [List.mem_singleton] at h; subst h
          exact findIdx?_isK_none.1 hf y hy
      | some j =>
        rw [hf] at hI0
        have hI : ∀ L, Sep.Src L qv 2 (q.map kyE) → Rd L ⟨b3, 0, none⟩ (int n) → Called Try.prog 36 [qv, .func (.func 37) #[] #[ptr b3]] L (is (.bool true) L) := hI0
        clear hI0
        have hw := waitAt_at hMk hz hf
        rw [hw]
        (repeat' first | refine stp ?_ | intro v' hv' | intro (b : Nat) | (apply w_convU; rfl; rfl; omega; omega) | (apply w_convI; rfl; rfl; omega; omega) | (apply w_quoU; rfl; rfl; rfl; omega; omega; omega) | (apply w_remU; rfl; rfl; rfl; omega; omega) | (apply w_minL; rfl; rfl; rfl; omega) | (apply w_minG; rfl; rfl; rfl; omega) | (apply w_min; rfl; rfl; rfl) | (apply w_mfR; rfl; rfl) | (apply w_cvp; rfl; rfl; exact inferInstance; rfl; rfl; assumption) | (apply w_eqS2T; rfl; rfl; rfl; omega) | (apply w_eqS2F; rfl; rfl; rfl; omega) | (apply w_neS2T; rfl; rfl; rfl; omega) | (apply w_neS2F; rfl; rfl; rfl; omega) | (apply w_eqS3T; rfl; rfl; rfl; omega) | (apply w_eqS3F; rfl; rfl; rfl; omega) | (apply w_neS3T; rfl; rfl; rfl; omega) | (apply w_neS3F; rfl; rfl; rfl; omega) | (apply w_eqS3; rfl; rfl; rfl) | (apply w_neS3; rfl; rfl; rfl) | (apply w_eqS2; rfl; rfl; rfl) | (apply w_neS2; rfl; rfl; rfl) | (apply w_maxL; rfl; rfl; rfl; omega) | (apply w_maxG; rfl; rfl; rfl; omega) | (apply w_max; rfl; rfl; rfl) | (apply w_neB; rfl; rfl; rfl; rfl) | (apply w_eqB; rfl; rfl; rfl; rfl) | (apply w_sa; rfl; rfl; rfl; exact hoq; ((focus ((repeat (first | exact .pt rfl | apply StAll.there)); done))); ((exact kmf))) | (apply w_cq; rfl; rfl; apply Called.at (h := hM); ((focus ((repeat (first | exact Rep.here | apply Rep.there)); done)))) | (apply w_cq; rfl; rfl; exact hI _ (by (focus ((repeat (first | exact hsq _ | apply Sep.Src.there)); done))) (by (focus ((repeat (first | assumption | exact .pt rfl | exact .sl ‹_› rfl | exact .sl1 (by first | assumption | rfl) | apply Rd.there)); done)))) | refine spl ?_ ?_ | intro hc)
        refine At_ret2 (by (first | exact .inl rfl | exact .inr rfl)) Try.results21 rfl rfl ⟨rfl, rfl⟩ (fun w hs => ?_)
        exact hfold w (Sel.sat (by (focus ((repeat (first | exact Sel.refl | (apply Sel.cons; (focus ((repeat (first | exact Del.here | apply Del.there)); done))) | refine Sel.drop ?_)); done))) hs)
    · obtain rfl : k = ls.length := by omega
      have hw : waitAt M n = none := by
        rw [waitAt_none]
        rw [← hlen, List.take_length] at hz
        exact hz
      rw [hw]
      (repeat' first | refine stp ?_ | intro v' hv' | intro (b : Nat) | (apply w_convU; rfl; rfl; omega; omega) | (apply w_convI; rfl; rfl; omega; omega) | (apply w_quoU; rfl; rfl; rfl; omega; omega; omega) | (apply w_remU; rfl; rfl; rfl; omega; omega) | (apply w_minL; rfl; rfl; rfl; omega) | (apply w_minG; rfl; rfl; rfl; omega) | (apply w_min; rfl; rfl; rfl) | (apply w_mfR; rfl; rfl) | (apply w_cvp; rfl; rfl; exact inferInstance; rfl; rfl; assumption) | (apply w_eqS2T; rfl; rfl; rfl; omega) | (apply w_eqS2F; rfl; rfl; rfl; omega) | (apply w_neS2T; rfl; rfl; rfl; omega) | (apply w_neS2F; rfl; rfl; rfl; omega) | (apply w_eqS3T; rfl; rfl; rfl; omega) | (apply w_eqS3F; rfl; rfl; rfl; omega) | (apply w_neS3T; rfl; rfl; rfl; omega) | (apply w_neS3F; rfl; rfl; rfl; omega) | (apply w_eqS3; rfl; rfl; rfl) | (apply w_neS3; rfl; rfl; rfl) | (apply w_eqS2; rfl; rfl; rfl) | (apply w_neS2; rfl; rfl; rfl) | (apply w_maxL; rfl; rfl; rfl; omega) | (apply w_maxG; rfl; rfl; rfl; omega) | (apply w_max; rfl; rfl; rfl) | (apply w_neB; rfl; rfl; rfl; rfl) | (apply w_eqB; rfl; rfl; rfl; rfl) | (apply w_sa; rfl; rfl; rfl; exact hoq; ((focus ((repeat (first | exact .pt rfl | apply StAll.there)); done))); ((exact kmf))) | (apply w_cq; rfl; rfl; apply Called.at (h := hM); ((focus ((repeat (first | exact Rep.here | apply Rep.there)); done)))) | (apply w_cq; rfl; rfl; exact hI _ (by (focus ((repeat (first | exact hsq _ | apply Sep.Src.there)); done))) (by (focus ((repeat (first | assumption | exact .pt rfl | exact .sl ‹_› rfl | exact .sl1 (by first | assumption | rfl) | apply Rd.there)); done)))) | refine spl ?_ ?_ | intro hc)
      refine At_ret2 (by (first | exact .inl rfl | exact .inr rfl)) Try.results21 rfl rfl ⟨rfl, rfl⟩ (fun w hs => ?_)
      exact hfold w (Sel.sat (by (focus ((repeat (first | exact Sel.refl | (apply Sel.cons; (focus ((repeat (first | exact Del.here | apply Del.there)); done))) | refine Sel.drop ?_)); done))) hs)
  · simp only [if_pos h0]
    rw [mayI_no h0] at hM ⊢
    (repeat' first | refine stp ?_ | intro v' hv' | intro (b : Nat) | (apply w_convU; rfl; rfl; omega; omega) | (apply w_convI; rfl; rfl; omega; omega) | (apply w_quoU; rfl; rfl; rfl; omega; omega; omega) | (apply w_remU; rfl; rfl; rfl; omega; omega) | (apply w_minL; rfl; rfl; rfl; omega) | (apply w_minG; rfl; rfl; rfl; omega) | (apply w_min; rfl; rfl; rfl) | (apply w_mfR; rfl; rfl) | (apply w_cvp; rfl; rfl; exact inferInstance; rfl; rfl; assumption) | (apply w_eqS2T; rfl; rfl; rfl; omega) | (apply w_eqS2F; rfl; rfl; rfl; omega) | (apply w_neS2T; rfl; rfl; rfl; omega) | (apply w_neS2F; rfl; rfl; rfl; omega) | (apply w_eqS3T; rfl; rfl; rfl; omega) | (apply w_eqS3F; rfl; rfl; rfl; omega) | (apply w_neS3T; rfl; rfl; rfl; omega) | (apply w_neS3F; rfl; rfl; rfl; omega) | (apply w_eqS3; rfl; rfl; rfl) | (apply w_neS3; rfl; rfl; rfl) | (apply w_eqS2; rfl; rfl; rfl) | (apply w_neS2; rfl; rfl; rfl) | (apply w_maxL; rfl; rfl; rfl; omega) | (apply w_maxG; rfl; rfl; rfl; omega) | (apply w_max; rfl; rfl; rfl) | (apply w_neB; rfl; rfl; rfl; rfl) | (apply w_eqB; rfl; rfl; rfl; rfl) | (apply w_sa; rfl; rfl; rfl; exact hoq; ((focus ((repeat (first | exact .pt rfl | apply StAll.there)); done))); ((exact kmf))) | (apply w_cq; rfl; rfl; apply Called.at (h := hM); ((focus ((repeat (first | exact Rep.here | apply Rep.there)); done)))) | (apply w_cq; rfl; rfl; exact hI _ (by (focus ((repeat (first | exact hsq _ | apply Sep.Src.there)); done))) (by (focus ((repeat (first | assumption | exact .pt rfl | exact .sl ‹_› rfl | exact .sl1 (by first | assumption | rfl) | apply Rd.there)); done)))) | refine spl ?_ ?_ | intro hc)
    refine At_ret2 (by (first | exact .inl rfl | exact .inr rfl)) Try.results21 rfl rfl ⟨rfl, rfl⟩ (fun w hs => ?_)
    exact hfold w (Sel.sat (by (focus ((repeat (first | exact Sel.refl | (apply Sel.cons; (focus ((repeat (first | exact Del.here | apply Del.there)); done))) | refine Sel.drop ?_)); done))) hs)
end Go.Proofs.Ytoaaoijdknbanaa
