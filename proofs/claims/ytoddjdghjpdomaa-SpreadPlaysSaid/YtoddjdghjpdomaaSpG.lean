/- spread: may, New, take, Put, Drop, Rekey. Conditions: none. -/
import Derived.Test.YtoddjdghjpdomaaSpF
set_option linter.all false
set_option linter.deprecated false
namespace Go.Proofs.Ytoddjdghjpdomaa
open Go.Sep
variable [B0 : Base]
set_option maxHeartbeats 2000000 in
theorem may_ok (k : Ky) (R : List HP) : Called Try.prog 25 [kyV k] R (is (.bool (mayK k)) R) := by
  obtain ⟨a, i⟩ := k
  unfold mayK kyV kyE
  dsimp only
  by_cases h1 : 0 ≤ i
  · by_cases h2 : i < 64
    · by_cases h3 : 0 ≤ a
      · by_cases h4 : a < 1099511627776
        all_goals simp only [h1, h2, h3, h4, decide_true, decide_false, Bool.and_true, Bool.and_false, Bool.true_and, Bool.false_and]
        all_goals
          refine Fn1 Try.func25 rfl Try.ntmps25 rfl ?_
          (repeat' first | refine stp ?_ | intro v' hv' | intro (b : Nat) | (apply w_convU; rfl; rfl; omega; omega) | (apply w_convI; rfl; rfl; omega; omega) | (apply w_quoU; rfl; rfl; rfl; omega; omega; omega) | (apply w_remU; rfl; rfl; rfl; omega; omega) | (apply w_minL; rfl; rfl; rfl; omega) | (apply w_minG; rfl; rfl; rfl; omega) | (apply w_min; rfl; rfl; rfl) | (apply w_mfR; rfl; rfl) | (apply w_cvp; rfl; rfl; exact inferInstance; rfl; rfl; assumption) | (apply w_eqS2T; rfl; rfl; rfl; omega) | (apply w_eqS2F; rfl; rfl; rfl; omega) | (apply w_neS2T; rfl; rfl; rfl; omega) | (apply w_neS2F; rfl; rfl; rfl; omega) | (apply w_eqS3T; rfl; rfl; rfl; omega) | (apply w_eqS3F; rfl; rfl; rfl; omega) | (apply w_neS3T; rfl; rfl; rfl; omega) | (apply w_neS3F; rfl; rfl; rfl; omega) | (apply w_eqS3; rfl; rfl; rfl) | (apply w_neS3; rfl; rfl; rfl) | (apply w_eqS2; rfl; rfl; rfl) | (apply w_neS2; rfl; rfl; rfl) | (apply w_maxL; rfl; rfl; rfl; omega) | (apply w_maxG; rfl; rfl; rfl; omega) | (apply w_max; rfl; rfl; rfl) | (apply w_neB; rfl; rfl; rfl; rfl) | (apply w_eqB; rfl; rfl; rfl; rfl) | refine spl ?_ ?_ | intro hc)
          all_goals (refine At_ret1 (by (first | exact .inl rfl | exact .inr rfl)) Try.results25 rfl ⟨by rfl, rfl⟩ (by (exact frm)))
      · simp only [h1, h2, h3, decide_true, decide_false, Bool.and_true, Bool.and_false, Bool.true_and, Bool.false_and]
        refine Fn1 Try.func25 rfl Try.ntmps25 rfl ?_
        (repeat' first | refine stp ?_ | intro v' hv' | intro (b : Nat) | (apply w_convU; rfl; rfl; omega; omega) | (apply w_convI; rfl; rfl; omega; omega) | (apply w_quoU; rfl; rfl; rfl; omega; omega; omega) | (apply w_remU; rfl; rfl; rfl; omega; omega) | (apply w_minL; rfl; rfl; rfl; omega) | (apply w_minG; rfl; rfl; rfl; omega) | (apply w_min; rfl; rfl; rfl) | (apply w_mfR; rfl; rfl) | (apply w_cvp; rfl; rfl; exact inferInstance; rfl; rfl; assumption) | (apply w_eqS2T; rfl; rfl; rfl; omega) | (apply w_eqS2F; rfl; rfl; rfl; omega) | (apply w_neS2T; rfl; rfl; rfl; omega) | (apply w_neS2F; rfl; rfl; rfl; omega) | (apply w_eqS3T; rfl; rfl; rfl; omega) | (apply w_eqS3F; rfl; rfl; rfl; omega) | (apply w_neS3T; rfl; rfl; rfl; omega) | (apply w_neS3F; rfl; rfl; rfl; omega) | (apply w_eqS3; rfl; rfl; rfl) | (apply w_neS3; rfl; rfl; rfl) | (apply w_eqS2; rfl; rfl; rfl) | (apply w_neS2; rfl; rfl; rfl) | (apply w_maxL; rfl; rfl; rfl; omega) | (apply w_maxG; rfl; rfl; rfl; omega) | (apply w_max; rfl; rfl; rfl) | (apply w_neB; rfl; rfl; rfl; rfl) | (apply w_eqB; rfl; rfl; rfl; rfl) | refine spl ?_ ?_ | intro hc)
        all_goals (refine At_ret1 (by (first | exact .inl rfl | exact .inr rfl)) Try.results25 rfl ⟨by rfl, rfl⟩ (by (exact frm)))
    · simp only [h1, h2, decide_true, decide_false, Bool.and_true, Bool.and_false, Bool.true_and, Bool.false_and]
      refine Fn1 Try.func25 rfl Try.ntmps25 rfl ?_
      (repeat' first | refine stp ?_ | intro v' hv' | intro (b : Nat) | (apply w_convU; rfl; rfl; omega; omega) | (apply w_convI; rfl; rfl; omega; omega) | (apply w_quoU; rfl; rfl; rfl; omega; omega; omega) | (apply w_remU; rfl; rfl; rfl; omega; omega) | (apply w_minL; rfl; rfl; rfl; omega) | (apply w_minG; rfl; rfl; rfl; omega) | (apply w_min; rfl; rfl; rfl) | (apply w_mfR; rfl; rfl) | (apply w_cvp; rfl; rfl; exact inferInstance; rfl; rfl; assumption) | (apply w_eqS2T; rfl; rfl; rfl; omega) | (apply w_eqS2F; rfl; rfl; rfl; omega) | (apply w_neS2T; rfl; rfl; rfl; omega) | (apply w_neS2F; rfl; rfl; rfl; omega) | (apply w_eqS3T; rfl; rfl; rfl; omega) | (apply w_eqS3F; rfl; rfl; rfl; omega) | (apply w_neS3T; rfl; rfl; rfl; omega) | (apply w_neS3F; rfl; rfl; rfl; omega) | (apply w_eqS3; rfl; rfl; rfl) | (apply w_neS3; rfl; rfl; rfl) | (apply w_eqS2; rfl; rfl; rfl) | (apply w_neS2; rfl; rfl; rfl) | (apply w_maxL; rfl; rfl; rfl; omega) | (apply w_maxG; rfl; rfl; rfl; omega) | (apply w_max; rfl; rfl; rfl) | (apply w_neB; rfl; rfl; rfl; rfl) | (apply w_eqB; rfl; rfl; rfl; rfl) | refine spl ?_ ?_ | intro hc)
      all_goals (refine At_ret1 (by (first | exact .inl rfl | exact .inr rfl)) Try.results25 rfl ⟨by rfl, rfl⟩ (by (exact frm)))
  · simp only [h1, decide_true, decide_false, Bool.and_true, Bool.and_false, Bool.true_and, Bool.false_and]
    refine Fn1 Try.func25 rfl Try.ntmps25 rfl ?_
    (repeat' first | refine stp ?_ | intro v' hv' | intro (b : Nat) | (apply w_convU; rfl; rfl; omega; omega) | (apply w_convI; rfl; rfl; omega; omega) | (apply w_quoU; rfl; rfl; rfl; omega; omega; omega) | (apply w_remU; rfl; rfl; rfl; omega; omega) | (apply w_minL; rfl; rfl; rfl; omega) | (apply w_minG; rfl; rfl; rfl; omega) | (apply w_min; rfl; rfl; rfl) | (apply w_mfR; rfl; rfl) | (apply w_cvp; rfl; rfl; exact inferInstance; rfl; rfl; assumption) | (apply w_eqS2T; rfl; rfl; rfl; omega) | (apply w_eqS2F; rfl; rfl; rfl; omega) | (apply w_neS2T; rfl; rfl; rfl; omega) | (apply w_neS2F; rfl; rfl; rfl; omega) | (apply w_eqS3T; rfl; rfl; rfl; omega) | (apply w_eqS3F; rfl; rfl; rfl; omega) | (apply w_neS3T; rfl; rfl; rfl; omega) | (apply w_neS3F; rfl; rfl; rfl; omega) | (apply w_eqS3; rfl; rfl; rfl) | (apply w_neS3; rfl; rfl; rfl) | (apply w_eqS2; rfl; rfl; rfl) | (apply w_neS2; rfl; rfl; rfl) | (apply w_maxL; rfl; rfl; rfl; omega) | (apply w_maxG; rfl; rfl; rfl; omega) | (apply w_max; rfl; rfl; rfl) | (apply w_neB; rfl; rfl; rfl; rfl) | (apply w_eqB; rfl; rfl; rfl; rfl) | refine spl ?_ ?_ | intro hc)
    all_goals (refine At_ret1 (by (first | exact .inl rfl | exact .inr rfl)) Try.results25 rfl ⟨by rfl, rfl⟩ (by (exact frm)))
set_option maxHeartbeats 2000000 in
theorem New_no (many : Int) (h : many < 1 ∨ 16 < many) (R : List HP) : Called Try.prog 13 [int many] R (is (.tuple #[.pointer none, int 10]) R) := by
  rcases h with h | h
  all_goals
    refine Fn1 Try.func13 rfl Try.ntmps13 rfl ?_
    (repeat' first | refine stp ?_ | intro v' hv' | intro (b : Nat) | (apply w_convU; rfl; rfl; omega; omega) | (apply w_convI; rfl; rfl; omega; omega) | (apply w_quoU; rfl; rfl; rfl; omega; omega; omega) | (apply w_remU; rfl; rfl; rfl; omega; omega) | (apply w_minL; rfl; rfl; rfl; omega) | (apply w_minG; rfl; rfl; rfl; omega) | (apply w_min; rfl; rfl; rfl) | (apply w_mfR; rfl; rfl) | (apply w_cvp; rfl; rfl; exact inferInstance; rfl; rfl; assumption) | (apply w_eqS2T; rfl; rfl; rfl; omega) | (apply w_eqS2F; rfl; rfl; rfl; omega) | (apply w_neS2T; rfl; rfl; rfl; omega) | (apply w_neS2F; rfl; rfl; rfl; omega) | (apply w_eqS3T; rfl; rfl; rfl; omega) | (apply w_eqS3F; rfl; rfl; rfl; omega) | (apply w_neS3T; rfl; rfl; rfl; omega) | (apply w_neS3F; rfl; rfl; rfl; omega) | (apply w_eqS3; rfl; rfl; rfl) | (apply w_neS3; rfl; rfl; rfl) | (apply w_eqS2; rfl; rfl; rfl) | (apply w_neS2; rfl; rfl; rfl) | (apply w_maxL; rfl; rfl; rfl; omega) | (apply w_maxG; rfl; rfl; rfl; omega) | (apply w_max; rfl; rfl; rfl) | (apply w_neB; rfl; rfl; rfl; rfl) | (apply w_eqB; rfl; rfl; rfl; rfl) | refine spl ?_ ?_ | intro hc)
    all_goals (refine At_ret2 (by (first | exact .inl rfl | exact .inr rfl)) Try.results13 rfl rfl ⟨by rfl, rfl⟩ (by (exact frm)))
theorem newls_ok {N : Nat} {v : Value} (hv : IsSl v N) (h1 : 1 ≤ N) (h2 : N ≤ 16) : MsOk (newM N) v (List.replicate N (Value.slice none 0 0, wk0)) where
  eq := by unfold newM; rw [List.map_replicate]
  lisl := by rw [List.length_replicate]; exact hv
  pos := by rw [List.length_replicate]; exact h1
  few := by rw [List.length_replicate]; exact h2
  isl := fun p hp => by rw [List.eq_of_mem_replicate hp]; exact IsSl.nil
  wf := (newM_inv h1 h2).wf
theorem qs_new (N : Nat) {w : World} {R : List HP} (h : Sat w R) : Sat w (qsH (List.replicate N (Value.slice none 0 0, wk0)) :: R) := by
  unfold qsH
  refine Sat.all_iff.2 ?_
  rw [List.map_replicate]
  induction N with
  | zero => exact h
  | succ N ih => exact Sat.sl_nil (E := 36) (n := 2) ih
set_option maxHeartbeats 2000000 in
theorem New_ok (N : Nat) (h1 : 1 ≤ N) (h2 : N ≤ 16) (R : List HP) : Called Try.prog 13 [int (N : Int)] R (fun u X => ∃ b, u = .tuple #[ptr b, int 0] ∧ X = msb b (newM N) :: R) := by
  have g1 : ¬ (N : Int) < 1 := by omega
  have g2 : ¬ 16 < (N : Int) := by omega
  have hz : zeroL Try.prog 73 = [.bool false, int 0, int 0, Value.slice none 0 0] := by kernel_rfl
  refine Fn1 Try.func13 rfl Try.ntmps13 rfl ?_
  (repeat' first | refine stp ?_ | intro v' hv' | intro (b : Nat) | (apply w_convU; rfl; rfl; omega; omega) | (apply w_convI; rfl; rfl; omega; omega) | (apply w_quoU; rfl; rfl; rfl; omega; omega; omega) | (apply w_remU; rfl; rfl; rfl; omega; omega) | (apply w_minL; rfl; rfl; rfl; omega) | (apply w_minG; rfl; rfl; rfl; omega) | (apply w_min; rfl; rfl; rfl) | (apply w_mfR; rfl; rfl) | (apply w_cvp; rfl; rfl; exact inferInstance; rfl; rfl; assumption) | (apply w_eqS2T; rfl; rfl; rfl; omega) | (apply w_eqS2F; rfl; rfl; rfl; omega) | (apply w_neS2T; rfl; rfl; rfl; omega) | (apply w_neS2F; rfl; rfl; rfl; omega) | (apply w_eqS3T; rfl; rfl; rfl; omega) | (apply w_eqS3F; rfl; rfl; rfl; omega) | (apply w_neS3T; rfl; rfl; rfl; omega) | (apply w_neS3F; rfl; rfl; rfl; omega) | (apply w_eqS3; rfl; rfl; rfl) | (apply w_neS3; rfl; rfl; rfl) | (apply w_eqS2; rfl; rfl; rfl) | (apply w_neS2; rfl; rfl; rfl) | (apply w_maxL; rfl; rfl; rfl; omega) | (apply w_maxG; rfl; rfl; rfl; omega) | (apply w_max; rfl; rfl; rfl) | (apply w_neB; rfl; rfl; rfl; rfl) | (apply w_eqB; rfl; rfl; rfl; rfl) | refine spl ?_ ?_ | intro hc)
  apply w_mks
  rfl; rfl; rfl; omega; omega; omega
  intro v hv
  rw [hz]
  clear hz
  refine ⟨by (exact kmf), ?_⟩
  (repeat' first | refine stp ?_ | intro v' hv' | intro (b : Nat) | (apply w_convU; rfl; rfl; omega; omega) | (apply w_convI; rfl; rfl; omega; omega) | (apply w_quoU; rfl; rfl; rfl; omega; omega; omega) | (apply w_remU; rfl; rfl; rfl; omega; omega) | (apply w_minL; rfl; rfl; rfl; omega) | (apply w_minG; rfl; rfl; rfl; omega) | (apply w_min; rfl; rfl; rfl) | (apply w_mfR; rfl; rfl) | (apply w_cvp; rfl; rfl; exact inferInstance; rfl; rfl; assumption) | (apply w_eqS2T; rfl; rfl; rfl; omega) | (apply w_eqS2F; rfl; rfl; rfl; omega) | (apply w_neS2T; rfl; rfl; rfl; omega) | (apply w_neS2F; rfl; rfl; rfl; omega) | (apply w_eqS3T; rfl; rfl; rfl; omega) | (apply w_eqS3F; rfl; rfl; rfl; omega) | (apply w_neS3T; rfl; rfl; rfl; omega) | (apply w_neS3F; rfl; rfl; rfl; omega) | (apply w_eqS3; rfl; rfl; rfl) | (apply w_neS3; rfl; rfl; rfl) | (apply w_eqS2; rfl; rfl; rfl) | (apply w_neS2; rfl; rfl; rfl) | (apply w_maxL; rfl; rfl; rfl; omega) | (apply w_maxG; rfl; rfl; rfl; omega) | (apply w_max; rfl; rfl; rfl) | (apply w_neB; rfl; rfl; rfl; rfl) | (apply w_eqB; rfl; rfl; rfl; rfl) | refine spl ?_ ?_ | intro hc)
  refine At_ret2 (by (first | exact .inl rfl | exact .inr rfl)) Try.results13 rfl rfl ⟨_, rfl, rfl⟩ (fun w hs => ?_)
  refine msb_fold (newls_ok hv h1 h2) ?_
  have e : (List.replicate N (Value.slice none 0 0, wk0)).map wkE = List.replicate N [.bool false, int 0, int 0, Value.slice none 0 0] := by rw [List.map_replicate]; rfl
  rw [e]
  exact Sel.sat (by (focus ((repeat (first | exact Sel.refl | (apply Sel.cons; (focus ((repeat (first | exact Del.here | apply Del.there)); done))) | refine Sel.drop ?_)); done))) (qs_new N hs)
theorem eraseIdx_map {α β : Type} (f : α → β) (l : List α) (j : Nat) : (l.map f).take j ++ (l.map f).drop (j + 1) = (l.eraseIdx j).map f := by
  rw [List.eraseIdx_eq_take_drop_succ, List.map_append, List.map_take, List.map_drop]
set_option maxHeartbeats 8000000 in
theorem take_ok (tb : Nat) (M : List Wk) (n t : Int) (hwf : WfS M) (R : List HP) :
    Called Try.prog 35 [ptr tb, int n, int t] (msb tb M :: R) (is (.tuple #[int (takeM M n t).1.1.1, .bool (takeM M n t).1.1.2, int (takeM M n t).1.2]) (msb tb (takeM M n t).2 :: R)) := by
  have hMa := may_ok ⟨t, n⟩
  have htk := take_k hwf n t
  refine Fn3 Try.func35 rfl Try.ntmps35 rfl ?_
  refine C_msb fun lv ls hok => ?_
  have hl := hok.lisl
  have hlen := hok.len
  have hF0 := fun L h => find_ok tb lv ls M n hok L h
  unfold findV at hF0
  unfold takeM at *
  cases hm : mayK ⟨t, n⟩ with
  | false =>
    rw [hm] at hMa
    rw [if_pos rfl]
    (repeat' first | refine stp ?_ | intro v' hv' | intro (b : Nat) | (apply w_convU; rfl; rfl; omega; omega) | (apply w_convI; rfl; rfl; omega; omega) | (apply w_quoU; rfl; rfl; rfl; omega; omega; omega) | (apply w_remU; rfl; rfl; rfl; omega; omega) | (apply w_minL; rfl; rfl; rfl; omega) | (apply w_minG; rfl; rfl; rfl; omega) | (apply w_min; rfl; rfl; rfl) | (apply w_mfR; rfl; rfl) | (apply w_cvp; rfl; rfl; exact inferInstance; rfl; rfl; assumption) | (apply w_eqS2T; rfl; rfl; rfl; omega) | (apply w_eqS2F; rfl; rfl; rfl; omega) | (apply w_neS2T; rfl; rfl; rfl; omega) | (apply w_neS2F; rfl; rfl; rfl; omega) | (apply w_eqS3T; rfl; rfl; rfl; omega) | (apply w_eqS3F; rfl; rfl; rfl; omega) | (apply w_neS3T; rfl; rfl; rfl; omega) | (apply w_neS3F; rfl; rfl; rfl; omega) | (apply w_eqS3; rfl; rfl; rfl) | (apply w_neS3; rfl; rfl; rfl) | (apply w_eqS2; rfl; rfl; rfl) | (apply w_neS2; rfl; rfl; rfl) | (apply w_maxL; rfl; rfl; rfl; omega) | (apply w_maxG; rfl; rfl; rfl; omega) | (apply w_max; rfl; rfl; rfl) | (apply w_neB; rfl; rfl; rfl; rfl) | (apply w_eqB; rfl; rfl; rfl; rfl) | (apply w_st; rfl; rfl; (first | rfl | exact hv2.one); ((focus ((repeat (first | exact hs1 _ | apply St.there)); done))); ((exact kmf))) | (apply w_ld0; rfl; rfl; ((focus ((repeat (first | assumption | exact hr1 _ | exact hr2 _ | exact .pt rfl | apply Rd.there)); done)))) | (apply w_ld; rfl; rfl; ((focus ((repeat (first | assumption | exact hr1 _ | exact hr2 _ | exact .pt rfl | apply Rd.there)); done)))) | (apply w_cp; rfl; rfl; exact hMa) | (apply w_cq; rfl; rfl; exact hF _ (by (focus ((repeat (first | assumption | exact SpR.here | apply SpR.there)); done)))) | refine spl ?_ ?_ | intro hc)
    all_goals (apply At_retR (by (first | exact .inl rfl | exact .inr rfl)) Try.results35; ((focus ((repeat (first | exact ResR.nil | (apply ResR.tmp; rfl) | (apply ResR.one; rfl; (focus ((repeat (first | assumption | exact .pt rfl | exact .sl ‹_› rfl | exact .sl1 (by first | assumption | rfl) | apply Rd.there)); done))) | (apply ResR.agg; rfl; (focus ((repeat (first | assumption | exact .pt | exact .sl ‹_› | apply RdAll.there)); done)); rfl))); done))); (refine ⟨?_, rfl⟩; rfl); (exact fun w hs => msb_fold hok hs))
  | true =>
    rw [hm] at hMa htk
    rw [if_neg (by simp)] at htk ⊢
    cases hf : findM M n with
    | none =>
      rw [hf] at hF0
      have hF := hF0
      clear hF0
      dsimp only at hF ⊢
      (repeat' first | refine stp ?_ | intro v' hv' | intro (b : Nat) | (apply w_convU; rfl; rfl; omega; omega) | (apply w_convI; rfl; rfl; omega; omega) | (apply w_quoU; rfl; rfl; rfl; omega; omega; omega) | (apply w_remU; rfl; rfl; rfl; omega; omega) | (apply w_minL; rfl; rfl; rfl; omega) | (apply w_minG; rfl; rfl; rfl; omega) | (apply w_min; rfl; rfl; rfl) | (apply w_mfR; rfl; rfl) | (apply w_cvp; rfl; rfl; exact inferInstance; rfl; rfl; assumption) | (apply w_eqS2T; rfl; rfl; rfl; omega) | (apply w_eqS2F; rfl; rfl; rfl; omega) | (apply w_neS2T; rfl; rfl; rfl; omega) | (apply w_neS2F; rfl; rfl; rfl; omega) | (apply w_eqS3T; rfl; rfl; rfl; omega) | (apply w_eqS3F; rfl; rfl; rfl; omega) | (apply w_neS3T; rfl; rfl; rfl; omega) | (apply w_neS3F; rfl; rfl; rfl; omega) | (apply w_eqS3; rfl; rfl; rfl) | (apply w_neS3; rfl; rfl; rfl) | (apply w_eqS2; rfl; rfl; rfl) | (apply w_neS2; rfl; rfl; rfl) | (apply w_maxL; rfl; rfl; rfl; omega) | (apply w_maxG; rfl; rfl; rfl; omega) | (apply w_max; rfl; rfl; rfl) | (apply w_neB; rfl; rfl; rfl; rfl) | (apply w_eqB; rfl; rfl; rfl; rfl) | (apply w_st; rfl; rfl; (first | rfl | exact hv2.one); ((focus ((repeat (first | exact hs1 _ | apply St.there)); done))); ((exact kmf))) | (apply w_ld0; rfl; rfl; ((focus ((repeat (first | assumption | exact hr1 _ | exact hr2 _ | exact .pt rfl | apply Rd.there)); done)))) | (apply w_ld; rfl; rfl; ((focus ((repeat (first | assumption | exact hr1 _ | exact hr2 _ | exact .pt rfl | apply Rd.there)); done)))) | (apply w_cp; rfl; rfl; exact hMa) | (apply w_cq; rfl; rfl; exact hF _ (by (focus ((repeat (first | assumption | exact SpR.here | apply SpR.there)); done)))) | refine spl ?_ ?_ | intro hc)
      all_goals (apply At_retR (by (first | exact .inl rfl | exact .inr rfl)) Try.results35; ((focus ((repeat (first | exact ResR.nil | (apply ResR.tmp; rfl) | (apply ResR.one; rfl; (focus ((repeat (first | assumption | exact .pt rfl | exact .sl ‹_› rfl | exact .sl1 (by first | assumption | rfl) | apply Rd.there)); done))) | (apply ResR.agg; rfl; (focus ((repeat (first | assumption | exact .pt | exact .sl ‹_› | apply RdAll.there)); done)); rfl))); done))); (refine ⟨?_, rfl⟩; rfl); (exact fun w hs => msb_fold hok hs))
    | some p =>
      obtain ⟨w, i⟩ := p
      rw [hf] at hF0 htk
      have hF := hF0
      clear hF0
      obtain ⟨hw, hfs⟩ := findM_some hf
      obtain ⟨vw, hp, hvw, hp64⟩ := hok.at hw
      have hwl : w < ls.length := by omega
      dsimp only at hF htk ⊢
      obtain ⟨-, htk⟩ := htk
      rcases hfs with ⟨rfl, -, -⟩ | ⟨j, x, rfl, hx, he⟩
      · rw [if_pos rfl] at htk ⊢
        obtain ⟨-, _, _, _, -, -, hT⟩ := htk rfl
        have hwf2 := hT.wf
        dsimp only at hwf2 ⊢
        generalize wkA M w = W0 at *
        obtain ⟨r0, k0, q0⟩ := W0
        dsimp only at *
        have hs1 : ∀ L, St (sl 73 4 lv (ls.map wkE) :: L) ⟨vb lv, vo lv + w * 4 + 0, none⟩ (.bool false) (sl 73 4 lv ((ls.set w (vw, ⟨false, k0, q0⟩)).map wkE) :: L) := fun L => St.wk hp (by decide) rfl
        have hok2 : MsOk (M.set w ⟨false, k0, q0⟩) lv (ls.set w (vw, ⟨false, k0, q0⟩)) := hok.set hvw hwf2
        (repeat' first | refine stp ?_ | intro v' hv' | intro (b : Nat) | (apply w_convU; rfl; rfl; omega; omega) | (apply w_convI; rfl; rfl; omega; omega) | (apply w_quoU; rfl; rfl; rfl; omega; omega; omega) | (apply w_remU; rfl; rfl; rfl; omega; omega) | (apply w_minL; rfl; rfl; rfl; omega) | (apply w_minG; rfl; rfl; rfl; omega) | (apply w_min; rfl; rfl; rfl) | (apply w_mfR; rfl; rfl) | (apply w_cvp; rfl; rfl; exact inferInstance; rfl; rfl; assumption) | (apply w_eqS2T; rfl; rfl; rfl; omega) | (apply w_eqS2F; rfl; rfl; rfl; omega) | (apply w_neS2T; rfl; rfl; rfl; omega) | (apply w_neS2F; rfl; rfl; rfl; omega) | (apply w_eqS3T; rfl; rfl; rfl; omega) | (apply w_eqS3F; rfl; rfl; rfl; omega) | (apply w_neS3T; rfl; rfl; rfl; omega) | (apply w_neS3F; rfl; rfl; rfl; omega) | (apply w_eqS3; rfl; rfl; rfl) | (apply w_neS3; rfl; rfl; rfl) | (apply w_eqS2; rfl; rfl; rfl) | (apply w_neS2; rfl; rfl; rfl) | (apply w_maxL; rfl; rfl; rfl; omega) | (apply w_maxG; rfl; rfl; rfl; omega) | (apply w_max; rfl; rfl; rfl) | (apply w_neB; rfl; rfl; rfl; rfl) | (apply w_eqB; rfl; rfl; rfl; rfl) | (apply w_st; rfl; rfl; (first | rfl | exact hv2.one); ((focus ((repeat (first | exact hs1 _ | apply St.there)); done))); ((exact kmf))) | (apply w_ld0; rfl; rfl; ((focus ((repeat (first | assumption | exact hr1 _ | exact hr2 _ | exact .pt rfl | apply Rd.there)); done)))) | (apply w_ld; rfl; rfl; ((focus ((repeat (first | assumption | exact hr1 _ | exact hr2 _ | exact .pt rfl | apply Rd.there)); done)))) | (apply w_cp; rfl; rfl; exact hMa) | (apply w_cq; rfl; rfl; exact hF _ (by (focus ((repeat (first | assumption | exact SpR.here | apply SpR.there)); done)))) | refine spl ?_ ?_ | intro hc)
        apply At_retR (by (first | exact .inl rfl | exact .inr rfl)) Try.results35; ((focus ((repeat (first | exact ResR.nil | (apply ResR.tmp; rfl) | (apply ResR.one; rfl; (focus ((repeat (first | assumption | exact .pt rfl | exact .sl ‹_› rfl | exact .sl1 (by first | assumption | rfl) | apply Rd.there)); done))) | (apply ResR.agg; rfl; (focus ((repeat (first | assumption | exact .pt | exact .sl ‹_› | apply RdAll.there)); done)); rfl))); done))); exact ⟨rfl, rfl⟩
        intro w' hs
        refine msb_fold hok2 ?_
        have h2 : Sat w' (qsH ls :: pt tb 67 [lv] :: sl 73 4 lv ((ls.set w (vw, ⟨false, k0, q0⟩)).map wkE) :: R) := Sel.sat (by (focus ((repeat (first | exact Sel.refl | (apply Sel.cons; (focus ((repeat (first | exact Del.here | apply Del.there)); done))) | refine Sel.drop ?_)); done))) hs
        have h3 := qs_close hwl (v := vw) (k := ⟨false, k0, q0⟩) (qs_open hp h2)
        exact Sel.sat (by (focus ((repeat (first | exact Sel.refl | (apply Sel.cons; (focus ((repeat (first | exact Del.here | apply Del.there)); done))) | refine Sel.drop ?_)); done))) h3
      · have hj : ¬ ((j : Int) = -1) := by omega
        have hjl := (List.getElem?_eq_some_iff.1 hx).1
        rw [if_neg hj] at htk ⊢
        obtain ⟨-, _, _, _, -, -, hT⟩ := htk rfl
        have hwf2 := hT.wf
        rw [Int.toNat_natCast] at hwf2 ⊢
        dsimp only at hwf2 ⊢
        generalize wkA M w = W0 at *
        obtain ⟨r0, k0, q0⟩ := W0
        dsimp only at *
        have hr1 : ∀ L, Rd (sl 73 4 lv (ls.map wkE) :: L) ⟨vb lv, vo lv + w * 4 + 3 + 0, none⟩ vw := fun L => Rd.wk (k := 3) hp rfl
        (repeat' first | refine stp ?_ | intro v' hv' | intro (b : Nat) | (apply w_convU; rfl; rfl; omega; omega) | (apply w_convI; rfl; rfl; omega; omega) | (apply w_quoU; rfl; rfl; rfl; omega; omega; omega) | (apply w_remU; rfl; rfl; rfl; omega; omega) | (apply w_minL; rfl; rfl; rfl; omega) | (apply w_minG; rfl; rfl; rfl; omega) | (apply w_min; rfl; rfl; rfl) | (apply w_mfR; rfl; rfl) | (apply w_cvp; rfl; rfl; exact inferInstance; rfl; rfl; assumption) | (apply w_eqS2T; rfl; rfl; rfl; omega) | (apply w_eqS2F; rfl; rfl; rfl; omega) | (apply w_neS2T; rfl; rfl; rfl; omega) | (apply w_neS2F; rfl; rfl; rfl; omega) | (apply w_eqS3T; rfl; rfl; rfl; omega) | (apply w_eqS3F; rfl; rfl; rfl; omega) | (apply w_neS3T; rfl; rfl; rfl; omega) | (apply w_neS3F; rfl; rfl; rfl; omega) | (apply w_eqS3; rfl; rfl; rfl) | (apply w_neS3; rfl; rfl; rfl) | (apply w_eqS2; rfl; rfl; rfl) | (apply w_neS2; rfl; rfl; rfl) | (apply w_maxL; rfl; rfl; rfl; omega) | (apply w_maxG; rfl; rfl; rfl; omega) | (apply w_max; rfl; rfl; rfl) | (apply w_neB; rfl; rfl; rfl; rfl) | (apply w_eqB; rfl; rfl; rfl; rfl) | (apply w_st; rfl; rfl; (first | rfl | exact hv2.one); ((focus ((repeat (first | exact hs1 _ | apply St.there)); done))); ((exact kmf))) | (apply w_ld0; rfl; rfl; ((focus ((repeat (first | assumption | exact hr1 _ | exact hr2 _ | exact .pt rfl | apply Rd.there)); done)))) | (apply w_ld; rfl; rfl; ((focus ((repeat (first | assumption | exact hr1 _ | exact hr2 _ | exact .pt rfl | apply Rd.there)); done)))) | (apply w_cp; rfl; rfl; exact hMa) | (apply w_cq; rfl; rfl; exact hF _ (by (focus ((repeat (first | assumption | exact SpR.here | apply SpR.there)); done)))) | refine spl ?_ ?_ | intro hc)
        apply w_clS
        rfl; rfl; exact (KDelete_ok vw (q0.map kyE) j (j + 1) (by omega) (by rw [List.length_map]; exact hjl) (ky_one _) (pt tb 67 [lv] :: sl 73 4 lv (ls.map wkE) :: qsH (ls.eraseIdx w) :: R)).pre (fun w' hs => by
          have h2 : Sat w' (qsH ls :: pt tb 67 [lv] :: sl 73 4 lv (ls.map wkE) :: R) := Sel.sat (by (focus ((repeat (first | exact Sel.refl | (apply Sel.cons; (focus ((repeat (first | exact Del.here | apply Del.there)); done))) | refine Sel.drop ?_)); done))) hs
          exact Sel.sat (by (focus ((repeat (first | exact Sel.refl | (apply Sel.cons; (focus ((repeat (first | exact Del.here | apply Del.there)); done))) | refine Sel.drop ?_)); done))) (qs_open hp h2))
        (simp; omega)
        intro v2 hv2
        rw [eraseIdx_map] at hv2 ⊢
        rw [List.length_map] at hv2
        refine ⟨by (exact kmf), ?_⟩
        have hs1 : ∀ L, St (sl 73 4 lv (ls.map wkE) :: L) ⟨vb lv, vo lv + w * 4 + 3 + 0, none⟩ v2 (sl 73 4 lv ((ls.set w (v2, ⟨r0, k0, q0.eraseIdx j⟩)).map wkE) :: L) := fun L => St.wk (k := 3) hp (by decide) rfl
        have hok2 : MsOk (M.set w ⟨r0, k0, q0.eraseIdx j⟩) lv (ls.set w (v2, ⟨r0, k0, q0.eraseIdx j⟩)) := hok.set hv2 hwf2
        (repeat' first | refine stp ?_ | intro v' hv' | intro (b : Nat) | (apply w_convU; rfl; rfl; omega; omega) | (apply w_convI; rfl; rfl; omega; omega) | (apply w_quoU; rfl; rfl; rfl; omega; omega; omega) | (apply w_remU; rfl; rfl; rfl; omega; omega) | (apply w_minL; rfl; rfl; rfl; omega) | (apply w_minG; rfl; rfl; rfl; omega) | (apply w_min; rfl; rfl; rfl) | (apply w_mfR; rfl; rfl) | (apply w_cvp; rfl; rfl; exact inferInstance; rfl; rfl; assumption) | (apply w_eqS2T; rfl; rfl; rfl; omega) | (apply w_eqS2F; rfl; rfl; rfl; omega) | (apply w_neS2T; rfl; rfl; rfl; omega) | (apply w_neS2F; rfl; rfl; rfl; omega) | (apply w_eqS3T; rfl; rfl; rfl; omega) | (apply w_eqS3F; rfl; rfl; rfl; omega) | (apply w_neS3T; rfl; rfl; rfl; omega) | (apply w_neS3F; rfl; rfl; rfl; omega) | (apply w_eqS3; rfl; rfl; rfl) | (apply w_neS3; rfl; rfl; rfl) | (apply w_eqS2; rfl; rfl; rfl) | (apply w_neS2; rfl; rfl; rfl) | (apply w_maxL; rfl; rfl; rfl; omega) | (apply w_maxG; rfl; rfl; rfl; omega) | (apply w_max; rfl; rfl; rfl) | (apply w_neB; rfl; rfl; rfl; rfl) | (apply w_eqB; rfl; rfl; rfl; rfl) | (apply w_st; rfl; rfl; (first | rfl | exact hv2.one); ((focus ((repeat (first | exact hs1 _ | apply St.there)); done))); ((exact kmf))) | (apply w_ld0; rfl; rfl; ((focus ((repeat (first | assumption | exact hr1 _ | exact hr2 _ | exact .pt rfl | apply Rd.there)); done)))) | (apply w_ld; rfl; rfl; ((focus ((repeat (first | assumption | exact hr1 _ | exact hr2 _ | exact .pt rfl | apply Rd.there)); done)))) | (apply w_cp; rfl; rfl; exact hMa) | (apply w_cq; rfl; rfl; exact hF _ (by (focus ((repeat (first | assumption | exact SpR.here | apply SpR.there)); done)))) | refine spl ?_ ?_ | intro hc)
        apply At_retR (by (first | exact .inl rfl | exact .inr rfl)) Try.results35; ((focus ((repeat (first | exact ResR.nil | (apply ResR.tmp; rfl) | (apply ResR.one; rfl; (focus ((repeat (first | assumption | exact .pt rfl | exact .sl ‹_› rfl | exact .sl1 (by first | assumption | rfl) | apply Rd.there)); done))) | (apply ResR.agg; rfl; (focus ((repeat (first | assumption | exact .pt | exact .sl ‹_› | apply RdAll.there)); done)); rfl))); done))); exact ⟨rfl, rfl⟩
        intro w' hs
        refine msb_fold hok2 ?_
        have h2 : Sat w' (sl 36 2 v2 ((q0.eraseIdx j).map kyE) :: qsH (ls.eraseIdx w) :: pt tb 67 [lv] :: sl 73 4 lv ((ls.set w (v2, ⟨r0, k0, q0.eraseIdx j⟩)).map wkE) :: R) := Sel.sat (by (focus ((repeat (first | exact Sel.refl | (apply Sel.cons; (focus ((repeat (first | exact Del.here | apply Del.there)); done))) | refine Sel.drop ?_)); done))) hs
        have h3 := qs_close hwl (v := v2) (k := ⟨r0, k0, q0.eraseIdx j⟩) h2
        exact Sel.sat (by (focus ((repeat (first | exact Sel.refl | (apply Sel.cons; (focus ((repeat (first | exact Del.here | apply Del.there)); done))) | refine Sel.drop ?_)); done))) h3
end Go.Proofs.Ytoddjdghjpdomaa
