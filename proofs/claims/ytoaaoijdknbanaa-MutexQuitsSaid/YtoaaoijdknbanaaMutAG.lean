/- MutexQuits. Conditions: none. -/
import Derived.Test.YtoaaoijdknbanaaMutAF
set_option linter.all false
set_option linter.deprecated false
namespace Go.Proofs.Ytoaaoijdknbanaa
open Go.Sep
variable [B0 : Base]
set_option maxHeartbeats 8000000 in
theorem quits_no (v : Value) (ops : List OpT) (m : Int) (R : List HP) (h : OpsIn R v ops) (hm : 80 < ops.length ∨ m < 0 ∨ 63 < m) : Called Try.prog 6 [v, int m] R (is (.bool true) R) := by
  have hA := awake_ok
  have hB := begins_ok
  by_cases h80 : ops.length ≤ 80
  · refine Fn2 Try.func6 rfl Try.ntmps6 rfl ?_
    (repeat' first | refine stp ?_ | intro v' hv' | intro (b : Nat) | (apply w_convU; rfl; rfl; omega; omega) | (apply w_convI; rfl; rfl; omega; omega) | (apply w_quoU; rfl; rfl; rfl; omega; omega; omega) | (apply w_remU; rfl; rfl; rfl; omega; omega) | (apply w_minL; rfl; rfl; rfl; omega) | (apply w_minG; rfl; rfl; rfl; omega) | (apply w_min; rfl; rfl; rfl) | (apply w_mfR; rfl; rfl) | (apply w_cvp; rfl; rfl; exact inferInstance; rfl; rfl; assumption) | (apply w_eqS2T; rfl; rfl; rfl; omega) | (apply w_eqS2F; rfl; rfl; rfl; omega) | (apply w_neS2T; rfl; rfl; rfl; omega) | (apply w_neS2F; rfl; rfl; rfl; omega) | (apply w_eqS3T; rfl; rfl; rfl; omega) | (apply w_eqS3F; rfl; rfl; rfl; omega) | (apply w_neS3T; rfl; rfl; rfl; omega) | (apply w_neS3F; rfl; rfl; rfl; omega) | (apply w_eqS3; rfl; rfl; rfl) | (apply w_neS3; rfl; rfl; rfl) | (apply w_eqS2; rfl; rfl; rfl) | (apply w_neS2; rfl; rfl; rfl) | (apply w_maxL; rfl; rfl; rfl; omega) | (apply w_maxG; rfl; rfl; rfl; omega) | (apply w_max; rfl; rfl; rfl) | (apply w_neB; rfl; rfl; rfl; rfl) | (apply w_eqB; rfl; rfl; rfl; rfl) | refine spl ?_ ?_ | intro hc)
    apply w_cl; rfl; rfl; exact begun_ok v ops _ h h80
    exact ⟨_, _, 0, rfl, rfl⟩
    rintro _ _ ⟨bt, rfl, rfl⟩
    refine ⟨by (exact kmf), ?_⟩
    rcases hm with hm | hm | hm
    · omega
    · (repeat' first | refine stp ?_ | intro v' hv' | intro (b : Nat) | (apply w_convU; rfl; rfl; omega; omega) | (apply w_convI; rfl; rfl; omega; omega) | (apply w_quoU; rfl; rfl; rfl; omega; omega; omega) | (apply w_remU; rfl; rfl; rfl; omega; omega) | (apply w_minL; rfl; rfl; rfl; omega) | (apply w_minG; rfl; rfl; rfl; omega) | (apply w_min; rfl; rfl; rfl) | (apply w_mfR; rfl; rfl) | (apply w_cvp; rfl; rfl; exact inferInstance; rfl; rfl; assumption) | (apply w_eqS2T; rfl; rfl; rfl; omega) | (apply w_eqS2F; rfl; rfl; rfl; omega) | (apply w_neS2T; rfl; rfl; rfl; omega) | (apply w_neS2F; rfl; rfl; rfl; omega) | (apply w_eqS3T; rfl; rfl; rfl; omega) | (apply w_eqS3F; rfl; rfl; rfl; omega) | (apply w_neS3T; rfl; rfl; rfl; omega) | (apply w_neS3F; rfl; rfl; rfl; omega) | (apply w_eqS3; rfl; rfl; rfl) | (apply w_neS3; rfl; rfl; rfl) | (apply w_eqS2; rfl; rfl; rfl) | (apply w_neS2; rfl; rfl; rfl) | (apply w_maxL; rfl; rfl; rfl; omega) | (apply w_maxG; rfl; rfl; rfl; omega) | (apply w_max; rfl; rfl; rfl) | (apply w_neB; rfl; rfl; rfl; rfl) | (apply w_eqB; rfl; rfl; rfl; rfl) | refine spl ?_ ?_ | intro hc)
      all_goals (refine At_ret1 (by (first | exact .inl rfl | exact .inr rfl)) Try.results6 rfl ⟨by rfl, rfl⟩ (by (exact frm)))
    · (repeat' first | refine stp ?_ | intro v' hv' | intro (b : Nat) | (apply w_convU; rfl; rfl; omega; omega) | (apply w_convI; rfl; rfl; omega; omega) | (apply w_quoU; rfl; rfl; rfl; omega; omega; omega) | (apply w_remU; rfl; rfl; rfl; omega; omega) | (apply w_minL; rfl; rfl; rfl; omega) | (apply w_minG; rfl; rfl; rfl; omega) | (apply w_min; rfl; rfl; rfl) | (apply w_mfR; rfl; rfl) | (apply w_cvp; rfl; rfl; exact inferInstance; rfl; rfl; assumption) | (apply w_eqS2T; rfl; rfl; rfl; omega) | (apply w_eqS2F; rfl; rfl; rfl; omega) | (apply w_neS2T; rfl; rfl; rfl; omega) | (apply w_neS2F; rfl; rfl; rfl; omega) | (apply w_eqS3T; rfl; rfl; rfl; omega) | (apply w_eqS3F; rfl; rfl; rfl; omega) | (apply w_neS3T; rfl; rfl; rfl; omega) | (apply w_neS3F; rfl; rfl; rfl; omega) | (apply w_eqS3; rfl; rfl; rfl) | (apply w_neS3; rfl; rfl; rfl) | (apply w_eqS2; rfl; rfl; rfl) | (apply w_neS2; rfl; rfl; rfl) | (apply w_maxL; rfl; rfl; rfl; omega) | (apply w_maxG; rfl; rfl; rfl; omega) | (apply w_max; rfl; rfl; rfl) | (apply w_neB; rfl; rfl; rfl; rfl) | (apply w_eqB; rfl; rfl; rfl; rfl) | refine spl ?_ ?_ | intro hc)
      all_goals (refine At_ret1 (by (first | exact .inl rfl | exact .inr rfl)) Try.results6 rfl ⟨by rfl, rfl⟩ (by (exact frm)))
  · refine Fn2 Try.func6 rfl Try.ntmps6 rfl ?_
    (repeat' first | refine stp ?_ | intro v' hv' | intro (b : Nat) | (apply w_convU; rfl; rfl; omega; omega) | (apply w_convI; rfl; rfl; omega; omega) | (apply w_quoU; rfl; rfl; rfl; omega; omega; omega) | (apply w_remU; rfl; rfl; rfl; omega; omega) | (apply w_minL; rfl; rfl; rfl; omega) | (apply w_minG; rfl; rfl; rfl; omega) | (apply w_min; rfl; rfl; rfl) | (apply w_mfR; rfl; rfl) | (apply w_cvp; rfl; rfl; exact inferInstance; rfl; rfl; assumption) | (apply w_eqS2T; rfl; rfl; rfl; omega) | (apply w_eqS2F; rfl; rfl; rfl; omega) | (apply w_neS2T; rfl; rfl; rfl; omega) | (apply w_neS2F; rfl; rfl; rfl; omega) | (apply w_eqS3T; rfl; rfl; rfl; omega) | (apply w_eqS3F; rfl; rfl; rfl; omega) | (apply w_neS3T; rfl; rfl; rfl; omega) | (apply w_neS3F; rfl; rfl; rfl; omega) | (apply w_eqS3; rfl; rfl; rfl) | (apply w_neS3; rfl; rfl; rfl) | (apply w_eqS2; rfl; rfl; rfl) | (apply w_neS2; rfl; rfl; rfl) | (apply w_maxL; rfl; rfl; rfl; omega) | (apply w_maxG; rfl; rfl; rfl; omega) | (apply w_max; rfl; rfl; rfl) | (apply w_neB; rfl; rfl; rfl; rfl) | (apply w_eqB; rfl; rfl; rfl; rfl) | refine spl ?_ ?_ | intro hc)
    apply w_cd; rfl; rfl; exact begun_no v ops _ h (by omega); ((exact kmf))
    (repeat' first | refine stp ?_ | intro v' hv' | intro (b : Nat) | (apply w_convU; rfl; rfl; omega; omega) | (apply w_convI; rfl; rfl; omega; omega) | (apply w_quoU; rfl; rfl; rfl; omega; omega; omega) | (apply w_remU; rfl; rfl; rfl; omega; omega) | (apply w_minL; rfl; rfl; rfl; omega) | (apply w_minG; rfl; rfl; rfl; omega) | (apply w_min; rfl; rfl; rfl) | (apply w_mfR; rfl; rfl) | (apply w_cvp; rfl; rfl; exact inferInstance; rfl; rfl; assumption) | (apply w_eqS2T; rfl; rfl; rfl; omega) | (apply w_eqS2F; rfl; rfl; rfl; omega) | (apply w_neS2T; rfl; rfl; rfl; omega) | (apply w_neS2F; rfl; rfl; rfl; omega) | (apply w_eqS3T; rfl; rfl; rfl; omega) | (apply w_eqS3F; rfl; rfl; rfl; omega) | (apply w_neS3T; rfl; rfl; rfl; omega) | (apply w_neS3F; rfl; rfl; rfl; omega) | (apply w_eqS3; rfl; rfl; rfl) | (apply w_neS3; rfl; rfl; rfl) | (apply w_eqS2; rfl; rfl; rfl) | (apply w_neS2; rfl; rfl; rfl) | (apply w_maxL; rfl; rfl; rfl; omega) | (apply w_maxG; rfl; rfl; rfl; omega) | (apply w_max; rfl; rfl; rfl) | (apply w_neB; rfl; rfl; rfl; rfl) | (apply w_eqB; rfl; rfl; rfl; rfl) | refine spl ?_ ?_ | intro hc)
    all_goals (refine At_ret1 (by (first | exact .inl rfl | exact .inr rfl)) Try.results6 rfl ⟨by rfl, rfl⟩ (by (exact frm)))
def ovL (M M' : List Lk) (hh : List Nat) (i : Nat) (j : Nat) : Int := if j ∈ hh.take i then (lkA M' j).own else (lkA M j).own
attribute [local irreducible] flL unK
set_option maxHeartbeats 32000000 in
theorem quits_ok (v : Value) (ops : List OpT) (n : Int) (hn : 0 ≤ n ∧ n < 64) (R : List HP) (h : OpsIn R v ops) (h80 : ops.length ≤ 80) : Called Try.prog 6 [v, int n] R (is (.bool true) R) := by
  have hA := awake_ok
  refine Fn2 Try.func6 rfl Try.ntmps6 rfl ?_
  (repeat' first | refine stp ?_ | intro v' hv' | intro (b : Nat) | (apply w_convU; rfl; rfl; omega; omega) | (apply w_convI; rfl; rfl; omega; omega) | (apply w_quoU; rfl; rfl; rfl; omega; omega; omega) | (apply w_remU; rfl; rfl; rfl; omega; omega) | (apply w_minL; rfl; rfl; rfl; omega) | (apply w_minG; rfl; rfl; rfl; omega) | (apply w_min; rfl; rfl; rfl) | (apply w_mfR; rfl; rfl) | (apply w_cvp; rfl; rfl; exact inferInstance; rfl; rfl; assumption) | (apply w_eqS2T; rfl; rfl; rfl; omega) | (apply w_eqS2F; rfl; rfl; rfl; omega) | (apply w_neS2T; rfl; rfl; rfl; omega) | (apply w_neS2F; rfl; rfl; rfl; omega) | (apply w_eqS3T; rfl; rfl; rfl; omega) | (apply w_eqS3F; rfl; rfl; rfl; omega) | (apply w_neS3T; rfl; rfl; rfl; omega) | (apply w_neS3F; rfl; rfl; rfl; omega) | (apply w_eqS3; rfl; rfl; rfl) | (apply w_neS3; rfl; rfl; rfl) | (apply w_eqS2; rfl; rfl; rfl) | (apply w_neS2; rfl; rfl; rfl) | (apply w_maxL; rfl; rfl; rfl; omega) | (apply w_maxG; rfl; rfl; rfl; omega) | (apply w_max; rfl; rfl; rfl) | (apply w_neB; rfl; rfl; rfl; rfl) | (apply w_eqB; rfl; rfl; rfl; rfl) | (apply w_ld0; rfl; rfl; ((focus ((repeat (first | exact hr1 _ | apply Rd.there)); done)))) | (apply w_ld; rfl; rfl; ((focus ((repeat (first | exact hr1 _ | apply Rd.there)); done)))) | (apply w_st; rfl; rfl; rfl; ((focus ((repeat (first | exact hs1 _ | apply St.there)); done))); ((exact kmf))) | refine spl ?_ ?_ | intro hc)
  apply w_cl; rfl; rfl; exact begun_ok v ops _ h h80
  exact ⟨_, _, 0, rfl, rfl⟩
  rintro _ _ ⟨bt, rfl, rfl⟩
  refine ⟨by (exact kmf), ?_⟩
  have hlen := run_len ops
  have hI := run_inv ops
  generalize runM ops = M at *
  have hQ := quitK_of (n := n) hI (by omega) hn
  generalize quitT M n = M' at *
  have hwf := hI.wf
  have hwf' := hQ.inv.wf
  have hlen' : M'.length = 4 := by rw [hQ.len]; exact hlen
  have hHe := Held_ok bt M n
  unfold heldM at hHe
  rw [if_pos hn] at hHe
  have hhm : ∀ m ∈ heldN M n, m < 4 := fun m hm => by have := (heldN_mem.1 hm).1; omega
  have hhl : (heldN M n).length ≤ M.length := heldK_len M _ M.length
  have hnd := heldN_nodup M n
  have hout := hQ.out
  have hflag := hQ.flag
  have hsame := hQ.same
  generalize heldN M n = hh at *
  (repeat' first | refine stp ?_ | intro v' hv' | intro (b : Nat) | (apply w_convU; rfl; rfl; omega; omega) | (apply w_convI; rfl; rfl; omega; omega) | (apply w_quoU; rfl; rfl; rfl; omega; omega; omega) | (apply w_remU; rfl; rfl; rfl; omega; omega) | (apply w_minL; rfl; rfl; rfl; omega) | (apply w_minG; rfl; rfl; rfl; omega) | (apply w_min; rfl; rfl; rfl) | (apply w_mfR; rfl; rfl) | (apply w_cvp; rfl; rfl; exact inferInstance; rfl; rfl; assumption) | (apply w_eqS2T; rfl; rfl; rfl; omega) | (apply w_eqS2F; rfl; rfl; rfl; omega) | (apply w_neS2T; rfl; rfl; rfl; omega) | (apply w_neS2F; rfl; rfl; rfl; omega) | (apply w_eqS3T; rfl; rfl; rfl; omega) | (apply w_eqS3F; rfl; rfl; rfl; omega) | (apply w_neS3T; rfl; rfl; rfl; omega) | (apply w_neS3F; rfl; rfl; rfl; omega) | (apply w_eqS3; rfl; rfl; rfl) | (apply w_neS3; rfl; rfl; rfl) | (apply w_eqS2; rfl; rfl; rfl) | (apply w_neS2; rfl; rfl; rfl) | (apply w_maxL; rfl; rfl; rfl; omega) | (apply w_maxG; rfl; rfl; rfl; omega) | (apply w_max; rfl; rfl; rfl) | (apply w_neB; rfl; rfl; rfl; rfl) | (apply w_eqB; rfl; rfl; rfl; rfl) | (apply w_ld0; rfl; rfl; ((focus ((repeat (first | exact hr1 _ | apply Rd.there)); done)))) | (apply w_ld; rfl; rfl; ((focus ((repeat (first | exact hr1 _ | apply Rd.there)); done)))) | (apply w_st; rfl; rfl; rfl; ((focus ((repeat (first | exact hs1 _ | apply St.there)); done))); ((exact kmf))) | refine spl ?_ ?_ | intro hc)
  obtain ⟨vH, hvH⟩ : ∃ r, r = v' := ⟨_, rfl⟩
  subst hvH
  refine C_loopK (α := Nat × Value) [7, 8, 9, 10, 51, 52, 53, 54, 55, 56, 57, 58, 59, 60, 61, 62, 63, 64, 65, 66] (fun x => 4 - x.1) (fun x => [(7, x.2), (8, int x.1)]) (fun x => sl 3 1 x.2 (((flL fun j => (lkA M j).own).take x.1).map ioE) :: sl 3 1 vH (hh.map niE) :: mtb bt M :: R) (fun x => x.1 ≤ 4 ∧ IsSl x.2 x.1) (0, .slice none 0 0) ⟨Nat.zero_le _, IsSl.nil⟩ (by (focus ((repeat (first | exact Keep.nil | apply Keep.drop rfl | apply Keep.keep rfl)); done))) (by (exact sbf)) (fun w hs => Sat.sl_nil (E := 3) (n := 1) (Sel.sat (by (focus ((repeat (first | exact Sel.refl | (apply Sel.cons; (focus ((repeat (first | exact Del.here | apply Del.there)); done))) | refine Sel.drop ?_)); done))) hs)) ?_
  rintro ⟨k, v1⟩ ⟨hk, hv1⟩
  clear hHe
  dsimp only [List.cons_append, List.nil_append] at *
  by_cases hlt : k < 4
  · have hkM : k < M.length := by omega
    have hO := Owner_ok bt M k
    rw [owner_at hkM] at hO
    have htk := flL_take (f := fun j => (lkA M j).own) hlt
    have hl1 : ((flL fun j => (lkA M j).own).take k).length = k := by rw [List.length_take, flL_len]; omega
    have hl2 : ((flL fun j => (lkA M j).own).take (k + 1)).length = k + 1 := by rw [List.length_take, flL_len]; omega
    have hwo := hwf.own _ (List.mem_of_getElem? (lk_some hkM))
    generalize (flL fun j => (lkA M j).own).take k = q1 at *
    generalize hq2 : (flL fun j => (lkA M j).own).take (k + 1) = q2 at *
    generalize (lkA M k).own = ow at *
    have hv1 : IsSl v1 q1.length := by rw [hl1]; exact hv1
    by_cases hown : ow = -1
    · subst hown
      rw [if_pos rfl] at hO
      (repeat' first | refine stp ?_ | intro v' hv' | intro (b : Nat) | (apply w_convU; rfl; rfl; omega; omega) | (apply w_convI; rfl; rfl; omega; omega) | (apply w_quoU; rfl; rfl; rfl; omega; omega; omega) | (apply w_remU; rfl; rfl; rfl; omega; omega) | (apply w_minL; rfl; rfl; rfl; omega) | (apply w_minG; rfl; rfl; rfl; omega) | (apply w_min; rfl; rfl; rfl) | (apply w_mfR; rfl; rfl) | (apply w_cvp; rfl; rfl; exact inferInstance; rfl; rfl; assumption) | (apply w_eqS2T; rfl; rfl; rfl; omega) | (apply w_eqS2F; rfl; rfl; rfl; omega) | (apply w_neS2T; rfl; rfl; rfl; omega) | (apply w_neS2F; rfl; rfl; rfl; omega) | (apply w_eqS3T; rfl; rfl; rfl; omega) | (apply w_eqS3F; rfl; rfl; rfl; omega) | (apply w_neS3T; rfl; rfl; rfl; omega) | (apply w_neS3F; rfl; rfl; rfl; omega) | (apply w_eqS3; rfl; rfl; rfl) | (apply w_neS3; rfl; rfl; rfl) | (apply w_eqS2; rfl; rfl; rfl) | (apply w_neS2; rfl; rfl; rfl) | (apply w_maxL; rfl; rfl; rfl; omega) | (apply w_maxG; rfl; rfl; rfl; omega) | (apply w_max; rfl; rfl; rfl) | (apply w_neB; rfl; rfl; rfl; rfl) | (apply w_eqB; rfl; rfl; rfl; rfl) | (apply w_ld0; rfl; rfl; ((focus ((repeat (first | exact hr1 _ | apply Rd.there)); done)))) | (apply w_ld; rfl; rfl; ((focus ((repeat (first | exact hr1 _ | apply Rd.there)); done)))) | (apply w_st; rfl; rfl; rfl; ((focus ((repeat (first | exact hs1 _ | apply St.there)); done))); ((exact kmf))) | refine spl ?_ ?_ | intro hc)
      ((apply w_apM (l2 := [(-1 : Int)]); rfl; rfl; rfl; (focus ((repeat (first | exact Del.here | apply Del.there)); done)); ((exact srf)); (intro; rfl); (first | (simp only [List.length_cons, List.length_nil]; omega) | (simp; omega)); (first | (simp only [List.length_cons, List.length_nil]; omega) | (simp; omega))); intro v' hv'; refine ⟨by (exact kmf), ?_⟩)
      (repeat' first | refine stp ?_ | intro v' hv' | intro (b : Nat) | (apply w_convU; rfl; rfl; omega; omega) | (apply w_convI; rfl; rfl; omega; omega) | (apply w_quoU; rfl; rfl; rfl; omega; omega; omega) | (apply w_remU; rfl; rfl; rfl; omega; omega) | (apply w_minL; rfl; rfl; rfl; omega) | (apply w_minG; rfl; rfl; rfl; omega) | (apply w_min; rfl; rfl; rfl) | (apply w_mfR; rfl; rfl) | (apply w_cvp; rfl; rfl; exact inferInstance; rfl; rfl; assumption) | (apply w_eqS2T; rfl; rfl; rfl; omega) | (apply w_eqS2F; rfl; rfl; rfl; omega) | (apply w_neS2T; rfl; rfl; rfl; omega) | (apply w_neS2F; rfl; rfl; rfl; omega) | (apply w_eqS3T; rfl; rfl; rfl; omega) | (apply w_eqS3F; rfl; rfl; rfl; omega) | (apply w_neS3T; rfl; rfl; rfl; omega) | (apply w_neS3F; rfl; rfl; rfl; omega) | (apply w_eqS3; rfl; rfl; rfl) | (apply w_neS3; rfl; rfl; rfl) | (apply w_eqS2; rfl; rfl; rfl) | (apply w_neS2; rfl; rfl; rfl) | (apply w_maxL; rfl; rfl; rfl; omega) | (apply w_maxG; rfl; rfl; rfl; omega) | (apply w_max; rfl; rfl; rfl) | (apply w_neB; rfl; rfl; rfl; rfl) | (apply w_eqB; rfl; rfl; rfl; rfl) | (apply w_ld0; rfl; rfl; ((focus ((repeat (first | exact hr1 _ | apply Rd.there)); done)))) | (apply w_ld; rfl; rfl; ((focus ((repeat (first | exact hr1 _ | apply Rd.there)); done)))) | (apply w_st; rfl; rfl; rfl; ((focus ((repeat (first | exact hs1 _ | apply St.there)); done))); ((exact kmf))) | refine spl ?_ ?_ | intro hc)
      refine At_againK (k + 1, v') ⟨hlt, by rw [← htk, hl2] at hv'; exact hv'⟩ (by dsimp only; omega) (by (exact sbf)) (by (exact sbf)) (fun w hs => ?_)
      dsimp only
      rw [hq2, htk]
      exact Sel.sat (by (focus ((repeat (first | exact Sel.refl | (apply Sel.cons; (focus ((repeat (first | exact Del.here | apply Del.there)); done))) | refine Sel.drop ?_)); done))) hs
    · rw [if_neg hown] at hO
      (repeat' first | refine stp ?_ | intro v' hv' | intro (b : Nat) | (apply w_convU; rfl; rfl; omega; omega) | (apply w_convI; rfl; rfl; omega; omega) | (apply w_quoU; rfl; rfl; rfl; omega; omega; omega) | (apply w_remU; rfl; rfl; rfl; omega; omega) | (apply w_minL; rfl; rfl; rfl; omega) | (apply w_minG; rfl; rfl; rfl; omega) | (apply w_min; rfl; rfl; rfl) | (apply w_mfR; rfl; rfl) | (apply w_cvp; rfl; rfl; exact inferInstance; rfl; rfl; assumption) | (apply w_eqS2T; rfl; rfl; rfl; omega) | (apply w_eqS2F; rfl; rfl; rfl; omega) | (apply w_neS2T; rfl; rfl; rfl; omega) | (apply w_neS2F; rfl; rfl; rfl; omega) | (apply w_eqS3T; rfl; rfl; rfl; omega) | (apply w_eqS3F; rfl; rfl; rfl; omega) | (apply w_neS3T; rfl; rfl; rfl; omega) | (apply w_neS3F; rfl; rfl; rfl; omega) | (apply w_eqS3; rfl; rfl; rfl) | (apply w_neS3; rfl; rfl; rfl) | (apply w_eqS2; rfl; rfl; rfl) | (apply w_neS2; rfl; rfl; rfl) | (apply w_maxL; rfl; rfl; rfl; omega) | (apply w_maxG; rfl; rfl; rfl; omega) | (apply w_max; rfl; rfl; rfl) | (apply w_neB; rfl; rfl; rfl; rfl) | (apply w_eqB; rfl; rfl; rfl; rfl) | (apply w_ld0; rfl; rfl; ((focus ((repeat (first | exact hr1 _ | apply Rd.there)); done)))) | (apply w_ld; rfl; rfl; ((focus ((repeat (first | exact hr1 _ | apply Rd.there)); done)))) | (apply w_st; rfl; rfl; rfl; ((focus ((repeat (first | exact hs1 _ | apply St.there)); done))); ((exact kmf))) | refine spl ?_ ?_ | intro hc)
      ((apply w_apM (l2 := [ow]); rfl; rfl; rfl; (focus ((repeat (first | exact Del.here | apply Del.there)); done)); ((exact srf)); (intro; rfl); (first | (simp only [List.length_cons, List.length_nil]; omega) | (simp; omega)); (first | (simp only [List.length_cons, List.length_nil]; omega) | (simp; omega))); intro v' hv'; refine ⟨by (exact kmf), ?_⟩)
      (repeat' first | refine stp ?_ | intro v' hv' | intro (b : Nat) | (apply w_convU; rfl; rfl; omega; omega) | (apply w_convI; rfl; rfl; omega; omega) | (apply w_quoU; rfl; rfl; rfl; omega; omega; omega) | (apply w_remU; rfl; rfl; rfl; omega; omega) | (apply w_minL; rfl; rfl; rfl; omega) | (apply w_minG; rfl; rfl; rfl; omega) | (apply w_min; rfl; rfl; rfl) | (apply w_mfR; rfl; rfl) | (apply w_cvp; rfl; rfl; exact inferInstance; rfl; rfl; assumption) | (apply w_eqS2T; rfl; rfl; rfl; omega) | (apply w_eqS2F; rfl; rfl; rfl; omega) | (apply w_neS2T; rfl; rfl; rfl; omega) | (apply w_neS2F; rfl; rfl; rfl; omega) | (apply w_eqS3T; rfl; rfl; rfl; omega) | (apply w_eqS3F; rfl; rfl; rfl; omega) | (apply w_neS3T; rfl; rfl; rfl; omega) | (apply w_neS3F; rfl; rfl; rfl; omega) | (apply w_eqS3; rfl; rfl; rfl) | (apply w_neS3; rfl; rfl; rfl) | (apply w_eqS2; rfl; rfl; rfl) | (apply w_neS2; rfl; rfl; rfl) | (apply w_maxL; rfl; rfl; rfl; omega) | (apply w_maxG; rfl; rfl; rfl; omega) | (apply w_max; rfl; rfl; rfl) | (apply w_neB; rfl; rfl; rfl; rfl) | (apply w_eqB; rfl; rfl; rfl; rfl) | (apply w_ld0; rfl; rfl; ((focus ((repeat (first | exact hr1 _ | apply Rd.there)); done)))) | (apply w_ld; rfl; rfl; ((focus ((repeat (first | exact hr1 _ | apply Rd.there)); done)))) | (apply w_st; rfl; rfl; rfl; ((focus ((repeat (first | exact hs1 _ | apply St.there)); done))); ((exact kmf))) | refine spl ?_ ?_ | intro hc)
      refine At_againK (k + 1, v') ⟨hlt, by rw [← htk, hl2] at hv'; exact hv'⟩ (by dsimp only; omega) (by (exact sbf)) (by (exact sbf)) (fun w hs => ?_)
      dsimp only
      rw [hq2, htk]
      exact Sel.sat (by (focus ((repeat (first | exact Sel.refl | (apply Sel.cons; (focus ((repeat (first | exact Del.here | apply Del.there)); done))) | refine Sel.drop ?_)); done))) hs
  obtain rfl : k = 4 := by omega
  have hvO : IsSl v1 4 := hv1
  clear hv1 hlt hk
  have e0 : (flL fun j => (lkA M j).own).take 4 = flL (ovL M M' hh 0) := by
    rw [List.take_of_length_le (by rw [flL_len]; omega)]
    exact flL_congr fun j _ => by unfold ovL; simp
  rw [e0]
  clear e0
  have hHe2 := Held_ok bt M' n
  unfold heldM at hHe2
  rw [if_pos hn, hQ.held] at hHe2
  have hW := Waits_ok bt M' n
  rw [waits_no (by omega) hn hQ.wait] at hW
  dsimp only at hW
  (repeat' first | refine stp ?_ | intro v' hv' | intro (b : Nat) | (apply w_convU; rfl; rfl; omega; omega) | (apply w_convI; rfl; rfl; omega; omega) | (apply w_quoU; rfl; rfl; rfl; omega; omega; omega) | (apply w_remU; rfl; rfl; rfl; omega; omega) | (apply w_minL; rfl; rfl; rfl; omega) | (apply w_minG; rfl; rfl; rfl; omega) | (apply w_min; rfl; rfl; rfl) | (apply w_mfR; rfl; rfl) | (apply w_cvp; rfl; rfl; exact inferInstance; rfl; rfl; assumption) | (apply w_eqS2T; rfl; rfl; rfl; omega) | (apply w_eqS2F; rfl; rfl; rfl; omega) | (apply w_neS2T; rfl; rfl; rfl; omega) | (apply w_neS2F; rfl; rfl; rfl; omega) | (apply w_eqS3T; rfl; rfl; rfl; omega) | (apply w_eqS3F; rfl; rfl; rfl; omega) | (apply w_neS3T; rfl; rfl; rfl; omega) | (apply w_neS3F; rfl; rfl; rfl; omega) | (apply w_eqS3; rfl; rfl; rfl) | (apply w_neS3; rfl; rfl; rfl) | (apply w_eqS2; rfl; rfl; rfl) | (apply w_neS2; rfl; rfl; rfl) | (apply w_maxL; rfl; rfl; rfl; omega) | (apply w_maxG; rfl; rfl; rfl; omega) | (apply w_max; rfl; rfl; rfl) | (apply w_neB; rfl; rfl; rfl; rfl) | (apply w_eqB; rfl; rfl; rfl; rfl) | (apply w_ld0; rfl; rfl; ((focus ((repeat (first | exact hr1 _ | apply Rd.there)); done)))) | (apply w_ld; rfl; rfl; ((focus ((repeat (first | exact hr1 _ | apply Rd.there)); done)))) | (apply w_st; rfl; rfl; rfl; ((focus ((repeat (first | exact hs1 _ | apply St.there)); done))); ((exact kmf))) | refine spl ?_ ?_ | intro hc)
  apply w_cl; rfl; rfl; exact Called.del1 (A := mtb bt M) (by (focus ((repeat (first | exact Del.here | apply Del.there)); done))) (Quit_ok bt M n _)
  obtain ⟨v0, hv0⟩ := IsSl.any (N := (quitM M n).1.1.length) (by rw [hout]; dsimp only; rw [List.length_map]; omega)
  exact ⟨_, _, v0, rfl, hv0, rfl⟩
  rintro _ _ ⟨vq, rfl, hvq, rfl⟩
  refine ⟨by (exact kmf), ?_⟩
  rw [hout] at hvq ⊢
  dsimp only at hvq ⊢
  rw [List.length_map] at hvq
  (repeat' first | refine stp ?_ | intro v' hv' | intro (b : Nat) | (apply w_convU; rfl; rfl; omega; omega) | (apply w_convI; rfl; rfl; omega; omega) | (apply w_quoU; rfl; rfl; rfl; omega; omega; omega) | (apply w_remU; rfl; rfl; rfl; omega; omega) | (apply w_minL; rfl; rfl; rfl; omega) | (apply w_minG; rfl; rfl; rfl; omega) | (apply w_min; rfl; rfl; rfl) | (apply w_mfR; rfl; rfl) | (apply w_cvp; rfl; rfl; exact inferInstance; rfl; rfl; assumption) | (apply w_eqS2T; rfl; rfl; rfl; omega) | (apply w_eqS2F; rfl; rfl; rfl; omega) | (apply w_neS2T; rfl; rfl; rfl; omega) | (apply w_neS2F; rfl; rfl; rfl; omega) | (apply w_eqS3T; rfl; rfl; rfl; omega) | (apply w_eqS3F; rfl; rfl; rfl; omega) | (apply w_neS3T; rfl; rfl; rfl; omega) | (apply w_neS3F; rfl; rfl; rfl; omega) | (apply w_eqS3; rfl; rfl; rfl) | (apply w_neS3; rfl; rfl; rfl) | (apply w_eqS2; rfl; rfl; rfl) | (apply w_neS2; rfl; rfl; rfl) | (apply w_maxL; rfl; rfl; rfl; omega) | (apply w_maxG; rfl; rfl; rfl; omega) | (apply w_max; rfl; rfl; rfl) | (apply w_neB; rfl; rfl; rfl; rfl) | (apply w_eqB; rfl; rfl; rfl; rfl) | (apply w_ld0; rfl; rfl; ((focus ((repeat (first | exact hr1 _ | apply Rd.there)); done)))) | (apply w_ld; rfl; rfl; ((focus ((repeat (first | exact hr1 _ | apply Rd.there)); done)))) | (apply w_st; rfl; rfl; rfl; ((focus ((repeat (first | exact hs1 _ | apply St.there)); done))); ((exact kmf))) | refine spl ?_ ?_ | intro hc)
  obtain ⟨vn, hvn⟩ : ∃ r, r = v' := ⟨_, rfl⟩
  subst hvn
  clear hHe2 hW
  refine C_loopK (α := Nat) [4, 15, 16, 17, 18, 99, 100, 101, 102, 103, 104, 105, 106, 107, 108, 109, 110, 111, 112, 113, 114, 115, 116, 117, 118, 119, 120, 121, 122, 123, 124, 125, 126, 127, 128, 129, 130, 131, 132, 133, 134, 135, 136, 137, 138, 139, 140, 141, 142, 143, 144, 145, 146] (fun x => hh.length - x) (fun x => [(15, int x)]) (fun x => sl 54 2 vq ((hh.map (fun m : Nat => ((m : Int), (lkA M' m).own))).map hoE) :: sl 3 1 v1 ((flL (ovL M M' hh x)).map ioE) :: sl 3 1 vH (hh.map niE) :: mtb bt M' :: R) (fun x => x ≤ hh.length) 0 (Nat.zero_le _) (by (focus ((repeat (first | exact Keep.nil | apply Keep.drop rfl | apply Keep.keep rfl)); done))) (by (exact sbf)) (fun w hs => Sel.sat (by (focus ((repeat (first | exact Sel.refl | (apply Sel.cons; (focus ((repeat (first | exact Del.here | apply Del.there)); done))) | refine Sel.drop ?_)); done))) hs) ?_
  rintro i hi
  dsimp only [List.cons_append, List.nil_append] at *
  by_cases hli : i < hh.length
  · have hx : hh[i]? = some hh[i] := by simp [hli]
    have hxm := List.mem_of_getElem? hx
    have hm4 := hhm _ hxm
    have hmM : hh[i] < M'.length := by omega
    have hpe : ((hh.map (fun m : Nat => ((m : Int), (lkA M' m).own))).map hoE)[i]? = some [int (hh[i] : Int), int (lkA M' hh[i]).own] := by rw [List.getElem?_map, List.getElem?_map, hx]; rfl
    have hph : (hh.map niE)[i]? = some [int (hh[i] : Int)] := by rw [List.getElem?_map, hx]; rfl
    have hF := Flag_ok bt M' hh[i]
    rw [flag_at hmM, hflag _ hxm] at hF
    dsimp only at hF
    have hne := hQ.ne hh[i] (by omega)
    have hset : (flL (ovL M M' hh i)).set hh[i] (lkA M' hh[i]).own = flL (ovL M M' hh (i + 1)) := by
      have htk : hh.take (i + 1) = hh.take i ++ [hh[i]] := by rw [List.take_add_one, hx]; rfl
      refine flL_set hm4 ?_ fun j hj => ?_
      · unfold ovL; rw [htk, if_pos (List.mem_append_right _ (List.mem_singleton.2 rfl))]
      · unfold ovL; rw [htk]
        have : j ∈ hh.take i ++ [hh[i]] ↔ j ∈ hh.take i := by rw [List.mem_append, List.mem_singleton]; exact or_iff_left hj
        simp only [this]
    have hs1 : ∀ L, St (sl 3 1 v1 ((flL (ovL M M' hh i)).map ioE) :: L) ⟨vb v1, vo v1 + hh[i] * 1, none⟩ (int (lkA M' hh[i]).own) (sl 3 1 v1 ((flL (ovL M M' hh (i + 1))).map ioE) :: L) := fun L => by
      rw [← hset]
      exact St.io (by rw [flL_len]; exact hm4)
    generalize hh[i] = m at *
    generalize (lkA M' m).own = ow at *
    clear hset
    (repeat' first | refine stp ?_ | intro v' hv' | intro (b : Nat) | (apply w_convU; rfl; rfl; omega; omega) | (apply w_convI; rfl; rfl; omega; omega) | (apply w_quoU; rfl; rfl; rfl; omega; omega; omega) | (apply w_remU; rfl; rfl; rfl; omega; omega) | (apply w_minL; rfl; rfl; rfl; omega) | (apply w_minG; rfl; rfl; rfl; omega) | (apply w_min; rfl; rfl; rfl) | (apply w_mfR; rfl; rfl) | (apply w_cvp; rfl; rfl; exact inferInstance; rfl; rfl; assumption) | (apply w_eqS2T; rfl; rfl; rfl; omega) | (apply w_eqS2F; rfl; rfl; rfl; omega) | (apply w_neS2T; rfl; rfl; rfl; omega) | (apply w_neS2F; rfl; rfl; rfl; omega) | (apply w_eqS3T; rfl; rfl; rfl; omega) | (apply w_eqS3F; rfl; rfl; rfl; omega) | (apply w_neS3T; rfl; rfl; rfl; omega) | (apply w_neS3F; rfl; rfl; rfl; omega) | (apply w_eqS3; rfl; rfl; rfl) | (apply w_neS3; rfl; rfl; rfl) | (apply w_eqS2; rfl; rfl; rfl) | (apply w_neS2; rfl; rfl; rfl) | (apply w_maxL; rfl; rfl; rfl; omega) | (apply w_maxG; rfl; rfl; rfl; omega) | (apply w_max; rfl; rfl; rfl) | (apply w_neB; rfl; rfl; rfl; rfl) | (apply w_eqB; rfl; rfl; rfl; rfl) | (apply w_ld0; rfl; rfl; ((focus ((repeat (first | exact hr1 _ | apply Rd.there)); done)))) | (apply w_ld; rfl; rfl; ((focus ((repeat (first | exact hr1 _ | apply Rd.there)); done)))) | (apply w_st; rfl; rfl; rfl; ((focus ((repeat (first | exact hs1 _ | apply St.there)); done))); ((exact kmf))) | refine spl ?_ ?_ | intro hc)
    exact At_againK (i + 1) hli (by omega) (by (exact sbf)) (by (exact sbf)) (by (exact frm))
  obtain rfl : i = hh.length := by omega
  clear hli hi
  have e1 : flL (ovL M M' hh hh.length) = flL (fun j => (lkA M' j).own) := flL_congr fun j hj => by
    unfold ovL
    rw [List.take_length]
    split
    · rfl
    · rename_i hnm; exact (hsame j (by omega) hnm).symm
  rw [e1]
  clear e1
  (repeat' first | refine stp ?_ | intro v' hv' | intro (b : Nat) | (apply w_convU; rfl; rfl; omega; omega) | (apply w_convI; rfl; rfl; omega; omega) | (apply w_quoU; rfl; rfl; rfl; omega; omega; omega) | (apply w_remU; rfl; rfl; rfl; omega; omega) | (apply w_minL; rfl; rfl; rfl; omega) | (apply w_minG; rfl; rfl; rfl; omega) | (apply w_min; rfl; rfl; rfl) | (apply w_mfR; rfl; rfl) | (apply w_cvp; rfl; rfl; exact inferInstance; rfl; rfl; assumption) | (apply w_eqS2T; rfl; rfl; rfl; omega) | (apply w_eqS2F; rfl; rfl; rfl; omega) | (apply w_neS2T; rfl; rfl; rfl; omega) | (apply w_neS2F; rfl; rfl; rfl; omega) | (apply w_eqS3T; rfl; rfl; rfl; omega) | (apply w_eqS3F; rfl; rfl; rfl; omega) | (apply w_neS3T; rfl; rfl; rfl; omega) | (apply w_neS3F; rfl; rfl; rfl; omega) | (apply w_eqS3; rfl; rfl; rfl) | (apply w_neS3; rfl; rfl; rfl) | (apply w_eqS2; rfl; rfl; rfl) | (apply w_neS2; rfl; rfl; rfl) | (apply w_maxL; rfl; rfl; rfl; omega) | (apply w_maxG; rfl; rfl; rfl; omega) | (apply w_max; rfl; rfl; rfl) | (apply w_neB; rfl; rfl; rfl; rfl) | (apply w_eqB; rfl; rfl; rfl; rfl) | (apply w_ld0; rfl; rfl; ((focus ((repeat (first | exact hr1 _ | apply Rd.there)); done)))) | (apply w_ld; rfl; rfl; ((focus ((repeat (first | exact hr1 _ | apply Rd.there)); done)))) | (apply w_st; rfl; rfl; rfl; ((focus ((repeat (first | exact hs1 _ | apply St.there)); done))); ((exact kmf))) | refine spl ?_ ?_ | intro hc)
  refine C_loopK (α := Nat) [4, 19, 20, 21, 22, 23, 24, 147, 148, 149, 150, 151, 152, 153, 154, 155, 156, 157, 158, 159, 160, 161, 162, 163, 164, 165, 166, 167, 168, 169, 170, 171, 172, 173, 174, 175, 176, 177, 178, 179, 180, 181, 182, 183, 184, 185, 186, 187, 188, 189, 190, 191, 192, 193, 194, 195, 196, 197, 198, 199] (fun x => 4 - x) (fun x => [(19, int x)]) (fun x => sl 54 2 vq ((hh.map (fun m : Nat => ((m : Int), (lkA M' m).own))).map hoE) :: sl 3 1 v1 ((flL (fun j => (lkA M' j).own)).map ioE) :: mtb bt M' :: R) (fun x => x ≤ 4) 0 (Nat.zero_le _) (by (focus ((repeat (first | exact Keep.nil | apply Keep.drop rfl | apply Keep.keep rfl)); done))) (by (exact sbf)) (fun w hs => Sel.sat (by (focus ((repeat (first | exact Sel.refl | (apply Sel.cons; (focus ((repeat (first | exact Del.here | apply Del.there)); done))) | refine Sel.drop ?_)); done))) hs) ?_
  rintro m hm
  dsimp only [List.cons_append, List.nil_append] at *
  by_cases hlt : m < 4
  · have hmM : m < M'.length := by omega
    have wq := waiters_at hmM
    have hO := Owner_ok bt M' m
    rw [owner_at hmM] at hO
    have hq64 := hwf'.q64 (List.mem_of_getElem? (lk_some hmM))
    have a0 : (0 : Int) ≤ m := by omega
    have a1 : (m : Int) < M'.length := by omega
    have hwo := hwf'.own _ (List.mem_of_getElem? (lk_some hmM))
    have hnq : ∀ x ∈ (lkA M' m).q, x.id ≠ n := fun x hx => waitAt_none.1 hQ.wait _ (List.mem_of_getElem? (lk_some hmM)) x hx
    have hr1 : ∀ L, Rd (sl 3 1 v1 ((flL (fun j => (lkA M' j).own)).map ioE) :: L) ⟨vb v1, vo v1 + m * 1, none⟩ (int (lkA M' m).own) := fun L => by
      have := Rd.io (ov := v1) (l := flL (fun j => (lkA M' j).own)) (k := m) (L := L) (by rw [flL_len]; exact hlt)
      rw [flL_gi hlt] at this
      exact this
    obtain ⟨v0, hv0⟩ := IsSl.any (N := (waitersM M' m).length) (by rw [wq]; omega)
    by_cases hown : (lkA M' m).own = -1
    · rw [if_pos hown] at hO
      (repeat' first | refine stp ?_ | intro v' hv' | intro (b : Nat) | (apply w_convU; rfl; rfl; omega; omega) | (apply w_convI; rfl; rfl; omega; omega) | (apply w_quoU; rfl; rfl; rfl; omega; omega; omega) | (apply w_remU; rfl; rfl; rfl; omega; omega) | (apply w_minL; rfl; rfl; rfl; omega) | (apply w_minG; rfl; rfl; rfl; omega) | (apply w_min; rfl; rfl; rfl) | (apply w_mfR; rfl; rfl) | (apply w_cvp; rfl; rfl; exact inferInstance; rfl; rfl; assumption) | (apply w_eqS2T; rfl; rfl; rfl; omega) | (apply w_eqS2F; rfl; rfl; rfl; omega) | (apply w_neS2T; rfl; rfl; rfl; omega) | (apply w_neS2F; rfl; rfl; rfl; omega) | (apply w_eqS3T; rfl; rfl; rfl; omega) | (apply w_eqS3F; rfl; rfl; rfl; omega) | (apply w_neS3T; rfl; rfl; rfl; omega) | (apply w_neS3F; rfl; rfl; rfl; omega) | (apply w_eqS3; rfl; rfl; rfl) | (apply w_neS3; rfl; rfl; rfl) | (apply w_eqS2; rfl; rfl; rfl) | (apply w_neS2; rfl; rfl; rfl) | (apply w_maxL; rfl; rfl; rfl; omega) | (apply w_maxG; rfl; rfl; rfl; omega) | (apply w_max; rfl; rfl; rfl) | (apply w_neB; rfl; rfl; rfl; rfl) | (apply w_eqB; rfl; rfl; rfl; rfl) | (apply w_ld0; rfl; rfl; ((focus ((repeat (first | exact hr1 _ | apply Rd.there)); done)))) | (apply w_ld; rfl; rfl; ((focus ((repeat (first | exact hr1 _ | apply Rd.there)); done)))) | (apply w_st; rfl; rfl; rfl; ((focus ((repeat (first | exact hs1 _ | apply St.there)); done))); ((exact kmf))) | refine spl ?_ ?_ | intro hc)
      apply w_cl
      rfl
      rfl
      exact Called.del1 (A := mtb bt M') (by (focus ((repeat (first | exact Del.here | apply Del.there)); done))) (keys_ok bt M' m a0 a1 _)
      exact ⟨_, _, v0, rfl, hv0, rfl⟩
      rintro _ _ ⟨v5, rfl, hv5, rfl⟩
      refine ⟨by (exact kmf), ?_⟩
      rw [wq] at hv5 ⊢
      generalize (lkA M' m).q = q at *
      (repeat' first | refine stp ?_ | intro v' hv' | intro (b : Nat) | (apply w_convU; rfl; rfl; omega; omega) | (apply w_convI; rfl; rfl; omega; omega) | (apply w_quoU; rfl; rfl; rfl; omega; omega; omega) | (apply w_remU; rfl; rfl; rfl; omega; omega) | (apply w_minL; rfl; rfl; rfl; omega) | (apply w_minG; rfl; rfl; rfl; omega) | (apply w_min; rfl; rfl; rfl) | (apply w_mfR; rfl; rfl) | (apply w_cvp; rfl; rfl; exact inferInstance; rfl; rfl; assumption) | (apply w_eqS2T; rfl; rfl; rfl; omega) | (apply w_eqS2F; rfl; rfl; rfl; omega) | (apply w_neS2T; rfl; rfl; rfl; omega) | (apply w_neS2F; rfl; rfl; rfl; omega) | (apply w_eqS3T; rfl; rfl; rfl; omega) | (apply w_eqS3F; rfl; rfl; rfl; omega) | (apply w_neS3T; rfl; rfl; rfl; omega) | (apply w_neS3F; rfl; rfl; rfl; omega) | (apply w_eqS3; rfl; rfl; rfl) | (apply w_neS3; rfl; rfl; rfl) | (apply w_eqS2; rfl; rfl; rfl) | (apply w_neS2; rfl; rfl; rfl) | (apply w_maxL; rfl; rfl; rfl; omega) | (apply w_maxG; rfl; rfl; rfl; omega) | (apply w_max; rfl; rfl; rfl) | (apply w_neB; rfl; rfl; rfl; rfl) | (apply w_eqB; rfl; rfl; rfl; rfl) | (apply w_ld0; rfl; rfl; ((focus ((repeat (first | exact hr1 _ | apply Rd.there)); done)))) | (apply w_ld; rfl; rfl; ((focus ((repeat (first | exact hr1 _ | apply Rd.there)); done)))) | (apply w_st; rfl; rfl; rfl; ((focus ((repeat (first | exact hs1 _ | apply St.there)); done))); ((exact kmf))) | refine spl ?_ ?_ | intro hc)
      refine C_loopK (α := Nat) [4, 24, 187, 188, 189, 190, 191, 192, 193, 194, 195, 196, 197, 198, 199] (fun x => q.length - x) (fun x => [(24, int x)]) (fun x => sl 46 2 v5 (q.map kyE) :: sl 54 2 vq ((hh.map (fun m : Nat => ((m : Int), (lkA M' m).own))).map hoE) :: sl 3 1 v1 ((flL (fun j => (lkA M' j).own)).map ioE) :: mtb bt M' :: R) (fun x => x ≤ q.length) 0 (Nat.zero_le _) (by (focus ((repeat (first | exact Keep.nil | apply Keep.drop rfl | apply Keep.keep rfl)); done))) (by (exact sbf)) (fun w hs => Sel.sat (by (focus ((repeat (first | exact Sel.refl | (apply Sel.cons; (focus ((repeat (first | exact Del.here | apply Del.there)); done))) | refine Sel.drop ?_)); done))) hs) ?_
      rintro i hi
      dsimp only [List.cons_append, List.nil_append] at *
      by_cases hli : i < q.length
      · have hx : q[i]? = some q[i] := by simp [hli]
        have hne := hnq _ (List.mem_of_getElem? hx)
        have hpe : (q.map kyE)[i]? = some [int q[i].at', int q[i].id] := by rw [List.getElem?_map, hx]; rfl
        generalize q[i] = y at *
        (repeat' first | refine stp ?_ | intro v' hv' | intro (b : Nat) | (apply w_convU; rfl; rfl; omega; omega) | (apply w_convI; rfl; rfl; omega; omega) | (apply w_quoU; rfl; rfl; rfl; omega; omega; omega) | (apply w_remU; rfl; rfl; rfl; omega; omega) | (apply w_minL; rfl; rfl; rfl; omega) | (apply w_minG; rfl; rfl; rfl; omega) | (apply w_min; rfl; rfl; rfl) | (apply w_mfR; rfl; rfl) | (apply w_cvp; rfl; rfl; exact inferInstance; rfl; rfl; assumption) | (apply w_eqS2T; rfl; rfl; rfl; omega) | (apply w_eqS2F; rfl; rfl; rfl; omega) | (apply w_neS2T; rfl; rfl; rfl; omega) | (apply w_neS2F; rfl; rfl; rfl; omega) | (apply w_eqS3T; rfl; rfl; rfl; omega) | (apply w_eqS3F; rfl; rfl; rfl; omega) | (apply w_neS3T; rfl; rfl; rfl; omega) | (apply w_neS3F; rfl; rfl; rfl; omega) | (apply w_eqS3; rfl; rfl; rfl) | (apply w_neS3; rfl; rfl; rfl) | (apply w_eqS2; rfl; rfl; rfl) | (apply w_neS2; rfl; rfl; rfl) | (apply w_maxL; rfl; rfl; rfl; omega) | (apply w_maxG; rfl; rfl; rfl; omega) | (apply w_max; rfl; rfl; rfl) | (apply w_neB; rfl; rfl; rfl; rfl) | (apply w_eqB; rfl; rfl; rfl; rfl) | (apply w_ld0; rfl; rfl; ((focus ((repeat (first | exact hr1 _ | apply Rd.there)); done)))) | (apply w_ld; rfl; rfl; ((focus ((repeat (first | exact hr1 _ | apply Rd.there)); done)))) | (apply w_st; rfl; rfl; rfl; ((focus ((repeat (first | exact hs1 _ | apply St.there)); done))); ((exact kmf))) | refine spl ?_ ?_ | intro hc)
        exact At_againK (i + 1) hli (by omega) (by (exact sbf)) (by (exact sbf)) (by (exact frm))
      · obtain rfl : i = q.length := by omega
        (repeat' first | refine stp ?_ | intro v' hv' | intro (b : Nat) | (apply w_convU; rfl; rfl; omega; omega) | (apply w_convI; rfl; rfl; omega; omega) | (apply w_quoU; rfl; rfl; rfl; omega; omega; omega) | (apply w_remU; rfl; rfl; rfl; omega; omega) | (apply w_minL; rfl; rfl; rfl; omega) | (apply w_minG; rfl; rfl; rfl; omega) | (apply w_min; rfl; rfl; rfl) | (apply w_mfR; rfl; rfl) | (apply w_cvp; rfl; rfl; exact inferInstance; rfl; rfl; assumption) | (apply w_eqS2T; rfl; rfl; rfl; omega) | (apply w_eqS2F; rfl; rfl; rfl; omega) | (apply w_neS2T; rfl; rfl; rfl; omega) | (apply w_neS2F; rfl; rfl; rfl; omega) | (apply w_eqS3T; rfl; rfl; rfl; omega) | (apply w_eqS3F; rfl; rfl; rfl; omega) | (apply w_neS3T; rfl; rfl; rfl; omega) | (apply w_neS3F; rfl; rfl; rfl; omega) | (apply w_eqS3; rfl; rfl; rfl) | (apply w_neS3; rfl; rfl; rfl) | (apply w_eqS2; rfl; rfl; rfl) | (apply w_neS2; rfl; rfl; rfl) | (apply w_maxL; rfl; rfl; rfl; omega) | (apply w_maxG; rfl; rfl; rfl; omega) | (apply w_max; rfl; rfl; rfl) | (apply w_neB; rfl; rfl; rfl; rfl) | (apply w_eqB; rfl; rfl; rfl; rfl) | (apply w_ld0; rfl; rfl; ((focus ((repeat (first | exact hr1 _ | apply Rd.there)); done)))) | (apply w_ld; rfl; rfl; ((focus ((repeat (first | exact hr1 _ | apply Rd.there)); done)))) | (apply w_st; rfl; rfl; rfl; ((focus ((repeat (first | exact hs1 _ | apply St.there)); done))); ((exact kmf))) | refine spl ?_ ?_ | intro hc)
        exact At_againK (m + 1) hlt (by omega) (by (exact sbf)) (by (exact sbf)) (by (exact frm))
    · rw [if_neg hown] at hO
      (repeat' first | refine stp ?_ | intro v' hv' | intro (b : Nat) | (apply w_convU; rfl; rfl; omega; omega) | (apply w_convI; rfl; rfl; omega; omega) | (apply w_quoU; rfl; rfl; rfl; omega; omega; omega) | (apply w_remU; rfl; rfl; rfl; omega; omega) | (apply w_minL; rfl; rfl; rfl; omega) | (apply w_minG; rfl; rfl; rfl; omega) | (apply w_min; rfl; rfl; rfl) | (apply w_mfR; rfl; rfl) | (apply w_cvp; rfl; rfl; exact inferInstance; rfl; rfl; assumption) | (apply w_eqS2T; rfl; rfl; rfl; omega) | (apply w_eqS2F; rfl; rfl; rfl; omega) | (apply w_neS2T; rfl; rfl; rfl; omega) | (apply w_neS2F; rfl; rfl; rfl; omega) | (apply w_eqS3T; rfl; rfl; rfl; omega) | (apply w_eqS3F; rfl; rfl; rfl; omega) | (apply w_neS3T; rfl; rfl; rfl; omega) | (apply w_neS3F; rfl; rfl; rfl; omega) | (apply w_eqS3; rfl; rfl; rfl) | (apply w_neS3; rfl; rfl; rfl) | (apply w_eqS2; rfl; rfl; rfl) | (apply w_neS2; rfl; rfl; rfl) | (apply w_maxL; rfl; rfl; rfl; omega) | (apply w_maxG; rfl; rfl; rfl; omega) | (apply w_max; rfl; rfl; rfl) | (apply w_neB; rfl; rfl; rfl; rfl) | (apply w_eqB; rfl; rfl; rfl; rfl) | (apply w_ld0; rfl; rfl; ((focus ((repeat (first | exact hr1 _ | apply Rd.there)); done)))) | (apply w_ld; rfl; rfl; ((focus ((repeat (first | exact hr1 _ | apply Rd.there)); done)))) | (apply w_st; rfl; rfl; rfl; ((focus ((repeat (first | exact hs1 _ | apply St.there)); done))); ((exact kmf))) | refine spl ?_ ?_ | intro hc)
      apply w_cl
      rfl
      rfl
      exact Called.del1 (A := mtb bt M') (by (focus ((repeat (first | exact Del.here | apply Del.there)); done))) (keys_ok bt M' m a0 a1 _)
      exact ⟨_, _, v0, rfl, hv0, rfl⟩
      rintro _ _ ⟨v5, rfl, hv5, rfl⟩
      refine ⟨by (exact kmf), ?_⟩
      rw [wq] at hv5 ⊢
      generalize (lkA M' m).q = q at *
      (repeat' first | refine stp ?_ | intro v' hv' | intro (b : Nat) | (apply w_convU; rfl; rfl; omega; omega) | (apply w_convI; rfl; rfl; omega; omega) | (apply w_quoU; rfl; rfl; rfl; omega; omega; omega) | (apply w_remU; rfl; rfl; rfl; omega; omega) | (apply w_minL; rfl; rfl; rfl; omega) | (apply w_minG; rfl; rfl; rfl; omega) | (apply w_min; rfl; rfl; rfl) | (apply w_mfR; rfl; rfl) | (apply w_cvp; rfl; rfl; exact inferInstance; rfl; rfl; assumption) | (apply w_eqS2T; rfl; rfl; rfl; omega) | (apply w_eqS2F; rfl; rfl; rfl; omega) | (apply w_neS2T; rfl; rfl; rfl; omega) | (apply w_neS2F; rfl; rfl; rfl; omega) | (apply w_eqS3T; rfl; rfl; rfl; omega) | (apply w_eqS3F; rfl; rfl; rfl; omega) | (apply w_neS3T; rfl; rfl; rfl; omega) | (apply w_neS3F; rfl; rfl; rfl; omega) | (apply w_eqS3; rfl; rfl; rfl) | (apply w_neS3; rfl; rfl; rfl) | (apply w_eqS2; rfl; rfl; rfl) | (apply w_neS2; rfl; rfl; rfl) | (apply w_maxL; rfl; rfl; rfl; omega) | (apply w_maxG; rfl; rfl; rfl; omega) | (apply w_max; rfl; rfl; rfl) | (apply w_neB; rfl; rfl; rfl; rfl) | (apply w_eqB; rfl; rfl; rfl; rfl) | (apply w_ld0; rfl; rfl; ((focus ((repeat (first | exact hr1 _ | apply Rd.there)); done)))) | (apply w_ld; rfl; rfl; ((focus ((repeat (first | exact hr1 _ | apply Rd.there)); done)))) | (apply w_st; rfl; rfl; rfl; ((focus ((repeat (first | exact hs1 _ | apply St.there)); done))); ((exact kmf))) | refine spl ?_ ?_ | intro hc)
      refine C_loopK (α := Nat) [4, 24, 187, 188, 189, 190, 191, 192, 193, 194, 195, 196, 197, 198, 199] (fun x => q.length - x) (fun x => [(24, int x)]) (fun x => sl 46 2 v5 (q.map kyE) :: sl 54 2 vq ((hh.map (fun m : Nat => ((m : Int), (lkA M' m).own))).map hoE) :: sl 3 1 v1 ((flL (fun j => (lkA M' j).own)).map ioE) :: mtb bt M' :: R) (fun x => x ≤ q.length) 0 (Nat.zero_le _) (by (focus ((repeat (first | exact Keep.nil | apply Keep.drop rfl | apply Keep.keep rfl)); done))) (by (exact sbf)) (fun w hs => Sel.sat (by (focus ((repeat (first | exact Sel.refl | (apply Sel.cons; (focus ((repeat (first | exact Del.here | apply Del.there)); done))) | refine Sel.drop ?_)); done))) hs) ?_
      rintro i hi
      dsimp only [List.cons_append, List.nil_append] at *
      by_cases hli : i < q.length
      · have hx : q[i]? = some q[i] := by simp [hli]
        have hne := hnq _ (List.mem_of_getElem? hx)
        have hpe : (q.map kyE)[i]? = some [int q[i].at', int q[i].id] := by rw [List.getElem?_map, hx]; rfl
        generalize q[i] = y at *
        (repeat' first | refine stp ?_ | intro v' hv' | intro (b : Nat) | (apply w_convU; rfl; rfl; omega; omega) | (apply w_convI; rfl; rfl; omega; omega) | (apply w_quoU; rfl; rfl; rfl; omega; omega; omega) | (apply w_remU; rfl; rfl; rfl; omega; omega) | (apply w_minL; rfl; rfl; rfl; omega) | (apply w_minG; rfl; rfl; rfl; omega) | (apply w_min; rfl; rfl; rfl) | (apply w_mfR; rfl; rfl) | (apply w_cvp; rfl; rfl; exact inferInstance; rfl; rfl; assumption) | (apply w_eqS2T; rfl; rfl; rfl; omega) | (apply w_eqS2F; rfl; rfl; rfl; omega) | (apply w_neS2T; rfl; rfl; rfl; omega) | (apply w_neS2F; rfl; rfl; rfl; omega) | (apply w_eqS3T; rfl; rfl; rfl; omega) | (apply w_eqS3F; rfl; rfl; rfl; omega) | (apply w_neS3T; rfl; rfl; rfl; omega) | (apply w_neS3F; rfl; rfl; rfl; omega) | (apply w_eqS3; rfl; rfl; rfl) | (apply w_neS3; rfl; rfl; rfl) | (apply w_eqS2; rfl; rfl; rfl) | (apply w_neS2; rfl; rfl; rfl) | (apply w_maxL; rfl; rfl; rfl; omega) | (apply w_maxG; rfl; rfl; rfl; omega) | (apply w_max; rfl; rfl; rfl) | (apply w_neB; rfl; rfl; rfl; rfl) | (apply w_eqB; rfl; rfl; rfl; rfl) | (apply w_ld0; rfl; rfl; ((focus ((repeat (first | exact hr1 _ | apply Rd.there)); done)))) | (apply w_ld; rfl; rfl; ((focus ((repeat (first | exact hr1 _ | apply Rd.there)); done)))) | (apply w_st; rfl; rfl; rfl; ((focus ((repeat (first | exact hs1 _ | apply St.there)); done))); ((exact kmf))) | refine spl ?_ ?_ | intro hc)
        exact At_againK (i + 1) hli (by omega) (by (exact sbf)) (by (exact sbf)) (by (exact frm))
      · obtain rfl : i = q.length := by omega
        (repeat' first | refine stp ?_ | intro v' hv' | intro (b : Nat) | (apply w_convU; rfl; rfl; omega; omega) | (apply w_convI; rfl; rfl; omega; omega) | (apply w_quoU; rfl; rfl; rfl; omega; omega; omega) | (apply w_remU; rfl; rfl; rfl; omega; omega) | (apply w_minL; rfl; rfl; rfl; omega) | (apply w_minG; rfl; rfl; rfl; omega) | (apply w_min; rfl; rfl; rfl) | (apply w_mfR; rfl; rfl) | (apply w_cvp; rfl; rfl; exact inferInstance; rfl; rfl; assumption) | (apply w_eqS2T; rfl; rfl; rfl; omega) | (apply w_eqS2F; rfl; rfl; rfl; omega) | (apply w_neS2T; rfl; rfl; rfl; omega) | (apply w_neS2F; rfl; rfl; rfl; omega) | (apply w_eqS3T; rfl; rfl; rfl; omega) | (apply w_eqS3F; rfl; rfl; rfl; omega) | (apply w_neS3T; rfl; rfl; rfl; omega) | (apply w_neS3F; rfl; rfl; rfl; omega) | (apply w_eqS3; rfl; rfl; rfl) | (apply w_neS3; rfl; rfl; rfl) | (apply w_eqS2; rfl; rfl; rfl) | (apply w_neS2; rfl; rfl; rfl) | (apply w_maxL; rfl; rfl; rfl; omega) | (apply w_maxG; rfl; rfl; rfl; omega) | (apply w_max; rfl; rfl; rfl) | (apply w_neB; rfl; rfl; rfl; rfl) | (apply w_eqB; rfl; rfl; rfl; rfl) | (apply w_ld0; rfl; rfl; ((focus ((repeat (first | exact hr1 _ | apply Rd.there)); done)))) | (apply w_ld; rfl; rfl; ((focus ((repeat (first | exact hr1 _ | apply Rd.there)); done)))) | (apply w_st; rfl; rfl; rfl; ((focus ((repeat (first | exact hs1 _ | apply St.there)); done))); ((exact kmf))) | refine spl ?_ ?_ | intro hc)
        exact At_againK (m + 1) hlt (by omega) (by (exact sbf)) (by (exact sbf)) (by (exact frm))
  obtain rfl : m = 4 := by omega
  clear hlt hm
  (repeat' first | refine stp ?_ | intro v' hv' | intro (b : Nat) | (apply w_convU; rfl; rfl; omega; omega) | (apply w_convI; rfl; rfl; omega; omega) | (apply w_quoU; rfl; rfl; rfl; omega; omega; omega) | (apply w_remU; rfl; rfl; rfl; omega; omega) | (apply w_minL; rfl; rfl; rfl; omega) | (apply w_minG; rfl; rfl; rfl; omega) | (apply w_min; rfl; rfl; rfl) | (apply w_mfR; rfl; rfl) | (apply w_cvp; rfl; rfl; exact inferInstance; rfl; rfl; assumption) | (apply w_eqS2T; rfl; rfl; rfl; omega) | (apply w_eqS2F; rfl; rfl; rfl; omega) | (apply w_neS2T; rfl; rfl; rfl; omega) | (apply w_neS2F; rfl; rfl; rfl; omega) | (apply w_eqS3T; rfl; rfl; rfl; omega) | (apply w_eqS3F; rfl; rfl; rfl; omega) | (apply w_neS3T; rfl; rfl; rfl; omega) | (apply w_neS3F; rfl; rfl; rfl; omega) | (apply w_eqS3; rfl; rfl; rfl) | (apply w_neS3; rfl; rfl; rfl) | (apply w_eqS2; rfl; rfl; rfl) | (apply w_neS2; rfl; rfl; rfl) | (apply w_maxL; rfl; rfl; rfl; omega) | (apply w_maxG; rfl; rfl; rfl; omega) | (apply w_max; rfl; rfl; rfl) | (apply w_neB; rfl; rfl; rfl; rfl) | (apply w_eqB; rfl; rfl; rfl; rfl) | (apply w_ld0; rfl; rfl; ((focus ((repeat (first | exact hr1 _ | apply Rd.there)); done)))) | (apply w_ld; rfl; rfl; ((focus ((repeat (first | exact hr1 _ | apply Rd.there)); done)))) | (apply w_st; rfl; rfl; rfl; ((focus ((repeat (first | exact hs1 _ | apply St.there)); done))); ((exact kmf))) | refine spl ?_ ?_ | intro hc)
  apply w_cl; rfl; rfl; exact Called.del1 (A := mtb bt M') (by (focus ((repeat (first | exact Del.here | apply Del.there)); done))) (Quit_ok bt M' n _)
  obtain ⟨v0, hv0⟩ := IsSl.any (N := (quitM M' n).1.1.length) (by rw [hQ.again]; exact Nat.zero_le _)
  exact ⟨_, _, v0, rfl, hv0, rfl⟩
  rintro _ _ ⟨vz, rfl, hvz, rfl⟩
  refine ⟨by (exact kmf), ?_⟩
  rw [hQ.again] at hvz ⊢
  dsimp only at hvz ⊢
  have hvz' : IsSl vz 0 := hvz
  (repeat' first | refine stp ?_ | intro v' hv' | intro (b : Nat) | (apply w_convU; rfl; rfl; omega; omega) | (apply w_convI; rfl; rfl; omega; omega) | (apply w_quoU; rfl; rfl; rfl; omega; omega; omega) | (apply w_remU; rfl; rfl; rfl; omega; omega) | (apply w_minL; rfl; rfl; rfl; omega) | (apply w_minG; rfl; rfl; rfl; omega) | (apply w_min; rfl; rfl; rfl) | (apply w_mfR; rfl; rfl) | (apply w_cvp; rfl; rfl; exact inferInstance; rfl; rfl; assumption) | (apply w_eqS2T; rfl; rfl; rfl; omega) | (apply w_eqS2F; rfl; rfl; rfl; omega) | (apply w_neS2T; rfl; rfl; rfl; omega) | (apply w_neS2F; rfl; rfl; rfl; omega) | (apply w_eqS3T; rfl; rfl; rfl; omega) | (apply w_eqS3F; rfl; rfl; rfl; omega) | (apply w_neS3T; rfl; rfl; rfl; omega) | (apply w_neS3F; rfl; rfl; rfl; omega) | (apply w_eqS3; rfl; rfl; rfl) | (apply w_neS3; rfl; rfl; rfl) | (apply w_eqS2; rfl; rfl; rfl) | (apply w_neS2; rfl; rfl; rfl) | (apply w_maxL; rfl; rfl; rfl; omega) | (apply w_maxG; rfl; rfl; rfl; omega) | (apply w_max; rfl; rfl; rfl) | (apply w_neB; rfl; rfl; rfl; rfl) | (apply w_eqB; rfl; rfl; rfl; rfl) | (apply w_ld0; rfl; rfl; ((focus ((repeat (first | exact hr1 _ | apply Rd.there)); done)))) | (apply w_ld; rfl; rfl; ((focus ((repeat (first | exact hr1 _ | apply Rd.there)); done)))) | (apply w_st; rfl; rfl; rfl; ((focus ((repeat (first | exact hs1 _ | apply St.there)); done))); ((exact kmf))) | refine spl ?_ ?_ | intro hc)
  refine C_loopK (α := Nat) [4, 27, 28, 29, 30, 31, 213, 214, 215, 216, 217, 218, 219, 220, 221, 222, 223, 224, 225, 226, 227, 228, 229, 230, 231, 232, 233, 234, 235, 236, 237, 238, 239, 240, 241, 242, 243, 244, 245, 246, 247, 248, 249, 250, 251, 252, 253, 254, 255, 256, 257, 258] (fun x => hh.length - x) (fun x => [(27, int x)]) (fun x => sl 54 2 vq ((hh.map (fun m : Nat => ((m : Int), (lkA M' m).own))).map hoE) :: mtb bt (unK M' hh x) :: R) (fun x => x ≤ hh.length) 0 (Nat.zero_le _) (by (focus ((repeat (first | exact Keep.nil | apply Keep.drop rfl | apply Keep.keep rfl)); done))) (by (exact sbf)) (fun w hs => by unfold unK; exact Sel.sat (by (focus ((repeat (first | exact Sel.refl | (apply Sel.cons; (focus ((repeat (first | exact Del.here | apply Del.there)); done))) | refine Sel.drop ?_)); done))) hs) ?_
  rintro i hi
  dsimp only [List.cons_append, List.nil_append] at *
  by_cases hli : i < hh.length
  · have hx : hh[i]? = some hh[i] := by simp [hli]
    have hxm := List.mem_of_getElem? hx
    have hm4 := hhm _ hxm
    have hpe : ((hh.map (fun m : Nat => ((m : Int), (lkA M' m).own))).map hoE)[i]? = some [int (hh[i] : Int), int (lkA M' hh[i]).own] := by rw [List.getElem?_map, List.getElem?_map, hx]; rfl
    have hat := unK_at hnd (fun m hm => by rw [hlen']; exact hhm m hm) (Nat.le_refl i) hx
    have hul := unK_len M' hh i
    have hul2 := unK_len M' hh (i + 1)
    have hsu : unK M' hh (i + 1) = if (lkA M' hh[i]).own < 0 then unK M' hh i else (unK M' hh i).set hh[i] (handM (lkA (unK M' hh i) hh[i]) false) := by
      conv => lhs; unfold unK
      rw [hx]
    have hwo := hwf'.own _ (List.mem_of_getElem? (lk_some (M := M') (i := hh[i]) (by omega)))
    generalize hT1 : unK M' hh (i + 1) = T1 at *
    generalize unK M' hh i = T at *
    generalize hh[i] = m at *
    rw [hat] at hsu
    by_cases hown : (lkA M' m).own < 0
    · rw [if_pos hown] at hsu
      generalize (lkA M' m).own = ow at *
      (repeat' first | refine stp ?_ | intro v' hv' | intro (b : Nat) | (apply w_convU; rfl; rfl; omega; omega) | (apply w_convI; rfl; rfl; omega; omega) | (apply w_quoU; rfl; rfl; rfl; omega; omega; omega) | (apply w_remU; rfl; rfl; rfl; omega; omega) | (apply w_minL; rfl; rfl; rfl; omega) | (apply w_minG; rfl; rfl; rfl; omega) | (apply w_min; rfl; rfl; rfl) | (apply w_mfR; rfl; rfl) | (apply w_cvp; rfl; rfl; exact inferInstance; rfl; rfl; assumption) | (apply w_eqS2T; rfl; rfl; rfl; omega) | (apply w_eqS2F; rfl; rfl; rfl; omega) | (apply w_neS2T; rfl; rfl; rfl; omega) | (apply w_neS2F; rfl; rfl; rfl; omega) | (apply w_eqS3T; rfl; rfl; rfl; omega) | (apply w_eqS3F; rfl; rfl; rfl; omega) | (apply w_neS3T; rfl; rfl; rfl; omega) | (apply w_neS3F; rfl; rfl; rfl; omega) | (apply w_eqS3; rfl; rfl; rfl) | (apply w_neS3; rfl; rfl; rfl) | (apply w_eqS2; rfl; rfl; rfl) | (apply w_neS2; rfl; rfl; rfl) | (apply w_maxL; rfl; rfl; rfl; omega) | (apply w_maxG; rfl; rfl; rfl; omega) | (apply w_max; rfl; rfl; rfl) | (apply w_neB; rfl; rfl; rfl; rfl) | (apply w_eqB; rfl; rfl; rfl; rfl) | (apply w_ld0; rfl; rfl; ((focus ((repeat (first | exact hr1 _ | apply Rd.there)); done)))) | (apply w_ld; rfl; rfl; ((focus ((repeat (first | exact hr1 _ | apply Rd.there)); done)))) | (apply w_st; rfl; rfl; rfl; ((focus ((repeat (first | exact hs1 _ | apply St.there)); done))); ((exact kmf))) | refine spl ?_ ?_ | intro hc)
      refine At_againK (i + 1) hli (by omega) (by (exact sbf)) (by (exact sbf)) (fun w hs => ?_)
      rw [hT1, hsu]
      exact Sel.sat (by (focus ((repeat (first | exact Sel.refl | (apply Sel.cons; (focus ((repeat (first | exact Del.here | apply Del.there)); done))) | refine Sel.drop ?_)); done))) hs
    · rw [if_neg hown] at hsu
      have hmT : m < T.length := by omega
      have hU := Unlock_ok bt T m (lkA M' m).own
      rw [unlock_at hmT ⟨by omega, by omega⟩, hat, if_neg (by simp), ← hsu] at hU
      have hF := Flag_ok bt T1 m
      rw [flag_at (by omega)] at hF
      have hfl : (lkA T1 m).flag = false := by rw [hsu, lkA_set hmT, if_pos rfl]; exact hand_flag ..
      rw [hfl] at hF
      dsimp only at hU hF
      clear hsu hat hfl
      generalize (handM (lkA M' m) false).own = ow2 at *
      generalize (lkA M' m).own = ow at *
      (repeat' first | refine stp ?_ | intro v' hv' | intro (b : Nat) | (apply w_convU; rfl; rfl; omega; omega) | (apply w_convI; rfl; rfl; omega; omega) | (apply w_quoU; rfl; rfl; rfl; omega; omega; omega) | (apply w_remU; rfl; rfl; rfl; omega; omega) | (apply w_minL; rfl; rfl; rfl; omega) | (apply w_minG; rfl; rfl; rfl; omega) | (apply w_min; rfl; rfl; rfl) | (apply w_mfR; rfl; rfl) | (apply w_cvp; rfl; rfl; exact inferInstance; rfl; rfl; assumption) | (apply w_eqS2T; rfl; rfl; rfl; omega) | (apply w_eqS2F; rfl; rfl; rfl; omega) | (apply w_neS2T; rfl; rfl; rfl; omega) | (apply w_neS2F; rfl; rfl; rfl; omega) | (apply w_eqS3T; rfl; rfl; rfl; omega) | (apply w_eqS3F; rfl; rfl; rfl; omega) | (apply w_neS3T; rfl; rfl; rfl; omega) | (apply w_neS3F; rfl; rfl; rfl; omega) | (apply w_eqS3; rfl; rfl; rfl) | (apply w_neS3; rfl; rfl; rfl) | (apply w_eqS2; rfl; rfl; rfl) | (apply w_neS2; rfl; rfl; rfl) | (apply w_maxL; rfl; rfl; rfl; omega) | (apply w_maxG; rfl; rfl; rfl; omega) | (apply w_max; rfl; rfl; rfl) | (apply w_neB; rfl; rfl; rfl; rfl) | (apply w_eqB; rfl; rfl; rfl; rfl) | (apply w_ld0; rfl; rfl; ((focus ((repeat (first | exact hr1 _ | apply Rd.there)); done)))) | (apply w_ld; rfl; rfl; ((focus ((repeat (first | exact hr1 _ | apply Rd.there)); done)))) | (apply w_st; rfl; rfl; rfl; ((focus ((repeat (first | exact hs1 _ | apply St.there)); done))); ((exact kmf))) | refine spl ?_ ?_ | intro hc)
      refine At_againK (i + 1) hli (by omega) (by (exact sbf)) (by (exact sbf)) (fun w hs => ?_)
      rw [hT1]
      exact Sel.sat (by (focus ((repeat (first | exact Sel.refl | (apply Sel.cons; (focus ((repeat (first | exact Del.here | apply Del.there)); done))) | refine Sel.drop ?_)); done))) hs
  · obtain rfl : i = hh.length := by omega
    (repeat' first | refine stp ?_ | intro v' hv' | intro (b : Nat) | (apply w_convU; rfl; rfl; omega; omega) | (apply w_convI; rfl; rfl; omega; omega) | (apply w_quoU; rfl; rfl; rfl; omega; omega; omega) | (apply w_remU; rfl; rfl; rfl; omega; omega) | (apply w_minL; rfl; rfl; rfl; omega) | (apply w_minG; rfl; rfl; rfl; omega) | (apply w_min; rfl; rfl; rfl) | (apply w_mfR; rfl; rfl) | (apply w_cvp; rfl; rfl; exact inferInstance; rfl; rfl; assumption) | (apply w_eqS2T; rfl; rfl; rfl; omega) | (apply w_eqS2F; rfl; rfl; rfl; omega) | (apply w_neS2T; rfl; rfl; rfl; omega) | (apply w_neS2F; rfl; rfl; rfl; omega) | (apply w_eqS3T; rfl; rfl; rfl; omega) | (apply w_eqS3F; rfl; rfl; rfl; omega) | (apply w_neS3T; rfl; rfl; rfl; omega) | (apply w_neS3F; rfl; rfl; rfl; omega) | (apply w_eqS3; rfl; rfl; rfl) | (apply w_neS3; rfl; rfl; rfl) | (apply w_eqS2; rfl; rfl; rfl) | (apply w_neS2; rfl; rfl; rfl) | (apply w_maxL; rfl; rfl; rfl; omega) | (apply w_maxG; rfl; rfl; rfl; omega) | (apply w_max; rfl; rfl; rfl) | (apply w_neB; rfl; rfl; rfl; rfl) | (apply w_eqB; rfl; rfl; rfl; rfl) | (apply w_ld0; rfl; rfl; ((focus ((repeat (first | exact hr1 _ | apply Rd.there)); done)))) | (apply w_ld; rfl; rfl; ((focus ((repeat (first | exact hr1 _ | apply Rd.there)); done)))) | (apply w_st; rfl; rfl; rfl; ((focus ((repeat (first | exact hs1 _ | apply St.there)); done))); ((exact kmf))) | refine spl ?_ ?_ | intro hc)
    all_goals (refine At_ret1 (by (first | exact .inl rfl | exact .inr rfl)) Try.results6 rfl ⟨by rfl, rfl⟩ (by (exact frm)))
theorem quits_all (v : Value) (ops : List OpT) (m : Int) (R : List HP) (h : OpsIn R v ops) : Called Try.prog 6 [v, int m] R (is (.bool true) R) := by
  by_cases h1 : 80 < ops.length ∨ m < 0 ∨ 63 < m
  · exact quits_no v ops m R h h1
  · exact quits_ok v ops m ⟨by omega, by omega⟩ R h (by omega)
end Go.Proofs.Ytoaaoijdknbanaa
