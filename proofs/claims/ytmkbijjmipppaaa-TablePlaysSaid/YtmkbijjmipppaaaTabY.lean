/- table's law: of. Conditions: none. -/
import Derived.Test.YtmkbijjmipppaaaTabX
set_option linter.all false
set_option linter.deprecated false
namespace Go.Proofs.Ytmkbijjmipppaaa
open Go.Sep
variable [B0 : Base]
def zes : List RE := List.replicate 64 zeroE
instance : BuildP Try.prog 85 2 [(0, 1), (1, 256)] (rcells (.slice none 0 0) zes) := ⟨by kernel_rfl⟩
theorem rlib_fold {lv : Value} {ys : List (Value × List Ins)} {w : World} {R : List HP} (h : Sat w (sl 59 1 lv (ys.map fun y => [y.1]) :: all (ys.map fun y => sl 86 2 y.1 (y.2.map insE)) :: R)) : Sat w (rlibH lv ys :: R) := by
  unfold rlibH
  refine Sat.all_iff.2 ?_
  have h1 : Sat w (all (ys.map fun y => sl 86 2 y.1 (y.2.map insE)) :: sl 59 1 lv (ys.map fun y => [y.1]) :: R) := h.perm (.swap ..)
  have h2 := Sat.all_iff.1 h1
  exact h2.perm List.perm_middle
theorem owns_zes {w : World} {R : List HP} (h : Sat w R) : Sat w (ownsH zes :: R) := by
  unfold ownsH zes
  rw [List.map_replicate]
  refine Sat.all_iff.2 ?_
  have key : ∀ n, Sat w (List.replicate n (sl 86 2 zeroE.u (zeroE.full.map insE)) ++ R) := by
    intro n
    induction n with
    | zero => exact h
    | succ n ih => rw [List.replicate_succ]; exact ih.sl_nil
  exact key 64
theorem newE_each {xs : List (Value × List Ins)} (h : newE (xs.map fun x => x.2) = 0) : xs.length ≤ 64 ∧ ∀ x ∈ xs, progE x.2 = 0 := by
  unfold newE at h
  rw [List.length_map] at h
  by_cases h64 : 64 < xs.length
  · rw [if_pos h64] at h; exact absurd h (by decide)
  · rw [if_neg h64] at h
    refine ⟨by omega, fun x hx => ?_⟩
    cases hf : ((xs.map fun x => x.2).map progE).find? (fun e => e != 0) with
    | none =>
      have := List.find?_eq_none.1 hf (progE x.2) (List.mem_map_of_mem (List.mem_map_of_mem hx))
      simpa using this
    | some y =>
      have h1 := List.find?_some hf
      rw [hf] at h
      simp at h1 h
      exact absurd h h1
attribute [irreducible] zes
set_option maxHeartbeats 8000000 in
theorem of_ok (v : Value) (xs : List (Value × List Ins)) (R : List HP) (h : LibIn R v xs) (h0 : newE (xs.map fun x => x.2) = 0) :
    Called Try.prog 17 [v] R (fun u M => ∃ b, u = ptr b ∧ M = rtbl b ⟨xs.map fun x => x.2, List.replicate 64 zeroR⟩ :: R) := by
  have hv := h.isl
  have hN := hv.len
  obtain ⟨h64, hp⟩ := newE_each h0
  refine Fn1 Try.func17 rfl Try.ntmps17 rfl ?_
  (repeat' first | refine stp ?_ | intro v' hv' | intro (b : Nat) | (apply w_convU; rfl; rfl; omega; omega) | (apply w_convI; rfl; rfl; omega; omega) | (apply w_quoU; rfl; rfl; rfl; omega; omega; omega) | (apply w_remU; rfl; rfl; rfl; omega; omega) | (apply w_minL; rfl; rfl; rfl; omega) | (apply w_minG; rfl; rfl; rfl; omega) | (apply w_min; rfl; rfl; rfl) | (apply w_mfR; rfl; rfl) | (apply w_cvp; rfl; rfl; exact inferInstance; rfl; rfl; assumption) | (apply w_eqS2T; rfl; rfl; rfl; omega) | (apply w_eqS2F; rfl; rfl; rfl; omega) | (apply w_neS2T; rfl; rfl; rfl; omega) | (apply w_neS2F; rfl; rfl; rfl; omega) | (apply w_eqS3T; rfl; rfl; rfl; omega) | (apply w_eqS3F; rfl; rfl; rfl; omega) | (apply w_neS3T; rfl; rfl; rfl; omega) | (apply w_neS3F; rfl; rfl; rfl; omega) | (apply w_eqS3; rfl; rfl; rfl) | (apply w_neS3; rfl; rfl; rfl) | (apply w_eqS2; rfl; rfl; rfl) | (apply w_neS2; rfl; rfl; rfl) | (apply w_maxL; rfl; rfl; rfl; omega) | (apply w_maxG; rfl; rfl; rfl; omega) | (apply w_max; rfl; rfl; rfl) | (apply w_neB; rfl; rfl; rfl; rfl) | (apply w_eqB; rfl; rfl; rfl; rfl) | (apply w_st; rfl; rfl; (exact hv2.one); (focus ((repeat (first | exact hSt _ | apply St.there)); done)); ((exact kmf))) | refine spl ?_ ?_ | intro hc)
  refine C_loopK (α := Nat × List (Value × List Ins) × Value) [4, 7, 8, 9, 10, 11, 12, 13, 14, 15, 16, 17, 18, 19, 20, 21, 22, 23, 24, 25, 26] (fun x => xs.length - x.1) (fun x => [(4, int x.1)])
    (fun x => pt b 85 (rcells x.2.2 zes) :: sl 59 1 x.2.2 (x.2.1.map fun y => [y.1]) :: all (x.2.1.map fun y => sl 86 2 y.1 (y.2.map insE)) :: R)
    (fun x => x.1 ≤ xs.length ∧ x.2.1.map (fun y => y.2) = (xs.take x.1).map (fun y => y.2) ∧ IsSl x.2.2 x.2.1.length ∧ (∀ y ∈ x.2.1, IsSl y.1 y.2.length ∧ progE y.2 = 0)) (0, [], .slice none 0 0) ⟨Nat.zero_le _, rfl, IsSl.nil, fun _ h => by cases h⟩ (by (focus ((repeat (first | exact Keep.nil | apply Keep.drop rfl | apply Keep.keep rfl)); done))) (by (exact sbf)) (fun w hs => ?_) ?_
  · have h1 : Sat w (all [] :: pt b 85 (rcells (.slice none 0 0) zes) :: R) := Sat.all_iff.2 hs
    have h2 : Sat w (sl 59 1 (.slice none 0 0) [] :: all [] :: pt b 85 (rcells (.slice none 0 0) zes) :: R) := h1.sl_nil
    exact Sel.sat (by (focus ((repeat (first | exact Sel.refl | (apply Sel.cons; (focus ((repeat (first | exact Del.here | apply Del.there)); done))) | refine Sel.drop ?_)); done))) h2
  · rintro ⟨k, ys, u⟩ ⟨hk, hy, hu, hys⟩
    dsimp only [List.cons_append, List.nil_append] at *
    have hyl : ys.length = k := by have := congrArg List.length hy; simp at this; omega
    have hr0 : Rd (pt b 85 (rcells u zes) :: sl 59 1 u (ys.map fun y => [y.1]) :: all (ys.map fun y => sl 86 2 y.1 (y.2.map insE)) :: R) ⟨b, 0 + 0, none⟩ u := Rd.pt rfl
    by_cases hlt : k < xs.length
    · have hx : xs[k]? = some xs[k] := by simp [hlt]
      have hPr := h.each _ (List.mem_of_getElem? hx)
      have hpx := hp _ (List.mem_of_getElem? hx)
      have hrd := h.rd hlt
      have htk : xs.take (k + 1) = xs.take k ++ [xs[k]] := by rw [List.take_add_one]; simp [hlt]
      have hone : xs[k].1.oneCell' = true := hPr.isl.one
      generalize xs[k] = x at *
      have hx64 := (progE_may hpx).1
      (repeat' first | refine stp ?_ | intro v' hv' | intro (b : Nat) | (apply w_convU; rfl; rfl; omega; omega) | (apply w_convI; rfl; rfl; omega; omega) | (apply w_quoU; rfl; rfl; rfl; omega; omega; omega) | (apply w_remU; rfl; rfl; rfl; omega; omega) | (apply w_minL; rfl; rfl; rfl; omega) | (apply w_minG; rfl; rfl; rfl; omega) | (apply w_min; rfl; rfl; rfl) | (apply w_mfR; rfl; rfl) | (apply w_cvp; rfl; rfl; exact inferInstance; rfl; rfl; assumption) | (apply w_eqS2T; rfl; rfl; rfl; omega) | (apply w_eqS2F; rfl; rfl; rfl; omega) | (apply w_neS2T; rfl; rfl; rfl; omega) | (apply w_neS2F; rfl; rfl; rfl; omega) | (apply w_eqS3T; rfl; rfl; rfl; omega) | (apply w_eqS3F; rfl; rfl; rfl; omega) | (apply w_neS3T; rfl; rfl; rfl; omega) | (apply w_neS3F; rfl; rfl; rfl; omega) | (apply w_eqS3; rfl; rfl; rfl) | (apply w_neS3; rfl; rfl; rfl) | (apply w_eqS2; rfl; rfl; rfl) | (apply w_neS2; rfl; rfl; rfl) | (apply w_maxL; rfl; rfl; rfl; omega) | (apply w_maxG; rfl; rfl; rfl; omega) | (apply w_max; rfl; rfl; rfl) | (apply w_neB; rfl; rfl; rfl; rfl) | (apply w_eqB; rfl; rfl; rfl; rfl) | (apply w_st; rfl; rfl; (exact hv2.one); (focus ((repeat (first | exact hSt _ | apply St.there)); done)); ((exact kmf))) | refine spl ?_ ?_ | intro hc)
      apply w_clS
      rfl; rfl; exact Plain_ok x.1 x.2 _ hPr.there.there.there (by omega)
      (simp; omega)
      intro c hc
      refine ⟨by (exact kmf), ?_⟩
      have hc' : IsSl c x.2.length := by simpa using hc
      (repeat' first | refine stp ?_ | intro v' hv' | intro (b : Nat) | (apply w_convU; rfl; rfl; omega; omega) | (apply w_convI; rfl; rfl; omega; omega) | (apply w_quoU; rfl; rfl; rfl; omega; omega; omega) | (apply w_remU; rfl; rfl; rfl; omega; omega) | (apply w_minL; rfl; rfl; rfl; omega) | (apply w_minG; rfl; rfl; rfl; omega) | (apply w_min; rfl; rfl; rfl) | (apply w_mfR; rfl; rfl) | (apply w_cvp; rfl; rfl; exact inferInstance; rfl; rfl; assumption) | (apply w_eqS2T; rfl; rfl; rfl; omega) | (apply w_eqS2F; rfl; rfl; rfl; omega) | (apply w_neS2T; rfl; rfl; rfl; omega) | (apply w_neS2F; rfl; rfl; rfl; omega) | (apply w_eqS3T; rfl; rfl; rfl; omega) | (apply w_eqS3F; rfl; rfl; rfl; omega) | (apply w_neS3T; rfl; rfl; rfl; omega) | (apply w_neS3F; rfl; rfl; rfl; omega) | (apply w_eqS3; rfl; rfl; rfl) | (apply w_neS3; rfl; rfl; rfl) | (apply w_eqS2; rfl; rfl; rfl) | (apply w_neS2; rfl; rfl; rfl) | (apply w_maxL; rfl; rfl; rfl; omega) | (apply w_maxG; rfl; rfl; rfl; omega) | (apply w_max; rfl; rfl; rfl) | (apply w_neB; rfl; rfl; rfl; rfl) | (apply w_eqB; rfl; rfl; rfl; rfl) | (apply w_st; rfl; rfl; (exact hv2.one); (focus ((repeat (first | exact hSt _ | apply St.there)); done)); ((exact kmf))) | refine spl ?_ ?_ | intro hc)
      apply w_ap (es := [[c]])
      rfl; rfl; rfl; ((focus ((repeat (first | exact Del.here | apply Del.there)); done))); ((exact srf)); (simp [hc'.one]); (simp; omega); (simp; omega)
      intro v2 hv2
      refine ⟨by (exact kmf), ?_⟩
      have hv3 : IsSl v2 (ys ++ [(c, x.2)]).length := by simpa using hv2
      have hSt : ∀ L, St (pt b 85 (rcells u zes) :: L) ⟨b, 0, none⟩ v2 (pt b 85 (rcells v2 zes) :: L) := fun L => by
        have := St.pt (b := b) (T := 85) (vs := rcells u zes) (L := L) (i := 0) (v := v2) (by rw [Nat.blt_eq]; exact Nat.zero_lt_succ _)
        unfold rcells at *
        rwa [List.set_cons_zero] at this
      (repeat' first | refine stp ?_ | intro v' hv' | intro (b : Nat) | (apply w_convU; rfl; rfl; omega; omega) | (apply w_convI; rfl; rfl; omega; omega) | (apply w_quoU; rfl; rfl; rfl; omega; omega; omega) | (apply w_remU; rfl; rfl; rfl; omega; omega) | (apply w_minL; rfl; rfl; rfl; omega) | (apply w_minG; rfl; rfl; rfl; omega) | (apply w_min; rfl; rfl; rfl) | (apply w_mfR; rfl; rfl) | (apply w_cvp; rfl; rfl; exact inferInstance; rfl; rfl; assumption) | (apply w_eqS2T; rfl; rfl; rfl; omega) | (apply w_eqS2F; rfl; rfl; rfl; omega) | (apply w_neS2T; rfl; rfl; rfl; omega) | (apply w_neS2F; rfl; rfl; rfl; omega) | (apply w_eqS3T; rfl; rfl; rfl; omega) | (apply w_eqS3F; rfl; rfl; rfl; omega) | (apply w_neS3T; rfl; rfl; rfl; omega) | (apply w_neS3F; rfl; rfl; rfl; omega) | (apply w_eqS3; rfl; rfl; rfl) | (apply w_neS3; rfl; rfl; rfl) | (apply w_eqS2; rfl; rfl; rfl) | (apply w_neS2; rfl; rfl; rfl) | (apply w_maxL; rfl; rfl; rfl; omega) | (apply w_maxG; rfl; rfl; rfl; omega) | (apply w_max; rfl; rfl; rfl) | (apply w_neB; rfl; rfl; rfl; rfl) | (apply w_eqB; rfl; rfl; rfl; rfl) | (apply w_st; rfl; rfl; (exact hv2.one); (focus ((repeat (first | exact hSt _ | apply St.there)); done)); ((exact kmf))) | refine spl ?_ ?_ | intro hc)
      refine At_againK (k + 1, ys ++ [(c, x.2)], v2) ⟨hlt, ?_, hv3, ?_⟩ (by show xs.length - (k + 1) < xs.length - k; omega) (by (exact sbf)) (by (exact sbf)) (fun w hs => ?_)
      · show (ys ++ [(c, x.2)]).map (fun y => y.2) = (xs.take (k + 1)).map (fun y => y.2)
        rw [htk, List.map_append, List.map_append, hy]; rfl
      · intro y hm
        rcases List.mem_append.1 hm with hm | hm
        · exact hys y hm
        · simp at hm; subst hm; exact ⟨hc', hpx⟩
      · show Sat w (pt b 85 (rcells v2 zes) :: sl 59 1 v2 ((ys ++ [(c, x.2)]).map fun y => [y.1]) :: all ((ys ++ [(c, x.2)]).map fun y => sl 86 2 y.1 (y.2.map insE)) :: R)
        rw [List.map_append, List.map_append]
        have h1 : Sat w (all (ys.map fun y => sl 86 2 y.1 (y.2.map insE)) :: sl 86 2 c (x.2.map insE) :: pt b 85 (rcells v2 zes) :: sl 59 1 v2 (ys.map (fun y => [y.1]) ++ [[c]]) :: R) := Sel.sat (by (focus ((repeat (first | exact Sel.refl | (apply Sel.cons; (focus ((repeat (first | exact Del.here | apply Del.there)); done))) | refine Sel.drop ?_)); done))) hs
        have h2 := Sat.all_iff.1 h1
        have h3 : Sat w (((ys.map fun y => sl 86 2 y.1 (y.2.map insE)) ++ [sl 86 2 c (x.2.map insE)]) ++ pt b 85 (rcells v2 zes) :: sl 59 1 v2 (ys.map (fun y => [y.1]) ++ [[c]]) :: R) := by simpa using h2
        have h4 := Sat.all_iff.2 h3
        exact Sel.sat (by (focus ((repeat (first | exact Sel.refl | (apply Sel.cons; (focus ((repeat (first | exact Del.here | apply Del.there)); done))) | refine Sel.drop ?_)); done))) h4
    · have hk' : k = xs.length := by omega
      subst hk'
      rw [List.take_length] at hy
      have hok : RTabOk ⟨xs.map fun x => x.2, List.replicate 64 zeroR⟩ u ys zes := {
        n64 := by unfold zes; exact List.length_replicate
        lisl := hu
        few := by omega
        progs := hy.symm
        isl := fun y hm => ⟨(hys y hm).1, (progE_may (hys y hm).2).1, fun x hx => by have := may_n ((progE_may (hys y hm).2).2 x hx); omega⟩
        ths := by unfold zes; rw [List.map_replicate]; rfl
        each := fun e hm => by
          unfold zes at hm
          have := List.eq_of_mem_replicate hm
          subst this
          exact ⟨TvOk.start IsSl.nil, Nat.zero_le _, rfl, fun _ h => by cases h⟩ }
      (repeat' first | refine stp ?_ | intro v' hv' | intro (b : Nat) | (apply w_convU; rfl; rfl; omega; omega) | (apply w_convI; rfl; rfl; omega; omega) | (apply w_quoU; rfl; rfl; rfl; omega; omega; omega) | (apply w_remU; rfl; rfl; rfl; omega; omega) | (apply w_minL; rfl; rfl; rfl; omega) | (apply w_minG; rfl; rfl; rfl; omega) | (apply w_min; rfl; rfl; rfl) | (apply w_mfR; rfl; rfl) | (apply w_cvp; rfl; rfl; exact inferInstance; rfl; rfl; assumption) | (apply w_eqS2T; rfl; rfl; rfl; omega) | (apply w_eqS2F; rfl; rfl; rfl; omega) | (apply w_neS2T; rfl; rfl; rfl; omega) | (apply w_neS2F; rfl; rfl; rfl; omega) | (apply w_eqS3T; rfl; rfl; rfl; omega) | (apply w_eqS3F; rfl; rfl; rfl; omega) | (apply w_neS3T; rfl; rfl; rfl; omega) | (apply w_neS3F; rfl; rfl; rfl; omega) | (apply w_eqS3; rfl; rfl; rfl) | (apply w_neS3; rfl; rfl; rfl) | (apply w_eqS2; rfl; rfl; rfl) | (apply w_neS2; rfl; rfl; rfl) | (apply w_maxL; rfl; rfl; rfl; omega) | (apply w_maxG; rfl; rfl; rfl; omega) | (apply w_max; rfl; rfl; rfl) | (apply w_neB; rfl; rfl; rfl; rfl) | (apply w_eqB; rfl; rfl; rfl; rfl) | (apply w_st; rfl; rfl; (exact hv2.one); (focus ((repeat (first | exact hSt _ | apply St.there)); done)); ((exact kmf))) | refine spl ?_ ?_ | intro hc)
      refine At_ret1 (by (first | exact .inl rfl | exact .inr rfl)) Try.results17 rfl ⟨b, rfl, rfl⟩ (fun w hs => rtbl_fold hok ?_)
      have h1 : Sat w (sl 59 1 u (ys.map fun y => [y.1]) :: all (ys.map fun y => sl 86 2 y.1 (y.2.map insE)) :: pt b 85 (rcells u zes) :: R) := Sel.sat (by (focus ((repeat (first | exact Sel.refl | (apply Sel.cons; (focus ((repeat (first | exact Del.here | apply Del.there)); done))) | refine Sel.drop ?_)); done))) hs
      have h2 := owns_zes (rlib_fold h1)
      exact Sel.sat (by (focus ((repeat (first | exact Sel.refl | (apply Sel.cons; (focus ((repeat (first | exact Del.here | apply Del.there)); done))) | refine Sel.drop ?_)); done))) h2
end Go.Proofs.Ytmkbijjmipppaaa
