/- TableRuns: it answers true. Conditions: none. -/
import Derived.Test.YtmkbijjmipppaaaTabP
set_option linter.all false
set_option linter.deprecated false
namespace Go.Proofs.Ytmkbijjmipppaaa
open Go.Sep
variable [B0 : Base]
instance : FlatEq Try.prog 28 2 := ⟨by kernel_rfl⟩
structure PzIn (R : List HP) (v : Value) (ks : List Int) : Prop where
  isl : IsSl v ks.length
  src : Src R v 1 (ks.map fun k => [int k])
  each : ∀ k ∈ ks, W64 k
theorem w_maxE {P : Program} {ro : Option Nat} {m : Option Sep.Mode} {ops : Array Oper} {Q : Exit → Act → World → Prop} {n : Nat} {rest : List Oper} {F : Fr} {ds : List Deferred} {L : List HP} {d : Nat} {ty : TypeId} {pos : String} {aft : Array Edge} {x y : Operand} {k : IntKind} {a b c : Int} {ts : Array TypeId} (hd : Nat.blt d n = true) (hx : ev F x = some (.int k a)) (hy : ev F y = some (.int k b)) (h : (if a < b then b else a) = c) (hk : W P ro m ops Q n rest ((d, .int k c) :: F) ds L) : W P ro m ops Q n (⟨some d, .call { callee := .builtin .max, args := #[x, y], argTypes := ts }, ty, pos, aft, none⟩ :: rest) F ds L := w_max hd hx hy (by rwa [h])
theorem newE_one {l : List Ins} (h : progE l = 0) : newE [l] = 0 := by
  unfold newE
  simp [h]
theorem cost_end {l : List Ins} (h : progE l = 0) : (costM l).2 ≠ 0 ∨ (costM l).1 = sumC (listed l) := by
  unfold costM
  rw [if_neg (show ¬ (progE l ≠ 0) by simpa using h)]
  split
  · exact .inl (by decide)
  · exact .inr rfl
set_option maxHeartbeats 32000000 in
theorem runs_ok (v v1 : Value) (l : List Ins) (ks : List Int) (R : List HP) (h : PrIn R v l) (hz : PzIn R v1 ks) : Called Try.prog 6 [v, v1] R (is (.bool true) R) := by
  have hv := h.isl
  have hN := hv.len
  have hv1 := hz.isl
  have hN1 := hv1.len
  by_cases h70 : 70 < l.length
  · refine Fn2 Try.func6 rfl Try.ntmps6 rfl ?_
    (repeat' first | refine stp ?_ | intro v' hv' | intro (b : Nat) | (apply w_maxE; rfl; rfl; rfl; exact hmx) | (apply w_convU; rfl; rfl; omega; omega) | (apply w_convI; rfl; rfl; omega; omega) | (apply w_quoU; rfl; rfl; rfl; omega; omega; omega) | (apply w_remU; rfl; rfl; rfl; omega; omega) | (apply w_minL; rfl; rfl; rfl; omega) | (apply w_minG; rfl; rfl; rfl; omega) | (apply w_min; rfl; rfl; rfl) | (apply w_mfR; rfl; rfl) | (apply w_cvp; rfl; rfl; exact inferInstance; rfl; rfl; assumption) | (apply w_eqS2T; rfl; rfl; rfl; omega) | (apply w_eqS2F; rfl; rfl; rfl; omega) | (apply w_neS2T; rfl; rfl; rfl; omega) | (apply w_neS2F; rfl; rfl; rfl; omega) | (apply w_eqS3T; rfl; rfl; rfl; omega) | (apply w_eqS3F; rfl; rfl; rfl; omega) | (apply w_neS3T; rfl; rfl; rfl; omega) | (apply w_neS3F; rfl; rfl; rfl; omega) | (apply w_eqS3; rfl; rfl; rfl) | (apply w_neS3; rfl; rfl; rfl) | (apply w_eqS2; rfl; rfl; rfl) | (apply w_neS2; rfl; rfl; rfl) | (apply w_maxL; rfl; rfl; rfl; omega) | (apply w_maxG; rfl; rfl; rfl; omega) | (apply w_max; rfl; rfl; rfl) | (apply w_neB; rfl; rfl; rfl; rfl) | (apply w_eqB; rfl; rfl; rfl; rfl) | (apply w_cd; rfl; rfl; apply Called.at (h := hEa trivial); ((focus ((repeat (first | exact Rep.here | apply Rep.there)); done))); ((exact kmf))) | (apply w_cq; rfl; rfl; exact rCheck_ok _ l _ (by assumption) srf) | (apply w_cp; rfl; rfl; exact awake_ok) | (apply w_cq; rfl; rfl; exact Cost_ok v l _ (by (focus ((repeat (first | assumption | apply PrIn.there)); done)))) | refine spl ?_ ?_ | intro hc)
    all_goals (refine At_ret1 (by (first | exact .inl rfl | exact .inr rfl)) Try.results6 rfl ⟨by rfl, rfl⟩ (by (exact frm)))
  · refine Fn2 Try.func6 rfl Try.ntmps6 rfl ?_
    (repeat' first | refine stp ?_ | intro v' hv' | intro (b : Nat) | (apply w_maxE; rfl; rfl; rfl; exact hmx) | (apply w_convU; rfl; rfl; omega; omega) | (apply w_convI; rfl; rfl; omega; omega) | (apply w_quoU; rfl; rfl; rfl; omega; omega; omega) | (apply w_remU; rfl; rfl; rfl; omega; omega) | (apply w_minL; rfl; rfl; rfl; omega) | (apply w_minG; rfl; rfl; rfl; omega) | (apply w_min; rfl; rfl; rfl) | (apply w_mfR; rfl; rfl) | (apply w_cvp; rfl; rfl; exact inferInstance; rfl; rfl; assumption) | (apply w_eqS2T; rfl; rfl; rfl; omega) | (apply w_eqS2F; rfl; rfl; rfl; omega) | (apply w_neS2T; rfl; rfl; rfl; omega) | (apply w_neS2F; rfl; rfl; rfl; omega) | (apply w_eqS3T; rfl; rfl; rfl; omega) | (apply w_eqS3F; rfl; rfl; rfl; omega) | (apply w_neS3T; rfl; rfl; rfl; omega) | (apply w_neS3F; rfl; rfl; rfl; omega) | (apply w_eqS3; rfl; rfl; rfl) | (apply w_neS3; rfl; rfl; rfl) | (apply w_eqS2; rfl; rfl; rfl) | (apply w_neS2; rfl; rfl; rfl) | (apply w_maxL; rfl; rfl; rfl; omega) | (apply w_maxG; rfl; rfl; rfl; omega) | (apply w_max; rfl; rfl; rfl) | (apply w_neB; rfl; rfl; rfl; rfl) | (apply w_eqB; rfl; rfl; rfl; rfl) | (apply w_cd; rfl; rfl; apply Called.at (h := hEa trivial); ((focus ((repeat (first | exact Rep.here | apply Rep.there)); done))); ((exact kmf))) | (apply w_cq; rfl; rfl; exact rCheck_ok _ l _ (by assumption) srf) | (apply w_cp; rfl; rfl; exact awake_ok) | (apply w_cq; rfl; rfl; exact Cost_ok v l _ (by (focus ((repeat (first | assumption | apply PrIn.there)); done)))) | refine spl ?_ ?_ | intro hc)
    apply w_clS
    rfl; rfl; exact Plain_ok v l _ h (by omega)
    (simp; omega)
    intro vp hvp
    refine ⟨by (exact kmf), ?_⟩
    have hvp' : IsSl vp l.length := by simpa using hvp
    by_cases h0 : progE l = 0
    · by_cases hk0 : ks.length = 0
      · (repeat' first | refine stp ?_ | intro v' hv' | intro (b : Nat) | (apply w_maxE; rfl; rfl; rfl; exact hmx) | (apply w_convU; rfl; rfl; omega; omega) | (apply w_convI; rfl; rfl; omega; omega) | (apply w_quoU; rfl; rfl; rfl; omega; omega; omega) | (apply w_remU; rfl; rfl; rfl; omega; omega) | (apply w_minL; rfl; rfl; rfl; omega) | (apply w_minG; rfl; rfl; rfl; omega) | (apply w_min; rfl; rfl; rfl) | (apply w_mfR; rfl; rfl) | (apply w_cvp; rfl; rfl; exact inferInstance; rfl; rfl; assumption) | (apply w_eqS2T; rfl; rfl; rfl; omega) | (apply w_eqS2F; rfl; rfl; rfl; omega) | (apply w_neS2T; rfl; rfl; rfl; omega) | (apply w_neS2F; rfl; rfl; rfl; omega) | (apply w_eqS3T; rfl; rfl; rfl; omega) | (apply w_eqS3F; rfl; rfl; rfl; omega) | (apply w_neS3T; rfl; rfl; rfl; omega) | (apply w_neS3F; rfl; rfl; rfl; omega) | (apply w_eqS3; rfl; rfl; rfl) | (apply w_neS3; rfl; rfl; rfl) | (apply w_eqS2; rfl; rfl; rfl) | (apply w_neS2; rfl; rfl; rfl) | (apply w_maxL; rfl; rfl; rfl; omega) | (apply w_maxG; rfl; rfl; rfl; omega) | (apply w_max; rfl; rfl; rfl) | (apply w_neB; rfl; rfl; rfl; rfl) | (apply w_eqB; rfl; rfl; rfl; rfl) | (apply w_cd; rfl; rfl; apply Called.at (h := hEa trivial); ((focus ((repeat (first | exact Rep.here | apply Rep.there)); done))); ((exact kmf))) | (apply w_cq; rfl; rfl; exact rCheck_ok _ l _ (by assumption) srf) | (apply w_cp; rfl; rfl; exact awake_ok) | (apply w_cq; rfl; rfl; exact Cost_ok v l _ (by (focus ((repeat (first | assumption | apply PrIn.there)); done)))) | refine spl ?_ ?_ | intro hc)
        all_goals (refine At_ret1 (by (first | exact .inl rfl | exact .inr rfl)) Try.results6 rfl ⟨by rfl, rfl⟩ (by (exact frm)))
      · by_cases hk30 : 30 < ks.length
        · (repeat' first | refine stp ?_ | intro v' hv' | intro (b : Nat) | (apply w_maxE; rfl; rfl; rfl; exact hmx) | (apply w_convU; rfl; rfl; omega; omega) | (apply w_convI; rfl; rfl; omega; omega) | (apply w_quoU; rfl; rfl; rfl; omega; omega; omega) | (apply w_remU; rfl; rfl; rfl; omega; omega) | (apply w_minL; rfl; rfl; rfl; omega) | (apply w_minG; rfl; rfl; rfl; omega) | (apply w_min; rfl; rfl; rfl) | (apply w_mfR; rfl; rfl) | (apply w_cvp; rfl; rfl; exact inferInstance; rfl; rfl; assumption) | (apply w_eqS2T; rfl; rfl; rfl; omega) | (apply w_eqS2F; rfl; rfl; rfl; omega) | (apply w_neS2T; rfl; rfl; rfl; omega) | (apply w_neS2F; rfl; rfl; rfl; omega) | (apply w_eqS3T; rfl; rfl; rfl; omega) | (apply w_eqS3F; rfl; rfl; rfl; omega) | (apply w_neS3T; rfl; rfl; rfl; omega) | (apply w_neS3F; rfl; rfl; rfl; omega) | (apply w_eqS3; rfl; rfl; rfl) | (apply w_neS3; rfl; rfl; rfl) | (apply w_eqS2; rfl; rfl; rfl) | (apply w_neS2; rfl; rfl; rfl) | (apply w_maxL; rfl; rfl; rfl; omega) | (apply w_maxG; rfl; rfl; rfl; omega) | (apply w_max; rfl; rfl; rfl) | (apply w_neB; rfl; rfl; rfl; rfl) | (apply w_eqB; rfl; rfl; rfl; rfl) | (apply w_cd; rfl; rfl; apply Called.at (h := hEa trivial); ((focus ((repeat (first | exact Rep.here | apply Rep.there)); done))); ((exact kmf))) | (apply w_cq; rfl; rfl; exact rCheck_ok _ l _ (by assumption) srf) | (apply w_cp; rfl; rfl; exact awake_ok) | (apply w_cq; rfl; rfl; exact Cost_ok v l _ (by (focus ((repeat (first | assumption | apply PrIn.there)); done)))) | refine spl ?_ ?_ | intro hc)
          all_goals (refine At_ret1 (by (first | exact .inl rfl | exact .inr rfl)) Try.results6 rfl ⟨by rfl, rfl⟩ (by (exact frm)))
        · (repeat' first | refine stp ?_ | intro v' hv' | intro (b : Nat) | (apply w_maxE; rfl; rfl; rfl; exact hmx) | (apply w_convU; rfl; rfl; omega; omega) | (apply w_convI; rfl; rfl; omega; omega) | (apply w_quoU; rfl; rfl; rfl; omega; omega; omega) | (apply w_remU; rfl; rfl; rfl; omega; omega) | (apply w_minL; rfl; rfl; rfl; omega) | (apply w_minG; rfl; rfl; rfl; omega) | (apply w_min; rfl; rfl; rfl) | (apply w_mfR; rfl; rfl) | (apply w_cvp; rfl; rfl; exact inferInstance; rfl; rfl; assumption) | (apply w_eqS2T; rfl; rfl; rfl; omega) | (apply w_eqS2F; rfl; rfl; rfl; omega) | (apply w_neS2T; rfl; rfl; rfl; omega) | (apply w_neS2F; rfl; rfl; rfl; omega) | (apply w_eqS3T; rfl; rfl; rfl; omega) | (apply w_eqS3F; rfl; rfl; rfl; omega) | (apply w_neS3T; rfl; rfl; rfl; omega) | (apply w_neS3F; rfl; rfl; rfl; omega) | (apply w_eqS3; rfl; rfl; rfl) | (apply w_neS3; rfl; rfl; rfl) | (apply w_eqS2; rfl; rfl; rfl) | (apply w_neS2; rfl; rfl; rfl) | (apply w_maxL; rfl; rfl; rfl; omega) | (apply w_maxG; rfl; rfl; rfl; omega) | (apply w_max; rfl; rfl; rfl) | (apply w_neB; rfl; rfl; rfl; rfl) | (apply w_eqB; rfl; rfl; rfl; rfl) | (apply w_cd; rfl; rfl; apply Called.at (h := hEa trivial); ((focus ((repeat (first | exact Rep.here | apply Rep.there)); done))); ((exact kmf))) | (apply w_cq; rfl; rfl; exact rCheck_ok _ l _ (by assumption) srf) | (apply w_cp; rfl; rfl; exact awake_ok) | (apply w_cq; rfl; rfl; exact Cost_ok v l _ (by (focus ((repeat (first | assumption | apply PrIn.there)); done)))) | refine spl ?_ ?_ | intro hc)
          apply w_cl
          rfl; rfl; exact New_good v' [(v, l)] _ ⟨hv', srf, fun x hx => by rw [List.mem_singleton] at hx; subst hx; exact ⟨hv, h.there.there.src⟩⟩ (newE_one h0) [l] rfl
          exact ⟨_, _, 0, rfl, rfl⟩
          rintro _ _ ⟨p, rfl, rfl⟩
          refine ⟨by (exact kmf), ?_⟩
          rw [show (⟨[l], List.replicate 64 none⟩ : Tab) = endT l from rfl]
          (repeat' first | refine stp ?_ | intro v' hv' | intro (b : Nat) | (apply w_maxE; rfl; rfl; rfl; exact hmx) | (apply w_convU; rfl; rfl; omega; omega) | (apply w_convI; rfl; rfl; omega; omega) | (apply w_quoU; rfl; rfl; rfl; omega; omega; omega) | (apply w_remU; rfl; rfl; rfl; omega; omega) | (apply w_minL; rfl; rfl; rfl; omega) | (apply w_minG; rfl; rfl; rfl; omega) | (apply w_min; rfl; rfl; rfl) | (apply w_mfR; rfl; rfl) | (apply w_cvp; rfl; rfl; exact inferInstance; rfl; rfl; assumption) | (apply w_eqS2T; rfl; rfl; rfl; omega) | (apply w_eqS2F; rfl; rfl; rfl; omega) | (apply w_neS2T; rfl; rfl; rfl; omega) | (apply w_neS2F; rfl; rfl; rfl; omega) | (apply w_eqS3T; rfl; rfl; rfl; omega) | (apply w_eqS3F; rfl; rfl; rfl; omega) | (apply w_neS3T; rfl; rfl; rfl; omega) | (apply w_neS3F; rfl; rfl; rfl; omega) | (apply w_eqS3; rfl; rfl; rfl) | (apply w_neS3; rfl; rfl; rfl) | (apply w_eqS2; rfl; rfl; rfl) | (apply w_neS2; rfl; rfl; rfl) | (apply w_maxL; rfl; rfl; rfl; omega) | (apply w_maxG; rfl; rfl; rfl; omega) | (apply w_max; rfl; rfl; rfl) | (apply w_neB; rfl; rfl; rfl; rfl) | (apply w_eqB; rfl; rfl; rfl; rfl) | (apply w_cd; rfl; rfl; apply Called.at (h := hEa trivial); ((focus ((repeat (first | exact Rep.here | apply Rep.there)); done))); ((exact kmf))) | (apply w_cq; rfl; rfl; exact rCheck_ok _ l _ (by assumption) srf) | (apply w_cp; rfl; rfl; exact awake_ok) | (apply w_cq; rfl; rfl; exact Cost_ok v l _ (by (focus ((repeat (first | assumption | apply PrIn.there)); done)))) | refine spl ?_ ?_ | intro hc)
          apply w_cl
          rfl; rfl; exact Listed_ok v l _ (by (focus ((repeat (first | assumption | apply PrIn.there)); done))) (by omega)
          (obtain ⟨z, hz⟩ := IsSl.any (N := (listed l).length) (by have := listed_len l; omega); exact ⟨_, _, z, rfl, hz, rfl⟩)
          rintro _ _ ⟨vl, rfl, hvl, rfl⟩
          refine ⟨by (exact kmf), ?_⟩
          have hSp : ∀ R, Called Try.prog 9 [ptr p, int 0] (tbl p (endT l) :: R) (is (.tuple #[int 0, int 0]) (tbl p (rT l (freshP l ⟨0, 0, 0⟩)) :: R)) := fun R => Spawn_ok p (endT l) 0 R
          have hRe : ∀ R, Called Try.prog 26 [ptr p, int 0] (tbl p (rT l (freshP l ⟨0, 0, 0⟩)) :: R) (is (.tuple #[int (costM l).1, int (costM l).2]) (tbl p (rT l (freshP l ⟨0, 0, 0⟩)) :: R)) := fun R => by
            have := Rest_ok p (rT l (freshP l ⟨0, 0, 0⟩)) 0 R
            rwa [rest_rT h0] at this
          have hce := cost_end h0
          generalize (costM l).1 = ca at *
          generalize (costM l).2 = cb at *
          (repeat' first | refine stp ?_ | intro v' hv' | intro (b : Nat) | (apply w_maxE; rfl; rfl; rfl; exact hmx) | (apply w_convU; rfl; rfl; omega; omega) | (apply w_convI; rfl; rfl; omega; omega) | (apply w_quoU; rfl; rfl; rfl; omega; omega; omega) | (apply w_remU; rfl; rfl; rfl; omega; omega) | (apply w_minL; rfl; rfl; rfl; omega) | (apply w_minG; rfl; rfl; rfl; omega) | (apply w_min; rfl; rfl; rfl) | (apply w_mfR; rfl; rfl) | (apply w_cvp; rfl; rfl; exact inferInstance; rfl; rfl; assumption) | (apply w_eqS2T; rfl; rfl; rfl; omega) | (apply w_eqS2F; rfl; rfl; rfl; omega) | (apply w_neS2T; rfl; rfl; rfl; omega) | (apply w_neS2F; rfl; rfl; rfl; omega) | (apply w_eqS3T; rfl; rfl; rfl; omega) | (apply w_eqS3F; rfl; rfl; rfl; omega) | (apply w_neS3T; rfl; rfl; rfl; omega) | (apply w_neS3F; rfl; rfl; rfl; omega) | (apply w_eqS3; rfl; rfl; rfl) | (apply w_neS3; rfl; rfl; rfl) | (apply w_eqS2; rfl; rfl; rfl) | (apply w_neS2; rfl; rfl; rfl) | (apply w_maxL; rfl; rfl; rfl; omega) | (apply w_maxG; rfl; rfl; rfl; omega) | (apply w_max; rfl; rfl; rfl) | (apply w_neB; rfl; rfl; rfl; rfl) | (apply w_eqB; rfl; rfl; rfl; rfl) | (apply w_cd; rfl; rfl; apply Called.at (h := hEa trivial); ((focus ((repeat (first | exact Rep.here | apply Rep.there)); done))); ((exact kmf))) | (apply w_cq; rfl; rfl; exact rCheck_ok _ l _ (by assumption) srf) | (apply w_cp; rfl; rfl; exact awake_ok) | (apply w_cq; rfl; rfl; exact Cost_ok v l _ (by (focus ((repeat (first | assumption | apply PrIn.there)); done)))) | refine spl ?_ ?_ | intro hc)
          obtain ⟨h64, hm⟩ := progE_may h0
          have hll := listed_len l
          have hsb : ∀ i, 0 ≤ sumC ((listed l).take i) ∧ sumC ((listed l).take i) ≤ 64 * 1099511627776 := fun i => by
            have := cost_fold_bounds (l := (listed l).take i) (fun y hy => hm y (listed_mem (List.mem_of_mem_take hy))) 0 (Int.le_refl _)
            have hle : ((listed l).take i).length ≤ 64 := by rw [List.length_take]; omega
            unfold sumC
            omega
          refine C_loopK (α := Nat × Nat × Tm × Int) [4, 15, 16, 17, 18, 19, 20, 21, 22, 23, 24, 25, 95, 96, 97, 98, 99, 100, 101, 102, 103, 104, 105, 106, 107, 108, 109, 110, 111, 112, 113, 114, 115, 116, 117, 118, 119, 120, 121, 122, 123, 124, 125, 126, 127, 128, 129, 130, 131, 132, 133, 134, 135, 136, 137, 138, 139, 140, 141, 142, 143, 144, 145, 146, 147, 148, 149, 150, 151, 152, 153, 154, 155, 156, 157, 158, 159, 160, 161, 162, 163, 164, 165, 166, 167, 168, 169, 170, 171, 172, 173, 174, 175, 176, 177, 178, 179, 180, 181, 182, 183, 184, 185, 186, 187, 188, 189, 190, 191, 192, 193, 194, 195, 196, 197, 198, 199, 200, 201, 202, 203, 204, 205, 206, 207, 208, 209, 210, 211, 212, 213, 214, 215, 216, 217, 218, 219, 220, 221, 222, 223, 224] (fun x => 3000 - x.1) (fun x => [(17, int x.1), (16, int x.2.1), (15, int x.2.2.2)]) (fun x => tbl p (rT l x.2.2.1) :: sl 28 2 vl ((listed l).map insE) :: R) (fun x => RInv l x.1 x.2.1 x.2.2.1 x.2.2.2) (0, 0, freshP l ⟨0, 0, 0⟩, 0) (RInv.fresh (t := ⟨0, 0, 0⟩) (next := 0) hm rfl rfl (Nat.zero_le _) (fun _ h => absurd h (by simp)) (by omega) rfl) (by (focus ((repeat (first | exact Keep.nil | apply Keep.drop rfl | apply Keep.keep rfl)); done))) (by (exact sbf)) (by (exact frm)) ?_
          rintro ⟨k, next, t, sum⟩ hI
          dsimp only [List.cons_append, List.nil_append] at *
          have hle := hI.le
          have hk501 := hI.k
          have hAc : ∀ R, Called Try.prog 14 [ptr p, int 0] (tbl p (rT l t) :: R) (is (.tuple #[.agg #[int (actP l t).1, int (actP l t).2], int 0]) (tbl p (rT l t) :: R)) := fun R => by
            have := Act_ok p (rT l t) 0 R
            rwa [rT_act hI.pr] at this
          have hEa : True → ∀ R, Called Try.prog 14 [ptr p, int 0] (tbl p (endT l) :: R) (is (.tuple #[.agg #[int 0, int 0], int 14]) (tbl p (endT l) :: R)) := fun _ R => Act_ok p (endT l) 0 R
          have hEm : ∀ R, Called Try.prog 13 [ptr p] (tbl p (endT l) :: R) (is (int 0) (tbl p (endT l) :: R)) := fun R => by
            have := Many_ok p (endT l) (by rw [endT_many]; omega) R
            rwa [endT_many] at this
          rcases hI.act with ⟨x, hx, ha⟩ | ⟨he, ha⟩
          · have hlt : next < (listed l).length := (List.getElem?_eq_some_iff.1 hx).1
            have hra : RdAll (sl 28 2 vl ((listed l).map insE) :: R) (vb vl) (vo vl + next * 2) (insE x) := RdAll.sl (by rw [List.getElem?_map, hx]; rfl)
            have hn := may_n (hm x (List.mem_of_getElem? (listed_get hx)))
            have hcur := hI.comp x hx
            have hoth := hI.other x hx
            have hsb1 := hsb next
            obtain ⟨op, nn⟩ := x
            dsimp only at *
            unfold insE at hra
            dsimp only at hra
            by_cases h1 : op = 1
            · subst h1
              clear hEa hEm
              rw [if_pos rfl] at ha
              obtain ⟨c1, c2, c3⟩ := hcur rfl
              rw [ha] at hAc
              dsimp only at hAc
              clear hcur hoth hra
              have hra : RdAll (sl 28 2 vl ((listed l).map insE) :: R) (vb vl) (vo vl + next * 2) [int 1, int nn] := RdAll.sl (by rw [List.getElem?_map, hx]; rfl)
              have hmt : ((k : Nat) : Int).tmod (ks.length : Int) = ((k % ks.length : Nat) : Int) := by rw [← Int.ofNat_tmod]
              have hjl : k % ks.length < ks.length := Nat.mod_lt _ (by omega)
              have hm0 : 0 ≤ ((k : Nat) : Int).tmod (ks.length : Int) := by rw [hmt]; omega
              have hm1 : ((k : Nat) : Int).tmod (ks.length : Int) < (ks.length : Int) := by rw [hmt]; omega
              have hrk : Rd R ⟨vb v1, vo v1 + (((k : Nat) : Int).tmod (ks.length : Int)).toNat * 1, none⟩ (int ks[k % ks.length]) := by
                have := Rd.src hz.src (i := k % ks.length) (k := 0) (e := [int ks[k % ks.length]]) (u := int ks[k % ks.length]) (by simp [hjl]) rfl
                rw [hmt, Int.toNat_natCast]; exact this
              have hkv := hz.each _ (List.getElem_mem hjl)
              clear hmt
              generalize ks[k % ks.length] = kv at *
              have hkv1 := hkv.1
              have hkv2 := hkv.2
              have hcost : costN (sumC ((listed l).take next)) ⟨1, nn⟩ = sumC ((listed l).take next) + nn := if_pos rfl
              have full : ∀ k', k' ≤ 501 + (next + 1) → RInv l k' (next + 1) (nextP l { t with left := t.left - t.left }) (sum + t.left) := fun k' hk' => hI.next hm hx (by show (1 : Int) ≠ 9; decide) (t2 := { t with left := t.left - t.left }) hI.pr hI.at' hk' (by rw [hcost]; omega)
              have hran : ranP l t t.left = nextP l { t with left := t.left - t.left } := by unfold ranP; rw [if_pos (by omega)]
              have hrun : ∀ m : Int, 0 ≤ m → W64 m → ∀ R, Called Try.prog 10 [ptr p, int 0, int m] (tbl p (rT l t) :: R) (is (.tuple #[int (if t.left < m then ((t.left, 0), rT l (ranP l t t.left)) else ((m, 0), rT l (ranP l t m)) : (Int × Int) × Tab).1.1, int (if t.left < m then ((t.left, 0), rT l (ranP l t t.left)) else ((m, 0), rT l (ranP l t m)) : (Int × Int) × Tab).1.2]) (tbl p (if t.left < m then ((t.left, 0), rT l (ranP l t t.left)) else ((m, 0), rT l (ranP l t m)) : (Int × Int) × Tab).2 :: R)) := fun m hm0 hmw R => by
                have := Run_ok p (rT l t) 0 m hmw R
                rwa [run_rT hI.pr (by rw [ha]) hm0] at this
              by_cases hk5 : 500 < k
              · have hRu := hrun t.left (by omega) (by unfold W64; omega)
                rw [if_neg (by omega), hran] at hRu
                dsimp only at hRu
                clear hrun
                have hI2 := full (k + 1) (by omega)
                (repeat' first | refine stp ?_ | intro v' hv' | intro (b : Nat) | (apply w_maxE; rfl; rfl; rfl; exact hmx) | (apply w_convU; rfl; rfl; omega; omega) | (apply w_convI; rfl; rfl; omega; omega) | (apply w_quoU; rfl; rfl; rfl; omega; omega; omega) | (apply w_remU; rfl; rfl; rfl; omega; omega) | (apply w_minL; rfl; rfl; rfl; omega) | (apply w_minG; rfl; rfl; rfl; omega) | (apply w_min; rfl; rfl; rfl) | (apply w_mfR; rfl; rfl) | (apply w_cvp; rfl; rfl; exact inferInstance; rfl; rfl; assumption) | (apply w_eqS2T; rfl; rfl; rfl; omega) | (apply w_eqS2F; rfl; rfl; rfl; omega) | (apply w_neS2T; rfl; rfl; rfl; omega) | (apply w_neS2F; rfl; rfl; rfl; omega) | (apply w_eqS3T; rfl; rfl; rfl; omega) | (apply w_eqS3F; rfl; rfl; rfl; omega) | (apply w_neS3T; rfl; rfl; rfl; omega) | (apply w_neS3F; rfl; rfl; rfl; omega) | (apply w_eqS3; rfl; rfl; rfl) | (apply w_neS3; rfl; rfl; rfl) | (apply w_eqS2; rfl; rfl; rfl) | (apply w_neS2; rfl; rfl; rfl) | (apply w_maxL; rfl; rfl; rfl; omega) | (apply w_maxG; rfl; rfl; rfl; omega) | (apply w_max; rfl; rfl; rfl) | (apply w_neB; rfl; rfl; rfl; rfl) | (apply w_eqB; rfl; rfl; rfl; rfl) | (apply w_cd; rfl; rfl; apply Called.at (h := hEa trivial); ((focus ((repeat (first | exact Rep.here | apply Rep.there)); done))); ((exact kmf))) | (apply w_cq; rfl; rfl; exact rCheck_ok _ l _ (by assumption) srf) | (apply w_cp; rfl; rfl; exact awake_ok) | (apply w_cq; rfl; rfl; exact Cost_ok v l _ (by (focus ((repeat (first | assumption | apply PrIn.there)); done)))) | refine spl ?_ ?_ | intro hc)
                exact At_againK (k + 1, next + 1, _, sum + t.left) hI2 (by show 3000 - (k + 1) < 3000 - k; omega) (by (exact sbf)) (by (exact sbf)) (by (exact frm))
              · obtain ⟨m, hmx, hm1⟩ : ∃ m : Int, (if 1 < kv then kv else 1) = m ∧ 1 ≤ m ∧ m ≤ 9223372036854775807 := ⟨_, rfl, by split <;> omega⟩
                have hRu := hrun m (by omega) (by unfold W64; omega)
                clear hrun
                by_cases hlm : t.left < m
                · rw [if_pos hlm, hran] at hRu
                  dsimp only at hRu
                  have hI2 := full (k + 1) (by omega)
                  (repeat' first | refine stp ?_ | intro v' hv' | intro (b : Nat) | (apply w_maxE; rfl; rfl; rfl; exact hmx) | (apply w_convU; rfl; rfl; omega; omega) | (apply w_convI; rfl; rfl; omega; omega) | (apply w_quoU; rfl; rfl; rfl; omega; omega; omega) | (apply w_remU; rfl; rfl; rfl; omega; omega) | (apply w_minL; rfl; rfl; rfl; omega) | (apply w_minG; rfl; rfl; rfl; omega) | (apply w_min; rfl; rfl; rfl) | (apply w_mfR; rfl; rfl) | (apply w_cvp; rfl; rfl; exact inferInstance; rfl; rfl; assumption) | (apply w_eqS2T; rfl; rfl; rfl; omega) | (apply w_eqS2F; rfl; rfl; rfl; omega) | (apply w_neS2T; rfl; rfl; rfl; omega) | (apply w_neS2F; rfl; rfl; rfl; omega) | (apply w_eqS3T; rfl; rfl; rfl; omega) | (apply w_eqS3F; rfl; rfl; rfl; omega) | (apply w_neS3T; rfl; rfl; rfl; omega) | (apply w_neS3F; rfl; rfl; rfl; omega) | (apply w_eqS3; rfl; rfl; rfl) | (apply w_neS3; rfl; rfl; rfl) | (apply w_eqS2; rfl; rfl; rfl) | (apply w_neS2; rfl; rfl; rfl) | (apply w_maxL; rfl; rfl; rfl; omega) | (apply w_maxG; rfl; rfl; rfl; omega) | (apply w_max; rfl; rfl; rfl) | (apply w_neB; rfl; rfl; rfl; rfl) | (apply w_eqB; rfl; rfl; rfl; rfl) | (apply w_cd; rfl; rfl; apply Called.at (h := hEa trivial); ((focus ((repeat (first | exact Rep.here | apply Rep.there)); done))); ((exact kmf))) | (apply w_cq; rfl; rfl; exact rCheck_ok _ l _ (by assumption) srf) | (apply w_cp; rfl; rfl; exact awake_ok) | (apply w_cq; rfl; rfl; exact Cost_ok v l _ (by (focus ((repeat (first | assumption | apply PrIn.there)); done)))) | refine spl ?_ ?_ | intro hc)
                  exact At_againK (k + 1, next + 1, _, sum + t.left) hI2 (by show 3000 - (k + 1) < 3000 - k; omega) (by (exact sbf)) (by (exact sbf)) (by (exact frm))
                · rw [if_neg hlm] at hRu
                  by_cases hem : t.left = m
                  · subst hem
                    rw [hran] at hRu
                    dsimp only at hRu
                    have hI2 := full (k + 1) (by omega)
                    (repeat' first | refine stp ?_ | intro v' hv' | intro (b : Nat) | (apply w_maxE; rfl; rfl; rfl; exact hmx) | (apply w_convU; rfl; rfl; omega; omega) | (apply w_convI; rfl; rfl; omega; omega) | (apply w_quoU; rfl; rfl; rfl; omega; omega; omega) | (apply w_remU; rfl; rfl; rfl; omega; omega) | (apply w_minL; rfl; rfl; rfl; omega) | (apply w_minG; rfl; rfl; rfl; omega) | (apply w_min; rfl; rfl; rfl) | (apply w_mfR; rfl; rfl) | (apply w_cvp; rfl; rfl; exact inferInstance; rfl; rfl; assumption) | (apply w_eqS2T; rfl; rfl; rfl; omega) | (apply w_eqS2F; rfl; rfl; rfl; omega) | (apply w_neS2T; rfl; rfl; rfl; omega) | (apply w_neS2F; rfl; rfl; rfl; omega) | (apply w_eqS3T; rfl; rfl; rfl; omega) | (apply w_eqS3F; rfl; rfl; rfl; omega) | (apply w_neS3T; rfl; rfl; rfl; omega) | (apply w_neS3F; rfl; rfl; rfl; omega) | (apply w_eqS3; rfl; rfl; rfl) | (apply w_neS3; rfl; rfl; rfl) | (apply w_eqS2; rfl; rfl; rfl) | (apply w_neS2; rfl; rfl; rfl) | (apply w_maxL; rfl; rfl; rfl; omega) | (apply w_maxG; rfl; rfl; rfl; omega) | (apply w_max; rfl; rfl; rfl) | (apply w_neB; rfl; rfl; rfl; rfl) | (apply w_eqB; rfl; rfl; rfl; rfl) | (apply w_cd; rfl; rfl; apply Called.at (h := hEa trivial); ((focus ((repeat (first | exact Rep.here | apply Rep.there)); done))); ((exact kmf))) | (apply w_cq; rfl; rfl; exact rCheck_ok _ l _ (by assumption) srf) | (apply w_cp; rfl; rfl; exact awake_ok) | (apply w_cq; rfl; rfl; exact Cost_ok v l _ (by (focus ((repeat (first | assumption | apply PrIn.there)); done)))) | refine spl ?_ ?_ | intro hc)
                    exact At_againK (k + 1, next + 1, _, sum + t.left) hI2 (by show 3000 - (k + 1) < 3000 - k; omega) (by (exact sbf)) (by (exact sbf)) (by (exact frm))
                  · have hr2 : ranP l t m = { t with left := t.left - m } := by unfold ranP; rw [if_neg (by omega)]
                    rw [hr2] at hRu
                    dsimp only at hRu
                    have hI2 : RInv l (k + 1) next { t with left := t.left - m } (sum + m) := {
                      pr := hI.pr
                      at' := hI.at'
                      le := hI.le
                      noex := hI.noex
                      comp := fun y hy _ => by
                        rw [hx] at hy; cases hy
                        show 1 ≤ t.left - m ∧ t.left - m ≤ nn ∧ sum + m = sumC ((listed l).take next) + (nn - (t.left - m))
                        omega
                      other := fun y hy ho => by rw [hx] at hy; cases hy; exact absurd rfl ho
                      done := fun h => by omega
                      k := by omega }
                    (repeat' first | refine stp ?_ | intro v' hv' | intro (b : Nat) | (apply w_maxE; rfl; rfl; rfl; exact hmx) | (apply w_convU; rfl; rfl; omega; omega) | (apply w_convI; rfl; rfl; omega; omega) | (apply w_quoU; rfl; rfl; rfl; omega; omega; omega) | (apply w_remU; rfl; rfl; rfl; omega; omega) | (apply w_minL; rfl; rfl; rfl; omega) | (apply w_minG; rfl; rfl; rfl; omega) | (apply w_min; rfl; rfl; rfl) | (apply w_mfR; rfl; rfl) | (apply w_cvp; rfl; rfl; exact inferInstance; rfl; rfl; assumption) | (apply w_eqS2T; rfl; rfl; rfl; omega) | (apply w_eqS2F; rfl; rfl; rfl; omega) | (apply w_neS2T; rfl; rfl; rfl; omega) | (apply w_neS2F; rfl; rfl; rfl; omega) | (apply w_eqS3T; rfl; rfl; rfl; omega) | (apply w_eqS3F; rfl; rfl; rfl; omega) | (apply w_neS3T; rfl; rfl; rfl; omega) | (apply w_neS3F; rfl; rfl; rfl; omega) | (apply w_eqS3; rfl; rfl; rfl) | (apply w_neS3; rfl; rfl; rfl) | (apply w_eqS2; rfl; rfl; rfl) | (apply w_neS2; rfl; rfl; rfl) | (apply w_maxL; rfl; rfl; rfl; omega) | (apply w_maxG; rfl; rfl; rfl; omega) | (apply w_max; rfl; rfl; rfl) | (apply w_neB; rfl; rfl; rfl; rfl) | (apply w_eqB; rfl; rfl; rfl; rfl) | (apply w_cd; rfl; rfl; apply Called.at (h := hEa trivial); ((focus ((repeat (first | exact Rep.here | apply Rep.there)); done))); ((exact kmf))) | (apply w_cq; rfl; rfl; exact rCheck_ok _ l _ (by assumption) srf) | (apply w_cp; rfl; rfl; exact awake_ok) | (apply w_cq; rfl; rfl; exact Cost_ok v l _ (by (focus ((repeat (first | assumption | apply PrIn.there)); done)))) | refine spl ?_ ?_ | intro hc)
                    exact At_againK (k + 1, next, _, sum + m) hI2 (by show 3000 - (k + 1) < 3000 - k; omega) (by (exact sbf)) (by (exact sbf)) (by (exact frm))
            · rw [if_neg h1] at ha
              have hso := hoth h1
              rw [ha] at hAc
              dsimp only at hAc
              by_cases h9 : op = 9
              · have hend := listed_exit hx h9
                have hDo : ∀ R, Called Try.prog 19 [ptr p, int 0] (tbl p (rT l t) :: R) (is (int 0) (tbl p (endT l) :: R)) := fun R => by
                  have := Done_ok p (rT l t) 0 R
                  rw [done_rT hI.pr (by rw [ha]; exact h1), if_pos (by rw [ha]; exact h9)] at this
                  exact this
                have hsum : sum = sumC (listed l) := by
                  have := sumC_take hx
                  rw [hend, List.take_length] at this
                  rw [this, hso]; unfold costN; rw [if_neg h1]
                clear hcur hoth
                (repeat' first | refine stp ?_ | intro v' hv' | intro (b : Nat) | (apply w_maxE; rfl; rfl; rfl; exact hmx) | (apply w_convU; rfl; rfl; omega; omega) | (apply w_convI; rfl; rfl; omega; omega) | (apply w_quoU; rfl; rfl; rfl; omega; omega; omega) | (apply w_remU; rfl; rfl; rfl; omega; omega) | (apply w_minL; rfl; rfl; rfl; omega) | (apply w_minG; rfl; rfl; rfl; omega) | (apply w_min; rfl; rfl; rfl) | (apply w_mfR; rfl; rfl) | (apply w_cvp; rfl; rfl; exact inferInstance; rfl; rfl; assumption) | (apply w_eqS2T; rfl; rfl; rfl; omega) | (apply w_eqS2F; rfl; rfl; rfl; omega) | (apply w_neS2T; rfl; rfl; rfl; omega) | (apply w_neS2F; rfl; rfl; rfl; omega) | (apply w_eqS3T; rfl; rfl; rfl; omega) | (apply w_eqS3F; rfl; rfl; rfl; omega) | (apply w_neS3T; rfl; rfl; rfl; omega) | (apply w_neS3F; rfl; rfl; rfl; omega) | (apply w_eqS3; rfl; rfl; rfl) | (apply w_neS3; rfl; rfl; rfl) | (apply w_eqS2; rfl; rfl; rfl) | (apply w_neS2; rfl; rfl; rfl) | (apply w_maxL; rfl; rfl; rfl; omega) | (apply w_maxG; rfl; rfl; rfl; omega) | (apply w_max; rfl; rfl; rfl) | (apply w_neB; rfl; rfl; rfl; rfl) | (apply w_eqB; rfl; rfl; rfl; rfl) | (apply w_cd; rfl; rfl; apply Called.at (h := hEa trivial); ((focus ((repeat (first | exact Rep.here | apply Rep.there)); done))); ((exact kmf))) | (apply w_cq; rfl; rfl; exact rCheck_ok _ l _ (by assumption) srf) | (apply w_cp; rfl; rfl; exact awake_ok) | (apply w_cq; rfl; rfl; exact Cost_ok v l _ (by (focus ((repeat (first | assumption | apply PrIn.there)); done)))) | refine spl ?_ ?_ | intro hc)
                all_goals first | (exfalso; omega) | skip
                all_goals (refine At_ret1 (by (first | exact .inl rfl | exact .inr rfl)) Try.results6 rfl ⟨by rfl, rfl⟩ (by (exact frm)))
              · have hDo : ∀ R, Called Try.prog 19 [ptr p, int 0] (tbl p (rT l t) :: R) (is (int 0) (tbl p (rT l (nextP l t)) :: R)) := fun R => by
                  have := Done_ok p (rT l t) 0 R
                  rw [done_rT hI.pr (by rw [ha]; exact h1), if_neg (by rw [ha]; exact h9)] at this
                  exact this
                have hI2 := hI.next hm hx h9 (t2 := t) hI.pr hI.at' (k' := k + 1) (s' := sum) (by omega) (by unfold costN; rw [if_neg h1]; exact hso)
                clear hcur hoth
                (repeat' first | refine stp ?_ | intro v' hv' | intro (b : Nat) | (apply w_maxE; rfl; rfl; rfl; exact hmx) | (apply w_convU; rfl; rfl; omega; omega) | (apply w_convI; rfl; rfl; omega; omega) | (apply w_quoU; rfl; rfl; rfl; omega; omega; omega) | (apply w_remU; rfl; rfl; rfl; omega; omega) | (apply w_minL; rfl; rfl; rfl; omega) | (apply w_minG; rfl; rfl; rfl; omega) | (apply w_min; rfl; rfl; rfl) | (apply w_mfR; rfl; rfl) | (apply w_cvp; rfl; rfl; exact inferInstance; rfl; rfl; assumption) | (apply w_eqS2T; rfl; rfl; rfl; omega) | (apply w_eqS2F; rfl; rfl; rfl; omega) | (apply w_neS2T; rfl; rfl; rfl; omega) | (apply w_neS2F; rfl; rfl; rfl; omega) | (apply w_eqS3T; rfl; rfl; rfl; omega) | (apply w_eqS3F; rfl; rfl; rfl; omega) | (apply w_neS3T; rfl; rfl; rfl; omega) | (apply w_neS3F; rfl; rfl; rfl; omega) | (apply w_eqS3; rfl; rfl; rfl) | (apply w_neS3; rfl; rfl; rfl) | (apply w_eqS2; rfl; rfl; rfl) | (apply w_neS2; rfl; rfl; rfl) | (apply w_maxL; rfl; rfl; rfl; omega) | (apply w_maxG; rfl; rfl; rfl; omega) | (apply w_max; rfl; rfl; rfl) | (apply w_neB; rfl; rfl; rfl; rfl) | (apply w_eqB; rfl; rfl; rfl; rfl) | (apply w_cd; rfl; rfl; apply Called.at (h := hEa trivial); ((focus ((repeat (first | exact Rep.here | apply Rep.there)); done))); ((exact kmf))) | (apply w_cq; rfl; rfl; exact rCheck_ok _ l _ (by assumption) srf) | (apply w_cp; rfl; rfl; exact awake_ok) | (apply w_cq; rfl; rfl; exact Cost_ok v l _ (by (focus ((repeat (first | assumption | apply PrIn.there)); done)))) | refine spl ?_ ?_ | intro hc)
                exact At_againK (k + 1, next + 1, nextP l t, sum) hI2 (by show 3000 - (k + 1) < 3000 - k; omega) (by (exact sbf)) (by (exact sbf)) (by (exact frm))
          · have hsum := hI.done he.symm
            rw [ha] at hAc
            dsimp only at hAc
            have hDo : ∀ R, Called Try.prog 19 [ptr p, int 0] (tbl p (rT l t) :: R) (is (int 0) (tbl p (endT l) :: R)) := fun R => by
              have := Done_ok p (rT l t) 0 R
              rw [done_rT hI.pr (by rw [ha]; decide), if_pos (by rw [ha])] at this
              exact this
            (repeat' first | refine stp ?_ | intro v' hv' | intro (b : Nat) | (apply w_maxE; rfl; rfl; rfl; exact hmx) | (apply w_convU; rfl; rfl; omega; omega) | (apply w_convI; rfl; rfl; omega; omega) | (apply w_quoU; rfl; rfl; rfl; omega; omega; omega) | (apply w_remU; rfl; rfl; rfl; omega; omega) | (apply w_minL; rfl; rfl; rfl; omega) | (apply w_minG; rfl; rfl; rfl; omega) | (apply w_min; rfl; rfl; rfl) | (apply w_mfR; rfl; rfl) | (apply w_cvp; rfl; rfl; exact inferInstance; rfl; rfl; assumption) | (apply w_eqS2T; rfl; rfl; rfl; omega) | (apply w_eqS2F; rfl; rfl; rfl; omega) | (apply w_neS2T; rfl; rfl; rfl; omega) | (apply w_neS2F; rfl; rfl; rfl; omega) | (apply w_eqS3T; rfl; rfl; rfl; omega) | (apply w_eqS3F; rfl; rfl; rfl; omega) | (apply w_neS3T; rfl; rfl; rfl; omega) | (apply w_neS3F; rfl; rfl; rfl; omega) | (apply w_eqS3; rfl; rfl; rfl) | (apply w_neS3; rfl; rfl; rfl) | (apply w_eqS2; rfl; rfl; rfl) | (apply w_neS2; rfl; rfl; rfl) | (apply w_maxL; rfl; rfl; rfl; omega) | (apply w_maxG; rfl; rfl; rfl; omega) | (apply w_max; rfl; rfl; rfl) | (apply w_neB; rfl; rfl; rfl; rfl) | (apply w_eqB; rfl; rfl; rfl; rfl) | (apply w_cd; rfl; rfl; apply Called.at (h := hEa trivial); ((focus ((repeat (first | exact Rep.here | apply Rep.there)); done))); ((exact kmf))) | (apply w_cq; rfl; rfl; exact rCheck_ok _ l _ (by assumption) srf) | (apply w_cp; rfl; rfl; exact awake_ok) | (apply w_cq; rfl; rfl; exact Cost_ok v l _ (by (focus ((repeat (first | assumption | apply PrIn.there)); done)))) | refine spl ?_ ?_ | intro hc)
            all_goals first | (exfalso; omega) | skip
            all_goals (refine At_ret1 (by (first | exact .inl rfl | exact .inr rfl)) Try.results6 rfl ⟨by rfl, rfl⟩ (by (exact frm)))
    · (repeat' first | refine stp ?_ | intro v' hv' | intro (b : Nat) | (apply w_maxE; rfl; rfl; rfl; exact hmx) | (apply w_convU; rfl; rfl; omega; omega) | (apply w_convI; rfl; rfl; omega; omega) | (apply w_quoU; rfl; rfl; rfl; omega; omega; omega) | (apply w_remU; rfl; rfl; rfl; omega; omega) | (apply w_minL; rfl; rfl; rfl; omega) | (apply w_minG; rfl; rfl; rfl; omega) | (apply w_min; rfl; rfl; rfl) | (apply w_mfR; rfl; rfl) | (apply w_cvp; rfl; rfl; exact inferInstance; rfl; rfl; assumption) | (apply w_eqS2T; rfl; rfl; rfl; omega) | (apply w_eqS2F; rfl; rfl; rfl; omega) | (apply w_neS2T; rfl; rfl; rfl; omega) | (apply w_neS2F; rfl; rfl; rfl; omega) | (apply w_eqS3T; rfl; rfl; rfl; omega) | (apply w_eqS3F; rfl; rfl; rfl; omega) | (apply w_neS3T; rfl; rfl; rfl; omega) | (apply w_neS3F; rfl; rfl; rfl; omega) | (apply w_eqS3; rfl; rfl; rfl) | (apply w_neS3; rfl; rfl; rfl) | (apply w_eqS2; rfl; rfl; rfl) | (apply w_neS2; rfl; rfl; rfl) | (apply w_maxL; rfl; rfl; rfl; omega) | (apply w_maxG; rfl; rfl; rfl; omega) | (apply w_max; rfl; rfl; rfl) | (apply w_neB; rfl; rfl; rfl; rfl) | (apply w_eqB; rfl; rfl; rfl; rfl) | (apply w_cd; rfl; rfl; apply Called.at (h := hEa trivial); ((focus ((repeat (first | exact Rep.here | apply Rep.there)); done))); ((exact kmf))) | (apply w_cq; rfl; rfl; exact rCheck_ok _ l _ (by assumption) srf) | (apply w_cp; rfl; rfl; exact awake_ok) | (apply w_cq; rfl; rfl; exact Cost_ok v l _ (by (focus ((repeat (first | assumption | apply PrIn.there)); done)))) | refine spl ?_ ?_ | intro hc)
      all_goals (refine At_ret1 (by (first | exact .inl rfl | exact .inr rfl)) Try.results6 rfl ⟨by rfl, rfl⟩ (by (exact frm)))
end Go.Proofs.Ytmkbijjmipppaaa
