/- prog: Holds. Conditions: none. -/
import Derived.Test.YtelmljbblklblaaDoorPrM
set_option linter.all false
set_option linter.deprecated false
namespace Go.Proofs.YtelmljbblklblaaDoor
open Go.Sep
variable [B0 : Base]
def holdsP (l : List Ins) (R : List HP) (u : Value) (M : List HP) : Prop := ∃ us, RowsOk us (holdsM l) ∧ IsSl u us.length ∧ (holdsM l).length ≤ 100 ∧ M = sl 50 1 u (us.map uE) :: rowsH us (holdsM l) :: R
set_option maxHeartbeats 4000000 in
theorem Holds_ok (v : Value) (l : List Ins) (R : List HP) (hP : PrIn R v l) : Called Tryd.prog 24 [v] R (holdsP l R) := by
  have hC := Check_ok v l R hP.isl hP.src
  unfold holdsP holdsM
  by_cases h0 : progE l = 0
  · simp only [if_neg (show ¬ progE l ≠ 0 by simpa using h0)]
    rw [h0] at hC
    obtain ⟨h64, hm⟩ := progE_may h0
    refine FnM1 Tryd.func24 rfl Tryd.ntmps24 rfl ?_
    (repeat' first | refine stp ?_ | intro v' hv' | intro (b : Nat) | (apply w_convU; rfl; rfl; omega; omega) | (apply w_convI; rfl; rfl; omega; omega) | (apply w_quoU; rfl; rfl; rfl; omega; omega; omega) | (apply w_remU; rfl; rfl; rfl; omega; omega) | (apply w_minL; rfl; rfl; rfl; omega) | (apply w_minG; rfl; rfl; rfl; omega) | (apply w_min; rfl; rfl; rfl) | (apply w_mfR; rfl; rfl) | (apply w_cvp; rfl; rfl; exact inferInstance; rfl; rfl; assumption) | (apply w_eqS2T; rfl; rfl; rfl; omega) | (apply w_eqS2F; rfl; rfl; rfl; omega) | (apply w_neS2T; rfl; rfl; rfl; omega) | (apply w_neS2F; rfl; rfl; rfl; omega) | (apply w_eqS3T; rfl; rfl; rfl; omega) | (apply w_eqS3F; rfl; rfl; rfl; omega) | (apply w_neS3T; rfl; rfl; rfl; omega) | (apply w_neS3F; rfl; rfl; rfl; omega) | (apply w_eqS3; rfl; rfl; rfl) | (apply w_neS3; rfl; rfl; rfl) | (apply w_eqS2; rfl; rfl; rfl) | (apply w_neS2; rfl; rfl; rfl) | (apply w_maxL; rfl; rfl; rfl; omega) | (apply w_maxG; rfl; rfl; rfl; omega) | (apply w_max; rfl; rfl; rfl) | (apply w_neB; rfl; rfl; rfl; rfl) | (apply w_eqB; rfl; rfl; rfl; rfl) | (apply w_cq; rfl; rfl; exact hC) | (apply w_cl; rfl; rfl; exact All_ok _ _ hP.isl.one; exact ⟨_, _, 0, rfl, rfl⟩; rintro _ _ ⟨bt, rfl, rfl⟩; refine ⟨by (exact kmf), ?_⟩) | (apply w_clM; rfl; rfl; exact hTu; (first | omega | (simp; omega) | simp); intro v' hv'; refine ⟨by (exact kmf), ?_⟩) | refine spl ?_ ?_ | intro hc)
    rename_i bo
    obtain ⟨bh, hbh⟩ : ∃ r, r = b := ⟨_, rfl⟩
    subst hbh
    refine C_sat (L' := alH bt v R :: hoH bo bh ([], []) :: []) (fun w hs => ?_) ?_
    · have h1 : Sat w (pt bh 50 [.slice none 0 0] :: pt bt 22 [v] :: pt bo 47 [.slice none 0 0] :: R) := hs.perm (.swap ..)
      have h2 : Sat w (heldH bh [] :: pt bt 22 [v] :: pt bo 47 [.slice none 0 0] :: R) := heldH_empty h1
      have h2' : Sat w (pt bo 47 [.slice none 0 0] :: heldH bh [] :: pt bt 22 [v] :: R) := Sel.sat (by (focus ((repeat (first | exact Sel.refl | (apply Sel.cons; (focus ((repeat (first | exact Del.here | apply Del.there)); done))) | refine Sel.drop ?_)); done))) h2
      have h2'' : Sat w ([outH bo [], heldH bh [], pt bt 22 [v]] ++ R) := outH_empty h2'
      have h3 : Sat w (all R :: [outH bo [], heldH bh [], pt bt 22 [v]]) := Sat.all_iff.2 (h2''.perm List.perm_append_comm)
      unfold alH hoH
      refine Sat.all_iff.2 ?_
      have h4 : Sat w (all [outH bo [], heldH bh []] :: pt bt 22 [v] :: all R :: []) := Sat.all_iff.2 (Sel.sat (by (focus ((repeat (first | exact Sel.refl | (apply Sel.cons; (focus ((repeat (first | exact Del.here | apply Del.there)); done))) | refine Sel.drop ?_)); done))) h3)
      exact h4.perm (List.perm_append_comm (l₁ := [all [outH bo [], heldH bh []]]) (l₂ := [pt bt 22 [v], all R]))
    refine C_rangeE (A := hoH bo bh) (s0 := ([], [])) (step := hoStep) (dom := hoDom) rfl (All1_ok bt v l R hP) rfl (fun s xs hd => by obtain ⟨i, x, rfl, -⟩ := hd; rfl) Sel.refl ?_ (ho_goes (l := l) h64) fun r => ?_
    · rintro lb r ⟨out, h⟩ xs J ⟨i, ⟨op, n⟩, rfl, hlen, hso, hol⟩
      dsimp only at hlen hso hol
      apply Exists.intro
      refine ⟨fun b => pt b 27 [int op, int n], fun Q r' hQ => ?_, fun b => ?_⟩
      · simp only [parF]
        (repeat' first | refine stp ?_ | intro v' hv' | intro (b : Nat) | (apply w_convU; rfl; rfl; omega; omega) | (apply w_convI; rfl; rfl; omega; omega) | (apply w_quoU; rfl; rfl; rfl; omega; omega; omega) | (apply w_remU; rfl; rfl; rfl; omega; omega) | (apply w_minL; rfl; rfl; rfl; omega) | (apply w_minG; rfl; rfl; rfl; omega) | (apply w_min; rfl; rfl; rfl) | (apply w_mfR; rfl; rfl) | (apply w_cvp; rfl; rfl; exact inferInstance; rfl; rfl; assumption) | (apply w_eqS2T; rfl; rfl; rfl; omega) | (apply w_eqS2F; rfl; rfl; rfl; omega) | (apply w_neS2T; rfl; rfl; rfl; omega) | (apply w_neS2F; rfl; rfl; rfl; omega) | (apply w_eqS3T; rfl; rfl; rfl; omega) | (apply w_eqS3F; rfl; rfl; rfl; omega) | (apply w_neS3T; rfl; rfl; rfl; omega) | (apply w_neS3F; rfl; rfl; rfl; omega) | (apply w_eqS3; rfl; rfl; rfl) | (apply w_neS3; rfl; rfl; rfl) | (apply w_eqS2; rfl; rfl; rfl) | (apply w_neS2; rfl; rfl; rfl) | (apply w_maxL; rfl; rfl; rfl; omega) | (apply w_maxG; rfl; rfl; rfl; omega) | (apply w_max; rfl; rfl; rfl) | (apply w_neB; rfl; rfl; rfl; rfl) | (apply w_eqB; rfl; rfl; rfl; rfl) | (apply w_cq; rfl; rfl; exact hC) | (apply w_cl; rfl; rfl; exact All_ok _ _ hP.isl.one; exact ⟨_, _, 0, rfl, rfl⟩; rintro _ _ ⟨bt, rfl, rfl⟩; refine ⟨by (exact kmf), ?_⟩) | (apply w_clM; rfl; rfl; exact hTu; (first | omega | (simp; omega) | simp); intro v' hv'; refine ⟨by (exact kmf), ?_⟩) | refine spl ?_ ?_ | intro hc)
        exact hQ b
      · refine C_block ?_
        show C Tryd.prog _ _ (Exit.inBlock _ (RPost none (hoH bo bh (out ++ [turn h ⟨op, n⟩], turn h ⟨op, n⟩) :: blk lb (.loop r) :: J))) _ _ _ _
        have hTl := turn_len h ⟨op, n⟩
        have hTs := turn_sorted hso ⟨op, n⟩
        refine C_sat (L' := heldH bh h :: outH bo out :: pt b 27 [int op, int n] :: blk lb (.loop r) :: J) (fun w hs => ?_) ?_
        · have h1 : Sat w (hoH bo bh (out, h) :: pt b 27 [int op, int n] :: blk lb (.loop r) :: J) := hs.perm (.swap ..)
          unfold hoH at h1
          exact (Sat.all_iff.1 h1).perm (.swap ..)
        refine C_heldH fun v2 ho1 ho2 hv2 => ?_
        refine C_sat (L' := outH bo out :: pt bh 50 [v2] :: sl 3 1 v2 (h.map iE) :: pt b 27 [int op, int n] :: blk lb (.loop r) :: J) (by (exact frm)) ?_
        refine C_outH fun o us hus hul ho => ?_
        have hlu := hus.len
        have hTu : Called Tryd.prog 40 [v2, .agg #[int op, int n]] (pt bo 47 [o] :: sl 50 1 o (us.map uE) :: rowsH us out :: pt bh 50 [v2] :: sl 3 1 v2 (h.map iE) :: pt b 27 [int op, int n] :: blk lb (.loop r) :: J) (retSl 3 1 ((turn h ⟨op, n⟩).map iE) (pt bo 47 [o] :: sl 50 1 o (us.map uE) :: rowsH us out :: pt bh 50 [v2] :: pt b 27 [int op, int n] :: blk lb (.loop r) :: J)) :=
          (turned_ok v2 h ⟨op, n⟩ (pt bo 47 [o] :: sl 50 1 o (us.map uE) :: rowsH us out :: pt bh 50 [v2] :: pt b 27 [int op, int n] :: blk lb (.loop r) :: J) (by omega) hso).pre (fun w hs => Sel.sat (by (focus ((repeat (first | exact Sel.refl | (apply Sel.cons; (focus ((repeat (first | exact Del.here | apply Del.there)); done))) | refine Sel.drop ?_)); done))) hs)
        generalize ht : turn h ⟨op, n⟩ = t at *
        (repeat' first | refine stp ?_ | intro v' hv' | intro (b : Nat) | (apply w_convU; rfl; rfl; omega; omega) | (apply w_convI; rfl; rfl; omega; omega) | (apply w_quoU; rfl; rfl; rfl; omega; omega; omega) | (apply w_remU; rfl; rfl; rfl; omega; omega) | (apply w_minL; rfl; rfl; rfl; omega) | (apply w_minG; rfl; rfl; rfl; omega) | (apply w_min; rfl; rfl; rfl) | (apply w_mfR; rfl; rfl) | (apply w_cvp; rfl; rfl; exact inferInstance; rfl; rfl; assumption) | (apply w_eqS2T; rfl; rfl; rfl; omega) | (apply w_eqS2F; rfl; rfl; rfl; omega) | (apply w_neS2T; rfl; rfl; rfl; omega) | (apply w_neS2F; rfl; rfl; rfl; omega) | (apply w_eqS3T; rfl; rfl; rfl; omega) | (apply w_eqS3F; rfl; rfl; rfl; omega) | (apply w_neS3T; rfl; rfl; rfl; omega) | (apply w_neS3F; rfl; rfl; rfl; omega) | (apply w_eqS3; rfl; rfl; rfl) | (apply w_neS3; rfl; rfl; rfl) | (apply w_eqS2; rfl; rfl; rfl) | (apply w_neS2; rfl; rfl; rfl) | (apply w_maxL; rfl; rfl; rfl; omega) | (apply w_maxG; rfl; rfl; rfl; omega) | (apply w_max; rfl; rfl; rfl) | (apply w_neB; rfl; rfl; rfl; rfl) | (apply w_eqB; rfl; rfl; rfl; rfl) | (apply w_cq; rfl; rfl; exact hC) | (apply w_cl; rfl; rfl; exact All_ok _ _ hP.isl.one; exact ⟨_, _, 0, rfl, rfl⟩; rintro _ _ ⟨bt, rfl, rfl⟩; refine ⟨by (exact kmf), ?_⟩) | (apply w_clM; rfl; rfl; exact hTu; (first | omega | (simp; omega) | simp); intro v' hv'; refine ⟨by (exact kmf), ?_⟩) | refine spl ?_ ?_ | intro hc)
        obtain ⟨v5, e5⟩ : ∃ r, r = v' := ⟨_, rfl⟩
        subst e5
        have hv5 := hv'
        clear hv'
        apply w_clM; rfl; rfl; exact IClone_ok v5 t _ (InIn.sl hv5) (by omega); (first | omega | (simp; omega) | simp)
        intro u hu
        refine ⟨by (exact kmf), ?_⟩
        (repeat' first | refine stp ?_ | intro v' hv' | intro (b : Nat) | (apply w_convU; rfl; rfl; omega; omega) | (apply w_convI; rfl; rfl; omega; omega) | (apply w_quoU; rfl; rfl; rfl; omega; omega; omega) | (apply w_remU; rfl; rfl; rfl; omega; omega) | (apply w_minL; rfl; rfl; rfl; omega) | (apply w_minG; rfl; rfl; rfl; omega) | (apply w_min; rfl; rfl; rfl) | (apply w_mfR; rfl; rfl) | (apply w_cvp; rfl; rfl; exact inferInstance; rfl; rfl; assumption) | (apply w_eqS2T; rfl; rfl; rfl; omega) | (apply w_eqS2F; rfl; rfl; rfl; omega) | (apply w_neS2T; rfl; rfl; rfl; omega) | (apply w_neS2F; rfl; rfl; rfl; omega) | (apply w_eqS3T; rfl; rfl; rfl; omega) | (apply w_eqS3F; rfl; rfl; rfl; omega) | (apply w_neS3T; rfl; rfl; rfl; omega) | (apply w_neS3F; rfl; rfl; rfl; omega) | (apply w_eqS3; rfl; rfl; rfl) | (apply w_neS3; rfl; rfl; rfl) | (apply w_eqS2; rfl; rfl; rfl) | (apply w_neS2; rfl; rfl; rfl) | (apply w_maxL; rfl; rfl; rfl; omega) | (apply w_maxG; rfl; rfl; rfl; omega) | (apply w_max; rfl; rfl; rfl) | (apply w_neB; rfl; rfl; rfl; rfl) | (apply w_eqB; rfl; rfl; rfl; rfl) | (apply w_cq; rfl; rfl; exact hC) | (apply w_cl; rfl; rfl; exact All_ok _ _ hP.isl.one; exact ⟨_, _, 0, rfl, rfl⟩; rintro _ _ ⟨bt, rfl, rfl⟩; refine ⟨by (exact kmf), ?_⟩) | (apply w_clM; rfl; rfl; exact hTu; (first | omega | (simp; omega) | simp); intro v' hv'; refine ⟨by (exact kmf), ?_⟩) | refine spl ?_ ?_ | intro hc)
        apply w_ap (es := [uE u])
        rfl; rfl; rfl; ((focus ((repeat (first | exact Del.here | apply Del.there)); done))); ((exact srf)); (first | rfl | (simp [uE, hu.one])); (simp; omega); (simp; omega)
        intro o2 ho2
        refine ⟨by (exact kmf), ?_⟩
        (repeat' first | refine stp ?_ | intro v' hv' | intro (b : Nat) | (apply w_convU; rfl; rfl; omega; omega) | (apply w_convI; rfl; rfl; omega; omega) | (apply w_quoU; rfl; rfl; rfl; omega; omega; omega) | (apply w_remU; rfl; rfl; rfl; omega; omega) | (apply w_minL; rfl; rfl; rfl; omega) | (apply w_minG; rfl; rfl; rfl; omega) | (apply w_min; rfl; rfl; rfl) | (apply w_mfR; rfl; rfl) | (apply w_cvp; rfl; rfl; exact inferInstance; rfl; rfl; assumption) | (apply w_eqS2T; rfl; rfl; rfl; omega) | (apply w_eqS2F; rfl; rfl; rfl; omega) | (apply w_neS2T; rfl; rfl; rfl; omega) | (apply w_neS2F; rfl; rfl; rfl; omega) | (apply w_eqS3T; rfl; rfl; rfl; omega) | (apply w_eqS3F; rfl; rfl; rfl; omega) | (apply w_neS3T; rfl; rfl; rfl; omega) | (apply w_neS3F; rfl; rfl; rfl; omega) | (apply w_eqS3; rfl; rfl; rfl) | (apply w_neS3; rfl; rfl; rfl) | (apply w_eqS2; rfl; rfl; rfl) | (apply w_neS2; rfl; rfl; rfl) | (apply w_maxL; rfl; rfl; rfl; omega) | (apply w_maxG; rfl; rfl; rfl; omega) | (apply w_max; rfl; rfl; rfl) | (apply w_neB; rfl; rfl; rfl; rfl) | (apply w_eqB; rfl; rfl; rfl; rfl) | (apply w_cq; rfl; rfl; exact hC) | (apply w_cl; rfl; rfl; exact All_ok _ _ hP.isl.one; exact ⟨_, _, 0, rfl, rfl⟩; rintro _ _ ⟨bt, rfl, rfl⟩; refine ⟨by (exact kmf), ?_⟩) | (apply w_clM; rfl; rfl; exact hTu; (first | omega | (simp; omega) | simp); intro v' hv'; refine ⟨by (exact kmf), ?_⟩) | refine spl ?_ ?_ | intro hc)
        refine At_round_normal (fun w hs => ?_)
        have h1 : Sat w (rowsH us out :: sl 3 1 u (t.map iE) :: sl 50 1 o2 (us.map uE ++ [uE u]) :: pt bo 47 [o2] :: pt bh 50 [v5] :: sl 3 1 v5 (t.map iE) :: blk lb (.loop r) :: J) := Sel.sat (by (focus ((repeat (first | exact Sel.refl | (apply Sel.cons; (focus ((repeat (first | exact Del.here | apply Del.there)); done))) | refine Sel.drop ?_)); done))) hs
        have h2 := rows_snoc hlu h1
        have h3 : Sat w (pt bo 47 [o2] :: sl 50 1 o2 ((us ++ [u]).map uE) :: rowsH (us ++ [u]) (out ++ [t]) :: pt bh 50 [v5] :: sl 3 1 v5 (t.map iE) :: blk lb (.loop r) :: J) := by rw [List.map_append]; exact Sel.sat (by (focus ((repeat (first | exact Sel.refl | (apply Sel.cons; (focus ((repeat (first | exact Del.here | apply Del.there)); done))) | refine Sel.drop ?_)); done))) h2
        have h4 : Sat w (outH bo (out ++ [t]) :: pt bh 50 [v5] :: sl 3 1 v5 (t.map iE) :: blk lb (.loop r) :: J) := outH_fold ⟨hus.snoc hu, by simp; omega⟩ h3
        unfold hoH
        exact Sat.all_iff.2 ((heldH_fold ⟨by omega, hTs⟩ (Sel.sat (by (focus ((repeat (first | exact Sel.refl | (apply Sel.cons; (focus ((repeat (first | exact Del.here | apply Del.there)); done))) | refine Sel.drop ?_)); done))) h4)).perm (.swap ..))
    · simp only [ends]
      have hout : ∀ {w : World} {Y : List HP}, Sat w (alH bt v R :: Y) → Sat w (R ++ Y) := fun {w Y} hs => by
        unfold alH at hs
        have h1 : Sat w (pt bt 22 [v] :: all R :: Y) := Sat.all_iff.1 hs
        exact Sat.all_iff.1 h1.drop
      generalize holdsL [] (listed l) = hl at *
      generalize (listed l).foldl turn [] = hh at *
      refine At_sat (L' := outH bo hl :: mblk r :: alH bt v R :: []) (fun w hs => ?_) ?_
      · have h1 : Sat w (hoH bo bh (hl, hh) :: mblk r :: alH bt v R :: []) := Sel.sat (by (focus ((repeat (first | exact Sel.refl | (apply Sel.cons; (focus ((repeat (first | exact Del.here | apply Del.there)); done))) | refine Sel.drop ?_)); done))) hs
        unfold hoH at h1
        exact Sel.sat (by (focus ((repeat (first | exact Sel.refl | (apply Sel.cons; (focus ((repeat (first | exact Del.here | apply Del.there)); done))) | refine Sel.drop ?_)); done))) (Sat.all_iff.1 h1)
      (repeat' first | refine stp ?_ | intro v' hv' | intro (b : Nat) | (apply w_convU; rfl; rfl; omega; omega) | (apply w_convI; rfl; rfl; omega; omega) | (apply w_quoU; rfl; rfl; rfl; omega; omega; omega) | (apply w_remU; rfl; rfl; rfl; omega; omega) | (apply w_minL; rfl; rfl; rfl; omega) | (apply w_minG; rfl; rfl; rfl; omega) | (apply w_min; rfl; rfl; rfl) | (apply w_mfR; rfl; rfl) | (apply w_cvp; rfl; rfl; exact inferInstance; rfl; rfl; assumption) | (apply w_eqS2T; rfl; rfl; rfl; omega) | (apply w_eqS2F; rfl; rfl; rfl; omega) | (apply w_neS2T; rfl; rfl; rfl; omega) | (apply w_neS2F; rfl; rfl; rfl; omega) | (apply w_eqS3T; rfl; rfl; rfl; omega) | (apply w_eqS3F; rfl; rfl; rfl; omega) | (apply w_neS3T; rfl; rfl; rfl; omega) | (apply w_neS3F; rfl; rfl; rfl; omega) | (apply w_eqS3; rfl; rfl; rfl) | (apply w_neS3; rfl; rfl; rfl) | (apply w_eqS2; rfl; rfl; rfl) | (apply w_neS2; rfl; rfl; rfl) | (apply w_maxL; rfl; rfl; rfl; omega) | (apply w_maxG; rfl; rfl; rfl; omega) | (apply w_max; rfl; rfl; rfl) | (apply w_neB; rfl; rfl; rfl; rfl) | (apply w_eqB; rfl; rfl; rfl; rfl) | (apply w_cq; rfl; rfl; exact hC) | (apply w_cl; rfl; rfl; exact All_ok _ _ hP.isl.one; exact ⟨_, _, 0, rfl, rfl⟩; rintro _ _ ⟨bt, rfl, rfl⟩; refine ⟨by (exact kmf), ?_⟩) | (apply w_clM; rfl; rfl; exact hTu; (first | omega | (simp; omega) | simp); intro v' hv'; refine ⟨by (exact kmf), ?_⟩) | refine spl ?_ ?_ | intro hc)
      refine W_outH fun o us hus hul ho => ?_
      (repeat' first | refine stp ?_ | intro v' hv' | intro (b : Nat) | (apply w_convU; rfl; rfl; omega; omega) | (apply w_convI; rfl; rfl; omega; omega) | (apply w_quoU; rfl; rfl; rfl; omega; omega; omega) | (apply w_remU; rfl; rfl; rfl; omega; omega) | (apply w_minL; rfl; rfl; rfl; omega) | (apply w_minG; rfl; rfl; rfl; omega) | (apply w_min; rfl; rfl; rfl) | (apply w_mfR; rfl; rfl) | (apply w_cvp; rfl; rfl; exact inferInstance; rfl; rfl; assumption) | (apply w_eqS2T; rfl; rfl; rfl; omega) | (apply w_eqS2F; rfl; rfl; rfl; omega) | (apply w_neS2T; rfl; rfl; rfl; omega) | (apply w_neS2F; rfl; rfl; rfl; omega) | (apply w_eqS3T; rfl; rfl; rfl; omega) | (apply w_eqS3F; rfl; rfl; rfl; omega) | (apply w_neS3T; rfl; rfl; rfl; omega) | (apply w_neS3F; rfl; rfl; rfl; omega) | (apply w_eqS3; rfl; rfl; rfl) | (apply w_neS3; rfl; rfl; rfl) | (apply w_eqS2; rfl; rfl; rfl) | (apply w_neS2; rfl; rfl; rfl) | (apply w_maxL; rfl; rfl; rfl; omega) | (apply w_maxG; rfl; rfl; rfl; omega) | (apply w_max; rfl; rfl; rfl) | (apply w_neB; rfl; rfl; rfl; rfl) | (apply w_eqB; rfl; rfl; rfl; rfl) | (apply w_cq; rfl; rfl; exact hC) | (apply w_cl; rfl; rfl; exact All_ok _ _ hP.isl.one; exact ⟨_, _, 0, rfl, rfl⟩; rintro _ _ ⟨bt, rfl, rfl⟩; refine ⟨by (exact kmf), ?_⟩) | (apply w_clM; rfl; rfl; exact hTu; (first | omega | (simp; omega) | simp); intro v' hv'; refine ⟨by (exact kmf), ?_⟩) | refine spl ?_ ?_ | intro hc)
      refine AtM_retR (vs := [o]) (by (first | exact .inl rfl | exact .inr rfl)) (by (focus ((repeat (first | exact Taken.nil | (apply Taken.cons; (focus ((repeat (first | exact Del.here | apply Del.there)); done))))); done))) Tryd.results24 (by (focus ((repeat (first | exact ResR.nil | (apply ResR.tmp; rfl) | (apply ResR.one; rfl; (focus ((repeat (first | assumption | exact .pt rfl | exact .sl ‹_› rfl | exact .sl1 (by first | assumption | rfl) | apply Rd.there)); done))) | (apply ResR.agg; rfl; (focus ((repeat (first | assumption | exact .pt | exact .sl ‹_› | apply RdAll.there)); done)); rfl))); done))) ⟨us, hus, ho, hul, rfl⟩ (fun w hs => ?_)
      have h1 : Sat w (alH bt v R :: sl 50 1 o (us.map uE) :: rowsH us hl :: []) := Sel.sat (by (focus ((repeat (first | exact Sel.refl | (apply Sel.cons; (focus ((repeat (first | exact Del.here | apply Del.there)); done))) | refine Sel.drop ?_)); done))) hs
      exact (hout h1).perm List.perm_append_comm
  · simp only [if_pos h0]
    generalize progE l = e at *
    refine FnM1 Tryd.func24 rfl Tryd.ntmps24 rfl ?_
    (repeat' first | refine stp ?_ | intro v' hv' | intro (b : Nat) | (apply w_convU; rfl; rfl; omega; omega) | (apply w_convI; rfl; rfl; omega; omega) | (apply w_quoU; rfl; rfl; rfl; omega; omega; omega) | (apply w_remU; rfl; rfl; rfl; omega; omega) | (apply w_minL; rfl; rfl; rfl; omega) | (apply w_minG; rfl; rfl; rfl; omega) | (apply w_min; rfl; rfl; rfl) | (apply w_mfR; rfl; rfl) | (apply w_cvp; rfl; rfl; exact inferInstance; rfl; rfl; assumption) | (apply w_eqS2T; rfl; rfl; rfl; omega) | (apply w_eqS2F; rfl; rfl; rfl; omega) | (apply w_neS2T; rfl; rfl; rfl; omega) | (apply w_neS2F; rfl; rfl; rfl; omega) | (apply w_eqS3T; rfl; rfl; rfl; omega) | (apply w_eqS3F; rfl; rfl; rfl; omega) | (apply w_neS3T; rfl; rfl; rfl; omega) | (apply w_neS3F; rfl; rfl; rfl; omega) | (apply w_eqS3; rfl; rfl; rfl) | (apply w_neS3; rfl; rfl; rfl) | (apply w_eqS2; rfl; rfl; rfl) | (apply w_neS2; rfl; rfl; rfl) | (apply w_maxL; rfl; rfl; rfl; omega) | (apply w_maxG; rfl; rfl; rfl; omega) | (apply w_max; rfl; rfl; rfl) | (apply w_neB; rfl; rfl; rfl; rfl) | (apply w_eqB; rfl; rfl; rfl; rfl) | (apply w_cq; rfl; rfl; exact hC) | (apply w_cl; rfl; rfl; exact All_ok _ _ hP.isl.one; exact ⟨_, _, 0, rfl, rfl⟩; rintro _ _ ⟨bt, rfl, rfl⟩; refine ⟨by (exact kmf), ?_⟩) | (apply w_clM; rfl; rfl; exact hTu; (first | omega | (simp; omega) | simp); intro v' hv'; refine ⟨by (exact kmf), ?_⟩) | refine spl ?_ ?_ | intro hc)
    all_goals refine AtM_retR (vs := [.slice none 0 0]) (by (first | exact .inl rfl | exact .inr rfl)) Taken.nil Tryd.results24 (by (focus ((repeat (first | exact ResR.nil | (apply ResR.tmp; rfl) | (apply ResR.one; rfl; (focus ((repeat (first | assumption | exact .pt rfl | exact .sl ‹_› rfl | exact .sl1 (by first | assumption | rfl) | apply Rd.there)); done))) | (apply ResR.agg; rfl; (focus ((repeat (first | assumption | exact .pt | exact .sl ‹_› | apply RdAll.there)); done)); rfl))); done))) ⟨[], ⟨rfl, fun i u h h1 => by simp at h1⟩, IsSl.nil, by simp, rfl⟩ (fun w hs => ?_)
    all_goals
      have h0 : Sat w (sl 50 1 (.slice none 0 0) (([] : List Value).map uE) :: R) := hs.sl_nil (E := 50) (n := 1)
      have h1 : Sat w (emp :: sl 50 1 (.slice none 0 0) (([] : List Value).map uE) :: R) := by
        obtain ⟨ho, S, h⟩ := h0
        exact ⟨ho, S, fun _ => False, S, fun _ h => h, h, fun _ h => h.elim, fun b => by simp⟩
      have h2 : Sat w (rowsH [] [] :: sl 50 1 (.slice none 0 0) (([] : List Value).map uE) :: R) := by unfold rowsH; exact h1
      exact Sel.sat (by (focus ((repeat (first | exact Sel.refl | (apply Sel.cons; (focus ((repeat (first | exact Del.here | apply Del.there)); done))) | refine Sel.drop ?_)); done))) h2
end Go.Proofs.YtelmljbblklblaaDoor
