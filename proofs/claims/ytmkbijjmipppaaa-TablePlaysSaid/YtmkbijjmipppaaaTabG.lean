/- table's law: awake. Conditions: none. -/
import Derived.Test.YtmkbijjmipppaaaTabF
set_option linter.all false
set_option linter.deprecated false
namespace Go.Proofs.Ytmkbijjmipppaaa
open Go.Sep
variable [B0 : Base]
instance : FlatEq Try.prog 40 2 := ⟨by kernel_rfl⟩
instance : FlatEq Try.prog 34 3 := ⟨by kernel_rfl⟩
theorem Src.nilS {L : List HP} {n : Nat} : Src L (.slice none 0 0) n [] := ⟨(fun _ _ e h => by cases h), fun _ _ => ⟨none, 0, rfl, .inl rfl⟩⟩
theorem PrIn.nil {L : List HP} : PrIn L (.slice none 0 0) [] := ⟨IsSl.nil, Src.nilS⟩
theorem New_good (v : Value) (xs : List (Value × List Ins)) (R : List HP) (h : LibIn R v xs) (h0 : newE (xs.map fun x => x.2) = 0) (ls : List (List Ins)) (hls : xs.map (fun x => x.2) = ls) :
    Called Try.prog 8 [v] R (fun u M => ∃ b, u = .tuple #[ptr b, int 0] ∧ M = tbl b ⟨ls, List.replicate 64 none⟩ :: R) := by
  subst hls
  exact (New_ok v xs R h).sat (fun _ h => h) fun u M hM => by
    rw [if_pos h0] at hM
    exact ⟨M, hM, fun _ h => h⟩
def awL : List (List Ins) := [[⟨1, 5⟩, ⟨7, 0⟩]]
def awT (o : Option Tm) : Tab := ⟨awL, (List.replicate 64 none).set 0 o⟩
set_option maxHeartbeats 8000000 in
theorem awake_ok (R : List HP) : Called Try.prog 7 [] R (is (.bool true) R) := by
  refine Fn0 Try.func7 rfl Try.ntmps7 ?_
  (repeat' first | refine stp ?_ | intro v' hv' | intro (b : Nat) | (apply w_convU; rfl; rfl; omega; omega) | (apply w_convI; rfl; rfl; omega; omega) | (apply w_quoU; rfl; rfl; rfl; omega; omega; omega) | (apply w_remU; rfl; rfl; rfl; omega; omega) | (apply w_minL; rfl; rfl; rfl; omega) | (apply w_minG; rfl; rfl; rfl; omega) | (apply w_min; rfl; rfl; rfl) | (apply w_mfR; rfl; rfl) | (apply w_cvp; rfl; rfl; exact inferInstance; rfl; rfl; assumption) | (apply w_eqS2T; rfl; rfl; rfl; omega) | (apply w_eqS2F; rfl; rfl; rfl; omega) | (apply w_neS2T; rfl; rfl; rfl; omega) | (apply w_neS2F; rfl; rfl; rfl; omega) | (apply w_eqS3T; rfl; rfl; rfl; omega) | (apply w_eqS3F; rfl; rfl; rfl; omega) | (apply w_neS3T; rfl; rfl; rfl; omega) | (apply w_neS3F; rfl; rfl; rfl; omega) | (apply w_eqS3; rfl; rfl; rfl) | (apply w_neS3; rfl; rfl; rfl) | (apply w_eqS2; rfl; rfl; rfl) | (apply w_neS2; rfl; rfl; rfl) | (apply w_maxL; rfl; rfl; rfl; omega) | (apply w_maxG; rfl; rfl; rfl; omega) | (apply w_max; rfl; rfl; rfl) | (apply w_neB; rfl; rfl; rfl; rfl) | (apply w_eqB; rfl; rfl; rfl; rfl) | (apply w_cd; rfl; rfl; apply Called.at (h := h1); ((focus ((repeat (first | exact Rep.here | apply Rep.there)); done))); ((exact kmf))) | (apply w_cd; rfl; rfl; apply Called.at (h := h2); ((focus ((repeat (first | exact Rep.here | apply Rep.there)); done))); ((exact kmf))) | (apply w_cd; rfl; rfl; apply Called.at (h := h3); ((focus ((repeat (first | exact Rep.here | apply Rep.there)); done))); ((exact kmf))) | (apply w_cd; rfl; rfl; apply Called.at (h := h4); ((focus ((repeat (first | exact Rep.here | apply Rep.there)); done))); ((exact kmf))) | (apply w_cd; rfl; rfl; apply Called.at (h := h5); ((focus ((repeat (first | exact Rep.here | apply Rep.there)); done))); ((exact kmf))) | refine spl ?_ ?_ | intro hc)
  rename_i v1 hv1
  apply w_cl
  rfl; rfl; exact New_good v' [(v1, [⟨1, 5⟩, ⟨7, 0⟩])] _ ⟨hv', srf, fun x hx => by rw [List.mem_singleton] at hx; subst hx; exact ⟨hv1, srf⟩⟩ (by show newE awL = 0; decide) awL rfl
  exact ⟨_, _, 0, rfl, rfl⟩
  rintro _ _ ⟨p, rfl, rfl⟩
  refine ⟨by (exact kmf), ?_⟩
  rw [show (⟨awL, List.replicate 64 none⟩ : Tab) = awT none from rfl]
  have h1 : ∀ R, Called Try.prog 9 [ptr p, int 0] (tbl p (awT none) :: R) (is (.tuple #[int 0, int 0]) (tbl p (awT (some ⟨0, 0, 5⟩)) :: R)) := fun R => Spawn_ok p (awT none) 0 R
  have h2 : ∀ R, Called Try.prog 10 [ptr p, int 0, int 3] (tbl p (awT (some ⟨0, 0, 5⟩)) :: R) (is (.tuple #[int 3, int 0]) (tbl p (awT (some ⟨0, 0, 2⟩)) :: R)) := fun R => Run_ok p (awT (some ⟨0, 0, 5⟩)) 0 3 (by unfold W64; omega) R
  have h3 : ∀ R, Called Try.prog 14 [ptr p, int 0] (tbl p (awT (some ⟨0, 0, 2⟩)) :: R) (is (.tuple #[.agg #[int 1, int 2], int 0]) (tbl p (awT (some ⟨0, 0, 2⟩)) :: R)) := fun R => Act_ok p (awT (some ⟨0, 0, 2⟩)) 0 R
  have h4 : ∀ R, Called Try.prog 10 [ptr p, int 0, int 9] (tbl p (awT (some ⟨0, 0, 2⟩)) :: R) (is (.tuple #[int 2, int 0]) (tbl p (awT (some ⟨0, 1, 0⟩)) :: R)) := fun R => Run_ok p (awT (some ⟨0, 0, 2⟩)) 0 9 (by unfold W64; omega) R
  have h5 : ∀ R, Called Try.prog 14 [ptr p, int 0] (tbl p (awT (some ⟨0, 1, 0⟩)) :: R) (is (.tuple #[.agg #[int 7, int 0], int 0]) (tbl p (awT (some ⟨0, 1, 0⟩)) :: R)) := fun R => Act_ok p (awT (some ⟨0, 1, 0⟩)) 0 R
  (repeat' first | refine stp ?_ | intro v' hv' | intro (b : Nat) | (apply w_convU; rfl; rfl; omega; omega) | (apply w_convI; rfl; rfl; omega; omega) | (apply w_quoU; rfl; rfl; rfl; omega; omega; omega) | (apply w_remU; rfl; rfl; rfl; omega; omega) | (apply w_minL; rfl; rfl; rfl; omega) | (apply w_minG; rfl; rfl; rfl; omega) | (apply w_min; rfl; rfl; rfl) | (apply w_mfR; rfl; rfl) | (apply w_cvp; rfl; rfl; exact inferInstance; rfl; rfl; assumption) | (apply w_eqS2T; rfl; rfl; rfl; omega) | (apply w_eqS2F; rfl; rfl; rfl; omega) | (apply w_neS2T; rfl; rfl; rfl; omega) | (apply w_neS2F; rfl; rfl; rfl; omega) | (apply w_eqS3T; rfl; rfl; rfl; omega) | (apply w_eqS3F; rfl; rfl; rfl; omega) | (apply w_neS3T; rfl; rfl; rfl; omega) | (apply w_neS3F; rfl; rfl; rfl; omega) | (apply w_eqS3; rfl; rfl; rfl) | (apply w_neS3; rfl; rfl; rfl) | (apply w_eqS2; rfl; rfl; rfl) | (apply w_neS2; rfl; rfl; rfl) | (apply w_maxL; rfl; rfl; rfl; omega) | (apply w_maxG; rfl; rfl; rfl; omega) | (apply w_max; rfl; rfl; rfl) | (apply w_neB; rfl; rfl; rfl; rfl) | (apply w_eqB; rfl; rfl; rfl; rfl) | (apply w_cd; rfl; rfl; apply Called.at (h := h1); ((focus ((repeat (first | exact Rep.here | apply Rep.there)); done))); ((exact kmf))) | (apply w_cd; rfl; rfl; apply Called.at (h := h2); ((focus ((repeat (first | exact Rep.here | apply Rep.there)); done))); ((exact kmf))) | (apply w_cd; rfl; rfl; apply Called.at (h := h3); ((focus ((repeat (first | exact Rep.here | apply Rep.there)); done))); ((exact kmf))) | (apply w_cd; rfl; rfl; apply Called.at (h := h4); ((focus ((repeat (first | exact Rep.here | apply Rep.there)); done))); ((exact kmf))) | (apply w_cd; rfl; rfl; apply Called.at (h := h5); ((focus ((repeat (first | exact Rep.here | apply Rep.there)); done))); ((exact kmf))) | refine spl ?_ ?_ | intro hc)
  all_goals (refine At_ret1 (by (first | exact .inl rfl | exact .inr rfl)) Try.results7 rfl ⟨by rfl, rfl⟩ (by (exact frm)))
end Go.Proofs.Ytmkbijjmipppaaa
