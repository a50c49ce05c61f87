/- prog: Listed. Conditions: none. -/
import Derived.Test.YtelmljbblklblaaDoorPrC
set_option linter.all false
set_option linter.deprecated false
namespace Go.Proofs.YtelmljbblklblaaDoor
open Go.Sep
variable [B0 : Base]
/-- What Listed has gathered. -/
def slH (b : Nat) (out : List Ins) : HP := ex fun v => all [fact (out.length ≤ 100), pt b 22 [v], sl 27 2 v (out.map insE)]
theorem slH_fold {b : Nat} {out : List Ins} {v : Value} {w : World} {R : List HP} (ho : out.length ≤ 100) (h : Sat w (pt b 22 [v] :: sl 27 2 v (out.map insE) :: R)) : Sat w (slH b out :: R) :=
  Sat.ex_iff.2 ⟨v, Sat.all_iff.2 (Sat.fact_iff.2 ⟨ho, h⟩)⟩
theorem C_slH {P : Program} {ro : Option Nat} {Q : Exit → Act → World → Prop} {n : Nat} {F : Fr} {ds : List Deferred} {R : List HP} {cd : Code} {b : Nat} {out : List Ins}
    (h : ∀ v, out.length ≤ 100 → IsSl v out.length → C P ro cd Q n F ds (pt b 22 [v] :: sl 27 2 v (out.map insE) :: R)) : C P ro cd Q n F ds (slH b out :: R) := by
  unfold slH
  refine C_ex fun v => ?_
  refine C_sat (fun w h => Sat.all_iff.1 h) ?_
  refine C_fact fun ho => ?_
  exact C_isl (v := v) (by (focus ((repeat (first | assumption | exact Len.of ‹_› | exact .slm | exact .sl | apply Len.there)); done))) fun hN _ => h v ho hN
theorem W_slH {P : Program} {ro : Option Nat} {ops : Array Oper} {Q : Exit → Act → World → Prop} {n : Nat} {F : Fr} {ds : List Deferred} {R : List HP} {cd : List Oper} {b : Nat} {out : List Ins}
    (h : ∀ v, out.length ≤ 100 → IsSl v out.length → W P ro none ops Q n cd F ds (pt b 22 [v] :: sl 27 2 v (out.map insE) :: R)) : W P ro none ops Q n cd F ds (slH b out :: R) := by
  unfold slH
  refine W_ex fun v => ?_
  refine W_know (p := out.length ≤ 100) (fun w h => (Sat.fact_iff.1 (Sat.all_iff.1 h)).1) fun ho => ?_
  refine W_sat (fun w h => (Sat.fact_iff.1 (Sat.all_iff.1 h)).2) ?_
  exact W_know (p := IsSl v out.length) (fun w hs => Len.slm.there.out w hs) fun hN => h v ho hN
attribute [irreducible] slH
def lisStep (out : List Ins) (xs : List Value) : Option Code × List Ins := match xs with
  | [_, .agg ⟨[.int _ op, .int _ n]⟩] => (none, out ++ [⟨op, n⟩])
  | _ => (none, out)
def lisDom (out : List Ins) (xs : List Value) : Prop := ∃ x : Ins, xs = [int out.length, .agg (insE x).toArray] ∧ out.length < 100
theorem foldl_snoc (l : List Ins) : ∀ a : List Ins, l.foldl (fun o x => o ++ [x]) a = a ++ l := by
  induction l with
  | nil => intro a; simp
  | cons x l ih => intro a; rw [List.foldl_cons, ih]; simp
theorem lis_goes {l : List Ins} (h : l.length ≤ 100) : Goes (fun (s : List Ins × Option Code) xs => ((lisStep s.1 xs).1.isNone, ((lisStep s.1 xs).2, (lisStep s.1 xs).1))) (fun s xs => s.2 = none ∧ lisDom s.1 xs) (alG l) 0 ([], none) (listed l, none) := by
  have := goes_fold (listed l) (fun i x => [int i, .agg (insE x).toArray]) (fun o x => o ++ [x]) lisStep lisDom [] fun i x hx => by
    have hi := (List.getElem?_eq_some_iff.1 hx).1
    have hl := listed_len l
    rw [foldl_snoc, List.nil_append]
    have htl : ((listed l).take i).length = i := by rw [List.length_take]; omega
    exact ⟨⟨x, by rw [htl], by omega⟩, rfl⟩
  rw [foldl_snoc, List.nil_append] at this
  exact this
set_option maxHeartbeats 4000000 in
theorem Listed_ok (v : Value) (l : List Ins) (R : List HP) (h : PrIn R v l) (h100 : l.length ≤ 100) : Called Tryd.prog 17 [v] R (fun u M => ∃ v', u = .tuple #[v', .bool true] ∧ IsSl v' (listed l).length ∧ M = sl 27 2 v' ((listed l).map insE) :: R) := by
  refine FnM1 Tryd.func17 rfl Tryd.ntmps17 rfl ?_
  (repeat' first | refine stp ?_ | intro v' hv' | intro (b : Nat) | (apply w_convU; rfl; rfl; omega; omega) | (apply w_convI; rfl; rfl; omega; omega) | (apply w_quoU; rfl; rfl; rfl; omega; omega; omega) | (apply w_remU; rfl; rfl; rfl; omega; omega) | (apply w_minL; rfl; rfl; rfl; omega) | (apply w_minG; rfl; rfl; rfl; omega) | (apply w_min; rfl; rfl; rfl) | (apply w_mfR; rfl; rfl) | (apply w_cvp; rfl; rfl; exact inferInstance; rfl; rfl; assumption) | (apply w_eqS2T; rfl; rfl; rfl; omega) | (apply w_eqS2F; rfl; rfl; rfl; omega) | (apply w_neS2T; rfl; rfl; rfl; omega) | (apply w_neS2F; rfl; rfl; rfl; omega) | (apply w_eqS3T; rfl; rfl; rfl; omega) | (apply w_eqS3F; rfl; rfl; rfl; omega) | (apply w_neS3T; rfl; rfl; rfl; omega) | (apply w_neS3F; rfl; rfl; rfl; omega) | (apply w_eqS3; rfl; rfl; rfl) | (apply w_neS3; rfl; rfl; rfl) | (apply w_eqS2; rfl; rfl; rfl) | (apply w_neS2; rfl; rfl; rfl) | (apply w_maxL; rfl; rfl; rfl; omega) | (apply w_maxG; rfl; rfl; rfl; omega) | (apply w_max; rfl; rfl; rfl) | (apply w_neB; rfl; rfl; rfl; rfl) | (apply w_eqB; rfl; rfl; rfl; rfl) | (apply w_eqf; rfl; rfl) | (apply w_cl; rfl; rfl; exact All_ok _ _ h.isl.one; exact ⟨_, _, 0, rfl, rfl⟩; rintro _ _ ⟨bt, rfl, rfl⟩; refine ⟨by (exact kmf), ?_⟩) | refine spl ?_ ?_ | intro hc)
  rename_i b2 b3
  obtain ⟨b5, hb5⟩ : ∃ r, r = b := ⟨_, rfl⟩
  subst hb5
  refine C_sat (L' := alH bt v R :: slH b5 [] :: pt b3 4 [.bool false] :: pt b2 22 [.slice none 0 0] :: []) (fun w hs => ?_) ?_
  · have h0 : Sat w (sl 27 2 (.slice none 0 0) (([] : List Ins).map insE) :: pt b5 22 [.slice none 0 0] :: pt bt 22 [v] :: pt b3 4 [.bool false] :: pt b2 22 [.slice none 0 0] :: R) := hs.sl_nil (E := 27) (n := 2)
    have h1 : Sat w (pt b5 22 [.slice none 0 0] :: sl 27 2 (.slice none 0 0) (([] : List Ins).map insE) :: pt bt 22 [v] :: pt b3 4 [.bool false] :: pt b2 22 [.slice none 0 0] :: R) := h0.perm (.swap ..)
    have h2 : Sat w (slH b5 [] :: pt bt 22 [v] :: pt b3 4 [.bool false] :: pt b2 22 [.slice none 0 0] :: R) := slH_fold (by simp) h1
    have h3 : Sat w (all R :: [slH b5 [], pt bt 22 [v], pt b3 4 [.bool false], pt b2 22 [.slice none 0 0]]) := Sat.all_iff.2 (h2.perm (List.perm_append_comm (l₁ := [slH b5 [], pt bt 22 [v], pt b3 4 [.bool false], pt b2 22 [.slice none 0 0]]) (l₂ := R)))
    unfold alH
    refine Sat.all_iff.2 ?_
    exact Sel.sat (by (focus ((repeat (first | exact Sel.refl | (apply Sel.cons; (focus ((repeat (first | exact Del.here | apply Del.there)); done))) | refine Sel.drop ?_)); done))) h3
  refine C_rangeE (A := slH b5) (s0 := []) (step := lisStep) (dom := lisDom) rfl (All1_ok bt v l R h) rfl (fun s xs hd => by obtain ⟨x, rfl, -⟩ := hd; rfl) Sel.refl ?_ (lis_goes h100) fun r => ?_
  · rintro lb r out xs J ⟨⟨op, n⟩, rfl, hlt⟩
    apply Exists.intro
    refine ⟨fun b => pt b 27 [int op, int n], fun Q r' hQ => ?_, fun b => ?_⟩
    · simp only [parF]
      (repeat' first | refine stp ?_ | intro v' hv' | intro (b : Nat) | (apply w_convU; rfl; rfl; omega; omega) | (apply w_convI; rfl; rfl; omega; omega) | (apply w_quoU; rfl; rfl; rfl; omega; omega; omega) | (apply w_remU; rfl; rfl; rfl; omega; omega) | (apply w_minL; rfl; rfl; rfl; omega) | (apply w_minG; rfl; rfl; rfl; omega) | (apply w_min; rfl; rfl; rfl) | (apply w_mfR; rfl; rfl) | (apply w_cvp; rfl; rfl; exact inferInstance; rfl; rfl; assumption) | (apply w_eqS2T; rfl; rfl; rfl; omega) | (apply w_eqS2F; rfl; rfl; rfl; omega) | (apply w_neS2T; rfl; rfl; rfl; omega) | (apply w_neS2F; rfl; rfl; rfl; omega) | (apply w_eqS3T; rfl; rfl; rfl; omega) | (apply w_eqS3F; rfl; rfl; rfl; omega) | (apply w_neS3T; rfl; rfl; rfl; omega) | (apply w_neS3F; rfl; rfl; rfl; omega) | (apply w_eqS3; rfl; rfl; rfl) | (apply w_neS3; rfl; rfl; rfl) | (apply w_eqS2; rfl; rfl; rfl) | (apply w_neS2; rfl; rfl; rfl) | (apply w_maxL; rfl; rfl; rfl; omega) | (apply w_maxG; rfl; rfl; rfl; omega) | (apply w_max; rfl; rfl; rfl) | (apply w_neB; rfl; rfl; rfl; rfl) | (apply w_eqB; rfl; rfl; rfl; rfl) | (apply w_eqf; rfl; rfl) | (apply w_cl; rfl; rfl; exact All_ok _ _ h.isl.one; exact ⟨_, _, 0, rfl, rfl⟩; rintro _ _ ⟨bt, rfl, rfl⟩; refine ⟨by (exact kmf), ?_⟩) | refine spl ?_ ?_ | intro hc)
      exact hQ b
    · refine C_block ?_
      show C Tryd.prog _ _ (Exit.inBlock _ (RPost none (slH b5 (out ++ [⟨op, n⟩]) :: blk lb (.loop r) :: J))) _ _ _ _
      refine C_sat (L' := slH b5 out :: pt b 27 [int op, int n] :: blk lb (.loop r) :: J) (by (exact frm)) ?_
      refine C_slH fun v2 ho hv2 => ?_
      (repeat' first | refine stp ?_ | intro v' hv' | intro (b : Nat) | (apply w_convU; rfl; rfl; omega; omega) | (apply w_convI; rfl; rfl; omega; omega) | (apply w_quoU; rfl; rfl; rfl; omega; omega; omega) | (apply w_remU; rfl; rfl; rfl; omega; omega) | (apply w_minL; rfl; rfl; rfl; omega) | (apply w_minG; rfl; rfl; rfl; omega) | (apply w_min; rfl; rfl; rfl) | (apply w_mfR; rfl; rfl) | (apply w_cvp; rfl; rfl; exact inferInstance; rfl; rfl; assumption) | (apply w_eqS2T; rfl; rfl; rfl; omega) | (apply w_eqS2F; rfl; rfl; rfl; omega) | (apply w_neS2T; rfl; rfl; rfl; omega) | (apply w_neS2F; rfl; rfl; rfl; omega) | (apply w_eqS3T; rfl; rfl; rfl; omega) | (apply w_eqS3F; rfl; rfl; rfl; omega) | (apply w_neS3T; rfl; rfl; rfl; omega) | (apply w_neS3F; rfl; rfl; rfl; omega) | (apply w_eqS3; rfl; rfl; rfl) | (apply w_neS3; rfl; rfl; rfl) | (apply w_eqS2; rfl; rfl; rfl) | (apply w_neS2; rfl; rfl; rfl) | (apply w_maxL; rfl; rfl; rfl; omega) | (apply w_maxG; rfl; rfl; rfl; omega) | (apply w_max; rfl; rfl; rfl) | (apply w_neB; rfl; rfl; rfl; rfl) | (apply w_eqB; rfl; rfl; rfl; rfl) | (apply w_eqf; rfl; rfl) | (apply w_cl; rfl; rfl; exact All_ok _ _ h.isl.one; exact ⟨_, _, 0, rfl, rfl⟩; rintro _ _ ⟨bt, rfl, rfl⟩; refine ⟨by (exact kmf), ?_⟩) | refine spl ?_ ?_ | intro hc)
      apply w_ap (es := [insE ⟨op, n⟩])
      rfl; rfl; rfl; ((focus ((repeat (first | exact Del.here | apply Del.there)); done))); ((exact srf)); rfl; (simp; omega); (simp; omega)
      intro v3 hv3
      refine ⟨by (exact kmf), ?_⟩
      (repeat' first | refine stp ?_ | intro v' hv' | intro (b : Nat) | (apply w_convU; rfl; rfl; omega; omega) | (apply w_convI; rfl; rfl; omega; omega) | (apply w_quoU; rfl; rfl; rfl; omega; omega; omega) | (apply w_remU; rfl; rfl; rfl; omega; omega) | (apply w_minL; rfl; rfl; rfl; omega) | (apply w_minG; rfl; rfl; rfl; omega) | (apply w_min; rfl; rfl; rfl) | (apply w_mfR; rfl; rfl) | (apply w_cvp; rfl; rfl; exact inferInstance; rfl; rfl; assumption) | (apply w_eqS2T; rfl; rfl; rfl; omega) | (apply w_eqS2F; rfl; rfl; rfl; omega) | (apply w_neS2T; rfl; rfl; rfl; omega) | (apply w_neS2F; rfl; rfl; rfl; omega) | (apply w_eqS3T; rfl; rfl; rfl; omega) | (apply w_eqS3F; rfl; rfl; rfl; omega) | (apply w_neS3T; rfl; rfl; rfl; omega) | (apply w_neS3F; rfl; rfl; rfl; omega) | (apply w_eqS3; rfl; rfl; rfl) | (apply w_neS3; rfl; rfl; rfl) | (apply w_eqS2; rfl; rfl; rfl) | (apply w_neS2; rfl; rfl; rfl) | (apply w_maxL; rfl; rfl; rfl; omega) | (apply w_maxG; rfl; rfl; rfl; omega) | (apply w_max; rfl; rfl; rfl) | (apply w_neB; rfl; rfl; rfl; rfl) | (apply w_eqB; rfl; rfl; rfl; rfl) | (apply w_eqf; rfl; rfl) | (apply w_cl; rfl; rfl; exact All_ok _ _ h.isl.one; exact ⟨_, _, 0, rfl, rfl⟩; rintro _ _ ⟨bt, rfl, rfl⟩; refine ⟨by (exact kmf), ?_⟩) | refine spl ?_ ?_ | intro hc)
      refine At_round_normal (fun w h => slH_fold (v := v3) (by simp; omega) ?_)
      rw [List.map_append]
      exact Sel.sat (by (focus ((repeat (first | exact Sel.refl | (apply Sel.cons; (focus ((repeat (first | exact Del.here | apply Del.there)); done))) | refine Sel.drop ?_)); done))) h
  · simp only [ends]
    have hout : ∀ {w : World} {Y : List HP}, Sat w (alH bt v R :: Y) → Sat w (R ++ Y) := fun {w Y} hs => by
      unfold alH at hs
      have h1 : Sat w (pt bt 22 [v] :: all R :: Y) := Sat.all_iff.1 hs
      exact Sat.all_iff.1 h1.drop
    (repeat' first | refine stp ?_ | intro v' hv' | intro (b : Nat) | (apply w_convU; rfl; rfl; omega; omega) | (apply w_convI; rfl; rfl; omega; omega) | (apply w_quoU; rfl; rfl; rfl; omega; omega; omega) | (apply w_remU; rfl; rfl; rfl; omega; omega) | (apply w_minL; rfl; rfl; rfl; omega) | (apply w_minG; rfl; rfl; rfl; omega) | (apply w_min; rfl; rfl; rfl) | (apply w_mfR; rfl; rfl) | (apply w_cvp; rfl; rfl; exact inferInstance; rfl; rfl; assumption) | (apply w_eqS2T; rfl; rfl; rfl; omega) | (apply w_eqS2F; rfl; rfl; rfl; omega) | (apply w_neS2T; rfl; rfl; rfl; omega) | (apply w_neS2F; rfl; rfl; rfl; omega) | (apply w_eqS3T; rfl; rfl; rfl; omega) | (apply w_eqS3F; rfl; rfl; rfl; omega) | (apply w_neS3T; rfl; rfl; rfl; omega) | (apply w_neS3F; rfl; rfl; rfl; omega) | (apply w_eqS3; rfl; rfl; rfl) | (apply w_neS3; rfl; rfl; rfl) | (apply w_eqS2; rfl; rfl; rfl) | (apply w_neS2; rfl; rfl; rfl) | (apply w_maxL; rfl; rfl; rfl; omega) | (apply w_maxG; rfl; rfl; rfl; omega) | (apply w_max; rfl; rfl; rfl) | (apply w_neB; rfl; rfl; rfl; rfl) | (apply w_eqB; rfl; rfl; rfl; rfl) | (apply w_eqf; rfl; rfl) | (apply w_cl; rfl; rfl; exact All_ok _ _ h.isl.one; exact ⟨_, _, 0, rfl, rfl⟩; rintro _ _ ⟨bt, rfl, rfl⟩; refine ⟨by (exact kmf), ?_⟩) | refine spl ?_ ?_ | intro hc)
    refine W_sat (L' := slH b5 (listed l) :: mblk r :: alH bt v R :: pt b3 4 [.bool false] :: pt b2 22 [.slice none 0 0] :: []) (by (exact frm)) ?_
    refine W_slH fun v2 ho hv2 => ?_
    (repeat' first | refine stp ?_ | intro v' hv' | intro (b : Nat) | (apply w_convU; rfl; rfl; omega; omega) | (apply w_convI; rfl; rfl; omega; omega) | (apply w_quoU; rfl; rfl; rfl; omega; omega; omega) | (apply w_remU; rfl; rfl; rfl; omega; omega) | (apply w_minL; rfl; rfl; rfl; omega) | (apply w_minG; rfl; rfl; rfl; omega) | (apply w_min; rfl; rfl; rfl) | (apply w_mfR; rfl; rfl) | (apply w_cvp; rfl; rfl; exact inferInstance; rfl; rfl; assumption) | (apply w_eqS2T; rfl; rfl; rfl; omega) | (apply w_eqS2F; rfl; rfl; rfl; omega) | (apply w_neS2T; rfl; rfl; rfl; omega) | (apply w_neS2F; rfl; rfl; rfl; omega) | (apply w_eqS3T; rfl; rfl; rfl; omega) | (apply w_eqS3F; rfl; rfl; rfl; omega) | (apply w_neS3T; rfl; rfl; rfl; omega) | (apply w_neS3F; rfl; rfl; rfl; omega) | (apply w_eqS3; rfl; rfl; rfl) | (apply w_neS3; rfl; rfl; rfl) | (apply w_eqS2; rfl; rfl; rfl) | (apply w_neS2; rfl; rfl; rfl) | (apply w_maxL; rfl; rfl; rfl; omega) | (apply w_maxG; rfl; rfl; rfl; omega) | (apply w_max; rfl; rfl; rfl) | (apply w_neB; rfl; rfl; rfl; rfl) | (apply w_eqB; rfl; rfl; rfl; rfl) | (apply w_eqf; rfl; rfl) | (apply w_cl; rfl; rfl; exact All_ok _ _ h.isl.one; exact ⟨_, _, 0, rfl, rfl⟩; rintro _ _ ⟨bt, rfl, rfl⟩; refine ⟨by (exact kmf), ?_⟩) | refine spl ?_ ?_ | intro hc)
    refine AtM_retR (by (first | exact .inl rfl | exact .inr rfl)) (by (focus ((repeat (first | exact Taken.nil | (apply Taken.cons; (focus ((repeat (first | exact Del.here | apply Del.there)); done))))); done))) Tryd.results17 (by (focus ((repeat (first | exact ResR.nil | (apply ResR.tmp; rfl) | (apply ResR.one; rfl; (focus ((repeat (first | assumption | exact .pt rfl | exact .sl ‹_› rfl | exact .sl1 (by first | assumption | rfl) | apply Rd.there)); done))) | (apply ResR.agg; rfl; (focus ((repeat (first | assumption | exact .pt | exact .sl ‹_› | apply RdAll.there)); done)); rfl))); done))) ⟨v2, rfl, hv2, rfl⟩ (fun w hs => ?_)
    have h1 : Sat w (alH bt v R :: sl 27 2 v2 ((listed l).map insE) :: []) := Sel.sat (by (focus ((repeat (first | exact Sel.refl | (apply Sel.cons; (focus ((repeat (first | exact Del.here | apply Del.there)); done))) | refine Sel.drop ?_)); done))) hs
    exact (hout h1).perm List.perm_append_comm
end Go.Proofs.YtelmljbblklblaaDoor
