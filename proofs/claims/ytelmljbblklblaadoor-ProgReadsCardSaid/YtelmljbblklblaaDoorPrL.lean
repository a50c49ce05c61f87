/- prog: Balanced. Conditions: none. -/
import Derived.Test.YtelmljbblklblaaDoorPrK
set_option linter.all false
set_option linter.deprecated false
namespace Go.Proofs.YtelmljbblklblaaDoor
open Go.Sep
variable [B0 : Base]
/-- A run over a list that may stop. -/
def foldS {σ α : Type} (nx : σ → α → Option Code × σ) : List α → σ → σ × Option Code
  | [], s => (s, none)
  | x :: l, s => match nx s x with
    | (none, s') => foldS nx l s'
    | (some c, s') => (s', some c)
theorem goes_stop {σ α : Type} (ll : List α) (enc : Nat → α → List Value) (nx : σ → α → Option Code × σ) (step : σ → List Value → Option Code × σ) (dom : σ → List Value → Prop) (Inv : Nat → σ → Prop) (s0 : σ) (h0 : Inv 0 s0)
    (h : ∀ i x s, ll[i]? = some x → Inv i s → dom s (enc i x) ∧ step s (enc i x) = nx s x ∧ ((nx s x).1 = none → Inv (i + 1) (nx s x).2)) :
    Goes (fun (s : σ × Option Code) xs => ((step s.1 xs).1.isNone, ((step s.1 xs).2, (step s.1 xs).1))) (fun s xs => s.2 = none ∧ dom s.1 xs) (fun i => ll[i]?.map (enc i)) 0 (s0, none) (foldS nx ll s0) := by
  have key : ∀ m i s, i + m = ll.length → Inv i s → Goes (fun (s : σ × Option Code) xs => ((step s.1 xs).1.isNone, ((step s.1 xs).2, (step s.1 xs).1))) (fun s xs => s.2 = none ∧ dom s.1 xs) (fun i => ll[i]?.map (enc i)) i (s, none) (foldS nx (ll.drop i) s) := by
    intro m
    induction m with
    | zero =>
      intro i s hi _
      obtain rfl : i = ll.length := by omega
      rw [List.drop_eq_nil_of_le (Nat.le_refl _)]
      exact .stop (by simp)
    | succ m ih =>
      intro i s hi hv
      have hlt : i < ll.length := by omega
      have hx : ll[i]? = some ll[i] := by simp [hlt]
      obtain ⟨h1, h2, h3⟩ := h i _ s hx hv
      rw [List.drop_eq_getElem_cons hlt, foldS]
      cases hn : nx s ll[i] with
      | mk c s' =>
        rw [hn] at h2 h3
        cases c with
        | none =>
          refine .next (x := enc i ll[i]) (by simp [hlt]) ⟨rfl, h1⟩ (s' := (s', none)) ?_ (ih (i + 1) s' (by omega) (h3 rfl))
          show ((step s (enc i ll[i])).1.isNone, ((step s (enc i ll[i])).2, (step s (enc i ll[i])).1)) = _
          rw [h2]; rfl
        | some c =>
          refine .quit (x := enc i ll[i]) (by simp [hlt]) ⟨rfl, h1⟩ (s' := (s', some c)) ?_
          show ((step s (enc i ll[i])).1.isNone, ((step s (enc i ll[i])).2, (step s (enc i ll[i])).1)) = _
          rw [h2]; rfl
  exact key ll.length 0 s0 (by omega) h0
/-- What is held, in a variable. -/
def heldH (b : Nat) (h : List Int) : HP := ex fun v => all [fact (h.length ≤ 100 ∧ h.Pairwise (· < ·)), pt b 50 [v], sl 3 1 v (h.map iE)]
theorem heldH_fold {b : Nat} {h : List Int} {v : Value} {w : World} {R : List HP} (ho : h.length ≤ 100 ∧ h.Pairwise (· < ·)) (hs : Sat w (pt b 50 [v] :: sl 3 1 v (h.map iE) :: R)) : Sat w (heldH b h :: R) :=
  Sat.ex_iff.2 ⟨v, Sat.all_iff.2 (Sat.fact_iff.2 ⟨ho, hs⟩)⟩
theorem C_heldH {P : Program} {ro : Option Nat} {Q : Exit → Act → World → Prop} {n : Nat} {F : Fr} {ds : List Deferred} {R : List HP} {cd : Code} {b : Nat} {h : List Int}
    (hk : ∀ v, h.length ≤ 100 → h.Pairwise (· < ·) → IsSl v h.length → C P ro cd Q n F ds (pt b 50 [v] :: sl 3 1 v (h.map iE) :: R)) : C P ro cd Q n F ds (heldH b h :: R) := by
  unfold heldH
  refine C_ex fun v => ?_
  refine C_sat (fun w h => Sat.all_iff.1 h) ?_
  refine C_fact fun ho => ?_
  exact C_isl (v := v) (by (focus ((repeat (first | assumption | exact Len.of ‹_› | exact .slm | exact .sl | apply Len.there)); done))) fun hN _ => hk v ho.1 ho.2 hN
theorem At_heldH {Q : Exit → Act → World → Prop} {n : Nat} {F : Fr} {ds : List Deferred} {R : List HP} {e : Exit} {b : Nat} {h : List Int}
    (hk : ∀ v, IsSl v h.length → At Q e n F ds (pt b 50 [v] :: sl 3 1 v (h.map iE) :: R)) : At Q e n F ds (heldH b h :: R) := by
  refine At_intro fun a w hf hs => ?_
  unfold heldH at hs
  obtain ⟨v, hs⟩ := Sat.ex_iff.1 hs
  have hs2 := (Sat.fact_iff.1 (Sat.all_iff.1 hs)).2
  exact At_elim (hk v (Len.slm.there.out w hs2)) a w hf hs2
theorem heldH_empty {b : Nat} {w : World} {R : List HP} (hs : Sat w (pt b 50 [.slice none 0 0] :: R)) : Sat w (heldH b [] :: R) := by
  refine heldH_fold (v := .slice none 0 0) ⟨by simp, List.Pairwise.nil⟩ ?_
  have h0 : Sat w (sl 3 1 (.slice none 0 0) (([] : List Int).map iE) :: pt b 50 [.slice none 0 0] :: R) := hs.sl_nil (E := 3) (n := 1)
  exact h0.perm (.swap ..)
attribute [irreducible] heldH
def balNx (h : List Int) (x : Ins) : Option Code × List Int := if x.op = 2 ∧ x.n ∈ h ∨ x.op = 4 ∧ x.n ∉ h then (some .ret, h) else (none, turn h x)
def balR (l : List Ins) : List Int × Option Code := foldS balNx l []
theorem balR_code {l : List Ins} : ∀ {s h : List Int} {c : Code}, foldS balNx l s = (h, some c) → c = .ret := by
  induction l with
  | nil => intro s h c e; simp [foldS] at e
  | cons x l ih =>
    intro s h c e
    simp only [foldS, balNx] at e
    by_cases hc : x.op = 2 ∧ x.n ∈ s ∨ x.op = 4 ∧ x.n ∉ s
    · rw [if_pos hc] at e
      simp only [Prod.mk.injEq, Option.some.injEq] at e
      exact e.2.symm
    · rw [if_neg hc] at e
      exact ih e
/-- Is all that is locked unlocked? -/
def balM (l : List Ins) : Bool := decide (progE l = 0) && match balR (listed l) with
  | (h, none) => decide ((h.length : Int) = 0)
  | (_, some _) => false
def balStep (h : List Int) (xs : List Value) : Option Code × List Int := match xs with
  | [_, .agg ⟨[.int _ op, .int _ n]⟩] => balNx h ⟨op, n⟩
  | _ => (none, h)
def balDom (h : List Int) (xs : List Value) : Prop := ∃ (i : Nat) (x : Ins), xs = [int i, .agg (insE x).toArray] ∧ h.length < 100 ∧ h.Pairwise (· < ·)
theorem bal_goes {l : List Ins} (hl : l.length ≤ 64) : Goes (fun (s : List Int × Option Code) xs => ((balStep s.1 xs).1.isNone, ((balStep s.1 xs).2, (balStep s.1 xs).1))) (fun s xs => s.2 = none ∧ balDom s.1 xs) (alG l) 0 ([], none) (balR (listed l)) := by
  refine goes_stop (listed l) (fun i x => [int i, .agg (insE x).toArray]) balNx balStep balDom (fun i h => h.length ≤ i ∧ h.Pairwise (· < ·)) [] ⟨Nat.le_refl _, List.Pairwise.nil⟩ fun i x h hx hi => ?_
  have h1 := (List.getElem?_eq_some_iff.1 hx).1
  have h2 := listed_len l
  have h3 := turn_len h x
  refine ⟨⟨i, x, rfl, by omega, hi.2⟩, rfl, fun hn => ?_⟩
  unfold balNx at hn ⊢
  split at hn
  · cases hn
  · rename_i hc
    rw [if_neg hc]
    exact ⟨by show (turn h x).length ≤ _; omega, turn_sorted hi.2 x⟩
def balH (b2 bh : Nat) (h : List Int) : HP := all [heldH bh h, pt b2 4 [.bool false]]
set_option maxHeartbeats 4000000 in
theorem Balanced_ok (v : Value) (l : List Ins) (R : List HP) (hP : PrIn R v l) : Called Tryd.prog 22 [v] R (is (.bool (balM l)) R) := by
  have hC := Check_ok v l R hP.isl hP.src
  unfold balM
  by_cases h0 : progE l = 0
  · rw [h0] at hC
    obtain ⟨h64, hm⟩ := progE_may h0
    rw [decide_eq_true h0, Bool.true_and]
    have hCC : ∀ b, Called Tryd.prog 15 [v] (pt b 4 [.bool false] :: R) (is (int 0) (pt b 4 [.bool false] :: R)) := fun b => by
      have := Check_ok v l (pt b 4 [.bool false] :: R) hP.isl hP.src.there
      rwa [h0] at this
    clear hC
    refine FnM1 Tryd.func22 rfl Tryd.ntmps22 rfl ?_
    (repeat' first | refine stp ?_ | intro v' hv' | intro (b : Nat) | (apply w_convU; rfl; rfl; omega; omega) | (apply w_convI; rfl; rfl; omega; omega) | (apply w_quoU; rfl; rfl; rfl; omega; omega; omega) | (apply w_remU; rfl; rfl; rfl; omega; omega) | (apply w_minL; rfl; rfl; rfl; omega) | (apply w_minG; rfl; rfl; rfl; omega) | (apply w_min; rfl; rfl; rfl) | (apply w_mfR; rfl; rfl) | (apply w_cvp; rfl; rfl; exact inferInstance; rfl; rfl; assumption) | (apply w_eqS2T; rfl; rfl; rfl; omega) | (apply w_eqS2F; rfl; rfl; rfl; omega) | (apply w_neS2T; rfl; rfl; rfl; omega) | (apply w_neS2F; rfl; rfl; rfl; omega) | (apply w_eqS3T; rfl; rfl; rfl; omega) | (apply w_eqS3F; rfl; rfl; rfl; omega) | (apply w_neS3T; rfl; rfl; rfl; omega) | (apply w_neS3F; rfl; rfl; rfl; omega) | (apply w_eqS3; rfl; rfl; rfl) | (apply w_neS3; rfl; rfl; rfl) | (apply w_eqS2; rfl; rfl; rfl) | (apply w_neS2; rfl; rfl; rfl) | (apply w_maxL; rfl; rfl; rfl; omega) | (apply w_maxG; rfl; rfl; rfl; omega) | (apply w_max; rfl; rfl; rfl) | (apply w_neB; rfl; rfl; rfl; rfl) | (apply w_eqB; rfl; rfl; rfl; rfl) | (apply w_cq; rfl; rfl; exact hC) | (apply w_cl; rfl; rfl; exact All_ok _ _ hP.isl.one; exact ⟨_, _, 0, rfl, rfl⟩; rintro _ _ ⟨bt, rfl, rfl⟩; refine ⟨by (exact kmf), ?_⟩) | (apply w_cd; rfl; rfl; exact hCo; ((exact kmf))) | (apply w_clM; rfl; rfl; exact hTu; (first | omega | (simp; omega) | simp); intro v' hv'; refine ⟨by (exact kmf), ?_⟩) | refine spl ?_ ?_ | intro hc)
    apply w_cq; rfl; rfl; exact hCC _
    (repeat' first | refine stp ?_ | intro v' hv' | intro (b : Nat) | (apply w_convU; rfl; rfl; omega; omega) | (apply w_convI; rfl; rfl; omega; omega) | (apply w_quoU; rfl; rfl; rfl; omega; omega; omega) | (apply w_remU; rfl; rfl; rfl; omega; omega) | (apply w_minL; rfl; rfl; rfl; omega) | (apply w_minG; rfl; rfl; rfl; omega) | (apply w_min; rfl; rfl; rfl) | (apply w_mfR; rfl; rfl) | (apply w_cvp; rfl; rfl; exact inferInstance; rfl; rfl; assumption) | (apply w_eqS2T; rfl; rfl; rfl; omega) | (apply w_eqS2F; rfl; rfl; rfl; omega) | (apply w_neS2T; rfl; rfl; rfl; omega) | (apply w_neS2F; rfl; rfl; rfl; omega) | (apply w_eqS3T; rfl; rfl; rfl; omega) | (apply w_eqS3F; rfl; rfl; rfl; omega) | (apply w_neS3T; rfl; rfl; rfl; omega) | (apply w_neS3F; rfl; rfl; rfl; omega) | (apply w_eqS3; rfl; rfl; rfl) | (apply w_neS3; rfl; rfl; rfl) | (apply w_eqS2; rfl; rfl; rfl) | (apply w_neS2; rfl; rfl; rfl) | (apply w_maxL; rfl; rfl; rfl; omega) | (apply w_maxG; rfl; rfl; rfl; omega) | (apply w_max; rfl; rfl; rfl) | (apply w_neB; rfl; rfl; rfl; rfl) | (apply w_eqB; rfl; rfl; rfl; rfl) | (apply w_cq; rfl; rfl; exact hC) | (apply w_cl; rfl; rfl; exact All_ok _ _ hP.isl.one; exact ⟨_, _, 0, rfl, rfl⟩; rintro _ _ ⟨bt, rfl, rfl⟩; refine ⟨by (exact kmf), ?_⟩) | (apply w_cd; rfl; rfl; exact hCo; ((exact kmf))) | (apply w_clM; rfl; rfl; exact hTu; (first | omega | (simp; omega) | simp); intro v' hv'; refine ⟨by (exact kmf), ?_⟩) | refine spl ?_ ?_ | intro hc)
    rename_i b2
    obtain ⟨bh, hbh⟩ : ∃ r, r = b := ⟨_, rfl⟩
    subst hbh
    refine C_sat (L' := alH bt v R :: balH b2 bh [] :: []) (fun w hs => ?_) ?_
    · have h1 : Sat w (pt bh 50 [.slice none 0 0] :: pt bt 22 [v] :: pt b2 4 [.bool false] :: R) := hs.perm (.swap ..)
      have h2 : Sat w ([heldH bh [], pt bt 22 [v], pt b2 4 [.bool false]] ++ R) := heldH_empty h1
      have h3 : Sat w (all R :: [heldH bh [], pt bt 22 [v], pt b2 4 [.bool false]]) := Sat.all_iff.2 (h2.perm List.perm_append_comm)
      unfold alH balH
      refine Sat.all_iff.2 ?_
      have h4 : Sat w (all [heldH bh [], pt b2 4 [.bool false]] :: pt bt 22 [v] :: all R :: []) := Sat.all_iff.2 (Sel.sat (by (focus ((repeat (first | exact Sel.refl | (apply Sel.cons; (focus ((repeat (first | exact Del.here | apply Del.there)); done))) | refine Sel.drop ?_)); done))) h3)
      exact h4.perm (List.perm_append_comm (l₁ := [all [heldH bh [], pt b2 4 [.bool false]]]) (l₂ := [pt bt 22 [v], all R]))
    have hG := bal_goes (l := l) h64
    refine C_rangeE (A := balH b2 bh) (s0 := []) (step := balStep) (dom := balDom) rfl (All1_ok bt v l R hP) rfl (fun s xs hd => by obtain ⟨i, x, rfl, -⟩ := hd; rfl) Sel.refl ?_ hG fun r => ?_
    · rintro lb r h xs J ⟨i, ⟨op, n⟩, rfl, hlen, hso⟩
      apply Exists.intro
      refine ⟨fun b => pt b 27 [int op, int n], fun Q r' hQ => ?_, fun b => ?_⟩
      · simp only [parF]
        (repeat' first | refine stp ?_ | intro v' hv' | intro (b : Nat) | (apply w_convU; rfl; rfl; omega; omega) | (apply w_convI; rfl; rfl; omega; omega) | (apply w_quoU; rfl; rfl; rfl; omega; omega; omega) | (apply w_remU; rfl; rfl; rfl; omega; omega) | (apply w_minL; rfl; rfl; rfl; omega) | (apply w_minG; rfl; rfl; rfl; omega) | (apply w_min; rfl; rfl; rfl) | (apply w_mfR; rfl; rfl) | (apply w_cvp; rfl; rfl; exact inferInstance; rfl; rfl; assumption) | (apply w_eqS2T; rfl; rfl; rfl; omega) | (apply w_eqS2F; rfl; rfl; rfl; omega) | (apply w_neS2T; rfl; rfl; rfl; omega) | (apply w_neS2F; rfl; rfl; rfl; omega) | (apply w_eqS3T; rfl; rfl; rfl; omega) | (apply w_eqS3F; rfl; rfl; rfl; omega) | (apply w_neS3T; rfl; rfl; rfl; omega) | (apply w_neS3F; rfl; rfl; rfl; omega) | (apply w_eqS3; rfl; rfl; rfl) | (apply w_neS3; rfl; rfl; rfl) | (apply w_eqS2; rfl; rfl; rfl) | (apply w_neS2; rfl; rfl; rfl) | (apply w_maxL; rfl; rfl; rfl; omega) | (apply w_maxG; rfl; rfl; rfl; omega) | (apply w_max; rfl; rfl; rfl) | (apply w_neB; rfl; rfl; rfl; rfl) | (apply w_eqB; rfl; rfl; rfl; rfl) | (apply w_cq; rfl; rfl; exact hC) | (apply w_cl; rfl; rfl; exact All_ok _ _ hP.isl.one; exact ⟨_, _, 0, rfl, rfl⟩; rintro _ _ ⟨bt, rfl, rfl⟩; refine ⟨by (exact kmf), ?_⟩) | (apply w_cd; rfl; rfl; exact hCo; ((exact kmf))) | (apply w_clM; rfl; rfl; exact hTu; (first | omega | (simp; omega) | simp); intro v' hv'; refine ⟨by (exact kmf), ?_⟩) | refine spl ?_ ?_ | intro hc)
        exact hQ b
      · refine C_block ?_
        show C Tryd.prog _ _ (Exit.inBlock _ (RPost (balNx h ⟨op, n⟩).1 (balH b2 bh (balNx h ⟨op, n⟩).2 :: blk lb (.loop r) :: J))) _ _ _ _
        have hTl := turn_len h ⟨op, n⟩
        have hTs := turn_sorted hso ⟨op, n⟩
        refine C_sat (L' := heldH bh h :: pt b2 4 [.bool false] :: pt b 27 [int op, int n] :: blk lb (.loop r) :: J) (fun w hs => ?_) ?_
        · have h1 : Sat w (balH b2 bh h :: pt b 27 [int op, int n] :: blk lb (.loop r) :: J) := hs.perm (.swap ..)
          unfold balH at h1
          exact Sat.all_iff.1 h1
        refine C_heldH fun v2 ho1 ho2 hv2 => ?_
        have hfold : ∀ (h' : List Int) (v3 : Value) (w : World), h'.length ≤ 100 ∧ h'.Pairwise (· < ·) → Sat w (pt bh 50 [v3] :: sl 3 1 v3 (h'.map iE) :: pt b2 4 [.bool false] :: blk lb (.loop r) :: J) → Sat w (balH b2 bh h' :: blk lb (.loop r) :: J) := fun h' v3 w hh hs => by
          unfold balH
          exact Sat.all_iff.2 (heldH_fold hh hs)
        have hCo : Called Tryd.prog 39 [v2, int n] (pt bh 50 [v2] :: sl 3 1 v2 (h.map iE) :: pt b2 4 [.bool false] :: pt b 27 [int op, int n] :: blk lb (.loop r) :: J) (is (.bool (decide (n ∈ h))) (pt bh 50 [v2] :: sl 3 1 v2 (h.map iE) :: pt b2 4 [.bool false] :: pt b 27 [int op, int n] :: blk lb (.loop r) :: J)) := by
          have := IContains_ok v2 h n (pt bh 50 [v2] :: sl 3 1 v2 (h.map iE) :: pt b2 4 [.bool false] :: pt b 27 [int op, int n] :: blk lb (.loop r) :: J) (InIn.sl hv2).there
          have e : h.contains n = decide (n ∈ h) := by simp
          rwa [e] at this
        have hTu : Called Tryd.prog 40 [v2, .agg #[int op, int n]] (pt bh 50 [v2] :: sl 3 1 v2 (h.map iE) :: pt b2 4 [.bool false] :: pt b 27 [int op, int n] :: blk lb (.loop r) :: J) (retSl 3 1 ((turn h ⟨op, n⟩).map iE) (pt bh 50 [v2] :: pt b2 4 [.bool false] :: pt b 27 [int op, int n] :: blk lb (.loop r) :: J)) :=
          (turned_ok v2 h ⟨op, n⟩ (pt bh 50 [v2] :: pt b2 4 [.bool false] :: pt b 27 [int op, int n] :: blk lb (.loop r) :: J) (by omega) hso).pre (fun w hs => hs.perm (.swap ..))
        unfold balNx
        by_cases hc : op = 2 ∧ n ∈ h ∨ op = 4 ∧ n ∉ h
        · rw [if_pos hc]
          dsimp only
          by_cases hmm : n ∈ h
          · rw [decide_eq_true hmm] at hCo
            have h2 : op = 2 := by rcases hc with h | h; exact h.1; exact absurd hmm h.2
            (repeat' first | refine stp ?_ | intro v' hv' | intro (b : Nat) | (apply w_convU; rfl; rfl; omega; omega) | (apply w_convI; rfl; rfl; omega; omega) | (apply w_quoU; rfl; rfl; rfl; omega; omega; omega) | (apply w_remU; rfl; rfl; rfl; omega; omega) | (apply w_minL; rfl; rfl; rfl; omega) | (apply w_minG; rfl; rfl; rfl; omega) | (apply w_min; rfl; rfl; rfl) | (apply w_mfR; rfl; rfl) | (apply w_cvp; rfl; rfl; exact inferInstance; rfl; rfl; assumption) | (apply w_eqS2T; rfl; rfl; rfl; omega) | (apply w_eqS2F; rfl; rfl; rfl; omega) | (apply w_neS2T; rfl; rfl; rfl; omega) | (apply w_neS2F; rfl; rfl; rfl; omega) | (apply w_eqS3T; rfl; rfl; rfl; omega) | (apply w_eqS3F; rfl; rfl; rfl; omega) | (apply w_neS3T; rfl; rfl; rfl; omega) | (apply w_neS3F; rfl; rfl; rfl; omega) | (apply w_eqS3; rfl; rfl; rfl) | (apply w_neS3; rfl; rfl; rfl) | (apply w_eqS2; rfl; rfl; rfl) | (apply w_neS2; rfl; rfl; rfl) | (apply w_maxL; rfl; rfl; rfl; omega) | (apply w_maxG; rfl; rfl; rfl; omega) | (apply w_max; rfl; rfl; rfl) | (apply w_neB; rfl; rfl; rfl; rfl) | (apply w_eqB; rfl; rfl; rfl; rfl) | (apply w_cq; rfl; rfl; exact hC) | (apply w_cl; rfl; rfl; exact All_ok _ _ hP.isl.one; exact ⟨_, _, 0, rfl, rfl⟩; rintro _ _ ⟨bt, rfl, rfl⟩; refine ⟨by (exact kmf), ?_⟩) | (apply w_cd; rfl; rfl; exact hCo; ((exact kmf))) | (apply w_clM; rfl; rfl; exact hTu; (first | omega | (simp; omega) | simp); intro v' hv'; refine ⟨by (exact kmf), ?_⟩) | refine spl ?_ ?_ | intro hc)
            all_goals first | (exfalso; omega) | skip
            all_goals exact At_round_ret (fun w hs => hfold h v2 w ⟨by omega, hso⟩ (Sel.sat (by (focus ((repeat (first | exact Sel.refl | (apply Sel.cons; (focus ((repeat (first | exact Del.here | apply Del.there)); done))) | refine Sel.drop ?_)); done))) hs))
          · rw [decide_eq_false hmm] at hCo
            have h2 : op = 4 := by rcases hc with h | h; exact absurd h.2 hmm; exact h.1
            (repeat' first | refine stp ?_ | intro v' hv' | intro (b : Nat) | (apply w_convU; rfl; rfl; omega; omega) | (apply w_convI; rfl; rfl; omega; omega) | (apply w_quoU; rfl; rfl; rfl; omega; omega; omega) | (apply w_remU; rfl; rfl; rfl; omega; omega) | (apply w_minL; rfl; rfl; rfl; omega) | (apply w_minG; rfl; rfl; rfl; omega) | (apply w_min; rfl; rfl; rfl) | (apply w_mfR; rfl; rfl) | (apply w_cvp; rfl; rfl; exact inferInstance; rfl; rfl; assumption) | (apply w_eqS2T; rfl; rfl; rfl; omega) | (apply w_eqS2F; rfl; rfl; rfl; omega) | (apply w_neS2T; rfl; rfl; rfl; omega) | (apply w_neS2F; rfl; rfl; rfl; omega) | (apply w_eqS3T; rfl; rfl; rfl; omega) | (apply w_eqS3F; rfl; rfl; rfl; omega) | (apply w_neS3T; rfl; rfl; rfl; omega) | (apply w_neS3F; rfl; rfl; rfl; omega) | (apply w_eqS3; rfl; rfl; rfl) | (apply w_neS3; rfl; rfl; rfl) | (apply w_eqS2; rfl; rfl; rfl) | (apply w_neS2; rfl; rfl; rfl) | (apply w_maxL; rfl; rfl; rfl; omega) | (apply w_maxG; rfl; rfl; rfl; omega) | (apply w_max; rfl; rfl; rfl) | (apply w_neB; rfl; rfl; rfl; rfl) | (apply w_eqB; rfl; rfl; rfl; rfl) | (apply w_cq; rfl; rfl; exact hC) | (apply w_cl; rfl; rfl; exact All_ok _ _ hP.isl.one; exact ⟨_, _, 0, rfl, rfl⟩; rintro _ _ ⟨bt, rfl, rfl⟩; refine ⟨by (exact kmf), ?_⟩) | (apply w_cd; rfl; rfl; exact hCo; ((exact kmf))) | (apply w_clM; rfl; rfl; exact hTu; (first | omega | (simp; omega) | simp); intro v' hv'; refine ⟨by (exact kmf), ?_⟩) | refine spl ?_ ?_ | intro hc)
            all_goals first | (exfalso; omega) | skip
            all_goals exact At_round_ret (fun w hs => hfold h v2 w ⟨by omega, hso⟩ (Sel.sat (by (focus ((repeat (first | exact Sel.refl | (apply Sel.cons; (focus ((repeat (first | exact Del.here | apply Del.there)); done))) | refine Sel.drop ?_)); done))) hs))
        · rw [if_neg hc]
          dsimp only
          by_cases hmm : n ∈ h
          · rw [decide_eq_true hmm] at hCo
            have h2 : ¬ op = 2 := fun e => hc (.inl ⟨e, hmm⟩)
            (repeat' first | refine stp ?_ | intro v' hv' | intro (b : Nat) | (apply w_convU; rfl; rfl; omega; omega) | (apply w_convI; rfl; rfl; omega; omega) | (apply w_quoU; rfl; rfl; rfl; omega; omega; omega) | (apply w_remU; rfl; rfl; rfl; omega; omega) | (apply w_minL; rfl; rfl; rfl; omega) | (apply w_minG; rfl; rfl; rfl; omega) | (apply w_min; rfl; rfl; rfl) | (apply w_mfR; rfl; rfl) | (apply w_cvp; rfl; rfl; exact inferInstance; rfl; rfl; assumption) | (apply w_eqS2T; rfl; rfl; rfl; omega) | (apply w_eqS2F; rfl; rfl; rfl; omega) | (apply w_neS2T; rfl; rfl; rfl; omega) | (apply w_neS2F; rfl; rfl; rfl; omega) | (apply w_eqS3T; rfl; rfl; rfl; omega) | (apply w_eqS3F; rfl; rfl; rfl; omega) | (apply w_neS3T; rfl; rfl; rfl; omega) | (apply w_neS3F; rfl; rfl; rfl; omega) | (apply w_eqS3; rfl; rfl; rfl) | (apply w_neS3; rfl; rfl; rfl) | (apply w_eqS2; rfl; rfl; rfl) | (apply w_neS2; rfl; rfl; rfl) | (apply w_maxL; rfl; rfl; rfl; omega) | (apply w_maxG; rfl; rfl; rfl; omega) | (apply w_max; rfl; rfl; rfl) | (apply w_neB; rfl; rfl; rfl; rfl) | (apply w_eqB; rfl; rfl; rfl; rfl) | (apply w_cq; rfl; rfl; exact hC) | (apply w_cl; rfl; rfl; exact All_ok _ _ hP.isl.one; exact ⟨_, _, 0, rfl, rfl⟩; rintro _ _ ⟨bt, rfl, rfl⟩; refine ⟨by (exact kmf), ?_⟩) | (apply w_cd; rfl; rfl; exact hCo; ((exact kmf))) | (apply w_clM; rfl; rfl; exact hTu; (first | omega | (simp; omega) | simp); intro v' hv'; refine ⟨by (exact kmf), ?_⟩) | refine spl ?_ ?_ | intro hc)
            all_goals first | (exfalso; omega) | skip
            all_goals exact At_round_normal (fun w hs => hfold _ _ w ⟨by omega, hTs⟩ (Sel.sat (by (focus ((repeat (first | exact Sel.refl | (apply Sel.cons; (focus ((repeat (first | exact Del.here | apply Del.there)); done))) | refine Sel.drop ?_)); done))) hs))
          · rw [decide_eq_false hmm] at hCo
            have h2 : ¬ op = 4 := fun e => hc (.inr ⟨e, hmm⟩)
            (repeat' first | refine stp ?_ | intro v' hv' | intro (b : Nat) | (apply w_convU; rfl; rfl; omega; omega) | (apply w_convI; rfl; rfl; omega; omega) | (apply w_quoU; rfl; rfl; rfl; omega; omega; omega) | (apply w_remU; rfl; rfl; rfl; omega; omega) | (apply w_minL; rfl; rfl; rfl; omega) | (apply w_minG; rfl; rfl; rfl; omega) | (apply w_min; rfl; rfl; rfl) | (apply w_mfR; rfl; rfl) | (apply w_cvp; rfl; rfl; exact inferInstance; rfl; rfl; assumption) | (apply w_eqS2T; rfl; rfl; rfl; omega) | (apply w_eqS2F; rfl; rfl; rfl; omega) | (apply w_neS2T; rfl; rfl; rfl; omega) | (apply w_neS2F; rfl; rfl; rfl; omega) | (apply w_eqS3T; rfl; rfl; rfl; omega) | (apply w_eqS3F; rfl; rfl; rfl; omega) | (apply w_neS3T; rfl; rfl; rfl; omega) | (apply w_neS3F; rfl; rfl; rfl; omega) | (apply w_eqS3; rfl; rfl; rfl) | (apply w_neS3; rfl; rfl; rfl) | (apply w_eqS2; rfl; rfl; rfl) | (apply w_neS2; rfl; rfl; rfl) | (apply w_maxL; rfl; rfl; rfl; omega) | (apply w_maxG; rfl; rfl; rfl; omega) | (apply w_max; rfl; rfl; rfl) | (apply w_neB; rfl; rfl; rfl; rfl) | (apply w_eqB; rfl; rfl; rfl; rfl) | (apply w_cq; rfl; rfl; exact hC) | (apply w_cl; rfl; rfl; exact All_ok _ _ hP.isl.one; exact ⟨_, _, 0, rfl, rfl⟩; rintro _ _ ⟨bt, rfl, rfl⟩; refine ⟨by (exact kmf), ?_⟩) | (apply w_cd; rfl; rfl; exact hCo; ((exact kmf))) | (apply w_clM; rfl; rfl; exact hTu; (first | omega | (simp; omega) | simp); intro v' hv'; refine ⟨by (exact kmf), ?_⟩) | refine spl ?_ ?_ | intro hc)
            all_goals first | (exfalso; omega) | skip
            all_goals exact At_round_normal (fun w hs => hfold _ _ w ⟨by omega, hTs⟩ (Sel.sat (by (focus ((repeat (first | exact Sel.refl | (apply Sel.cons; (focus ((repeat (first | exact Del.here | apply Del.there)); done))) | refine Sel.drop ?_)); done))) hs))
    · have hout : ∀ {w : World} {Y : List HP}, Sat w (alH bt v R :: Y) → Sat w R := fun {w Y} hs => by
        unfold alH at hs
        have h1 : Sat w (pt bt 22 [v] :: all R :: Y) := Sat.all_iff.1 hs
        exact h1.drop.all_left
      have hcode : ∀ {h : List Int} {c : Code}, balR (listed l) = (h, some c) → c = .ret := balR_code
      generalize balR (listed l) = rr at *
      obtain ⟨hh, cc⟩ := rr
      cases cc with
      | some c =>
        obtain rfl := hcode rfl
        simp only [ends]
        refine C_sat (L' := heldH bh hh :: pt b2 4 [.bool false] :: mblk r :: alH bt v R :: []) (fun w hs => ?_) ?_
        · have h1 : Sat w (balH b2 bh hh :: mblk r :: alH bt v R :: []) := Sel.sat (by (focus ((repeat (first | exact Sel.refl | (apply Sel.cons; (focus ((repeat (first | exact Del.here | apply Del.there)); done))) | refine Sel.drop ?_)); done))) hs
          unfold balH at h1
          exact Sat.all_iff.1 h1
        (repeat' first | refine stp ?_ | intro v' hv' | intro (b : Nat) | (apply w_convU; rfl; rfl; omega; omega) | (apply w_convI; rfl; rfl; omega; omega) | (apply w_quoU; rfl; rfl; rfl; omega; omega; omega) | (apply w_remU; rfl; rfl; rfl; omega; omega) | (apply w_minL; rfl; rfl; rfl; omega) | (apply w_minG; rfl; rfl; rfl; omega) | (apply w_min; rfl; rfl; rfl) | (apply w_mfR; rfl; rfl) | (apply w_cvp; rfl; rfl; exact inferInstance; rfl; rfl; assumption) | (apply w_eqS2T; rfl; rfl; rfl; omega) | (apply w_eqS2F; rfl; rfl; rfl; omega) | (apply w_neS2T; rfl; rfl; rfl; omega) | (apply w_neS2F; rfl; rfl; rfl; omega) | (apply w_eqS3T; rfl; rfl; rfl; omega) | (apply w_eqS3F; rfl; rfl; rfl; omega) | (apply w_neS3T; rfl; rfl; rfl; omega) | (apply w_neS3F; rfl; rfl; rfl; omega) | (apply w_eqS3; rfl; rfl; rfl) | (apply w_neS3; rfl; rfl; rfl) | (apply w_eqS2; rfl; rfl; rfl) | (apply w_neS2; rfl; rfl; rfl) | (apply w_maxL; rfl; rfl; rfl; omega) | (apply w_maxG; rfl; rfl; rfl; omega) | (apply w_max; rfl; rfl; rfl) | (apply w_neB; rfl; rfl; rfl; rfl) | (apply w_eqB; rfl; rfl; rfl; rfl) | (apply w_cq; rfl; rfl; exact hC) | (apply w_cl; rfl; rfl; exact All_ok _ _ hP.isl.one; exact ⟨_, _, 0, rfl, rfl⟩; rintro _ _ ⟨bt, rfl, rfl⟩; refine ⟨by (exact kmf), ?_⟩) | (apply w_cd; rfl; rfl; exact hCo; ((exact kmf))) | (apply w_clM; rfl; rfl; exact hTu; (first | omega | (simp; omega) | simp); intro v' hv'; refine ⟨by (exact kmf), ?_⟩) | refine spl ?_ ?_ | intro hc)
        exact AtM_retR (by (first | exact .inl rfl | exact .inr rfl)) (by (focus ((repeat (first | exact Taken.nil | (apply Taken.cons; (focus ((repeat (first | exact Del.here | apply Del.there)); done))))); done))) Tryd.results22 (by (focus ((repeat (first | exact ResR.nil | (apply ResR.tmp; rfl) | (apply ResR.one; rfl; (focus ((repeat (first | assumption | exact .pt rfl | exact .sl ‹_› rfl | exact .sl1 (by first | assumption | rfl) | apply Rd.there)); done))) | (apply ResR.agg; rfl; (focus ((repeat (first | assumption | exact .pt | exact .sl ‹_› | apply RdAll.there)); done)); rfl))); done))) ⟨rfl, rfl⟩ (fun w hs => hout (Sel.sat (L' := [alH bt v R]) (by (focus ((repeat (first | exact Sel.refl | (apply Sel.cons; (focus ((repeat (first | exact Del.here | apply Del.there)); done))) | refine Sel.drop ?_)); done))) hs))
      | none =>
        simp only [ends]
        refine At_sat (L' := heldH bh hh :: pt b2 4 [.bool false] :: mblk r :: alH bt v R :: []) (fun w hs => ?_) ?_
        · have h1 : Sat w (balH b2 bh hh :: mblk r :: alH bt v R :: []) := Sel.sat (by (focus ((repeat (first | exact Sel.refl | (apply Sel.cons; (focus ((repeat (first | exact Del.here | apply Del.there)); done))) | refine Sel.drop ?_)); done))) hs
          unfold balH at h1
          exact Sat.all_iff.1 h1
        refine At_heldH fun v2 hv2 => ?_
        by_cases he : (hh.length : Int) = 0
        · rw [decide_eq_true he]
          (repeat' first | refine stp ?_ | intro v' hv' | intro (b : Nat) | (apply w_convU; rfl; rfl; omega; omega) | (apply w_convI; rfl; rfl; omega; omega) | (apply w_quoU; rfl; rfl; rfl; omega; omega; omega) | (apply w_remU; rfl; rfl; rfl; omega; omega) | (apply w_minL; rfl; rfl; rfl; omega) | (apply w_minG; rfl; rfl; rfl; omega) | (apply w_min; rfl; rfl; rfl) | (apply w_mfR; rfl; rfl) | (apply w_cvp; rfl; rfl; exact inferInstance; rfl; rfl; assumption) | (apply w_eqS2T; rfl; rfl; rfl; omega) | (apply w_eqS2F; rfl; rfl; rfl; omega) | (apply w_neS2T; rfl; rfl; rfl; omega) | (apply w_neS2F; rfl; rfl; rfl; omega) | (apply w_eqS3T; rfl; rfl; rfl; omega) | (apply w_eqS3F; rfl; rfl; rfl; omega) | (apply w_neS3T; rfl; rfl; rfl; omega) | (apply w_neS3F; rfl; rfl; rfl; omega) | (apply w_eqS3; rfl; rfl; rfl) | (apply w_neS3; rfl; rfl; rfl) | (apply w_eqS2; rfl; rfl; rfl) | (apply w_neS2; rfl; rfl; rfl) | (apply w_maxL; rfl; rfl; rfl; omega) | (apply w_maxG; rfl; rfl; rfl; omega) | (apply w_max; rfl; rfl; rfl) | (apply w_neB; rfl; rfl; rfl; rfl) | (apply w_eqB; rfl; rfl; rfl; rfl) | (apply w_cq; rfl; rfl; exact hC) | (apply w_cl; rfl; rfl; exact All_ok _ _ hP.isl.one; exact ⟨_, _, 0, rfl, rfl⟩; rintro _ _ ⟨bt, rfl, rfl⟩; refine ⟨by (exact kmf), ?_⟩) | (apply w_cd; rfl; rfl; exact hCo; ((exact kmf))) | (apply w_clM; rfl; rfl; exact hTu; (first | omega | (simp; omega) | simp); intro v' hv'; refine ⟨by (exact kmf), ?_⟩) | refine spl ?_ ?_ | intro hc)
          exact AtM_retR (by (first | exact .inl rfl | exact .inr rfl)) (by (focus ((repeat (first | exact Taken.nil | (apply Taken.cons; (focus ((repeat (first | exact Del.here | apply Del.there)); done))))); done))) Tryd.results22 (by (focus ((repeat (first | exact ResR.nil | (apply ResR.tmp; rfl) | (apply ResR.one; rfl; (focus ((repeat (first | assumption | exact .pt rfl | exact .sl ‹_› rfl | exact .sl1 (by first | assumption | rfl) | apply Rd.there)); done))) | (apply ResR.agg; rfl; (focus ((repeat (first | assumption | exact .pt | exact .sl ‹_› | apply RdAll.there)); done)); rfl))); done))) ⟨rfl, rfl⟩ (fun w hs => hout (Sel.sat (L' := [alH bt v R]) (by (focus ((repeat (first | exact Sel.refl | (apply Sel.cons; (focus ((repeat (first | exact Del.here | apply Del.there)); done))) | refine Sel.drop ?_)); done))) hs))
        · rw [decide_eq_false he]
          (repeat' first | refine stp ?_ | intro v' hv' | intro (b : Nat) | (apply w_convU; rfl; rfl; omega; omega) | (apply w_convI; rfl; rfl; omega; omega) | (apply w_quoU; rfl; rfl; rfl; omega; omega; omega) | (apply w_remU; rfl; rfl; rfl; omega; omega) | (apply w_minL; rfl; rfl; rfl; omega) | (apply w_minG; rfl; rfl; rfl; omega) | (apply w_min; rfl; rfl; rfl) | (apply w_mfR; rfl; rfl) | (apply w_cvp; rfl; rfl; exact inferInstance; rfl; rfl; assumption) | (apply w_eqS2T; rfl; rfl; rfl; omega) | (apply w_eqS2F; rfl; rfl; rfl; omega) | (apply w_neS2T; rfl; rfl; rfl; omega) | (apply w_neS2F; rfl; rfl; rfl; omega) | (apply w_eqS3T; rfl; rfl; rfl; omega) | (apply w_eqS3F; rfl; rfl; rfl; omega) | (apply w_neS3T; rfl; rfl; rfl; omega) | (apply w_neS3F; rfl; rfl; rfl; omega) | (apply w_eqS3; rfl; rfl; rfl) | (apply w_neS3; rfl; rfl; rfl) | (apply w_eqS2; rfl; rfl; rfl) | (apply w_neS2; rfl; rfl; rfl) | (apply w_maxL; rfl; rfl; rfl; omega) | (apply w_maxG; rfl; rfl; rfl; omega) | (apply w_max; rfl; rfl; rfl) | (apply w_neB; rfl; rfl; rfl; rfl) | (apply w_eqB; rfl; rfl; rfl; rfl) | (apply w_cq; rfl; rfl; exact hC) | (apply w_cl; rfl; rfl; exact All_ok _ _ hP.isl.one; exact ⟨_, _, 0, rfl, rfl⟩; rintro _ _ ⟨bt, rfl, rfl⟩; refine ⟨by (exact kmf), ?_⟩) | (apply w_cd; rfl; rfl; exact hCo; ((exact kmf))) | (apply w_clM; rfl; rfl; exact hTu; (first | omega | (simp; omega) | simp); intro v' hv'; refine ⟨by (exact kmf), ?_⟩) | refine spl ?_ ?_ | intro hc)
          exact AtM_retR (by (first | exact .inl rfl | exact .inr rfl)) (by (focus ((repeat (first | exact Taken.nil | (apply Taken.cons; (focus ((repeat (first | exact Del.here | apply Del.there)); done))))); done))) Tryd.results22 (by (focus ((repeat (first | exact ResR.nil | (apply ResR.tmp; rfl) | (apply ResR.one; rfl; (focus ((repeat (first | assumption | exact .pt rfl | exact .sl ‹_› rfl | exact .sl1 (by first | assumption | rfl) | apply Rd.there)); done))) | (apply ResR.agg; rfl; (focus ((repeat (first | assumption | exact .pt | exact .sl ‹_› | apply RdAll.there)); done)); rfl))); done))) ⟨rfl, rfl⟩ (fun w hs => hout (Sel.sat (L' := [alH bt v R]) (by (focus ((repeat (first | exact Sel.refl | (apply Sel.cons; (focus ((repeat (first | exact Del.here | apply Del.there)); done))) | refine Sel.drop ?_)); done))) hs))
  · rw [decide_eq_false h0, Bool.false_and]
    have hCC : ∀ b, Called Tryd.prog 15 [v] (pt b 4 [.bool false] :: R) (is (int (progE l)) (pt b 4 [.bool false] :: R)) := fun b => Check_ok v l (pt b 4 [.bool false] :: R) hP.isl hP.src.there
    clear hC
    generalize progE l = e at *
    refine FnM1 Tryd.func22 rfl Tryd.ntmps22 rfl ?_
    (repeat' first | refine stp ?_ | intro v' hv' | intro (b : Nat) | (apply w_convU; rfl; rfl; omega; omega) | (apply w_convI; rfl; rfl; omega; omega) | (apply w_quoU; rfl; rfl; rfl; omega; omega; omega) | (apply w_remU; rfl; rfl; rfl; omega; omega) | (apply w_minL; rfl; rfl; rfl; omega) | (apply w_minG; rfl; rfl; rfl; omega) | (apply w_min; rfl; rfl; rfl) | (apply w_mfR; rfl; rfl) | (apply w_cvp; rfl; rfl; exact inferInstance; rfl; rfl; assumption) | (apply w_eqS2T; rfl; rfl; rfl; omega) | (apply w_eqS2F; rfl; rfl; rfl; omega) | (apply w_neS2T; rfl; rfl; rfl; omega) | (apply w_neS2F; rfl; rfl; rfl; omega) | (apply w_eqS3T; rfl; rfl; rfl; omega) | (apply w_eqS3F; rfl; rfl; rfl; omega) | (apply w_neS3T; rfl; rfl; rfl; omega) | (apply w_neS3F; rfl; rfl; rfl; omega) | (apply w_eqS3; rfl; rfl; rfl) | (apply w_neS3; rfl; rfl; rfl) | (apply w_eqS2; rfl; rfl; rfl) | (apply w_neS2; rfl; rfl; rfl) | (apply w_maxL; rfl; rfl; rfl; omega) | (apply w_maxG; rfl; rfl; rfl; omega) | (apply w_max; rfl; rfl; rfl) | (apply w_neB; rfl; rfl; rfl; rfl) | (apply w_eqB; rfl; rfl; rfl; rfl) | (apply w_cq; rfl; rfl; exact hC) | (apply w_cl; rfl; rfl; exact All_ok _ _ hP.isl.one; exact ⟨_, _, 0, rfl, rfl⟩; rintro _ _ ⟨bt, rfl, rfl⟩; refine ⟨by (exact kmf), ?_⟩) | (apply w_cd; rfl; rfl; exact hCo; ((exact kmf))) | (apply w_clM; rfl; rfl; exact hTu; (first | omega | (simp; omega) | simp); intro v' hv'; refine ⟨by (exact kmf), ?_⟩) | refine spl ?_ ?_ | intro hc)
    apply w_cq; rfl; rfl; exact hCC _
    (repeat' first | refine stp ?_ | intro v' hv' | intro (b : Nat) | (apply w_convU; rfl; rfl; omega; omega) | (apply w_convI; rfl; rfl; omega; omega) | (apply w_quoU; rfl; rfl; rfl; omega; omega; omega) | (apply w_remU; rfl; rfl; rfl; omega; omega) | (apply w_minL; rfl; rfl; rfl; omega) | (apply w_minG; rfl; rfl; rfl; omega) | (apply w_min; rfl; rfl; rfl) | (apply w_mfR; rfl; rfl) | (apply w_cvp; rfl; rfl; exact inferInstance; rfl; rfl; assumption) | (apply w_eqS2T; rfl; rfl; rfl; omega) | (apply w_eqS2F; rfl; rfl; rfl; omega) | (apply w_neS2T; rfl; rfl; rfl; omega) | (apply w_neS2F; rfl; rfl; rfl; omega) | (apply w_eqS3T; rfl; rfl; rfl; omega) | (apply w_eqS3F; rfl; rfl; rfl; omega) | (apply w_neS3T; rfl; rfl; rfl; omega) | (apply w_neS3F; rfl; rfl; rfl; omega) | (apply w_eqS3; rfl; rfl; rfl) | (apply w_neS3; rfl; rfl; rfl) | (apply w_eqS2; rfl; rfl; rfl) | (apply w_neS2; rfl; rfl; rfl) | (apply w_maxL; rfl; rfl; rfl; omega) | (apply w_maxG; rfl; rfl; rfl; omega) | (apply w_max; rfl; rfl; rfl) | (apply w_neB; rfl; rfl; rfl; rfl) | (apply w_eqB; rfl; rfl; rfl; rfl) | (apply w_cq; rfl; rfl; exact hC) | (apply w_cl; rfl; rfl; exact All_ok _ _ hP.isl.one; exact ⟨_, _, 0, rfl, rfl⟩; rintro _ _ ⟨bt, rfl, rfl⟩; refine ⟨by (exact kmf), ?_⟩) | (apply w_cd; rfl; rfl; exact hCo; ((exact kmf))) | (apply w_clM; rfl; rfl; exact hTu; (first | omega | (simp; omega) | simp); intro v' hv'; refine ⟨by (exact kmf), ?_⟩) | refine spl ?_ ?_ | intro hc)
    all_goals exact AtM_retR (by (first | exact .inl rfl | exact .inr rfl)) Taken.nil Tryd.results22 (by (focus ((repeat (first | exact ResR.nil | (apply ResR.tmp; rfl) | (apply ResR.one; rfl; (focus ((repeat (first | assumption | exact .pt rfl | exact .sl ‹_› rfl | exact .sl1 (by first | assumption | rfl) | apply Rd.there)); done))) | (apply ResR.agg; rfl; (focus ((repeat (first | assumption | exact .pt | exact .sl ‹_› | apply RdAll.there)); done)); rfl))); done))) ⟨rfl, rfl⟩ (by (exact frm))
end Go.Proofs.YtelmljbblklblaaDoor
