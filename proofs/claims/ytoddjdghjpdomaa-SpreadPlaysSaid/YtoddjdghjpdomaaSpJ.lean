/- spread: the laws' Runs; Many, Where, Waiting. Conditions: none. -/
import Derived.Test.YtoddjdghjpdomaaSpI
set_option linter.all false
set_option linter.deprecated false
namespace Go.Proofs.Ytoddjdghjpdomaa
open Go.Sep
variable [B0 : Base]
/-! ### In plain words -/
theorem runQ_at : ∀ (l : List Wk) (i : Nat) (p : Int × Ky), p ∈ runQ i l ↔ ∃ j, p.1 = ((i + j : Nat) : Int) ∧ j < l.length ∧ (wkA l j).runs = true ∧ (wkA l j).k = p.2 := by
  intro l
  induction l with
  | nil => intro i p; exact ⟨fun h => (by cases h), fun ⟨j, _, h, _⟩ => (by cases h)⟩
  | cons x l ih =>
    intro i p
    have h0 : ∀ j, wkA (x :: l) (j + 1) = wkA l j := fun j => rfl
    have h00 : wkA (x :: l) 0 = x := rfl
    rw [runQ_cons]
    by_cases hx : x.runs = true
    · rw [if_pos hx, List.mem_cons, ih]
      constructor
      · rintro (rfl | ⟨j, h1, h2, h3, h4⟩)
        · exact ⟨0, rfl, by simp, hx, rfl⟩
        · exact ⟨j + 1, by rw [h1]; congr 1; omega, by simpa using h2, h3, h4⟩
      · rintro ⟨j, h1, h2, h3, h4⟩
        cases j with
        | zero => left; rw [h00] at h4; exact Prod.ext h1 h4.symm
        | succ j => right; exact ⟨j, by rw [h1]; congr 1; omega, by simpa using h2, h3, h4⟩
    · rw [if_neg hx, ih]
      constructor
      · rintro ⟨j, h1, h2, h3, h4⟩
        exact ⟨j + 1, by rw [h1]; congr 1; omega, by simpa using h2, h3, h4⟩
      · rintro ⟨j, h1, h2, h3, h4⟩
        cases j with
        | zero => rw [h00] at h3; exact absurd h3 hx
        | succ j => exact ⟨j, by rw [h1]; congr 1; omega, by simpa using h2, h3, h4⟩
theorem runQ_lt : ∀ (l : List Wk) (i : Nat), (runQ i l).Pairwise fun a b => a.1 < b.1 := by
  intro l
  induction l with
  | nil => intro i; exact List.Pairwise.nil
  | cons x l ih =>
    intro i
    rw [runQ_cons]
    split
    · refine List.pairwise_cons.2 ⟨fun p hp => ?_, ih (i + 1)⟩
      obtain ⟨j, h1, -⟩ := (runQ_at l (i + 1) p).1 hp
      rw [h1]; dsimp only; omega
    · exact ih (i + 1)
theorem runQ_rk : ∀ (l : List Wk) (i : Nat), (runQ i l).map (·.2) = rk l := by
  intro l
  induction l with
  | nil => intro i; rfl
  | cons x l ih =>
    intro i
    unfold rk at *
    rw [runQ_cons, List.flatMap_cons, ← ih (i + 1)]
    unfold rkf
    split <;> rfl
def noK : Ky := ⟨0, -1⟩
/-- Whom each of sixteen workers runs. -/
def rnA (M : List Wk) (w : Nat) : Ky := if w < M.length ∧ (wkA M w).runs = true then (wkA M w).k else noK
def rnL (M : List Wk) : List Ky := (List.range 16).map (rnA M)
theorem rnL_len (M : List Wk) : (rnL M).length = 16 := by unfold rnL; simp
theorem rnL_get (M : List Wk) {w : Nat} (h : w < 16) : (rnL M)[w]? = some (rnA M w) := by
  unfold rnL; rw [List.getElem?_map, List.getElem?_range h]; rfl
abbrev RnS : Type := List Ky × Int
def rnX (s : RnS) (x : Int × Ky) : RnS := (s.1.set x.1.toNat x.2, x.1)
def rn0 : RnS := (List.replicate 16 noK, -1)
def rnStep (s : RnS) (xs : List Value) : Option Code × RnS := match xs with
  | [.int _ w, .agg ⟨[.int _ a, .int _ n]⟩] => (none, rnX s (w, ⟨a, n⟩))
  | _ => (none, s)
def rnDom (s : RnS) (xs : List Value) : Prop := ∃ (w : Nat) (x : Ky), xs = runE ((w : Int), x) ∧ s.2 < (w : Int) ∧ w < 16 ∧ s.1.length = 16
theorem rnF_len (l : List (Int × Ky)) : ∀ s : RnS, (l.foldl rnX s).1.length = s.1.length := by
  induction l with
  | nil => intro s; rfl
  | cons x l ih => intro s; rw [List.foldl_cons, ih]; unfold rnX; rw [List.length_set]
theorem rnF_last (M : List Wk) {j : Nat} {x : Int × Ky} (h : (runQ 0 M)[j]? = some x) : (((runQ 0 M).take j).foldl rnX rn0).2 < x.1 := by
  have hlt := runQ_lt M 0
  have hge : 0 ≤ x.1 := by
    obtain ⟨i, h1, -⟩ := (runQ_at M 0 x).1 (List.mem_of_getElem? h)
    rw [h1]; omega
  cases j with
  | zero => rw [List.take_zero]; show (-1 : Int) < x.1; omega
  | succ j =>
    obtain ⟨h1, h2⟩ := List.getElem?_eq_some_iff.1 h
    have hj : j < (runQ 0 M).length := by omega
    rw [List.take_add_one, List.getElem?_eq_getElem hj, List.foldl_append]
    show ((runQ 0 M)[j]).1 < x.1
    rw [← h2]
    exact List.pairwise_iff_getElem.1 hlt j (j + 1) hj h1 (by omega)
theorem rn_goes {M : List Wk} (h : M.length ≤ 16) : Goes (fun (s : RnS × Option Code) xs => ((rnStep s.1 xs).1.isNone, ((rnStep s.1 xs).2, (rnStep s.1 xs).1))) (fun s xs => s.2 = none ∧ rnDom s.1 xs) (runG M) 0 (rn0, none) ((runQ 0 M).foldl rnX rn0, none) := by
  exact goes_fold (runQ 0 M) (fun _ x => runE x) rnX rnStep rnDom rn0 fun i x hx => by
    have hl := rnF_last M hx
    have hn := rnF_len ((runQ 0 M).take i) rn0
    obtain ⟨j, h1, h2, -⟩ := (runQ_at M 0 x).1 (List.mem_of_getElem? hx)
    obtain ⟨w, k⟩ := x
    dsimp only at h1 hl
    subst h1
    refine ⟨⟨0 + j, k, rfl, hl, by omega, by rw [hn]; rfl⟩, ?_⟩
    obtain ⟨a, n⟩ := k
    rfl
theorem rnF_all (M : List Wk) (h : M.length ≤ 16) : ((runQ 0 M).foldl rnX rn0).1 = rnL M := by
  have key : ∀ (l : List (Int × Ky)) (s : RnS) (w : Nat), w < 16 → s.1.length = 16 → (∀ p ∈ l, 0 ≤ p.1) → ((∃ p ∈ l, p.1 = (w : Int)) → ∀ p ∈ l, p.1 = (w : Int) → p.2 = rnA M w) → ((¬ ∃ p ∈ l, p.1 = (w : Int)) → s.1[w]? = some (rnA M w)) → (l.foldl rnX s).1[w]? = some (rnA M w) := by
    intro l
    induction l with
    | nil => intro s w hw hl _ _ h2; exact h2 (by simp)
    | cons x l ih =>
      intro s w hw hl h0 h1 h2
      rw [List.foldl_cons]
      have hx0 := h0 x List.mem_cons_self
      refine ih _ w hw (by unfold rnX; rw [List.length_set]; exact hl) (fun p hp => h0 p (List.mem_cons_of_mem _ hp)) (fun ⟨p, hp, e⟩ q hq e2 => h1 ⟨p, List.mem_cons_of_mem _ hp, e⟩ q (List.mem_cons_of_mem _ hq) e2) fun hn => ?_
      unfold rnX
      dsimp only
      rw [List.getElem?_set]
      by_cases e : x.1 = (w : Int)
      · rw [if_pos (by omega), if_pos (by omega), h1 ⟨x, List.mem_cons_self, e⟩ x List.mem_cons_self e]
      · rw [if_neg (by omega)]
        refine h2 fun ⟨p, hp, e2⟩ => ?_
        rcases List.mem_cons.1 hp with rfl | hp
        · exact e e2
        · exact hn ⟨p, hp, e2⟩
  refine List.ext_getElem? fun w => ?_
  by_cases hw : w < 16
  · rw [rnL_get M hw]
    refine key _ _ w hw rfl (fun p hp => ?_) (fun _ p hp e => ?_) fun hn => ?_
    · obtain ⟨j, h1, -⟩ := (runQ_at M 0 p).1 hp
      rw [h1]; omega
    · obtain ⟨j, h1, h2, h3, h4⟩ := (runQ_at M 0 p).1 hp
      obtain rfl : j = w := by omega
      unfold rnA
      rw [if_pos ⟨h2, h3⟩, h4]
    · unfold rnA
      rw [if_neg fun hc => hn ⟨((w : Int), (wkA M w).k), (runQ_at M 0 _).2 ⟨w, by dsimp only; omega, hc.1, hc.2, rfl⟩, rfl⟩]
      show (List.replicate 16 noK)[w]? = _
      rw [List.getElem?_replicate, if_pos hw]
  · rw [List.getElem?_eq_none (by rw [rnF_len]; show 16 ≤ w; omega), List.getElem?_eq_none (by rw [rnL_len]; omega)]
/-! ### Runs -/
def rsH (b5 b7 : Nat) (s : RnS) : HP := ex fun v => all [fact (s.1.length = 16), pt b5 28 [v], sl 36 2 v (s.1.map kyE), pt b7 3 [int s.2]]
theorem rsH_fold {b5 b7 : Nat} {s : RnS} {v : Value} {w : World} {R : List HP} (h : s.1.length = 16) (hs : Sat w (pt b5 28 [v] :: sl 36 2 v (s.1.map kyE) :: pt b7 3 [int s.2] :: R)) : Sat w (rsH b5 b7 s :: R) :=
  Sat.ex_iff.2 ⟨v, Sat.all_iff.2 (Sat.fact_iff.2 ⟨h, hs⟩)⟩
theorem C_rsH {P : Program} {ro : Option Nat} {Q : Exit → Act → World → Prop} {n : Nat} {F : Fr} {ds : List Deferred} {R : List HP} {cd : Code} {b5 b7 : Nat} {s : RnS}
    (h : ∀ v, s.1.length = 16 → IsSl v s.1.length → C P ro cd Q n F ds (pt b5 28 [v] :: sl 36 2 v (s.1.map kyE) :: pt b7 3 [int s.2] :: R)) : C P ro cd Q n F ds (rsH b5 b7 s :: R) := by
  unfold rsH
  refine C_ex fun v => ?_
  refine C_sat (fun w h => Sat.all_iff.1 h) ?_
  refine C_fact fun ho => ?_
  exact C_isl (v := v) (by (focus ((repeat (first | assumption | exact Len.of ‹_› | exact .slm | exact .sl | apply Len.there)); done))) fun hN _ => h v ho hN
theorem W_rsH {P : Program} {ro : Option Nat} {ops : Array Oper} {Q : Exit → Act → World → Prop} {n : Nat} {F : Fr} {ds : List Deferred} {R : List HP} {cd : List Oper} {b5 b7 : Nat} {s : RnS}
    (h : ∀ v, s.1.length = 16 → IsSl v s.1.length → W P ro none ops Q n cd F ds (pt b5 28 [v] :: sl 36 2 v (s.1.map kyE) :: pt b7 3 [int s.2] :: R)) : W P ro none ops Q n cd F ds (rsH b5 b7 s :: R) := by
  unfold rsH
  refine W_ex fun v => ?_
  refine W_know (p := s.1.length = 16) (fun w h => (Sat.fact_iff.1 (Sat.all_iff.1 h)).1) fun ho => ?_
  refine W_sat (fun w h => (Sat.fact_iff.1 (Sat.all_iff.1 h)).2) ?_
  exact W_know (p := IsSl v s.1.length) (fun w hs => Len.slm.there.out w hs) fun hN => h v ho hN
attribute [irreducible] rsH
theorem StAll.ky {v : Value} {l : List Ky} {L : List HP} {i : Nat} {k : Ky} (h : i < l.length) : StAll (sl 36 2 v (l.map kyE) :: L) (vb v) (vo v + i * 2) [int k.at', int k.id] (sl 36 2 v ((l.set i k).map kyE) :: L) := by
  have s1 := St.slm (E := 36) (n := 2) (v := v) (f := kyE) (l := l) (L := L) (i := i) (k := 0) (u := int k.at') ⟨k.at', (l[i]).id⟩ h (by show 0 < 2; decide) rfl
  have s2 := St.slm (E := 36) (n := 2) (v := v) (f := kyE) (l := l.set i ⟨k.at', (l[i]).id⟩) (L := L) (i := i) (k := 1) (u := int k.id) k (by rw [List.length_set]; exact h) (by show 1 < 2; decide) (by rw [List.getElem_set_self]; rfl)
  rw [List.set_set] at s2
  exact ⟨_, s1, _, s2, rfl⟩
set_option maxHeartbeats 8000000 in
theorem Runs_ok (tb : Nat) (M : List Wk) (h16 : M.length ≤ 16) (R : List HP) : Called Try.prog 11 [ptr tb] (msb tb M :: R) (fun u X => ∃ v', u = .tuple #[v', .bool true] ∧ IsSl v' 16 ∧ X = sl 36 2 v' ((rnL M).map kyE) :: msb tb M :: R) := by
  refine FnM1 Try.func11 rfl Try.ntmps11 rfl ?_
  (repeat' first | refine stp ?_ | intro v' hv' | intro (b : Nat) | (apply w_convU; rfl; rfl; omega; omega) | (apply w_convI; rfl; rfl; omega; omega) | (apply w_quoU; rfl; rfl; rfl; omega; omega; omega) | (apply w_remU; rfl; rfl; rfl; omega; omega) | (apply w_minL; rfl; rfl; rfl; omega) | (apply w_minG; rfl; rfl; rfl; omega) | (apply w_min; rfl; rfl; rfl) | (apply w_mfR; rfl; rfl) | (apply w_cvp; rfl; rfl; exact inferInstance; rfl; rfl; assumption) | (apply w_eqS2T; rfl; rfl; rfl; omega) | (apply w_eqS2F; rfl; rfl; rfl; omega) | (apply w_neS2T; rfl; rfl; rfl; omega) | (apply w_neS2F; rfl; rfl; rfl; omega) | (apply w_eqS3T; rfl; rfl; rfl; omega) | (apply w_eqS3F; rfl; rfl; rfl; omega) | (apply w_neS3T; rfl; rfl; rfl; omega) | (apply w_neS3F; rfl; rfl; rfl; omega) | (apply w_eqS3; rfl; rfl; rfl) | (apply w_neS3; rfl; rfl; rfl) | (apply w_eqS2; rfl; rfl; rfl) | (apply w_neS2; rfl; rfl; rfl) | (apply w_maxL; rfl; rfl; rfl; omega) | (apply w_maxG; rfl; rfl; rfl; omega) | (apply w_max; rfl; rfl; rfl) | (apply w_neB; rfl; rfl; rfl; rfl) | (apply w_eqB; rfl; rfl; rfl; rfl) | (apply w_sa; rfl; rfl; rfl; rfl; (focus ((repeat (first | exact hSa _ | apply StAll.there)); done)); ((exact kmf))) | (apply w_eqf; rfl; rfl) | refine spl ?_ ?_ | intro hc)
  rename_i b2
  obtain ⟨b3, hb3⟩ : ∃ r, r = b := ⟨_, rfl⟩
  subst hb3
  apply w_cl
  rfl; rfl; exact Called.pre (Running_ok tb M (pt b3 4 [.bool false] :: pt b2 28 [.slice none 0 0] :: R)) (by (exact frm))
  exact ⟨_, _, 0, rfl, rfl⟩
  rintro _ _ ⟨bl, rfl, rfl⟩
  refine ⟨by (exact kmf), ?_⟩
  (repeat' first | refine stp ?_ | intro v' hv' | intro (b : Nat) | (apply w_convU; rfl; rfl; omega; omega) | (apply w_convI; rfl; rfl; omega; omega) | (apply w_quoU; rfl; rfl; rfl; omega; omega; omega) | (apply w_remU; rfl; rfl; rfl; omega; omega) | (apply w_minL; rfl; rfl; rfl; omega) | (apply w_minG; rfl; rfl; rfl; omega) | (apply w_min; rfl; rfl; rfl) | (apply w_mfR; rfl; rfl) | (apply w_cvp; rfl; rfl; exact inferInstance; rfl; rfl; assumption) | (apply w_eqS2T; rfl; rfl; rfl; omega) | (apply w_eqS2F; rfl; rfl; rfl; omega) | (apply w_neS2T; rfl; rfl; rfl; omega) | (apply w_neS2F; rfl; rfl; rfl; omega) | (apply w_eqS3T; rfl; rfl; rfl; omega) | (apply w_eqS3F; rfl; rfl; rfl; omega) | (apply w_neS3T; rfl; rfl; rfl; omega) | (apply w_neS3F; rfl; rfl; rfl; omega) | (apply w_eqS3; rfl; rfl; rfl) | (apply w_neS3; rfl; rfl; rfl) | (apply w_eqS2; rfl; rfl; rfl) | (apply w_neS2; rfl; rfl; rfl) | (apply w_maxL; rfl; rfl; rfl; omega) | (apply w_maxG; rfl; rfl; rfl; omega) | (apply w_max; rfl; rfl; rfl) | (apply w_neB; rfl; rfl; rfl; rfl) | (apply w_eqB; rfl; rfl; rfl; rfl) | (apply w_sa; rfl; rfl; rfl; rfl; (focus ((repeat (first | exact hSa _ | apply StAll.there)); done)); ((exact kmf))) | (apply w_eqf; rfl; rfl) | refine spl ?_ ?_ | intro hc)
  obtain ⟨b5, hb5⟩ : ∃ r, r = b := ⟨_, rfl⟩
  subst hb5
  refine C_loopK (α := Nat × Value) [6, 14, 15, 16, 17, 18, 19, 20, 21] (fun x => 16 - x.1) (fun x => [(6, int x.1)]) (fun x => pt b5 28 [x.2] :: sl 36 2 x.2 ((List.replicate x.1 noK).map kyE) :: rnH bl M :: msb tb M :: pt b3 4 [.bool false] :: pt b2 28 [.slice none 0 0] :: R) (fun x => x.1 ≤ 16 ∧ IsSl x.2 x.1) (0, .slice none 0 0) ⟨Nat.zero_le _, IsSl.nil⟩ (by (focus ((repeat (first | exact Keep.nil | apply Keep.drop rfl | apply Keep.keep rfl)); done))) (by (exact sbf)) (fun w hs => ?_) ?_
  · have h0 : Sat w (sl 36 2 (.slice none 0 0) (([] : List Ky).map kyE) :: pt b5 28 [.slice none 0 0] :: rnH bl M :: msb tb M :: pt b3 4 [.bool false] :: pt b2 28 [.slice none 0 0] :: R) := Sat.sl_nil (E := 36) (n := 2) (Sel.sat (by (focus ((repeat (first | exact Sel.refl | (apply Sel.cons; (focus ((repeat (first | exact Del.here | apply Del.there)); done))) | refine Sel.drop ?_)); done))) hs)
    exact h0.perm (.swap ..)
  rintro ⟨i, v1⟩ ⟨hi, hv1⟩
  dsimp only [List.cons_append, List.nil_append] at *
  by_cases hlt : i < 16
  · have hv1 : IsSl v1 (List.replicate i noK).length := by rw [List.length_replicate]; exact hv1
    have hl1 : (List.replicate i noK).length = i := List.length_replicate
    have hrs : List.replicate (i + 1) noK = List.replicate i noK ++ [noK] := List.replicate_succ'
    generalize List.replicate i noK = q1 at *
    (repeat' first | refine stp ?_ | intro v' hv' | intro (b : Nat) | (apply w_convU; rfl; rfl; omega; omega) | (apply w_convI; rfl; rfl; omega; omega) | (apply w_quoU; rfl; rfl; rfl; omega; omega; omega) | (apply w_remU; rfl; rfl; rfl; omega; omega) | (apply w_minL; rfl; rfl; rfl; omega) | (apply w_minG; rfl; rfl; rfl; omega) | (apply w_min; rfl; rfl; rfl) | (apply w_mfR; rfl; rfl) | (apply w_cvp; rfl; rfl; exact inferInstance; rfl; rfl; assumption) | (apply w_eqS2T; rfl; rfl; rfl; omega) | (apply w_eqS2F; rfl; rfl; rfl; omega) | (apply w_neS2T; rfl; rfl; rfl; omega) | (apply w_neS2F; rfl; rfl; rfl; omega) | (apply w_eqS3T; rfl; rfl; rfl; omega) | (apply w_eqS3F; rfl; rfl; rfl; omega) | (apply w_neS3T; rfl; rfl; rfl; omega) | (apply w_neS3F; rfl; rfl; rfl; omega) | (apply w_eqS3; rfl; rfl; rfl) | (apply w_neS3; rfl; rfl; rfl) | (apply w_eqS2; rfl; rfl; rfl) | (apply w_neS2; rfl; rfl; rfl) | (apply w_maxL; rfl; rfl; rfl; omega) | (apply w_maxG; rfl; rfl; rfl; omega) | (apply w_max; rfl; rfl; rfl) | (apply w_neB; rfl; rfl; rfl; rfl) | (apply w_eqB; rfl; rfl; rfl; rfl) | (apply w_sa; rfl; rfl; rfl; rfl; (focus ((repeat (first | exact hSa _ | apply StAll.there)); done)); ((exact kmf))) | (apply w_eqf; rfl; rfl) | refine spl ?_ ?_ | intro hc)
    ((apply w_apM (l2 := [noK]); rfl; rfl; rfl; (focus ((repeat (first | exact Del.here | apply Del.there)); done)); ((exact srf)); (intro; rfl); (first | (simp only [List.length_cons, List.length_nil]; omega) | (simp; omega)); (first | (simp only [List.length_cons, List.length_nil]; omega) | (simp; omega))); intro v' hv'; refine ⟨by (exact kmf), ?_⟩)
    (repeat' first | refine stp ?_ | intro v' hv' | intro (b : Nat) | (apply w_convU; rfl; rfl; omega; omega) | (apply w_convI; rfl; rfl; omega; omega) | (apply w_quoU; rfl; rfl; rfl; omega; omega; omega) | (apply w_remU; rfl; rfl; rfl; omega; omega) | (apply w_minL; rfl; rfl; rfl; omega) | (apply w_minG; rfl; rfl; rfl; omega) | (apply w_min; rfl; rfl; rfl) | (apply w_mfR; rfl; rfl) | (apply w_cvp; rfl; rfl; exact inferInstance; rfl; rfl; assumption) | (apply w_eqS2T; rfl; rfl; rfl; omega) | (apply w_eqS2F; rfl; rfl; rfl; omega) | (apply w_neS2T; rfl; rfl; rfl; omega) | (apply w_neS2F; rfl; rfl; rfl; omega) | (apply w_eqS3T; rfl; rfl; rfl; omega) | (apply w_eqS3F; rfl; rfl; rfl; omega) | (apply w_neS3T; rfl; rfl; rfl; omega) | (apply w_neS3F; rfl; rfl; rfl; omega) | (apply w_eqS3; rfl; rfl; rfl) | (apply w_neS3; rfl; rfl; rfl) | (apply w_eqS2; rfl; rfl; rfl) | (apply w_neS2; rfl; rfl; rfl) | (apply w_maxL; rfl; rfl; rfl; omega) | (apply w_maxG; rfl; rfl; rfl; omega) | (apply w_max; rfl; rfl; rfl) | (apply w_neB; rfl; rfl; rfl; rfl) | (apply w_eqB; rfl; rfl; rfl; rfl) | (apply w_sa; rfl; rfl; rfl; rfl; (focus ((repeat (first | exact hSa _ | apply StAll.there)); done)); ((exact kmf))) | (apply w_eqf; rfl; rfl) | refine spl ?_ ?_ | intro hc)
    refine At_againK (i + 1, v') ⟨hlt, by rw [List.length_append, hl1] at hv'; exact hv'⟩ (by dsimp only; omega) (by (exact sbf)) (by (exact sbf)) (fun w hs => ?_)
    dsimp only
    rw [hrs]
    exact Sel.sat (by (focus ((repeat (first | exact Sel.refl | (apply Sel.cons; (focus ((repeat (first | exact Del.here | apply Del.there)); done))) | refine Sel.drop ?_)); done))) hs
  obtain rfl : i = 16 := by omega
  (repeat' first | refine stp ?_ | intro v' hv' | intro (b : Nat) | (apply w_convU; rfl; rfl; omega; omega) | (apply w_convI; rfl; rfl; omega; omega) | (apply w_quoU; rfl; rfl; rfl; omega; omega; omega) | (apply w_remU; rfl; rfl; rfl; omega; omega) | (apply w_minL; rfl; rfl; rfl; omega) | (apply w_minG; rfl; rfl; rfl; omega) | (apply w_min; rfl; rfl; rfl) | (apply w_mfR; rfl; rfl) | (apply w_cvp; rfl; rfl; exact inferInstance; rfl; rfl; assumption) | (apply w_eqS2T; rfl; rfl; rfl; omega) | (apply w_eqS2F; rfl; rfl; rfl; omega) | (apply w_neS2T; rfl; rfl; rfl; omega) | (apply w_neS2F; rfl; rfl; rfl; omega) | (apply w_eqS3T; rfl; rfl; rfl; omega) | (apply w_eqS3F; rfl; rfl; rfl; omega) | (apply w_neS3T; rfl; rfl; rfl; omega) | (apply w_neS3F; rfl; rfl; rfl; omega) | (apply w_eqS3; rfl; rfl; rfl) | (apply w_neS3; rfl; rfl; rfl) | (apply w_eqS2; rfl; rfl; rfl) | (apply w_neS2; rfl; rfl; rfl) | (apply w_maxL; rfl; rfl; rfl; omega) | (apply w_maxG; rfl; rfl; rfl; omega) | (apply w_max; rfl; rfl; rfl) | (apply w_neB; rfl; rfl; rfl; rfl) | (apply w_eqB; rfl; rfl; rfl; rfl) | (apply w_sa; rfl; rfl; rfl; rfl; (focus ((repeat (first | exact hSa _ | apply StAll.there)); done)); ((exact kmf))) | (apply w_eqf; rfl; rfl) | refine spl ?_ ?_ | intro hc)
  obtain ⟨b7, hb7⟩ : ∃ r, r = b := ⟨_, rfl⟩
  subst hb7
  refine C_sat (L' := rnH bl M :: rsH b5 b7 rn0 :: msb tb M :: pt b3 4 [.bool false] :: pt b2 28 [.slice none 0 0] :: R) (fun w hs => ?_) ?_
  · have h0 : Sat w (pt b5 28 [v1] :: sl 36 2 v1 ((List.replicate 16 noK).map kyE) :: pt b7 3 [int (-1)] :: rnH bl M :: msb tb M :: pt b3 4 [.bool false] :: pt b2 28 [.slice none 0 0] :: R) := Sel.sat (by (focus ((repeat (first | exact Sel.refl | (apply Sel.cons; (focus ((repeat (first | exact Del.here | apply Del.there)); done))) | refine Sel.drop ?_)); done))) hs
    exact (rsH_fold (s := rn0) rfl h0).perm (.swap ..)
  refine C_rangeE (A := rsH b5 b7) (s0 := rn0) (step := rnStep) (dom := rnDom) rfl (Running1_ok bl M) rfl (fun s xs hd => by obtain ⟨w, x, rfl, -⟩ := hd; rfl) Sel.refl ?_ (rn_goes h16) fun r => ?_
  · rintro lb r ⟨out, last⟩ xs J ⟨w, ⟨a, id⟩, rfl, hlt, hw, hl⟩
    dsimp only at hlt hl
    apply Exists.intro
    refine ⟨fun b => pt b 36 [int a, int id], fun Q r' hQ => ?_, fun b => ?_⟩
    · simp only [parF, runE]
      (repeat' first | refine stp ?_ | intro v' hv' | intro (b : Nat) | (apply w_convU; rfl; rfl; omega; omega) | (apply w_convI; rfl; rfl; omega; omega) | (apply w_quoU; rfl; rfl; rfl; omega; omega; omega) | (apply w_remU; rfl; rfl; rfl; omega; omega) | (apply w_minL; rfl; rfl; rfl; omega) | (apply w_minG; rfl; rfl; rfl; omega) | (apply w_min; rfl; rfl; rfl) | (apply w_mfR; rfl; rfl) | (apply w_cvp; rfl; rfl; exact inferInstance; rfl; rfl; assumption) | (apply w_eqS2T; rfl; rfl; rfl; omega) | (apply w_eqS2F; rfl; rfl; rfl; omega) | (apply w_neS2T; rfl; rfl; rfl; omega) | (apply w_neS2F; rfl; rfl; rfl; omega) | (apply w_eqS3T; rfl; rfl; rfl; omega) | (apply w_eqS3F; rfl; rfl; rfl; omega) | (apply w_neS3T; rfl; rfl; rfl; omega) | (apply w_neS3F; rfl; rfl; rfl; omega) | (apply w_eqS3; rfl; rfl; rfl) | (apply w_neS3; rfl; rfl; rfl) | (apply w_eqS2; rfl; rfl; rfl) | (apply w_neS2; rfl; rfl; rfl) | (apply w_maxL; rfl; rfl; rfl; omega) | (apply w_maxG; rfl; rfl; rfl; omega) | (apply w_max; rfl; rfl; rfl) | (apply w_neB; rfl; rfl; rfl; rfl) | (apply w_eqB; rfl; rfl; rfl; rfl) | (apply w_sa; rfl; rfl; rfl; rfl; (focus ((repeat (first | exact hSa _ | apply StAll.there)); done)); ((exact kmf))) | (apply w_eqf; rfl; rfl) | refine spl ?_ ?_ | intro hc)
      exact hQ b
    · refine C_block ?_
      show C Try.prog _ _ (Exit.inBlock _ (RPost none (rsH b5 b7 (rnX (out, last) ((w : Int), ⟨a, id⟩)) :: blk lb (.loop r) :: J))) _ _ _ _
      refine C_sat (L' := rsH b5 b7 (out, last) :: pt b 36 [int a, int id] :: blk lb (.loop r) :: J) (by (exact frm)) ?_
      refine C_rsH fun v2 ho hv2 => ?_
      dsimp only at ho hv2 ⊢
      rw [hl] at hv2
      have hSa : ∀ L, StAll (sl 36 2 v2 (out.map kyE) :: L) (vb v2) (vo v2 + w * 2) [int a, int id] (sl 36 2 v2 ((out.set w ⟨a, id⟩).map kyE) :: L) := fun L => StAll.ky (k := ⟨a, id⟩) (by omega)
      (repeat' first | refine stp ?_ | intro v' hv' | intro (b : Nat) | (apply w_convU; rfl; rfl; omega; omega) | (apply w_convI; rfl; rfl; omega; omega) | (apply w_quoU; rfl; rfl; rfl; omega; omega; omega) | (apply w_remU; rfl; rfl; rfl; omega; omega) | (apply w_minL; rfl; rfl; rfl; omega) | (apply w_minG; rfl; rfl; rfl; omega) | (apply w_min; rfl; rfl; rfl) | (apply w_mfR; rfl; rfl) | (apply w_cvp; rfl; rfl; exact inferInstance; rfl; rfl; assumption) | (apply w_eqS2T; rfl; rfl; rfl; omega) | (apply w_eqS2F; rfl; rfl; rfl; omega) | (apply w_neS2T; rfl; rfl; rfl; omega) | (apply w_neS2F; rfl; rfl; rfl; omega) | (apply w_eqS3T; rfl; rfl; rfl; omega) | (apply w_eqS3F; rfl; rfl; rfl; omega) | (apply w_neS3T; rfl; rfl; rfl; omega) | (apply w_neS3F; rfl; rfl; rfl; omega) | (apply w_eqS3; rfl; rfl; rfl) | (apply w_neS3; rfl; rfl; rfl) | (apply w_eqS2; rfl; rfl; rfl) | (apply w_neS2; rfl; rfl; rfl) | (apply w_maxL; rfl; rfl; rfl; omega) | (apply w_maxG; rfl; rfl; rfl; omega) | (apply w_max; rfl; rfl; rfl) | (apply w_neB; rfl; rfl; rfl; rfl) | (apply w_eqB; rfl; rfl; rfl; rfl) | (apply w_sa; rfl; rfl; rfl; rfl; (focus ((repeat (first | exact hSa _ | apply StAll.there)); done)); ((exact kmf))) | (apply w_eqf; rfl; rfl) | refine spl ?_ ?_ | intro hc)
      refine At_round_normal (fun w' h => rsH_fold (v := v2) (by unfold rnX; rw [List.length_set]; exact hl) ?_)
      have e : (rnX (out, last) ((w : Int), ⟨a, id⟩)) = (out.set w ⟨a, id⟩, (w : Int)) := by unfold rnX; rw [Int.toNat_natCast]
      rw [e]
      exact Sel.sat (by (focus ((repeat (first | exact Sel.refl | (apply Sel.cons; (focus ((repeat (first | exact Del.here | apply Del.there)); done))) | refine Sel.drop ?_)); done))) h
  · simp only [ends]
    have hfin := rnF_all M h16
    generalize (runQ 0 M).foldl rnX rn0 = fin at *
    (repeat' first | refine stp ?_ | intro v' hv' | intro (b : Nat) | (apply w_convU; rfl; rfl; omega; omega) | (apply w_convI; rfl; rfl; omega; omega) | (apply w_quoU; rfl; rfl; rfl; omega; omega; omega) | (apply w_remU; rfl; rfl; rfl; omega; omega) | (apply w_minL; rfl; rfl; rfl; omega) | (apply w_minG; rfl; rfl; rfl; omega) | (apply w_min; rfl; rfl; rfl) | (apply w_mfR; rfl; rfl) | (apply w_cvp; rfl; rfl; exact inferInstance; rfl; rfl; assumption) | (apply w_eqS2T; rfl; rfl; rfl; omega) | (apply w_eqS2F; rfl; rfl; rfl; omega) | (apply w_neS2T; rfl; rfl; rfl; omega) | (apply w_neS2F; rfl; rfl; rfl; omega) | (apply w_eqS3T; rfl; rfl; rfl; omega) | (apply w_eqS3F; rfl; rfl; rfl; omega) | (apply w_neS3T; rfl; rfl; rfl; omega) | (apply w_neS3F; rfl; rfl; rfl; omega) | (apply w_eqS3; rfl; rfl; rfl) | (apply w_neS3; rfl; rfl; rfl) | (apply w_eqS2; rfl; rfl; rfl) | (apply w_neS2; rfl; rfl; rfl) | (apply w_maxL; rfl; rfl; rfl; omega) | (apply w_maxG; rfl; rfl; rfl; omega) | (apply w_max; rfl; rfl; rfl) | (apply w_neB; rfl; rfl; rfl; rfl) | (apply w_eqB; rfl; rfl; rfl; rfl) | (apply w_sa; rfl; rfl; rfl; rfl; (focus ((repeat (first | exact hSa _ | apply StAll.there)); done)); ((exact kmf))) | (apply w_eqf; rfl; rfl) | refine spl ?_ ?_ | intro hc)
    refine W_sat (L' := rsH b5 b7 fin :: msb tb M :: mblk r :: pt b3 4 [.bool false] :: pt b2 28 [.slice none 0 0] :: R) (by (exact frm)) ?_
    refine W_rsH fun v2 ho hv2 => ?_
    rw [hfin] at hv2 ⊢
    (repeat' first | refine stp ?_ | intro v' hv' | intro (b : Nat) | (apply w_convU; rfl; rfl; omega; omega) | (apply w_convI; rfl; rfl; omega; omega) | (apply w_quoU; rfl; rfl; rfl; omega; omega; omega) | (apply w_remU; rfl; rfl; rfl; omega; omega) | (apply w_minL; rfl; rfl; rfl; omega) | (apply w_minG; rfl; rfl; rfl; omega) | (apply w_min; rfl; rfl; rfl) | (apply w_mfR; rfl; rfl) | (apply w_cvp; rfl; rfl; exact inferInstance; rfl; rfl; assumption) | (apply w_eqS2T; rfl; rfl; rfl; omega) | (apply w_eqS2F; rfl; rfl; rfl; omega) | (apply w_neS2T; rfl; rfl; rfl; omega) | (apply w_neS2F; rfl; rfl; rfl; omega) | (apply w_eqS3T; rfl; rfl; rfl; omega) | (apply w_eqS3F; rfl; rfl; rfl; omega) | (apply w_neS3T; rfl; rfl; rfl; omega) | (apply w_neS3F; rfl; rfl; rfl; omega) | (apply w_eqS3; rfl; rfl; rfl) | (apply w_neS3; rfl; rfl; rfl) | (apply w_eqS2; rfl; rfl; rfl) | (apply w_neS2; rfl; rfl; rfl) | (apply w_maxL; rfl; rfl; rfl; omega) | (apply w_maxG; rfl; rfl; rfl; omega) | (apply w_max; rfl; rfl; rfl) | (apply w_neB; rfl; rfl; rfl; rfl) | (apply w_eqB; rfl; rfl; rfl; rfl) | (apply w_sa; rfl; rfl; rfl; rfl; (focus ((repeat (first | exact hSa _ | apply StAll.there)); done)); ((exact kmf))) | (apply w_eqf; rfl; rfl) | refine spl ?_ ?_ | intro hc)
    refine AtM_retR (by (first | exact .inl rfl | exact .inr rfl)) (by (focus ((repeat (first | exact Taken.nil | (apply Taken.cons; (focus ((repeat (first | exact Del.here | apply Del.there)); done))))); done))) Try.results11 (by (focus ((repeat (first | exact ResR.nil | (apply ResR.tmp; rfl) | (apply ResR.one; rfl; (focus ((repeat (first | assumption | exact .pt rfl | exact .sl ‹_› rfl | exact .sl1 (by first | assumption | rfl) | apply Rd.there)); done))) | (apply ResR.agg; rfl; (focus ((repeat (first | assumption | exact .pt | exact .sl ‹_› | apply RdAll.there)); done)); rfl))); done))) ⟨v2, rfl, (by rw [rnL_len] at hv2; exact hv2), rfl⟩ (fun w hs => ?_)
    exact Sel.sat (by (focus ((repeat (first | exact Sel.refl | (apply Sel.cons; (focus ((repeat (first | exact Del.here | apply Del.there)); done))) | refine Sel.drop ?_)); done))) hs
end Go.Proofs.Ytoddjdghjpdomaa
