/- spread: Running, as an iterator; Where, Waiting. Conditions: none. -/
import Derived.Test.YtoddjdghjpdomaaSpH
set_option linter.all false
set_option linter.deprecated false
namespace Go.Proofs.Ytoddjdghjpdomaa
open Go.Sep
variable [B0 : Base]
set_option maxHeartbeats 1000000 in
theorem WClone_ok (v : Value) (cs : List (List Value)) (R : List HP) (hv : IsSl v cs.length) (hs : Sep.Src R v 4 cs) (h1 : cs.all (fun l => l.all Value.oneCell') = true) (hb : cs.length ≤ 1000) :
    Called Try.prog 36 [v] R (retSl 73 4 cs R) := by
  refine Called.isl ?_
  refine Fn1 Try.func36 rfl Try.ntmps36 rfl ?_
  (repeat' first | refine stp ?_ | intro v' hv' | intro (b : Nat) | (apply w_convU; rfl; rfl; omega; omega) | (apply w_convI; rfl; rfl; omega; omega) | (apply w_quoU; rfl; rfl; rfl; omega; omega; omega) | (apply w_remU; rfl; rfl; rfl; omega; omega) | (apply w_minL; rfl; rfl; rfl; omega) | (apply w_minG; rfl; rfl; rfl; omega) | (apply w_min; rfl; rfl; rfl) | (apply w_mfR; rfl; rfl) | (apply w_cvp; rfl; rfl; exact inferInstance; rfl; rfl; assumption) | (apply w_eqS2T; rfl; rfl; rfl; omega) | (apply w_eqS2F; rfl; rfl; rfl; omega) | (apply w_neS2T; rfl; rfl; rfl; omega) | (apply w_neS2F; rfl; rfl; rfl; omega) | (apply w_eqS3T; rfl; rfl; rfl; omega) | (apply w_eqS3F; rfl; rfl; rfl; omega) | (apply w_neS3T; rfl; rfl; rfl; omega) | (apply w_neS3F; rfl; rfl; rfl; omega) | (apply w_eqS3; rfl; rfl; rfl) | (apply w_neS3; rfl; rfl; rfl) | (apply w_eqS2; rfl; rfl; rfl) | (apply w_neS2; rfl; rfl; rfl) | (apply w_maxL; rfl; rfl; rfl; omega) | (apply w_maxG; rfl; rfl; rfl; omega) | (apply w_max; rfl; rfl; rfl) | (apply w_neB; rfl; rfl; rfl; rfl) | (apply w_eqB; rfl; rfl; rfl; rfl))
  refine C_cond rfl (fun hc => ?_) (fun hc => ?_)
  · obtain ⟨rfl, h0⟩ := vnil_isl hv hc
    have : cs = [] := List.eq_nil_of_length_eq_zero h0
    subst this
    (repeat' first | refine stp ?_ | intro v' hv' | intro (b : Nat) | (apply w_convU; rfl; rfl; omega; omega) | (apply w_convI; rfl; rfl; omega; omega) | (apply w_quoU; rfl; rfl; rfl; omega; omega; omega) | (apply w_remU; rfl; rfl; rfl; omega; omega) | (apply w_minL; rfl; rfl; rfl; omega) | (apply w_minG; rfl; rfl; rfl; omega) | (apply w_min; rfl; rfl; rfl) | (apply w_mfR; rfl; rfl) | (apply w_cvp; rfl; rfl; exact inferInstance; rfl; rfl; assumption) | (apply w_eqS2T; rfl; rfl; rfl; omega) | (apply w_eqS2F; rfl; rfl; rfl; omega) | (apply w_neS2T; rfl; rfl; rfl; omega) | (apply w_neS2F; rfl; rfl; rfl; omega) | (apply w_eqS3T; rfl; rfl; rfl; omega) | (apply w_eqS3F; rfl; rfl; rfl; omega) | (apply w_neS3T; rfl; rfl; rfl; omega) | (apply w_neS3F; rfl; rfl; rfl; omega) | (apply w_eqS3; rfl; rfl; rfl) | (apply w_neS3; rfl; rfl; rfl) | (apply w_eqS2; rfl; rfl; rfl) | (apply w_neS2; rfl; rfl; rfl) | (apply w_maxL; rfl; rfl; rfl; omega) | (apply w_maxG; rfl; rfl; rfl; omega) | (apply w_max; rfl; rfl; rfl) | (apply w_neB; rfl; rfl; rfl; rfl) | (apply w_eqB; rfl; rfl; rfl; rfl))
    exact At_ret1 (.inl rfl) Try.results36 rfl rfl (fun w h => h.sl_nil)
  · (repeat' first | refine stp ?_ | intro v' hv' | intro (b : Nat) | (apply w_convU; rfl; rfl; omega; omega) | (apply w_convI; rfl; rfl; omega; omega) | (apply w_quoU; rfl; rfl; rfl; omega; omega; omega) | (apply w_remU; rfl; rfl; rfl; omega; omega) | (apply w_minL; rfl; rfl; rfl; omega) | (apply w_minG; rfl; rfl; rfl; omega) | (apply w_min; rfl; rfl; rfl) | (apply w_mfR; rfl; rfl) | (apply w_cvp; rfl; rfl; exact inferInstance; rfl; rfl; assumption) | (apply w_eqS2T; rfl; rfl; rfl; omega) | (apply w_eqS2F; rfl; rfl; rfl; omega) | (apply w_neS2T; rfl; rfl; rfl; omega) | (apply w_neS2F; rfl; rfl; rfl; omega) | (apply w_eqS3T; rfl; rfl; rfl; omega) | (apply w_eqS3F; rfl; rfl; rfl; omega) | (apply w_neS3T; rfl; rfl; rfl; omega) | (apply w_neS3F; rfl; rfl; rfl; omega) | (apply w_eqS3; rfl; rfl; rfl) | (apply w_neS3; rfl; rfl; rfl) | (apply w_eqS2; rfl; rfl; rfl) | (apply w_neS2; rfl; rfl; rfl) | (apply w_maxL; rfl; rfl; rfl; omega) | (apply w_maxG; rfl; rfl; rfl; omega) | (apply w_max; rfl; rfl; rfl) | (apply w_neB; rfl; rfl; rfl; rfl) | (apply w_eqB; rfl; rfl; rfl; rfl))
    apply w_ap (es := cs)
    rfl; rfl; rfl; exact Del.here; ((exact srf)); exact h1; (simp; omega); (simp; omega)
    intro v2 hv2
    refine ⟨by (exact kmf), ?_⟩
    (repeat' first | refine stp ?_ | intro v' hv' | intro (b : Nat) | (apply w_convU; rfl; rfl; omega; omega) | (apply w_convI; rfl; rfl; omega; omega) | (apply w_quoU; rfl; rfl; rfl; omega; omega; omega) | (apply w_remU; rfl; rfl; rfl; omega; omega) | (apply w_minL; rfl; rfl; rfl; omega) | (apply w_minG; rfl; rfl; rfl; omega) | (apply w_min; rfl; rfl; rfl) | (apply w_mfR; rfl; rfl) | (apply w_cvp; rfl; rfl; exact inferInstance; rfl; rfl; assumption) | (apply w_eqS2T; rfl; rfl; rfl; omega) | (apply w_eqS2F; rfl; rfl; rfl; omega) | (apply w_neS2T; rfl; rfl; rfl; omega) | (apply w_neS2F; rfl; rfl; rfl; omega) | (apply w_eqS3T; rfl; rfl; rfl; omega) | (apply w_eqS3F; rfl; rfl; rfl; omega) | (apply w_neS3T; rfl; rfl; rfl; omega) | (apply w_neS3F; rfl; rfl; rfl; omega) | (apply w_eqS3; rfl; rfl; rfl) | (apply w_neS3; rfl; rfl; rfl) | (apply w_eqS2; rfl; rfl; rfl) | (apply w_neS2; rfl; rfl; rfl) | (apply w_maxL; rfl; rfl; rfl; omega) | (apply w_maxG; rfl; rfl; rfl; omega) | (apply w_max; rfl; rfl; rfl) | (apply w_neB; rfl; rfl; rfl; rfl) | (apply w_eqB; rfl; rfl; rfl; rfl))
    exact At_ret1 (.inl rfl) Try.results36 rfl rfl (fun w h => h)
structure RnOk (M : List Wk) (lv : Value) (ls : List (Value × Wk)) : Prop where
  eq : M = ls.map (·.2)
  isl : IsSl lv ls.length
  few : ls.length ≤ 16
  one : ∀ p ∈ ls, (wkE p).all Value.oneCell' = true
def rnH (bl : Nat) (M : List Wk) : HP := ex fun x : Value × List (Value × Wk) => all [fact (RnOk M x.1 x.2), pt bl 65 [x.1], sl 73 4 x.1 (x.2.map wkE)]
theorem rnH_fold {bl : Nat} {M : List Wk} {lv : Value} {ls : List (Value × Wk)} (h : RnOk M lv ls) {w : World} {R : List HP} (hs : Sat w (pt bl 65 [lv] :: sl 73 4 lv (ls.map wkE) :: R)) : Sat w (rnH bl M :: R) :=
  Sat.ex_iff.2 ⟨(lv, ls), Sat.all_iff.2 (Sat.fact_iff.2 ⟨h, hs⟩)⟩
theorem C_rnH {P : Program} {ro : Option Nat} {Q : Exit → Act → World → Prop} {n : Nat} {F : Fr} {ds : List Deferred} {R : List HP} {cd : Code} {bl : Nat} {M : List Wk}
    (h : ∀ lv ls, RnOk M lv ls → C P ro cd Q n F ds (pt bl 65 [lv] :: sl 73 4 lv (ls.map wkE) :: R)) : C P ro cd Q n F ds (rnH bl M :: R) := by
  unfold rnH
  refine C_ex fun x => ?_
  refine C_sat (fun w h => Sat.all_iff.1 h) ?_
  exact C_fact fun hok => h x.1 x.2 hok
set_option maxHeartbeats 2000000 in
theorem Running_ok (tb : Nat) (M : List Wk) (R : List HP) : Called Try.prog 23 [ptr tb] (msb tb M :: R) (fun u X => ∃ bl, u = .func (.func 37) ([] : List Value).toArray [ptr bl].toArray ∧ X = rnH bl M :: msb tb M :: R) := by
  refine Fn1 Try.func23 rfl Try.ntmps23 rfl ?_
  refine C_msb fun lv ls hok => ?_
  have hl := hok.lisl
  have hfew := hok.few
  have hone : (ls.map wkE).all (fun l => l.all Value.oneCell') = true := by
    rw [List.all_map, List.all_eq_true]
    exact fun p hp => wk_one (hok.isl p hp)
  (repeat' first | refine stp ?_ | intro v' hv' | intro (b : Nat) | (apply w_convU; rfl; rfl; omega; omega) | (apply w_convI; rfl; rfl; omega; omega) | (apply w_quoU; rfl; rfl; rfl; omega; omega; omega) | (apply w_remU; rfl; rfl; rfl; omega; omega) | (apply w_minL; rfl; rfl; rfl; omega) | (apply w_minG; rfl; rfl; rfl; omega) | (apply w_min; rfl; rfl; rfl) | (apply w_mfR; rfl; rfl) | (apply w_cvp; rfl; rfl; exact inferInstance; rfl; rfl; assumption) | (apply w_eqS2T; rfl; rfl; rfl; omega) | (apply w_eqS2F; rfl; rfl; rfl; omega) | (apply w_neS2T; rfl; rfl; rfl; omega) | (apply w_neS2F; rfl; rfl; rfl; omega) | (apply w_eqS3T; rfl; rfl; rfl; omega) | (apply w_eqS3F; rfl; rfl; rfl; omega) | (apply w_neS3T; rfl; rfl; rfl; omega) | (apply w_neS3F; rfl; rfl; rfl; omega) | (apply w_eqS3; rfl; rfl; rfl) | (apply w_neS3; rfl; rfl; rfl) | (apply w_eqS2; rfl; rfl; rfl) | (apply w_neS2; rfl; rfl; rfl) | (apply w_maxL; rfl; rfl; rfl; omega) | (apply w_maxG; rfl; rfl; rfl; omega) | (apply w_max; rfl; rfl; rfl) | (apply w_neB; rfl; rfl; rfl; rfl) | (apply w_eqB; rfl; rfl; rfl; rfl) | (apply w_ld0; rfl; rfl; ((focus ((repeat (first | assumption | exact .pt rfl | apply Rd.there)); done)))) | (apply w_ld; rfl; rfl; ((focus ((repeat (first | assumption | exact .pt rfl | apply Rd.there)); done)))) | refine spl ?_ ?_ | intro hc)
  obtain ⟨b3, hb3⟩ : ∃ r, r = b := ⟨_, rfl⟩
  subst hb3
  apply w_clS
  rfl; rfl; exact WClone_ok lv (ls.map wkE) _ (by rw [List.length_map]; exact hl) (Sep.Src.there (Sep.Src.there Sep.Src.sl)) hone (by rw [List.length_map]; omega)
  (rw [List.length_map]; omega)
  intro v2 hv2
  rw [List.length_map] at hv2
  refine ⟨by (exact kmf), ?_⟩
  (repeat' first | refine stp ?_ | intro v' hv' | intro (b : Nat) | (apply w_convU; rfl; rfl; omega; omega) | (apply w_convI; rfl; rfl; omega; omega) | (apply w_quoU; rfl; rfl; rfl; omega; omega; omega) | (apply w_remU; rfl; rfl; rfl; omega; omega) | (apply w_minL; rfl; rfl; rfl; omega) | (apply w_minG; rfl; rfl; rfl; omega) | (apply w_min; rfl; rfl; rfl) | (apply w_mfR; rfl; rfl) | (apply w_cvp; rfl; rfl; exact inferInstance; rfl; rfl; assumption) | (apply w_eqS2T; rfl; rfl; rfl; omega) | (apply w_eqS2F; rfl; rfl; rfl; omega) | (apply w_neS2T; rfl; rfl; rfl; omega) | (apply w_neS2F; rfl; rfl; rfl; omega) | (apply w_eqS3T; rfl; rfl; rfl; omega) | (apply w_eqS3F; rfl; rfl; rfl; omega) | (apply w_neS3T; rfl; rfl; rfl; omega) | (apply w_neS3F; rfl; rfl; rfl; omega) | (apply w_eqS3; rfl; rfl; rfl) | (apply w_neS3; rfl; rfl; rfl) | (apply w_eqS2; rfl; rfl; rfl) | (apply w_neS2; rfl; rfl; rfl) | (apply w_maxL; rfl; rfl; rfl; omega) | (apply w_maxG; rfl; rfl; rfl; omega) | (apply w_max; rfl; rfl; rfl) | (apply w_neB; rfl; rfl; rfl; rfl) | (apply w_eqB; rfl; rfl; rfl; rfl) | (apply w_ld0; rfl; rfl; ((focus ((repeat (first | assumption | exact .pt rfl | apply Rd.there)); done)))) | (apply w_ld; rfl; rfl; ((focus ((repeat (first | assumption | exact .pt rfl | apply Rd.there)); done)))) | refine spl ?_ ?_ | intro hc)
  refine At_ret1 (by (first | exact .inl rfl | exact .inr rfl)) Try.results23 rfl ⟨b3, rfl, rfl⟩ (fun w hs => ?_)
  refine rnH_fold (lv := v2) (ls := ls) ⟨hok.eq, hv2, hfew, fun p hp => wk_one (hok.isl p hp)⟩ ?_
  have h1 : Sat w (pt tb 67 [lv] :: sl 73 4 lv (ls.map wkE) :: qsH ls :: pt b3 65 [v2] :: sl 73 4 v2 (ls.map wkE) :: R) := Sel.sat (by (focus ((repeat (first | exact Sel.refl | (apply Sel.cons; (focus ((repeat (first | exact Del.here | apply Del.there)); done))) | refine Sel.drop ?_)); done))) hs
  exact Sel.sat (by (focus ((repeat (first | exact Sel.refl | (apply Sel.cons; (focus ((repeat (first | exact Del.here | apply Del.there)); done))) | refine Sel.drop ?_)); done))) (msb_fold hok h1)
/-! ### Who runs, in turn -/
def runQ : Nat → List Wk → List (Int × Ky)
  | _, [] => []
  | i, x :: l => if x.runs = true then ((i : Int), x.k) :: runQ (i + 1) l else runQ (i + 1) l
theorem runQ_cons (i : Nat) (x : Wk) (l : List Wk) : runQ i (x :: l) = if x.runs = true then ((i : Int), x.k) :: runQ (i + 1) l else runQ (i + 1) l := rfl
def runE (x : Int × Ky) : List Value := [int x.1, kyV x.2]
def runG (M : List Wk) (j : Nat) : Option (List Value) := ((runQ 0 M)[j]?).map runE
theorem runQ_len : ∀ (l : List Wk) (i : Nat), (runQ i l).length ≤ l.length := by
  intro l
  induction l with
  | nil => intro i; exact Nat.le_refl _
  | cons x l ih =>
    intro i
    have := ih (i + 1)
    unfold runQ
    split
    · simp only [List.length_cons]; omega
    · simp only [List.length_cons]; omega
set_option maxHeartbeats 8000000 in
theorem Running1_ok (bl : Nat) (M : List Wk) : Iter Try.prog 37 [] [ptr bl] (rnH bl M) (runG M) := by
  intro τ B st dom yf s t R hy hgo
  obtain ⟨m, hgo⟩ := hgo.steps
  show Called Try.prog 37 [yf, ptr bl] (rnH bl M :: B s :: R) (is (.tuple #[]) (rnH bl M :: B t :: R))
  refine Fn2 Try.func37 rfl Try.ntmps37 rfl ?_
  refine C_rnH fun v ls hok => ?_
  have hv := hok.isl
  have hfew := hok.few
  have hMe := hok.eq
  have hlen : M.length = ls.length := by rw [hMe, List.length_map]
  have hfold : ∀ s w, Sat w (pt bl 65 [v] :: sl 73 4 v (ls.map wkE) :: B s :: R) → Sat w (rnH bl M :: B s :: R) := fun s w h => rnH_fold hok h
  (repeat' first | refine stp ?_ | intro v' hv' | intro (b : Nat) | (apply w_convU; rfl; rfl; omega; omega) | (apply w_convI; rfl; rfl; omega; omega) | (apply w_quoU; rfl; rfl; rfl; omega; omega; omega) | (apply w_remU; rfl; rfl; rfl; omega; omega) | (apply w_minL; rfl; rfl; rfl; omega) | (apply w_minG; rfl; rfl; rfl; omega) | (apply w_min; rfl; rfl; rfl) | (apply w_mfR; rfl; rfl) | (apply w_cvp; rfl; rfl; exact inferInstance; rfl; rfl; assumption) | (apply w_eqS2T; rfl; rfl; rfl; omega) | (apply w_eqS2F; rfl; rfl; rfl; omega) | (apply w_neS2T; rfl; rfl; rfl; omega) | (apply w_neS2F; rfl; rfl; rfl; omega) | (apply w_eqS3T; rfl; rfl; rfl; omega) | (apply w_eqS3F; rfl; rfl; rfl; omega) | (apply w_neS3T; rfl; rfl; rfl; omega) | (apply w_neS3F; rfl; rfl; rfl; omega) | (apply w_eqS3; rfl; rfl; rfl) | (apply w_neS3; rfl; rfl; rfl) | (apply w_eqS2; rfl; rfl; rfl) | (apply w_neS2; rfl; rfl; rfl) | (apply w_maxL; rfl; rfl; rfl; omega) | (apply w_maxG; rfl; rfl; rfl; omega) | (apply w_max; rfl; rfl; rfl) | (apply w_neB; rfl; rfl; rfl; rfl) | (apply w_eqB; rfl; rfl; rfl; rfl) | (apply w_ld0; rfl; rfl; ((focus ((repeat (first | assumption | exact .pt rfl | apply Rd.there)); done)))) | (apply w_ld; rfl; rfl; ((focus ((repeat (first | assumption | exact .pt rfl | apply Rd.there)); done)))) | (apply w_la0; rfl; rfl; ((focus ((repeat (first | assumption | exact hra _ | exact .pt | exact RdAll.mid rfl rfl | apply RdAll.there)); done))); rfl) | (apply w_la; rfl; rfl; ((focus ((repeat (first | assumption | exact hra _ | exact .pt | exact RdAll.mid rfl rfl | apply RdAll.there)); done))); rfl) | (apply w_sa; rfl; rfl; rfl; exact hoq; ((focus ((repeat (first | exact .pt rfl | apply StAll.there)); done))); ((exact kmf))) | refine spl ?_ ?_ | intro hc)
  refine C_loopK (α := Nat × Nat × τ) [3, 4, 7, 8, 9, 10, 11, 12, 13, 14, 15, 16, 17, 18, 19, 20, 21, 22] (fun x => ls.length - x.1) (fun x => [(7, int x.1)])
    (fun x => B x.2.2 :: pt bl 65 [v] :: sl 73 4 v (ls.map wkE) :: R)
    (fun x => x.1 ≤ ls.length ∧ (∃ pre, runQ 0 M = pre ++ runQ x.1 (M.drop x.1) ∧ pre.length = x.2.1) ∧ ∃ k, GoesN st dom (runG M) k x.2.1 x.2.2 t) (0, 0, s) ⟨Nat.zero_le _, ⟨[], rfl, rfl⟩, m, hgo⟩ (by (focus ((repeat (first | exact Keep.nil | apply Keep.drop rfl | apply Keep.keep rfl)); done))) (by (exact sbf)) (by (exact frm)) ?_
  rintro ⟨i, j, s⟩ ⟨hi, ⟨pre, hpre, hpl⟩, k, hgo⟩
  dsimp only [List.cons_append, List.nil_append] at *
  by_cases hlt : i < ls.length
  · have hx : ls[i]? = some ls[i] := by simp [hlt]
    have hMi : M[i]? = some ls[i].2 := by rw [hMe, List.getElem?_map, hx]; rfl
    have hra : ∀ L, RdAll (sl 73 4 v (ls.map wkE) :: L) (vb v) (vo v + i * 4) (wkE ls[i]) := fun L => RdAll.sl (by simp [hlt])
    have hoq := hok.one _ (List.mem_of_getElem? hx)
    have hdr : M.drop i = ls[i].2 :: M.drop (i + 1) := by
      obtain ⟨h1, h2⟩ := List.getElem?_eq_some_iff.1 hMi
      rw [List.drop_eq_getElem_cons h1, h2]
    rw [hdr] at hpre
    generalize ls[i] = p at *
    obtain ⟨vq, ⟨runs, ⟨ka, ki⟩, q⟩⟩ := p
    dsimp only at *
    rw [runQ_cons] at hpre
    dsimp only at hpre
    cases runs with
    | true =>
      rw [if_pos rfl] at hpre
      have hg : runG M j = some [int (i : Int), .agg #[int ka, int ki]] := by
        unfold runG
        rw [hpre, ← hpl, List.getElem?_append_right (Nat.le_refl _), Nat.sub_self]; rfl
      obtain ⟨hd, hgo2⟩ := hgo.some hg
      have hpre2 : runQ 0 M = (pre ++ [((i : Int), (⟨ka, ki⟩ : Ky))]) ++ runQ (i + 1) (M.drop (i + 1)) := by rw [hpre]; simp
      have hpl2 : (pre ++ [((i : Int), (⟨ka, ki⟩ : Ky))]).length = j + 1 := by rw [List.length_append, hpl]; rfl
      (repeat' first | refine stp ?_ | intro v' hv' | intro (b : Nat) | (apply w_convU; rfl; rfl; omega; omega) | (apply w_convI; rfl; rfl; omega; omega) | (apply w_quoU; rfl; rfl; rfl; omega; omega; omega) | (apply w_remU; rfl; rfl; rfl; omega; omega) | (apply w_minL; rfl; rfl; rfl; omega) | (apply w_minG; rfl; rfl; rfl; omega) | (apply w_min; rfl; rfl; rfl) | (apply w_mfR; rfl; rfl) | (apply w_cvp; rfl; rfl; exact inferInstance; rfl; rfl; assumption) | (apply w_eqS2T; rfl; rfl; rfl; omega) | (apply w_eqS2F; rfl; rfl; rfl; omega) | (apply w_neS2T; rfl; rfl; rfl; omega) | (apply w_neS2F; rfl; rfl; rfl; omega) | (apply w_eqS3T; rfl; rfl; rfl; omega) | (apply w_eqS3F; rfl; rfl; rfl; omega) | (apply w_neS3T; rfl; rfl; rfl; omega) | (apply w_neS3F; rfl; rfl; rfl; omega) | (apply w_eqS3; rfl; rfl; rfl) | (apply w_neS3; rfl; rfl; rfl) | (apply w_eqS2; rfl; rfl; rfl) | (apply w_neS2; rfl; rfl; rfl) | (apply w_maxL; rfl; rfl; rfl; omega) | (apply w_maxG; rfl; rfl; rfl; omega) | (apply w_max; rfl; rfl; rfl) | (apply w_neB; rfl; rfl; rfl; rfl) | (apply w_eqB; rfl; rfl; rfl; rfl) | (apply w_ld0; rfl; rfl; ((focus ((repeat (first | assumption | exact .pt rfl | apply Rd.there)); done)))) | (apply w_ld; rfl; rfl; ((focus ((repeat (first | assumption | exact .pt rfl | apply Rd.there)); done)))) | (apply w_la0; rfl; rfl; ((focus ((repeat (first | assumption | exact hra _ | exact .pt | exact RdAll.mid rfl rfl | apply RdAll.there)); done))); rfl) | (apply w_la; rfl; rfl; ((focus ((repeat (first | assumption | exact hra _ | exact .pt | exact RdAll.mid rfl rfl | apply RdAll.there)); done))); rfl) | (apply w_sa; rfl; rfl; rfl; exact hoq; ((focus ((repeat (first | exact .pt rfl | apply StAll.there)); done))); ((exact kmf))) | refine spl ?_ ?_ | intro hc)
      apply w_yield
      rfl; rfl; rfl; exact hy; exact hd; ((focus ((repeat (first | exact Del.here | apply Del.there)); done))); ((exact kmf))
      rcases hgo2 with ⟨hb, rfl⟩ | ⟨hb, k', rfl, hgo2⟩
      · rw [hb]
        (repeat' first | refine stp ?_ | intro v' hv' | intro (b : Nat) | (apply w_convU; rfl; rfl; omega; omega) | (apply w_convI; rfl; rfl; omega; omega) | (apply w_quoU; rfl; rfl; rfl; omega; omega; omega) | (apply w_remU; rfl; rfl; rfl; omega; omega) | (apply w_minL; rfl; rfl; rfl; omega) | (apply w_minG; rfl; rfl; rfl; omega) | (apply w_min; rfl; rfl; rfl) | (apply w_mfR; rfl; rfl) | (apply w_cvp; rfl; rfl; exact inferInstance; rfl; rfl; assumption) | (apply w_eqS2T; rfl; rfl; rfl; omega) | (apply w_eqS2F; rfl; rfl; rfl; omega) | (apply w_neS2T; rfl; rfl; rfl; omega) | (apply w_neS2F; rfl; rfl; rfl; omega) | (apply w_eqS3T; rfl; rfl; rfl; omega) | (apply w_eqS3F; rfl; rfl; rfl; omega) | (apply w_neS3T; rfl; rfl; rfl; omega) | (apply w_neS3F; rfl; rfl; rfl; omega) | (apply w_eqS3; rfl; rfl; rfl) | (apply w_neS3; rfl; rfl; rfl) | (apply w_eqS2; rfl; rfl; rfl) | (apply w_neS2; rfl; rfl; rfl) | (apply w_maxL; rfl; rfl; rfl; omega) | (apply w_maxG; rfl; rfl; rfl; omega) | (apply w_max; rfl; rfl; rfl) | (apply w_neB; rfl; rfl; rfl; rfl) | (apply w_eqB; rfl; rfl; rfl; rfl) | (apply w_ld0; rfl; rfl; ((focus ((repeat (first | assumption | exact .pt rfl | apply Rd.there)); done)))) | (apply w_ld; rfl; rfl; ((focus ((repeat (first | assumption | exact .pt rfl | apply Rd.there)); done)))) | (apply w_la0; rfl; rfl; ((focus ((repeat (first | assumption | exact hra _ | exact .pt | exact RdAll.mid rfl rfl | apply RdAll.there)); done))); rfl) | (apply w_la; rfl; rfl; ((focus ((repeat (first | assumption | exact hra _ | exact .pt | exact RdAll.mid rfl rfl | apply RdAll.there)); done))); rfl) | (apply w_sa; rfl; rfl; rfl; exact hoq; ((focus ((repeat (first | exact .pt rfl | apply StAll.there)); done))); ((exact kmf))) | refine spl ?_ ?_ | intro hc)
        exact At_ret0 (by (first | exact .inl rfl | exact .inr rfl)) Try.results37 ⟨rfl, rfl⟩ (fun w h => hfold _ w (Sel.sat (by (focus ((repeat (first | exact Sel.refl | (apply Sel.cons; (focus ((repeat (first | exact Del.here | apply Del.there)); done))) | refine Sel.drop ?_)); done))) h))
      · rw [hb]
        (repeat' first | refine stp ?_ | intro v' hv' | intro (b : Nat) | (apply w_convU; rfl; rfl; omega; omega) | (apply w_convI; rfl; rfl; omega; omega) | (apply w_quoU; rfl; rfl; rfl; omega; omega; omega) | (apply w_remU; rfl; rfl; rfl; omega; omega) | (apply w_minL; rfl; rfl; rfl; omega) | (apply w_minG; rfl; rfl; rfl; omega) | (apply w_min; rfl; rfl; rfl) | (apply w_mfR; rfl; rfl) | (apply w_cvp; rfl; rfl; exact inferInstance; rfl; rfl; assumption) | (apply w_eqS2T; rfl; rfl; rfl; omega) | (apply w_eqS2F; rfl; rfl; rfl; omega) | (apply w_neS2T; rfl; rfl; rfl; omega) | (apply w_neS2F; rfl; rfl; rfl; omega) | (apply w_eqS3T; rfl; rfl; rfl; omega) | (apply w_eqS3F; rfl; rfl; rfl; omega) | (apply w_neS3T; rfl; rfl; rfl; omega) | (apply w_neS3F; rfl; rfl; rfl; omega) | (apply w_eqS3; rfl; rfl; rfl) | (apply w_neS3; rfl; rfl; rfl) | (apply w_eqS2; rfl; rfl; rfl) | (apply w_neS2; rfl; rfl; rfl) | (apply w_maxL; rfl; rfl; rfl; omega) | (apply w_maxG; rfl; rfl; rfl; omega) | (apply w_max; rfl; rfl; rfl) | (apply w_neB; rfl; rfl; rfl; rfl) | (apply w_eqB; rfl; rfl; rfl; rfl) | (apply w_ld0; rfl; rfl; ((focus ((repeat (first | assumption | exact .pt rfl | apply Rd.there)); done)))) | (apply w_ld; rfl; rfl; ((focus ((repeat (first | assumption | exact .pt rfl | apply Rd.there)); done)))) | (apply w_la0; rfl; rfl; ((focus ((repeat (first | assumption | exact hra _ | exact .pt | exact RdAll.mid rfl rfl | apply RdAll.there)); done))); rfl) | (apply w_la; rfl; rfl; ((focus ((repeat (first | assumption | exact hra _ | exact .pt | exact RdAll.mid rfl rfl | apply RdAll.there)); done))); rfl) | (apply w_sa; rfl; rfl; rfl; exact hoq; ((focus ((repeat (first | exact .pt rfl | apply StAll.there)); done))); ((exact kmf))) | refine spl ?_ ?_ | intro hc)
        exact At_againK (i + 1, j + 1, _) ⟨hlt, ⟨_, hpre2, hpl2⟩, k', hgo2⟩ (by show ls.length - (i + 1) < ls.length - i; omega) (by (exact sbf)) (by (exact sbf)) (by (exact frm))
    | false =>
      rw [if_neg (by simp)] at hpre
      (repeat' first | refine stp ?_ | intro v' hv' | intro (b : Nat) | (apply w_convU; rfl; rfl; omega; omega) | (apply w_convI; rfl; rfl; omega; omega) | (apply w_quoU; rfl; rfl; rfl; omega; omega; omega) | (apply w_remU; rfl; rfl; rfl; omega; omega) | (apply w_minL; rfl; rfl; rfl; omega) | (apply w_minG; rfl; rfl; rfl; omega) | (apply w_min; rfl; rfl; rfl) | (apply w_mfR; rfl; rfl) | (apply w_cvp; rfl; rfl; exact inferInstance; rfl; rfl; assumption) | (apply w_eqS2T; rfl; rfl; rfl; omega) | (apply w_eqS2F; rfl; rfl; rfl; omega) | (apply w_neS2T; rfl; rfl; rfl; omega) | (apply w_neS2F; rfl; rfl; rfl; omega) | (apply w_eqS3T; rfl; rfl; rfl; omega) | (apply w_eqS3F; rfl; rfl; rfl; omega) | (apply w_neS3T; rfl; rfl; rfl; omega) | (apply w_neS3F; rfl; rfl; rfl; omega) | (apply w_eqS3; rfl; rfl; rfl) | (apply w_neS3; rfl; rfl; rfl) | (apply w_eqS2; rfl; rfl; rfl) | (apply w_neS2; rfl; rfl; rfl) | (apply w_maxL; rfl; rfl; rfl; omega) | (apply w_maxG; rfl; rfl; rfl; omega) | (apply w_max; rfl; rfl; rfl) | (apply w_neB; rfl; rfl; rfl; rfl) | (apply w_eqB; rfl; rfl; rfl; rfl) | (apply w_ld0; rfl; rfl; ((focus ((repeat (first | assumption | exact .pt rfl | apply Rd.there)); done)))) | (apply w_ld; rfl; rfl; ((focus ((repeat (first | assumption | exact .pt rfl | apply Rd.there)); done)))) | (apply w_la0; rfl; rfl; ((focus ((repeat (first | assumption | exact hra _ | exact .pt | exact RdAll.mid rfl rfl | apply RdAll.there)); done))); rfl) | (apply w_la; rfl; rfl; ((focus ((repeat (first | assumption | exact hra _ | exact .pt | exact RdAll.mid rfl rfl | apply RdAll.there)); done))); rfl) | (apply w_sa; rfl; rfl; rfl; exact hoq; ((focus ((repeat (first | exact .pt rfl | apply StAll.there)); done))); ((exact kmf))) | refine spl ?_ ?_ | intro hc)
      exact At_againK (i + 1, j, s) ⟨hlt, ⟨_, hpre, hpl⟩, k, hgo⟩ (by show ls.length - (i + 1) < ls.length - i; omega) (by (exact sbf)) (by (exact sbf)) (by (exact frm))
  · have hi' : i = ls.length := by omega
    subst hi'
    have hdn : M.drop ls.length = [] := List.drop_eq_nil_of_le (by omega)
    rw [hdn] at hpre
    have hn : runG M j = none := by
      unfold runG
      rw [hpre, ← hpl, List.getElem?_append_right (Nat.le_refl _), Nat.sub_self]; rfl
    obtain rfl := hgo.none hn
    (repeat' first | refine stp ?_ | intro v' hv' | intro (b : Nat) | (apply w_convU; rfl; rfl; omega; omega) | (apply w_convI; rfl; rfl; omega; omega) | (apply w_quoU; rfl; rfl; rfl; omega; omega; omega) | (apply w_remU; rfl; rfl; rfl; omega; omega) | (apply w_minL; rfl; rfl; rfl; omega) | (apply w_minG; rfl; rfl; rfl; omega) | (apply w_min; rfl; rfl; rfl) | (apply w_mfR; rfl; rfl) | (apply w_cvp; rfl; rfl; exact inferInstance; rfl; rfl; assumption) | (apply w_eqS2T; rfl; rfl; rfl; omega) | (apply w_eqS2F; rfl; rfl; rfl; omega) | (apply w_neS2T; rfl; rfl; rfl; omega) | (apply w_neS2F; rfl; rfl; rfl; omega) | (apply w_eqS3T; rfl; rfl; rfl; omega) | (apply w_eqS3F; rfl; rfl; rfl; omega) | (apply w_neS3T; rfl; rfl; rfl; omega) | (apply w_neS3F; rfl; rfl; rfl; omega) | (apply w_eqS3; rfl; rfl; rfl) | (apply w_neS3; rfl; rfl; rfl) | (apply w_eqS2; rfl; rfl; rfl) | (apply w_neS2; rfl; rfl; rfl) | (apply w_maxL; rfl; rfl; rfl; omega) | (apply w_maxG; rfl; rfl; rfl; omega) | (apply w_max; rfl; rfl; rfl) | (apply w_neB; rfl; rfl; rfl; rfl) | (apply w_eqB; rfl; rfl; rfl; rfl) | (apply w_ld0; rfl; rfl; ((focus ((repeat (first | assumption | exact .pt rfl | apply Rd.there)); done)))) | (apply w_ld; rfl; rfl; ((focus ((repeat (first | assumption | exact .pt rfl | apply Rd.there)); done)))) | (apply w_la0; rfl; rfl; ((focus ((repeat (first | assumption | exact hra _ | exact .pt | exact RdAll.mid rfl rfl | apply RdAll.there)); done))); rfl) | (apply w_la; rfl; rfl; ((focus ((repeat (first | assumption | exact hra _ | exact .pt | exact RdAll.mid rfl rfl | apply RdAll.there)); done))); rfl) | (apply w_sa; rfl; rfl; rfl; exact hoq; ((focus ((repeat (first | exact .pt rfl | apply StAll.there)); done))); ((exact kmf))) | refine spl ?_ ?_ | intro hc)
    exact At_ret0 (by (first | exact .inl rfl | exact .inr rfl)) Try.results37 ⟨rfl, rfl⟩ (fun w h => hfold _ w (Sel.sat (by (focus ((repeat (first | exact Sel.refl | (apply Sel.cons; (focus ((repeat (first | exact Del.here | apply Del.there)); done))) | refine Sel.drop ?_)); done))) h))
end Go.Proofs.Ytoddjdghjpdomaa
