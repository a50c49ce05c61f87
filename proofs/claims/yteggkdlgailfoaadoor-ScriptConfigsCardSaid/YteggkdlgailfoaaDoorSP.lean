/- script: PrintConfig. Conditions: none. -/
import Derived.Test.YteggkdlgailfoaaDoorSN
import Derived.Test.YteggkdlgailfoaaDoorForkB
import Derived.Test.YteggkdlgailfoaaDoorQsD
set_option linter.all false
set_option linter.deprecated false
namespace Go.Proofs.YteggkdlgailfoaaDoor
open Go.Sep
variable [B0 : Base]
/-! ### What is printed, by cases -/
theorem printC_bad1 {c : Cfg} {p : Pl} (hp : p ∈ c.ds) (h : ¬ plOk p = true) : printC c = ([], 1) := by
  have e : cfgE c = 1 := by unfold cfgE; rw [if_neg (fun hh => h (List.all_eq_true.1 hh p hp))]
  unfold printC
  rw [e]
  rfl
theorem printC_bad2 {c : Cfg} (h : ¬ (numB c.mu = true ∧ numB c.qu = true)) : printC c = ([], 1) := by
  have e : cfgE c = 1 := by
    unfold cfgE
    rw [if_neg h]
    split <;> rfl
  unfold printC
  rw [e]
  rfl
theorem cfgE_lib {c : Cfg} (h1 : ∀ p ∈ c.ds, plOk p = true) (h2 : numB c.mu = true ∧ numB c.qu = true) : cfgE c = lbE c.lib := by
  unfold cfgE
  rw [if_pos (List.all_eq_true.2 h1), if_pos h2]
theorem lbE_at {l : List (List Ins)} {k : Nat} (hk : k < l.length) (hz : ∀ p ∈ l.take k, progE p = 0) (h : progE l[k] ≠ 0) : lbE l = progE l[k] := by
  unfold lbE
  have e : l = l.take k ++ l[k] :: l.drop (k + 1) := by rw [List.getElem_cons_drop]; exact (List.take_append_drop k l).symm
  have hn : ((l.take k).map progE).find? (fun e => e != 0) = none := by rw [List.find?_eq_none]; intro x hx; obtain ⟨y, hy, rfl⟩ := List.mem_map.1 hx; simp [hz y hy]
  generalize l[k] = x at *
  rw [e, List.map_append, List.find?_append, hn]
  simp [h]
theorem printC_bad3 {c : Cfg} (h1 : ∀ p ∈ c.ds, plOk p = true) (h2 : numB c.mu = true ∧ numB c.qu = true) {k : Nat} (hk : k < c.lib.length) (hz : ∀ p ∈ c.lib.take k, progE p = 0) (h : progE c.lib[k] ≠ 0) : printC c = ([], progE c.lib[k]) := by
  have e := lbE_at hk hz h
  unfold printC
  rw [cfgE_lib h1 h2, e, if_neg h]
theorem printC_good {c : Cfg} (h1 : ∀ p ∈ c.ds, plOk p = true) (h2 : numB c.mu = true ∧ numB c.qu = true) (h3 : ∀ p ∈ c.lib, progE p = 0) : printC c = (cfgT c, 0) := by
  have e : cfgE c = 0 := by rw [cfgE_lib h1 h2]; exact lbE_zero.2 h3
  exact if_pos e
theorem dsText_snoc (l : List Pl) (p : Pl) : dsText (l ++ [p]) = dsText l ++ plLine p := by unfold dsText; simp
theorem lbText_snoc (l : List (List Ins)) (p : List Ins) : lbText (l ++ [p]) = lbText l ++ pgText p := by unfold lbText; simp
theorem take_snoc {α : Type} {l : List α} {k : Nat} (h : k < l.length) : l.take (k + 1) = l.take k ++ [l[k]] := by rw [List.take_add_one]; simp [h]
theorem mem_snoc {α : Type} {P : α → Prop} {l : List α} {a : α} (h : ∀ x ∈ l, P x) (ha : P a) : ∀ x ∈ l ++ [a], P x := fun x hx => by
  rcases List.mem_append.1 hx with hx | hx
  · exact h x hx
  · rw [List.mem_singleton] at hx; subst hx; exact ha
theorem rd_und {b : Nat} {R : List HP} {a : Addr} {v : Value} (h : Rd R a v) : Rd [und b R] a v := ⟨fun w hs => h.out w (sat_und_out hs)⟩
def mqText (mu qu : Int) : List UInt8 := lnB wMut [mu] ++ lnB wQua [qu]
set_option maxHeartbeats 16000000 in
theorem sPrintC_ok (v u : Value) (us : List Value) (c : Cfg) (R : List HP) [hV : HasV R] (h : CfIn R v u us c) (hds : c.ds.length ≤ 200000) (hlb : c.lib.length ≤ 200000) : Called Tryd.prog 16 [.agg (cfE v u c).toArray] R (is (.tuple #[str (printC c).1, int (printC c).2]) R) := by
  have hv := h.dl
  have hu := h.ll
  have hvN := hv.len
  have huN := hu.len
  have hNa : True := trivial
  have hNb : True := trivial
  have hFl : True := trivial
  have hLa : True := trivial
  have hLb : True := trivial
  have hWr : True := trivial
  have hWk : True := trivial
  have hPr : True := trivial
  have hSt : True := trivial
  have hb1 := fun p => printC_bad1 (c := c) (p := p)
  have hb2 := printC_bad2 (c := c)
  have hb3 := fun a b k => printC_bad3 (c := c) a b (k := k)
  have hgo := printC_good (c := c)
  have hcT : cfgT c = dsText c.ds ++ mqText c.mu c.qu ++ lbText c.lib := rfl
  generalize printC c = pc at *
  obtain ⟨ds, mu, qu, lib⟩ := c
  unfold cfE
  dsimp only at *
  refine Fn1 Tryd.func16 rfl Tryd.ntmps16 rfl ?_
  (repeat' first | refine C_drawI (id := 7) [] [0, 1, 2, 3, 5, 6, 4, 7, 8, 9] (by kernel_rfl) (by kernel_rfl) (by kernel_rfl) rfl ?_ | (refine w_builder rfl ?_; intro bq) | refine stp ?_ | intro v' hv' | intro (b : Nat) | (apply w_convU; rfl; rfl; omega; omega) | (apply w_convI; rfl; rfl; omega; omega) | (apply w_quoU; rfl; rfl; rfl; omega; omega; omega) | (apply w_remU; rfl; rfl; rfl; omega; omega) | (apply w_minL; rfl; rfl; rfl; omega) | (apply w_minG; rfl; rfl; rfl; omega) | (apply w_min; rfl; rfl; rfl) | (apply w_mfR; rfl; rfl) | (apply w_cvp; rfl; rfl; exact inferInstance; rfl; rfl; assumption) | (apply w_eqS2T; rfl; rfl; rfl; omega) | (apply w_eqS2F; rfl; rfl; rfl; omega) | (apply w_neS2T; rfl; rfl; rfl; omega) | (apply w_neS2F; rfl; rfl; rfl; omega) | (apply w_eqS3T; rfl; rfl; rfl; omega) | (apply w_eqS3F; rfl; rfl; rfl; omega) | (apply w_neS3T; rfl; rfl; rfl; omega) | (apply w_neS3F; rfl; rfl; rfl; omega) | (apply w_eqS3; rfl; rfl; rfl) | (apply w_neS3; rfl; rfl; rfl) | (apply w_eqS2; rfl; rfl; rfl) | (apply w_neS2; rfl; rfl; rfl) | (apply w_maxL; rfl; rfl; rfl; omega) | (apply w_maxG; rfl; rfl; rfl; omega) | (apply w_max; rfl; rfl; rfl) | (apply w_neB; rfl; rfl; rfl; rfl) | (apply w_eqB; rfl; rfl; rfl; rfl) | (apply w_strA; rfl; rfl; rfl; first | omega | (simp only [List.length_append, List.length_cons, List.length_nil]; omega)) | (apply w_strET; rfl; rfl; rfl; assumption) | (apply w_strEF; rfl; rfl; rfl; assumption) | (apply w_strNF; rfl; rfl; rfl; assumption) | (apply w_strNT; rfl; rfl; rfl; assumption) | (apply w_strE; rfl; rfl; rfl; rfl) | (apply w_strN; rfl; rfl; rfl; rfl) | (apply w_strL; rfl; rfl) | (apply w_cp; rfl; rfl; first | exact hNa | exact hNb | exact hFl) | (apply w_cd; rfl; rfl; exact hLa _ _ inferInstance (by assumption) srf; ((exact kmf))) | (apply w_cd; rfl; rfl; exact hLb _ _ inferInstance (by assumption) srf; ((exact kmf))) | (apply w_cd; rfl; rfl; exact Called.pre (hWk b) (fun w h => Sel.sat (by (focus ((repeat (first | exact Sel.refl | (apply Sel.cons; (focus ((repeat (first | exact Del.here | apply Del.there)); done))) | refine Sel.drop ?_)); done))) h); ((exact kmf))) | (apply w_cd; rfl; rfl; exact Called.pre hWr (fun w h => Sel.sat (by (focus ((repeat (first | exact Sel.refl | (apply Sel.cons; (focus ((repeat (first | exact Del.here | apply Del.there)); done))) | refine Sel.drop ?_)); done))) h); ((exact kmf))) | (apply w_cd; rfl; rfl; exact hPr; ((exact kmf))) | (apply w_cd; rfl; rfl; exact hSt; ((exact kmf))) | refine spl ?_ ?_ | intro hc)
  obtain ⟨bc, e1⟩ : ∃ r, r = b := ⟨_, rfl⟩
  subst e1
  have hout : ∀ {A : List HP} {w : World}, Sat w (A ++ [und bq (pt bc 45 [v, int mu, int qu, u] :: R)]) → Sat w R := fun {A w} hs => (sat_und_src hs).drop
  have hcu : CfIn [und bq (pt bc 45 [v, int mu, int qu, u] :: R)] v u us ⟨ds, mu, qu, lib⟩ := (h.there (A := pt bc 45 [v, int mu, int qu, u])).und (A := [])
  have hr0 : Rd [und bq (pt bc 45 [v, int mu, int qu, u] :: R)] ⟨bc, 0 + 0, none⟩ v := rd_und (.pt rfl)
  have hr1 : Rd [und bq (pt bc 45 [v, int mu, int qu, u] :: R)] ⟨bc, 0 + 1, none⟩ (int mu) := rd_und (.pt rfl)
  have hr2 : Rd [und bq (pt bc 45 [v, int mu, int qu, u] :: R)] ⟨bc, 0 + 2, none⟩ (int qu) := rd_und (.pt rfl)
  have hr3 : Rd [und bq (pt bc 45 [v, int mu, int qu, u] :: R)] ⟨bc, 0 + 3, none⟩ u := rd_und (.pt rfl)
  (repeat' first | refine C_drawI (id := 7) [] [0, 1, 2, 3, 5, 6, 4, 7, 8, 9] (by kernel_rfl) (by kernel_rfl) (by kernel_rfl) rfl ?_ | (refine w_builder rfl ?_; intro bq) | refine stp ?_ | intro v' hv' | intro (b : Nat) | (apply w_convU; rfl; rfl; omega; omega) | (apply w_convI; rfl; rfl; omega; omega) | (apply w_quoU; rfl; rfl; rfl; omega; omega; omega) | (apply w_remU; rfl; rfl; rfl; omega; omega) | (apply w_minL; rfl; rfl; rfl; omega) | (apply w_minG; rfl; rfl; rfl; omega) | (apply w_min; rfl; rfl; rfl) | (apply w_mfR; rfl; rfl) | (apply w_cvp; rfl; rfl; exact inferInstance; rfl; rfl; assumption) | (apply w_eqS2T; rfl; rfl; rfl; omega) | (apply w_eqS2F; rfl; rfl; rfl; omega) | (apply w_neS2T; rfl; rfl; rfl; omega) | (apply w_neS2F; rfl; rfl; rfl; omega) | (apply w_eqS3T; rfl; rfl; rfl; omega) | (apply w_eqS3F; rfl; rfl; rfl; omega) | (apply w_neS3T; rfl; rfl; rfl; omega) | (apply w_neS3F; rfl; rfl; rfl; omega) | (apply w_eqS3; rfl; rfl; rfl) | (apply w_neS3; rfl; rfl; rfl) | (apply w_eqS2; rfl; rfl; rfl) | (apply w_neS2; rfl; rfl; rfl) | (apply w_maxL; rfl; rfl; rfl; omega) | (apply w_maxG; rfl; rfl; rfl; omega) | (apply w_max; rfl; rfl; rfl) | (apply w_neB; rfl; rfl; rfl; rfl) | (apply w_eqB; rfl; rfl; rfl; rfl) | (apply w_strA; rfl; rfl; rfl; first | omega | (simp only [List.length_append, List.length_cons, List.length_nil]; omega)) | (apply w_strET; rfl; rfl; rfl; assumption) | (apply w_strEF; rfl; rfl; rfl; assumption) | (apply w_strNF; rfl; rfl; rfl; assumption) | (apply w_strNT; rfl; rfl; rfl; assumption) | (apply w_strE; rfl; rfl; rfl; rfl) | (apply w_strN; rfl; rfl; rfl; rfl) | (apply w_strL; rfl; rfl) | (apply w_cp; rfl; rfl; first | exact hNa | exact hNb | exact hFl) | (apply w_cd; rfl; rfl; exact hLa _ _ inferInstance (by assumption) srf; ((exact kmf))) | (apply w_cd; rfl; rfl; exact hLb _ _ inferInstance (by assumption) srf; ((exact kmf))) | (apply w_cd; rfl; rfl; exact Called.pre (hWk b) (fun w h => Sel.sat (by (focus ((repeat (first | exact Sel.refl | (apply Sel.cons; (focus ((repeat (first | exact Del.here | apply Del.there)); done))) | refine Sel.drop ?_)); done))) h); ((exact kmf))) | (apply w_cd; rfl; rfl; exact Called.pre hWr (fun w h => Sel.sat (by (focus ((repeat (first | exact Sel.refl | (apply Sel.cons; (focus ((repeat (first | exact Del.here | apply Del.there)); done))) | refine Sel.drop ?_)); done))) h); ((exact kmf))) | (apply w_cd; rfl; rfl; exact hPr; ((exact kmf))) | (apply w_cd; rfl; rfl; exact hSt; ((exact kmf))) | refine spl ?_ ?_ | intro hc)
  refine C_loopK [2, 3, 6, 14, 15, 16, 17, 18, 19, 20, 21, 22, 23, 24, 25, 26, 27, 28, 29, 30, 31, 32, 33, 34, 35, 36, 37, 38] (fun k : Nat => ds.length - k) (fun k => [(14, int k)]) (fun k => [bld bq (dsText (ds.take k)), und bq (pt bc 45 [v, int mu, int qu, u] :: R)]) (fun k => k ≤ ds.length ∧ ∀ p ∈ ds.take k, plOk p = true) 0 ⟨Nat.zero_le _, by simp⟩ (by (focus ((repeat (first | exact Keep.nil | apply Keep.drop rfl | apply Keep.keep rfl)); done))) (by (exact sbf)) (fun w hs => hs) ?_
  rintro k ⟨hk0, hz⟩
  dsimp only [List.cons_append, List.nil_append]
  by_cases hlt : k < ds.length
  · have hra : RdAll [und bq (pt bc 45 [v, int mu, int qu, u] :: R)] (vb v) (vo v + k * 3) (plE ds[k]) := RdAll.srcS hcu.dsrc (by simp [hlt])
    have hmem : ds[k] ∈ ds := List.getElem_mem hlt
    have htk := take_snoc hlt
    have hsn := dsText_snoc (ds.take k) ds[k]
    rw [← htk] at hsn
    have htl := dsText_le hz
    rw [List.length_take] at htl
    have hzz := fun (hh : plOk ds[k] = true) => mem_snoc (P := fun p => plOk p = true) hz (a := ds[k]) hh
    rw [← htk] at hzz
    generalize ds[k] = p at *
    by_cases hc0 : plOk p = true
    · have hl1 := plLine_le hc0
      have hns := plNs_num hc0
      obtain ⟨hn1, hn2⟩ := plOk_iff.1 hc0
      have hpl : plLine p = lnB wDom (plNs p) := rfl
      obtain ⟨wk, hd, cp⟩ := p
      unfold plE plNs at *
      dsimp only at *
      clear hNa hNb hFl hLa hWk
      have hNa : ∀ M, Called Tryd.prog 34 [int wk] M (is (.bool true) M) := fun M => by have := number_ok wk M; rwa [hn1] at this
      have hNb : ∀ M, Called Tryd.prog 34 [int cp] M (is (.bool true) M) := fun M => by have := number_ok cp M; rwa [hn2] at this
      have hFl : ∀ M, Called Tryd.prog 36 [.bool hd] M (is (int (flB hd)) M) := fun M => flag_ok hd M
      have hLa : ∀ (x : Value) (X : List HP), HasV X → IsSl x 3 → Sep.Src X x 1 [[int wk], [int (flB hd)], [int cp]] → Called Tryd.prog 35 [str wDom, x] X (is (str (plLine ⟨wk, hd, cp⟩)) X) := fun x X hX hx hs => by rw [hpl]; exact lineW_ok wDom x [wk, flB hd, cp] X hx hs (by decide) (show 3 ≤ 6 by decide) hns
      generalize plLine ⟨wk, hd, cp⟩ = ln at *
      generalize flB hd = fb at *
      generalize dsText (ds.take k) = tx at *
      have hWk := fun k => WriteK_ok bq tx ln (pt bc 45 [v, int mu, int qu, u] :: R) k 49 [int wk, .bool hd, int cp] (by decide) (by omega)
      (repeat' first | refine C_drawI (id := 7) [] [0, 1, 2, 3, 5, 6, 4, 7, 8, 9] (by kernel_rfl) (by kernel_rfl) (by kernel_rfl) rfl ?_ | refine stp ?_ | intro v' hv' | intro (b : Nat) | (apply w_convU; rfl; rfl; omega; omega) | (apply w_convI; rfl; rfl; omega; omega) | (apply w_quoU; rfl; rfl; rfl; omega; omega; omega) | (apply w_remU; rfl; rfl; rfl; omega; omega) | (apply w_minL; rfl; rfl; rfl; omega) | (apply w_minG; rfl; rfl; rfl; omega) | (apply w_min; rfl; rfl; rfl) | (apply w_mfR; rfl; rfl) | (apply w_cvp; rfl; rfl; exact inferInstance; rfl; rfl; assumption) | (apply w_eqS2T; rfl; rfl; rfl; omega) | (apply w_eqS2F; rfl; rfl; rfl; omega) | (apply w_neS2T; rfl; rfl; rfl; omega) | (apply w_neS2F; rfl; rfl; rfl; omega) | (apply w_eqS3T; rfl; rfl; rfl; omega) | (apply w_eqS3F; rfl; rfl; rfl; omega) | (apply w_neS3T; rfl; rfl; rfl; omega) | (apply w_neS3F; rfl; rfl; rfl; omega) | (apply w_eqS3; rfl; rfl; rfl) | (apply w_neS3; rfl; rfl; rfl) | (apply w_eqS2; rfl; rfl; rfl) | (apply w_neS2; rfl; rfl; rfl) | (apply w_maxL; rfl; rfl; rfl; omega) | (apply w_maxG; rfl; rfl; rfl; omega) | (apply w_max; rfl; rfl; rfl) | (apply w_neB; rfl; rfl; rfl; rfl) | (apply w_eqB; rfl; rfl; rfl; rfl) | (apply w_strA; rfl; rfl; rfl; first | omega | (simp only [List.length_append, List.length_cons, List.length_nil]; omega)) | (apply w_strET; rfl; rfl; rfl; assumption) | (apply w_strEF; rfl; rfl; rfl; assumption) | (apply w_strNF; rfl; rfl; rfl; assumption) | (apply w_strNT; rfl; rfl; rfl; assumption) | (apply w_strE; rfl; rfl; rfl; rfl) | (apply w_strN; rfl; rfl; rfl; rfl) | (apply w_strL; rfl; rfl) | (apply w_cp; rfl; rfl; first | exact hNa | exact hNb | exact hFl) | (apply w_cd; rfl; rfl; exact hLa _ _ inferInstance (by assumption) srf; ((exact kmf))) | (apply w_cd; rfl; rfl; exact hLb _ _ inferInstance (by assumption) srf; ((exact kmf))) | (apply w_cd; rfl; rfl; exact Called.pre (hWk b) (fun w h => Sel.sat (by (focus ((repeat (first | exact Sel.refl | (apply Sel.cons; (focus ((repeat (first | exact Del.here | apply Del.there)); done))) | refine Sel.drop ?_)); done))) h); ((exact kmf))) | (apply w_cd; rfl; rfl; exact Called.pre hWr (fun w h => Sel.sat (by (focus ((repeat (first | exact Sel.refl | (apply Sel.cons; (focus ((repeat (first | exact Del.here | apply Del.there)); done))) | refine Sel.drop ?_)); done))) h); ((exact kmf))) | (apply w_cd; rfl; rfl; exact hPr; ((exact kmf))) | (apply w_cd; rfl; rfl; exact hSt; ((exact kmf))) | refine spl ?_ ?_ | intro hc)
      all_goals first | (exfalso; omega) | skip
      all_goals exact At_againK (k + 1) ⟨hlt, hzz hc0⟩ (by omega) (by (exact sbf)) (by (exact sbf)) (fun w hs => by show Sat w [bld bq (dsText (ds.take (k + 1))), und bq (pt bc 45 [v, int mu, int qu, u] :: R)]; rw [hsn]; exact Sel.sat (by (focus ((repeat (first | exact Sel.refl | (apply Sel.cons; (focus ((repeat (first | exact Del.here | apply Del.there)); done))) | refine Sel.drop ?_)); done))) hs)
    · have hpc := hb1 p hmem hc0
      rw [hpc]
      obtain ⟨wk, hd, cp⟩ := p
      unfold plE at *
      dsimp only at *
      clear hNa hNb
      by_cases hn1 : numB wk = true
      · have hn2 : numB cp = false := by
          cases hx : numB cp with
          | false => rfl
          | true => exact absurd (plOk_iff.2 ⟨hn1, hx⟩) hc0
        have hNa : ∀ M, Called Tryd.prog 34 [int wk] M (is (.bool true) M) := fun M => by have := number_ok wk M; rwa [hn1] at this
        have hNb : ∀ M, Called Tryd.prog 34 [int cp] M (is (.bool false) M) := fun M => by have := number_ok cp M; rwa [hn2] at this
        (repeat' first | refine C_drawI (id := 7) [] [0, 1, 2, 3, 5, 6, 4, 7, 8, 9] (by kernel_rfl) (by kernel_rfl) (by kernel_rfl) rfl ?_ | refine stp ?_ | intro v' hv' | intro (b : Nat) | (apply w_convU; rfl; rfl; omega; omega) | (apply w_convI; rfl; rfl; omega; omega) | (apply w_quoU; rfl; rfl; rfl; omega; omega; omega) | (apply w_remU; rfl; rfl; rfl; omega; omega) | (apply w_minL; rfl; rfl; rfl; omega) | (apply w_minG; rfl; rfl; rfl; omega) | (apply w_min; rfl; rfl; rfl) | (apply w_mfR; rfl; rfl) | (apply w_cvp; rfl; rfl; exact inferInstance; rfl; rfl; assumption) | (apply w_eqS2T; rfl; rfl; rfl; omega) | (apply w_eqS2F; rfl; rfl; rfl; omega) | (apply w_neS2T; rfl; rfl; rfl; omega) | (apply w_neS2F; rfl; rfl; rfl; omega) | (apply w_eqS3T; rfl; rfl; rfl; omega) | (apply w_eqS3F; rfl; rfl; rfl; omega) | (apply w_neS3T; rfl; rfl; rfl; omega) | (apply w_neS3F; rfl; rfl; rfl; omega) | (apply w_eqS3; rfl; rfl; rfl) | (apply w_neS3; rfl; rfl; rfl) | (apply w_eqS2; rfl; rfl; rfl) | (apply w_neS2; rfl; rfl; rfl) | (apply w_maxL; rfl; rfl; rfl; omega) | (apply w_maxG; rfl; rfl; rfl; omega) | (apply w_max; rfl; rfl; rfl) | (apply w_neB; rfl; rfl; rfl; rfl) | (apply w_eqB; rfl; rfl; rfl; rfl) | (apply w_strA; rfl; rfl; rfl; first | omega | (simp only [List.length_append, List.length_cons, List.length_nil]; omega)) | (apply w_strET; rfl; rfl; rfl; assumption) | (apply w_strEF; rfl; rfl; rfl; assumption) | (apply w_strNF; rfl; rfl; rfl; assumption) | (apply w_strNT; rfl; rfl; rfl; assumption) | (apply w_strE; rfl; rfl; rfl; rfl) | (apply w_strN; rfl; rfl; rfl; rfl) | (apply w_strL; rfl; rfl) | (apply w_cp; rfl; rfl; first | exact hNa | exact hNb | exact hFl) | (apply w_cd; rfl; rfl; exact hLa _ _ inferInstance (by assumption) srf; ((exact kmf))) | (apply w_cd; rfl; rfl; exact hLb _ _ inferInstance (by assumption) srf; ((exact kmf))) | (apply w_cd; rfl; rfl; exact Called.pre (hWk b) (fun w h => Sel.sat (by (focus ((repeat (first | exact Sel.refl | (apply Sel.cons; (focus ((repeat (first | exact Del.here | apply Del.there)); done))) | refine Sel.drop ?_)); done))) h); ((exact kmf))) | (apply w_cd; rfl; rfl; exact Called.pre hWr (fun w h => Sel.sat (by (focus ((repeat (first | exact Sel.refl | (apply Sel.cons; (focus ((repeat (first | exact Del.here | apply Del.there)); done))) | refine Sel.drop ?_)); done))) h); ((exact kmf))) | (apply w_cd; rfl; rfl; exact hPr; ((exact kmf))) | (apply w_cd; rfl; rfl; exact hSt; ((exact kmf))) | refine spl ?_ ?_ | intro hc)
        all_goals first | (exfalso; omega) | skip
        all_goals exact At_ret2 (by (first | exact .inl rfl | exact .inr rfl)) Tryd.results16 rfl rfl ⟨rfl, rfl⟩ (fun w h => hout (A := [_, _]) h)
      · have hn1' : numB wk = false := by cases hx : numB wk with | false => rfl | true => exact absurd hx hn1
        have hNa : ∀ M, Called Tryd.prog 34 [int wk] M (is (.bool false) M) := fun M => by have := number_ok wk M; rwa [hn1'] at this
        have hNb : True := trivial
        (repeat' first | refine C_drawI (id := 7) [] [0, 1, 2, 3, 5, 6, 4, 7, 8, 9] (by kernel_rfl) (by kernel_rfl) (by kernel_rfl) rfl ?_ | refine stp ?_ | intro v' hv' | intro (b : Nat) | (apply w_convU; rfl; rfl; omega; omega) | (apply w_convI; rfl; rfl; omega; omega) | (apply w_quoU; rfl; rfl; rfl; omega; omega; omega) | (apply w_remU; rfl; rfl; rfl; omega; omega) | (apply w_minL; rfl; rfl; rfl; omega) | (apply w_minG; rfl; rfl; rfl; omega) | (apply w_min; rfl; rfl; rfl) | (apply w_mfR; rfl; rfl) | (apply w_cvp; rfl; rfl; exact inferInstance; rfl; rfl; assumption) | (apply w_eqS2T; rfl; rfl; rfl; omega) | (apply w_eqS2F; rfl; rfl; rfl; omega) | (apply w_neS2T; rfl; rfl; rfl; omega) | (apply w_neS2F; rfl; rfl; rfl; omega) | (apply w_eqS3T; rfl; rfl; rfl; omega) | (apply w_eqS3F; rfl; rfl; rfl; omega) | (apply w_neS3T; rfl; rfl; rfl; omega) | (apply w_neS3F; rfl; rfl; rfl; omega) | (apply w_eqS3; rfl; rfl; rfl) | (apply w_neS3; rfl; rfl; rfl) | (apply w_eqS2; rfl; rfl; rfl) | (apply w_neS2; rfl; rfl; rfl) | (apply w_maxL; rfl; rfl; rfl; omega) | (apply w_maxG; rfl; rfl; rfl; omega) | (apply w_max; rfl; rfl; rfl) | (apply w_neB; rfl; rfl; rfl; rfl) | (apply w_eqB; rfl; rfl; rfl; rfl) | (apply w_strA; rfl; rfl; rfl; first | omega | (simp only [List.length_append, List.length_cons, List.length_nil]; omega)) | (apply w_strET; rfl; rfl; rfl; assumption) | (apply w_strEF; rfl; rfl; rfl; assumption) | (apply w_strNF; rfl; rfl; rfl; assumption) | (apply w_strNT; rfl; rfl; rfl; assumption) | (apply w_strE; rfl; rfl; rfl; rfl) | (apply w_strN; rfl; rfl; rfl; rfl) | (apply w_strL; rfl; rfl) | (apply w_cp; rfl; rfl; first | exact hNa | exact hNb | exact hFl) | (apply w_cd; rfl; rfl; exact hLa _ _ inferInstance (by assumption) srf; ((exact kmf))) | (apply w_cd; rfl; rfl; exact hLb _ _ inferInstance (by assumption) srf; ((exact kmf))) | (apply w_cd; rfl; rfl; exact Called.pre (hWk b) (fun w h => Sel.sat (by (focus ((repeat (first | exact Sel.refl | (apply Sel.cons; (focus ((repeat (first | exact Del.here | apply Del.there)); done))) | refine Sel.drop ?_)); done))) h); ((exact kmf))) | (apply w_cd; rfl; rfl; exact Called.pre hWr (fun w h => Sel.sat (by (focus ((repeat (first | exact Sel.refl | (apply Sel.cons; (focus ((repeat (first | exact Del.here | apply Del.there)); done))) | refine Sel.drop ?_)); done))) h); ((exact kmf))) | (apply w_cd; rfl; rfl; exact hPr; ((exact kmf))) | (apply w_cd; rfl; rfl; exact hSt; ((exact kmf))) | refine spl ?_ ?_ | intro hc)
        all_goals first | (exfalso; omega) | skip
        all_goals exact At_ret2 (by (first | exact .inl rfl | exact .inr rfl)) Tryd.results16 rfl rfl ⟨rfl, rfl⟩ (fun w h => hout (A := [_, _]) h)
  · have hk' : k = ds.length := by omega
    subst hk'
    rw [List.take_length] at *
    have htl := dsText_le hz
    clear hNa hNb
    by_cases hn1 : numB mu = true
    · by_cases hn2 : numB qu = true
      · have ha1 := ln1_le (w := wMut) (by decide) hn1
        have ha2 := ln1_le (w := wQua) (by decide) hn2
        have hNa : ∀ M, Called Tryd.prog 34 [int mu] M (is (.bool true) M) := fun M => by have := number_ok mu M; rwa [hn1] at this
        have hNb : ∀ M, Called Tryd.prog 34 [int qu] M (is (.bool true) M) := fun M => by have := number_ok qu M; rwa [hn2] at this
        clear hLa hLb hWr
        have hLa : ∀ (x : Value) (X : List HP), HasV X → IsSl x 1 → Sep.Src X x 1 [[int mu]] → Called Tryd.prog 35 [str wMut, x] X (is (str (lnB wMut [mu])) X) := fun x X hX hx hs => lineW_ok wMut x [mu] X hx hs (by decide) (show 1 ≤ 6 by decide) (one_num hn1)
        have hLb : ∀ (x : Value) (X : List HP), HasV X → IsSl x 1 → Sep.Src X x 1 [[int qu]] → Called Tryd.prog 35 [str wQua, x] X (is (str (lnB wQua [qu])) X) := fun x X hX hx hs => lineW_ok wQua x [qu] X hx hs (by decide) (show 1 ≤ 6 by decide) (one_num hn2)
        have hmq : mqText mu qu = lnB wMut [mu] ++ lnB wQua [qu] := rfl
        generalize lnB wMut [mu] = l1 at *
        generalize lnB wQua [qu] = l2 at *
        generalize dsText ds = tx at *
        have hWr := Write_ok bq tx (l1 ++ l2) (pt bc 45 [v, int mu, int qu, u] :: R) (by rw [List.length_append]; omega)
        have e0 : tx ++ (l1 ++ l2) ++ lbText (lib.take 0) = tx ++ (l1 ++ l2) := by simp [lbText]
        (repeat' first | refine C_fork2 [] [0, 1, 4, 5] 2 6 3 6 [6, 7, 8, 9] [3, 7, 8, 9] [2, 3, 7, 8, 9] (by kernel_rfl) (by kernel_rfl) (by kernel_rfl) rfl rfl rfl rfl rfl ?_ | refine C_drawI (id := 7) [] [0, 1, 2, 3, 5, 6, 4, 7, 8, 9] (by kernel_rfl) (by kernel_rfl) (by kernel_rfl) rfl ?_ | refine stp ?_ | intro v' hv' | intro (b : Nat) | (apply w_convU; rfl; rfl; omega; omega) | (apply w_convI; rfl; rfl; omega; omega) | (apply w_quoU; rfl; rfl; rfl; omega; omega; omega) | (apply w_remU; rfl; rfl; rfl; omega; omega) | (apply w_minL; rfl; rfl; rfl; omega) | (apply w_minG; rfl; rfl; rfl; omega) | (apply w_min; rfl; rfl; rfl) | (apply w_mfR; rfl; rfl) | (apply w_cvp; rfl; rfl; exact inferInstance; rfl; rfl; assumption) | (apply w_eqS2T; rfl; rfl; rfl; omega) | (apply w_eqS2F; rfl; rfl; rfl; omega) | (apply w_neS2T; rfl; rfl; rfl; omega) | (apply w_neS2F; rfl; rfl; rfl; omega) | (apply w_eqS3T; rfl; rfl; rfl; omega) | (apply w_eqS3F; rfl; rfl; rfl; omega) | (apply w_neS3T; rfl; rfl; rfl; omega) | (apply w_neS3F; rfl; rfl; rfl; omega) | (apply w_eqS3; rfl; rfl; rfl) | (apply w_neS3; rfl; rfl; rfl) | (apply w_eqS2; rfl; rfl; rfl) | (apply w_neS2; rfl; rfl; rfl) | (apply w_maxL; rfl; rfl; rfl; omega) | (apply w_maxG; rfl; rfl; rfl; omega) | (apply w_max; rfl; rfl; rfl) | (apply w_neB; rfl; rfl; rfl; rfl) | (apply w_eqB; rfl; rfl; rfl; rfl) | (apply w_strA; rfl; rfl; rfl; first | omega | (simp only [List.length_append, List.length_cons, List.length_nil]; omega)) | (apply w_strET; rfl; rfl; rfl; assumption) | (apply w_strEF; rfl; rfl; rfl; assumption) | (apply w_strNF; rfl; rfl; rfl; assumption) | (apply w_strNT; rfl; rfl; rfl; assumption) | (apply w_strE; rfl; rfl; rfl; rfl) | (apply w_strN; rfl; rfl; rfl; rfl) | (apply w_strL; rfl; rfl) | (apply w_cp; rfl; rfl; first | exact hNa | exact hNb | exact hFl) | (apply w_cd; rfl; rfl; exact hLa _ _ inferInstance (by assumption) srf; ((exact kmf))) | (apply w_cd; rfl; rfl; exact hLb _ _ inferInstance (by assumption) srf; ((exact kmf))) | (apply w_cd; rfl; rfl; exact Called.pre (hWk b) (fun w h => Sel.sat (by (focus ((repeat (first | exact Sel.refl | (apply Sel.cons; (focus ((repeat (first | exact Del.here | apply Del.there)); done))) | refine Sel.drop ?_)); done))) h); ((exact kmf))) | (apply w_cd; rfl; rfl; exact Called.pre hWr (fun w h => Sel.sat (by (focus ((repeat (first | exact Sel.refl | (apply Sel.cons; (focus ((repeat (first | exact Del.here | apply Del.there)); done))) | refine Sel.drop ?_)); done))) h); ((exact kmf))) | (apply w_cd; rfl; rfl; exact hPr; ((exact kmf))) | (apply w_cd; rfl; rfl; exact hSt; ((exact kmf))) | refine spl ?_ ?_ | intro hc)
        refine dk_pure rfl rfl (fun _ => fa rfl) ?_
        refine dk_read rfl rfl (ld rfl (by (focus ((repeat (first | assumption | exact .pt rfl | exact .sl ‹_› rfl | exact .sl1 (by first | assumption | rfl) | apply Rd.there)); done)))) ?_
        refine dk_pure rfl rfl (fun _ => fa rfl) ?_
        refine dk_read rfl rfl (ld rfl (by (focus ((repeat (first | assumption | exact .pt rfl | exact .sl ‹_› rfl | exact .sl1 (by first | assumption | rfl) | apply Rd.there)); done)))) ?_
        refine ⟨da_bs (S := []) (es := [[int mu]]) rfl (by (focus ((repeat (first | exact pn | (apply p1; rfl; (first | rfl | exact IsSl.one ‹_› | assumption)) | (apply pa; rfl; rfl))); done))) rfl rfl rfl (fun v1 hv1 => ⟨by (exact kmf), ?_, ?_⟩), ?_⟩
        all_goals (repeat' first | refine C_drawI (id := 7) [] [0, 1, 2, 3, 5, 6, 4, 7, 8, 9] (by kernel_rfl) (by kernel_rfl) (by kernel_rfl) rfl ?_ | refine stp ?_ | intro v' hv' | intro (b : Nat) | (apply w_convU; rfl; rfl; omega; omega) | (apply w_convI; rfl; rfl; omega; omega) | (apply w_quoU; rfl; rfl; rfl; omega; omega; omega) | (apply w_remU; rfl; rfl; rfl; omega; omega) | (apply w_minL; rfl; rfl; rfl; omega) | (apply w_minG; rfl; rfl; rfl; omega) | (apply w_min; rfl; rfl; rfl) | (apply w_mfR; rfl; rfl) | (apply w_cvp; rfl; rfl; exact inferInstance; rfl; rfl; assumption) | (apply w_eqS2T; rfl; rfl; rfl; omega) | (apply w_eqS2F; rfl; rfl; rfl; omega) | (apply w_neS2T; rfl; rfl; rfl; omega) | (apply w_neS2F; rfl; rfl; rfl; omega) | (apply w_eqS3T; rfl; rfl; rfl; omega) | (apply w_eqS3F; rfl; rfl; rfl; omega) | (apply w_neS3T; rfl; rfl; rfl; omega) | (apply w_neS3F; rfl; rfl; rfl; omega) | (apply w_eqS3; rfl; rfl; rfl) | (apply w_neS3; rfl; rfl; rfl) | (apply w_eqS2; rfl; rfl; rfl) | (apply w_neS2; rfl; rfl; rfl) | (apply w_maxL; rfl; rfl; rfl; omega) | (apply w_maxG; rfl; rfl; rfl; omega) | (apply w_max; rfl; rfl; rfl) | (apply w_neB; rfl; rfl; rfl; rfl) | (apply w_eqB; rfl; rfl; rfl; rfl) | (apply w_strA; rfl; rfl; rfl; first | omega | (simp only [List.length_append, List.length_cons, List.length_nil]; omega)) | (apply w_strET; rfl; rfl; rfl; assumption) | (apply w_strEF; rfl; rfl; rfl; assumption) | (apply w_strNF; rfl; rfl; rfl; assumption) | (apply w_strNT; rfl; rfl; rfl; assumption) | (apply w_strE; rfl; rfl; rfl; rfl) | (apply w_strN; rfl; rfl; rfl; rfl) | (apply w_strL; rfl; rfl) | (apply w_cp; rfl; rfl; first | exact hNa | exact hNb | exact hFl) | (apply w_cd; rfl; rfl; exact hLa _ _ inferInstance (by assumption) srf; ((exact kmf))) | (apply w_cd; rfl; rfl; exact hLb _ _ inferInstance (by assumption) srf; ((exact kmf))) | (apply w_cd; rfl; rfl; exact Called.pre (hWk b) (fun w h => Sel.sat (by (focus ((repeat (first | exact Sel.refl | (apply Sel.cons; (focus ((repeat (first | exact Del.here | apply Del.there)); done))) | refine Sel.drop ?_)); done))) h); ((exact kmf))) | (apply w_cd; rfl; rfl; exact Called.pre hWr (fun w h => Sel.sat (by (focus ((repeat (first | exact Sel.refl | (apply Sel.cons; (focus ((repeat (first | exact Del.here | apply Del.there)); done))) | refine Sel.drop ?_)); done))) h); ((exact kmf))) | (apply w_cd; rfl; rfl; exact hPr; ((exact kmf))) | (apply w_cd; rfl; rfl; exact hSt; ((exact kmf))) | refine spl ?_ ?_ | intro hc)
        all_goals
          (refine C_loopK [2, 3, 8, 9, 10, 62, 63, 64, 65, 66, 67, 68, 69, 70, 71, 72, 73, 74, 75, 76, 77] (fun k : Nat => lib.length - k) (fun k => [(62, int k)]) (fun k => [bld bq (tx ++ (l1 ++ l2) ++ lbText (lib.take k)), und bq (pt bc 45 [v, int mu, int qu, u] :: R)]) (fun k => k ≤ lib.length ∧ ∀ p ∈ lib.take k, progE p = 0) 0 ⟨Nat.zero_le _, by simp⟩ (by (focus ((repeat (first | exact Keep.nil | apply Keep.drop rfl | apply Keep.keep rfl)); done))) (by (exact sbf)) (fun w hs => by show Sat w [bld bq (tx ++ (l1 ++ l2) ++ lbText (lib.take 0)), und bq (pt bc 45 [v, int mu, int qu, u] :: R)]; rw [e0]; exact hs) ?_
           rintro k ⟨hk2, hz2⟩
           dsimp only [List.cons_append, List.nil_append]
           by_cases hlt2 : k < lib.length
           · obtain ⟨p, hp, hrd, hpi⟩ := hcu.row (k := k) hlt2
             have htk := take_snoc hlt2
             have hsn := lbText_snoc (lib.take k) lib[k]
             rw [← htk] at hsn
             have hbl := lbText_le hz2
             rw [List.length_take] at hbl
             have hpl := hpi.isl
             clear hPr hWr
             have hPr := Print_ok p lib[k] [bld bq (tx ++ (l1 ++ l2) ++ lbText (lib.take k)), und bq (pt bc 45 [v, int mu, int qu, u] :: R)] hpi.there
             have hzz := fun (hh : progE lib[k] = 0) => mem_snoc (P := fun p => progE p = 0) hz2 (a := lib[k]) hh
             rw [← htk] at hzz
             have hb4 := hb3 hz ⟨hn1, hn2⟩ k hlt2 hz2
             have hpg := fun (hh : progE lib[k] = 0) => pgText_le hh
             generalize lib[k] = q at *
             by_cases hq0 : progE q = 0
             · rw [print_snd hq0] at hPr
               dsimp only at hPr
               have hpgq : pgText q = wPro ++ textB q := rfl
               have hl3 := hpg hq0
               rw [hpgq] at hl3 hsn
               clear hpgq hpg hb4
               generalize textB q = tq at *
               generalize lbText (lib.take k) = ty at *
               have h8 : wPro.length = 8 := rfl
               rw [List.length_append] at hl3
               have hWr := Write_ok bq (tx ++ (l1 ++ l2) ++ ty) (wPro ++ tq) (pt bc 45 [v, int mu, int qu, u] :: R) (by simp only [List.length_append]; omega)
               (repeat' first | refine C_drawI (id := 7) [] [0, 1, 2, 3, 5, 6, 4, 7, 8, 9] (by kernel_rfl) (by kernel_rfl) (by kernel_rfl) rfl ?_ | refine stp ?_ | intro v' hv' | intro (b : Nat) | (apply w_convU; rfl; rfl; omega; omega) | (apply w_convI; rfl; rfl; omega; omega) | (apply w_quoU; rfl; rfl; rfl; omega; omega; omega) | (apply w_remU; rfl; rfl; rfl; omega; omega) | (apply w_minL; rfl; rfl; rfl; omega) | (apply w_minG; rfl; rfl; rfl; omega) | (apply w_min; rfl; rfl; rfl) | (apply w_mfR; rfl; rfl) | (apply w_cvp; rfl; rfl; exact inferInstance; rfl; rfl; assumption) | (apply w_eqS2T; rfl; rfl; rfl; omega) | (apply w_eqS2F; rfl; rfl; rfl; omega) | (apply w_neS2T; rfl; rfl; rfl; omega) | (apply w_neS2F; rfl; rfl; rfl; omega) | (apply w_eqS3T; rfl; rfl; rfl; omega) | (apply w_eqS3F; rfl; rfl; rfl; omega) | (apply w_neS3T; rfl; rfl; rfl; omega) | (apply w_neS3F; rfl; rfl; rfl; omega) | (apply w_eqS3; rfl; rfl; rfl) | (apply w_neS3; rfl; rfl; rfl) | (apply w_eqS2; rfl; rfl; rfl) | (apply w_neS2; rfl; rfl; rfl) | (apply w_maxL; rfl; rfl; rfl; omega) | (apply w_maxG; rfl; rfl; rfl; omega) | (apply w_max; rfl; rfl; rfl) | (apply w_neB; rfl; rfl; rfl; rfl) | (apply w_eqB; rfl; rfl; rfl; rfl) | (apply w_strA; rfl; rfl; rfl; first | omega | (simp only [List.length_append, List.length_cons, List.length_nil]; omega)) | (apply w_strET; rfl; rfl; rfl; assumption) | (apply w_strEF; rfl; rfl; rfl; assumption) | (apply w_strNF; rfl; rfl; rfl; assumption) | (apply w_strNT; rfl; rfl; rfl; assumption) | (apply w_strE; rfl; rfl; rfl; rfl) | (apply w_strN; rfl; rfl; rfl; rfl) | (apply w_strL; rfl; rfl) | (apply w_cp; rfl; rfl; first | exact hNa | exact hNb | exact hFl) | (apply w_cd; rfl; rfl; exact hLa _ _ inferInstance (by assumption) srf; ((exact kmf))) | (apply w_cd; rfl; rfl; exact hLb _ _ inferInstance (by assumption) srf; ((exact kmf))) | (apply w_cd; rfl; rfl; exact Called.pre (hWk b) (fun w h => Sel.sat (by (focus ((repeat (first | exact Sel.refl | (apply Sel.cons; (focus ((repeat (first | exact Del.here | apply Del.there)); done))) | refine Sel.drop ?_)); done))) h); ((exact kmf))) | (apply w_cd; rfl; rfl; exact Called.pre hWr (fun w h => Sel.sat (by (focus ((repeat (first | exact Sel.refl | (apply Sel.cons; (focus ((repeat (first | exact Del.here | apply Del.there)); done))) | refine Sel.drop ?_)); done))) h); ((exact kmf))) | (apply w_cd; rfl; rfl; exact hPr; ((exact kmf))) | (apply w_cd; rfl; rfl; exact hSt; ((exact kmf))) | refine spl ?_ ?_ | intro hc)
               all_goals first | (exfalso; omega) | skip
               all_goals exact At_againK (k + 1) ⟨hlt2, hzz hq0⟩ (by omega) (by (exact sbf)) (by (exact sbf)) (fun w hs => by show Sat w [bld bq (tx ++ (l1 ++ l2) ++ lbText (lib.take (k + 1))), und bq (pt bc 45 [v, int mu, int qu, u] :: R)]; rw [hsn, ← List.append_assoc]; exact hs)
             · rw [print_fst hq0] at hPr
               dsimp only at hPr
               rw [hb4 hq0]
               clear hb4 hpg hzz hb1 hb2 hb3 hgo
               generalize progE q = e at *
               (repeat' first | refine C_drawI (id := 7) [] [0, 1, 2, 3, 5, 6, 4, 7, 8, 9] (by kernel_rfl) (by kernel_rfl) (by kernel_rfl) rfl ?_ | refine stp ?_ | intro v' hv' | intro (b : Nat) | (apply w_convU; rfl; rfl; omega; omega) | (apply w_convI; rfl; rfl; omega; omega) | (apply w_quoU; rfl; rfl; rfl; omega; omega; omega) | (apply w_remU; rfl; rfl; rfl; omega; omega) | (apply w_minL; rfl; rfl; rfl; omega) | (apply w_minG; rfl; rfl; rfl; omega) | (apply w_min; rfl; rfl; rfl) | (apply w_mfR; rfl; rfl) | (apply w_cvp; rfl; rfl; exact inferInstance; rfl; rfl; assumption) | (apply w_eqS2T; rfl; rfl; rfl; omega) | (apply w_eqS2F; rfl; rfl; rfl; omega) | (apply w_neS2T; rfl; rfl; rfl; omega) | (apply w_neS2F; rfl; rfl; rfl; omega) | (apply w_eqS3T; rfl; rfl; rfl; omega) | (apply w_eqS3F; rfl; rfl; rfl; omega) | (apply w_neS3T; rfl; rfl; rfl; omega) | (apply w_neS3F; rfl; rfl; rfl; omega) | (apply w_eqS3; rfl; rfl; rfl) | (apply w_neS3; rfl; rfl; rfl) | (apply w_eqS2; rfl; rfl; rfl) | (apply w_neS2; rfl; rfl; rfl) | (apply w_maxL; rfl; rfl; rfl; omega) | (apply w_maxG; rfl; rfl; rfl; omega) | (apply w_max; rfl; rfl; rfl) | (apply w_neB; rfl; rfl; rfl; rfl) | (apply w_eqB; rfl; rfl; rfl; rfl) | (apply w_strA; rfl; rfl; rfl; first | omega | (simp only [List.length_append, List.length_cons, List.length_nil]; omega)) | (apply w_strET; rfl; rfl; rfl; assumption) | (apply w_strEF; rfl; rfl; rfl; assumption) | (apply w_strNF; rfl; rfl; rfl; assumption) | (apply w_strNT; rfl; rfl; rfl; assumption) | (apply w_strE; rfl; rfl; rfl; rfl) | (apply w_strN; rfl; rfl; rfl; rfl) | (apply w_strL; rfl; rfl) | (apply w_cp; rfl; rfl; first | exact hNa | exact hNb | exact hFl) | (apply w_cd; rfl; rfl; exact hLa _ _ inferInstance (by assumption) srf; ((exact kmf))) | (apply w_cd; rfl; rfl; exact hLb _ _ inferInstance (by assumption) srf; ((exact kmf))) | (apply w_cd; rfl; rfl; exact Called.pre (hWk b) (fun w h => Sel.sat (by (focus ((repeat (first | exact Sel.refl | (apply Sel.cons; (focus ((repeat (first | exact Del.here | apply Del.there)); done))) | refine Sel.drop ?_)); done))) h); ((exact kmf))) | (apply w_cd; rfl; rfl; exact Called.pre hWr (fun w h => Sel.sat (by (focus ((repeat (first | exact Sel.refl | (apply Sel.cons; (focus ((repeat (first | exact Del.here | apply Del.there)); done))) | refine Sel.drop ?_)); done))) h); ((exact kmf))) | (apply w_cd; rfl; rfl; exact hPr; ((exact kmf))) | (apply w_cd; rfl; rfl; exact hSt; ((exact kmf))) | refine spl ?_ ?_ | intro hc)
               all_goals first | (exfalso; omega) | skip
               all_goals exact At_ret2 (by (first | exact .inl rfl | exact .inr rfl)) Tryd.results16 rfl rfl ⟨rfl, rfl⟩ (fun w h => hout (A := [_]) h)
           · have hk' : k = lib.length := by omega
             subst hk'
             rw [List.take_length] at *
             clear hSt
             have hSt := String_ok bq (tx ++ (l1 ++ l2) ++ lbText lib) (pt bc 45 [v, int mu, int qu, u] :: R)
             rw [hgo hz ⟨hn1, hn2⟩ hz2, hcT, hmq]
             (repeat' first | refine C_drawI (id := 7) [] [0, 1, 2, 3, 5, 6, 4, 7, 8, 9] (by kernel_rfl) (by kernel_rfl) (by kernel_rfl) rfl ?_ | refine stp ?_ | intro v' hv' | intro (b : Nat) | (apply w_convU; rfl; rfl; omega; omega) | (apply w_convI; rfl; rfl; omega; omega) | (apply w_quoU; rfl; rfl; rfl; omega; omega; omega) | (apply w_remU; rfl; rfl; rfl; omega; omega) | (apply w_minL; rfl; rfl; rfl; omega) | (apply w_minG; rfl; rfl; rfl; omega) | (apply w_min; rfl; rfl; rfl) | (apply w_mfR; rfl; rfl) | (apply w_cvp; rfl; rfl; exact inferInstance; rfl; rfl; assumption) | (apply w_eqS2T; rfl; rfl; rfl; omega) | (apply w_eqS2F; rfl; rfl; rfl; omega) | (apply w_neS2T; rfl; rfl; rfl; omega) | (apply w_neS2F; rfl; rfl; rfl; omega) | (apply w_eqS3T; rfl; rfl; rfl; omega) | (apply w_eqS3F; rfl; rfl; rfl; omega) | (apply w_neS3T; rfl; rfl; rfl; omega) | (apply w_neS3F; rfl; rfl; rfl; omega) | (apply w_eqS3; rfl; rfl; rfl) | (apply w_neS3; rfl; rfl; rfl) | (apply w_eqS2; rfl; rfl; rfl) | (apply w_neS2; rfl; rfl; rfl) | (apply w_maxL; rfl; rfl; rfl; omega) | (apply w_maxG; rfl; rfl; rfl; omega) | (apply w_max; rfl; rfl; rfl) | (apply w_neB; rfl; rfl; rfl; rfl) | (apply w_eqB; rfl; rfl; rfl; rfl) | (apply w_strA; rfl; rfl; rfl; first | omega | (simp only [List.length_append, List.length_cons, List.length_nil]; omega)) | (apply w_strET; rfl; rfl; rfl; assumption) | (apply w_strEF; rfl; rfl; rfl; assumption) | (apply w_strNF; rfl; rfl; rfl; assumption) | (apply w_strNT; rfl; rfl; rfl; assumption) | (apply w_strE; rfl; rfl; rfl; rfl) | (apply w_strN; rfl; rfl; rfl; rfl) | (apply w_strL; rfl; rfl) | (apply w_cp; rfl; rfl; first | exact hNa | exact hNb | exact hFl) | (apply w_cd; rfl; rfl; exact hLa _ _ inferInstance (by assumption) srf; ((exact kmf))) | (apply w_cd; rfl; rfl; exact hLb _ _ inferInstance (by assumption) srf; ((exact kmf))) | (apply w_cd; rfl; rfl; exact Called.pre (hWk b) (fun w h => Sel.sat (by (focus ((repeat (first | exact Sel.refl | (apply Sel.cons; (focus ((repeat (first | exact Del.here | apply Del.there)); done))) | refine Sel.drop ?_)); done))) h); ((exact kmf))) | (apply w_cd; rfl; rfl; exact Called.pre hWr (fun w h => Sel.sat (by (focus ((repeat (first | exact Sel.refl | (apply Sel.cons; (focus ((repeat (first | exact Del.here | apply Del.there)); done))) | refine Sel.drop ?_)); done))) h); ((exact kmf))) | (apply w_cd; rfl; rfl; exact hPr; ((exact kmf))) | (apply w_cd; rfl; rfl; exact hSt; ((exact kmf))) | refine spl ?_ ?_ | intro hc)
             all_goals (refine At_ret2 (by (first | exact .inl rfl | exact .inr rfl)) Tryd.results16 rfl rfl ⟨by rfl, rfl⟩ (by (exact frm))))
      · have hn2' : numB qu = false := by cases hx : numB qu with | false => rfl | true => exact absurd hx hn2
        rw [hb2 (fun hh => hn2 hh.2)]
        have hNa : ∀ M, Called Tryd.prog 34 [int mu] M (is (.bool true) M) := fun M => by have := number_ok mu M; rwa [hn1] at this
        have hNb : ∀ M, Called Tryd.prog 34 [int qu] M (is (.bool false) M) := fun M => by have := number_ok qu M; rwa [hn2'] at this
        (repeat' first | refine C_drawI (id := 7) [] [0, 1, 2, 3, 5, 6, 4, 7, 8, 9] (by kernel_rfl) (by kernel_rfl) (by kernel_rfl) rfl ?_ | refine stp ?_ | intro v' hv' | intro (b : Nat) | (apply w_convU; rfl; rfl; omega; omega) | (apply w_convI; rfl; rfl; omega; omega) | (apply w_quoU; rfl; rfl; rfl; omega; omega; omega) | (apply w_remU; rfl; rfl; rfl; omega; omega) | (apply w_minL; rfl; rfl; rfl; omega) | (apply w_minG; rfl; rfl; rfl; omega) | (apply w_min; rfl; rfl; rfl) | (apply w_mfR; rfl; rfl) | (apply w_cvp; rfl; rfl; exact inferInstance; rfl; rfl; assumption) | (apply w_eqS2T; rfl; rfl; rfl; omega) | (apply w_eqS2F; rfl; rfl; rfl; omega) | (apply w_neS2T; rfl; rfl; rfl; omega) | (apply w_neS2F; rfl; rfl; rfl; omega) | (apply w_eqS3T; rfl; rfl; rfl; omega) | (apply w_eqS3F; rfl; rfl; rfl; omega) | (apply w_neS3T; rfl; rfl; rfl; omega) | (apply w_neS3F; rfl; rfl; rfl; omega) | (apply w_eqS3; rfl; rfl; rfl) | (apply w_neS3; rfl; rfl; rfl) | (apply w_eqS2; rfl; rfl; rfl) | (apply w_neS2; rfl; rfl; rfl) | (apply w_maxL; rfl; rfl; rfl; omega) | (apply w_maxG; rfl; rfl; rfl; omega) | (apply w_max; rfl; rfl; rfl) | (apply w_neB; rfl; rfl; rfl; rfl) | (apply w_eqB; rfl; rfl; rfl; rfl) | (apply w_strA; rfl; rfl; rfl; first | omega | (simp only [List.length_append, List.length_cons, List.length_nil]; omega)) | (apply w_strET; rfl; rfl; rfl; assumption) | (apply w_strEF; rfl; rfl; rfl; assumption) | (apply w_strNF; rfl; rfl; rfl; assumption) | (apply w_strNT; rfl; rfl; rfl; assumption) | (apply w_strE; rfl; rfl; rfl; rfl) | (apply w_strN; rfl; rfl; rfl; rfl) | (apply w_strL; rfl; rfl) | (apply w_cp; rfl; rfl; first | exact hNa | exact hNb | exact hFl) | (apply w_cd; rfl; rfl; exact hLa _ _ inferInstance (by assumption) srf; ((exact kmf))) | (apply w_cd; rfl; rfl; exact hLb _ _ inferInstance (by assumption) srf; ((exact kmf))) | (apply w_cd; rfl; rfl; exact Called.pre (hWk b) (fun w h => Sel.sat (by (focus ((repeat (first | exact Sel.refl | (apply Sel.cons; (focus ((repeat (first | exact Del.here | apply Del.there)); done))) | refine Sel.drop ?_)); done))) h); ((exact kmf))) | (apply w_cd; rfl; rfl; exact Called.pre hWr (fun w h => Sel.sat (by (focus ((repeat (first | exact Sel.refl | (apply Sel.cons; (focus ((repeat (first | exact Del.here | apply Del.there)); done))) | refine Sel.drop ?_)); done))) h); ((exact kmf))) | (apply w_cd; rfl; rfl; exact hPr; ((exact kmf))) | (apply w_cd; rfl; rfl; exact hSt; ((exact kmf))) | refine spl ?_ ?_ | intro hc)
        all_goals first | (exfalso; omega) | skip
        all_goals exact At_ret2 (by (first | exact .inl rfl | exact .inr rfl)) Tryd.results16 rfl rfl ⟨rfl, rfl⟩ (fun w h => hout (A := [_]) h)
    · have hn1' : numB mu = false := by cases hx : numB mu with | false => rfl | true => exact absurd hx hn1
      rw [hb2 (fun hh => hn1 hh.1)]
      have hNa : ∀ M, Called Tryd.prog 34 [int mu] M (is (.bool false) M) := fun M => by have := number_ok mu M; rwa [hn1'] at this
      have hNb : True := trivial
      (repeat' first | refine C_drawI (id := 7) [] [0, 1, 2, 3, 5, 6, 4, 7, 8, 9] (by kernel_rfl) (by kernel_rfl) (by kernel_rfl) rfl ?_ | refine stp ?_ | intro v' hv' | intro (b : Nat) | (apply w_convU; rfl; rfl; omega; omega) | (apply w_convI; rfl; rfl; omega; omega) | (apply w_quoU; rfl; rfl; rfl; omega; omega; omega) | (apply w_remU; rfl; rfl; rfl; omega; omega) | (apply w_minL; rfl; rfl; rfl; omega) | (apply w_minG; rfl; rfl; rfl; omega) | (apply w_min; rfl; rfl; rfl) | (apply w_mfR; rfl; rfl) | (apply w_cvp; rfl; rfl; exact inferInstance; rfl; rfl; assumption) | (apply w_eqS2T; rfl; rfl; rfl; omega) | (apply w_eqS2F; rfl; rfl; rfl; omega) | (apply w_neS2T; rfl; rfl; rfl; omega) | (apply w_neS2F; rfl; rfl; rfl; omega) | (apply w_eqS3T; rfl; rfl; rfl; omega) | (apply w_eqS3F; rfl; rfl; rfl; omega) | (apply w_neS3T; rfl; rfl; rfl; omega) | (apply w_neS3F; rfl; rfl; rfl; omega) | (apply w_eqS3; rfl; rfl; rfl) | (apply w_neS3; rfl; rfl; rfl) | (apply w_eqS2; rfl; rfl; rfl) | (apply w_neS2; rfl; rfl; rfl) | (apply w_maxL; rfl; rfl; rfl; omega) | (apply w_maxG; rfl; rfl; rfl; omega) | (apply w_max; rfl; rfl; rfl) | (apply w_neB; rfl; rfl; rfl; rfl) | (apply w_eqB; rfl; rfl; rfl; rfl) | (apply w_strA; rfl; rfl; rfl; first | omega | (simp only [List.length_append, List.length_cons, List.length_nil]; omega)) | (apply w_strET; rfl; rfl; rfl; assumption) | (apply w_strEF; rfl; rfl; rfl; assumption) | (apply w_strNF; rfl; rfl; rfl; assumption) | (apply w_strNT; rfl; rfl; rfl; assumption) | (apply w_strE; rfl; rfl; rfl; rfl) | (apply w_strN; rfl; rfl; rfl; rfl) | (apply w_strL; rfl; rfl) | (apply w_cp; rfl; rfl; first | exact hNa | exact hNb | exact hFl) | (apply w_cd; rfl; rfl; exact hLa _ _ inferInstance (by assumption) srf; ((exact kmf))) | (apply w_cd; rfl; rfl; exact hLb _ _ inferInstance (by assumption) srf; ((exact kmf))) | (apply w_cd; rfl; rfl; exact Called.pre (hWk b) (fun w h => Sel.sat (by (focus ((repeat (first | exact Sel.refl | (apply Sel.cons; (focus ((repeat (first | exact Del.here | apply Del.there)); done))) | refine Sel.drop ?_)); done))) h); ((exact kmf))) | (apply w_cd; rfl; rfl; exact Called.pre hWr (fun w h => Sel.sat (by (focus ((repeat (first | exact Sel.refl | (apply Sel.cons; (focus ((repeat (first | exact Del.here | apply Del.there)); done))) | refine Sel.drop ?_)); done))) h); ((exact kmf))) | (apply w_cd; rfl; rfl; exact hPr; ((exact kmf))) | (apply w_cd; rfl; rfl; exact hSt; ((exact kmf))) | refine spl ?_ ?_ | intro hc)
      all_goals first | (exfalso; omega) | skip
      all_goals exact At_ret2 (by (first | exact .inl rfl | exact .inr rfl)) Tryd.results16 rfl rfl ⟨rfl, rfl⟩ (fun w h => hout (A := [_]) h)
end Go.Proofs.YteggkdlgailfoaaDoor
