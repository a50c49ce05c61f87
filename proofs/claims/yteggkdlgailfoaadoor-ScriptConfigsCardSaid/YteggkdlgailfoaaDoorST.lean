/- script: ScriptConfigs. Conditions: none. -/
import Derived.Test.YteggkdlgailfoaaDoorSS
set_option linter.all false
set_option linter.deprecated false
namespace Go.Proofs.YteggkdlgailfoaaDoor
open Go.Sep
variable [B0 : Base]
theorem dsText_ge : ∀ l : List Pl, l.length ≤ (dsText l).length
  | [] => by simp
  | p :: l => by
    have := dsText_ge l
    have h : dsText (p :: l) = lnN wDom (plNs p) ++ ([10] ++ dsText l) := by simp [dsText, plLine, lnB]
    rw [h]
    simp only [List.length_append, List.length_cons, List.length_nil]
    omega
theorem cfgT_ge (c : Cfg) : c.ds.length ≤ (cfgT c).length ∧ c.lib.length ≤ (cfgT c).length := by
  have h1 := dsText_ge c.ds
  have h2 := lbText_ge c.lib
  unfold cfgT
  simp only [List.length_append]
  omega
theorem libP_ne {lib : List (List Ins)} {X : List HP} (hc : lib.length ≤ 100) (hq : ∀ p ∈ lib, p.length ≤ 100) : ∃ v L', libP lib X v L' := by
  have hs : ∀ n : Nat, n ≤ 100 → IsSl (.slice (some ⟨0, 0, none⟩) n n) n := fun n hn => ⟨_, _, rfl, Nat.le_refl _, (by unfold maxLen; omega), (fun h => by cases h), fun a h _ => by cases h; rfl⟩
  refine ⟨.slice (some ⟨0, 0, none⟩) lib.length lib.length, _, lib.map fun p => .slice (some ⟨0, 0, none⟩) p.length p.length, ⟨by simp, fun i u h h1 h2 => ?_⟩, by rw [List.length_map]; exact hs _ hc, rfl⟩
  rw [List.getElem?_map, h2] at h1
  simp only [Option.map_some, Option.some.injEq] at h1
  subst h1
  exact hs _ (hq h (List.mem_of_getElem? h2))
set_option maxHeartbeats 16000000 in
set_option maxRecDepth 4000 in
theorem ScriptConfigs_ok (v u : Value) (us : List Value) (c : Cfg) (s : List UInt8) (R : List HP) [hV : HasP R] (h : CfIn R v u us c) : Called Tryd.prog 5 [.agg (cfE v u c).toArray, str s] R (is (.bool true) R) := by
  have hv := h.dl
  have hu := h.ll
  have hvN := hv.len
  have huN := hu.len
  have hPr : True := trivial
  have hPd : True := trivial
  have hAl : True := trivial
  have hOc : True := trivial
  have hok := fun (tx : List UInt8) => printC_ok (c := c) (s := tx)
  have hle := cfgT_le (c := c)
  have hpt := parseC_text (c := c)
  have hpo := cfgE_zero (c := c)
  have hPr0 := fun X (hX : HasV X) h => sPrintC_ok v u us c X h
  have hRc := fun o w us X h => rConfig_ok o w us c X h
  generalize printC c = pr at *
  obtain ⟨tx, e⟩ := pr
  obtain ⟨ds, mu, qu, lib⟩ := c
  unfold cfE at *
  dsimp only at *
  refine Fn2 Tryd.func5 rfl Tryd.ntmps5 rfl ?_
  (repeat' first | refine stp ?_ | intro v' hv' | intro (b : Nat) | (apply w_convU; rfl; rfl; omega; omega) | (apply w_convI; rfl; rfl; omega; omega) | (apply w_quoU; rfl; rfl; rfl; omega; omega; omega) | (apply w_remU; rfl; rfl; rfl; omega; omega) | (apply w_minL; rfl; rfl; rfl; omega) | (apply w_minG; rfl; rfl; rfl; omega) | (apply w_min; rfl; rfl; rfl) | (apply w_mfR; rfl; rfl) | (apply w_cvp; rfl; rfl; exact inferInstance; rfl; rfl; assumption) | (apply w_eqS2T; rfl; rfl; rfl; omega) | (apply w_eqS2F; rfl; rfl; rfl; omega) | (apply w_neS2T; rfl; rfl; rfl; omega) | (apply w_neS2F; rfl; rfl; rfl; omega) | (apply w_eqS3T; rfl; rfl; rfl; omega) | (apply w_eqS3F; rfl; rfl; rfl; omega) | (apply w_neS3T; rfl; rfl; rfl; omega) | (apply w_neS3F; rfl; rfl; rfl; omega) | (apply w_eqS3; rfl; rfl; rfl) | (apply w_neS3; rfl; rfl; rfl) | (apply w_eqS2; rfl; rfl; rfl) | (apply w_neS2; rfl; rfl; rfl) | (apply w_maxL; rfl; rfl; rfl; omega) | (apply w_maxG; rfl; rfl; rfl; omega) | (apply w_max; rfl; rfl; rfl) | (apply w_neB; rfl; rfl; rfl; rfl) | (apply w_eqB; rfl; rfl; rfl; rfl) | (apply w_strA; rfl; rfl; rfl; first | omega | (simp only [List.length_append, List.length_cons, List.length_nil]; omega)) | (apply w_strET; rfl; rfl; rfl; assumption) | (apply w_strEF; rfl; rfl; rfl; assumption) | (apply w_strNF; rfl; rfl; rfl; assumption) | (apply w_strNT; rfl; rfl; rfl; assumption) | (apply w_strE; rfl; rfl; rfl; rfl) | (apply w_strN; rfl; rfl; rfl; rfl) | (apply w_strL; rfl; rfl) | (apply w_cd; rfl; rfl; exact awake_ok _; ((exact kmf))) | (apply w_cd; rfl; rfl; exact hPr; ((exact kmf))) | (apply w_cd; rfl; rfl; exact hPd _; ((exact kmf))) | (apply w_cd; rfl; rfl; exact hAl _; ((exact kmf))) | (apply w_sa; rfl; rfl; rfl; exact hOc; ((focus ((repeat (first | exact .pt rfl | apply StAll.there)); done))); ((exact kmf))) | refine spl ?_ ?_ | intro hc)
  obtain ⟨bc, e1⟩ : ∃ r, r = b := ⟨_, rfl⟩
  subst e1
  have hFw := few_ok v u us ⟨ds, mu, qu, lib⟩ (pt bc 45 [v, int mu, int qu, u] :: R) h.there
  refine W_run (.inl rfl) rfl (cl rfl hFw) ?_
  unfold fewP
  rintro _ _ ⟨fb, rfl, hfb, rfl⟩
  clear hFw
  cases fb with
  | false =>
    (repeat' first | refine stp ?_ | intro v' hv' | intro (b : Nat) | (apply w_convU; rfl; rfl; omega; omega) | (apply w_convI; rfl; rfl; omega; omega) | (apply w_quoU; rfl; rfl; rfl; omega; omega; omega) | (apply w_remU; rfl; rfl; rfl; omega; omega) | (apply w_minL; rfl; rfl; rfl; omega) | (apply w_minG; rfl; rfl; rfl; omega) | (apply w_min; rfl; rfl; rfl) | (apply w_mfR; rfl; rfl) | (apply w_cvp; rfl; rfl; exact inferInstance; rfl; rfl; assumption) | (apply w_eqS2T; rfl; rfl; rfl; omega) | (apply w_eqS2F; rfl; rfl; rfl; omega) | (apply w_neS2T; rfl; rfl; rfl; omega) | (apply w_neS2F; rfl; rfl; rfl; omega) | (apply w_eqS3T; rfl; rfl; rfl; omega) | (apply w_eqS3F; rfl; rfl; rfl; omega) | (apply w_neS3T; rfl; rfl; rfl; omega) | (apply w_neS3F; rfl; rfl; rfl; omega) | (apply w_eqS3; rfl; rfl; rfl) | (apply w_neS3; rfl; rfl; rfl) | (apply w_eqS2; rfl; rfl; rfl) | (apply w_neS2; rfl; rfl; rfl) | (apply w_maxL; rfl; rfl; rfl; omega) | (apply w_maxG; rfl; rfl; rfl; omega) | (apply w_max; rfl; rfl; rfl) | (apply w_neB; rfl; rfl; rfl; rfl) | (apply w_eqB; rfl; rfl; rfl; rfl) | (apply w_strA; rfl; rfl; rfl; first | omega | (simp only [List.length_append, List.length_cons, List.length_nil]; omega)) | (apply w_strET; rfl; rfl; rfl; assumption) | (apply w_strEF; rfl; rfl; rfl; assumption) | (apply w_strNF; rfl; rfl; rfl; assumption) | (apply w_strNT; rfl; rfl; rfl; assumption) | (apply w_strE; rfl; rfl; rfl; rfl) | (apply w_strN; rfl; rfl; rfl; rfl) | (apply w_strL; rfl; rfl) | (apply w_cd; rfl; rfl; exact awake_ok _; ((exact kmf))) | (apply w_cd; rfl; rfl; exact hPr; ((exact kmf))) | (apply w_cd; rfl; rfl; exact hPd _; ((exact kmf))) | (apply w_cd; rfl; rfl; exact hAl _; ((exact kmf))) | (apply w_sa; rfl; rfl; rfl; exact hOc; ((focus ((repeat (first | exact .pt rfl | apply StAll.there)); done))); ((exact kmf))) | refine spl ?_ ?_ | intro hc)
    all_goals first | (exfalso; omega) | skip
    all_goals (refine At_ret1 (by (first | exact .inl rfl | exact .inr rfl)) Tryd.results5 rfl ⟨by rfl, rfl⟩ (by (exact frm)))
  | true =>
    obtain ⟨hf1, hf2, hf3⟩ := hfb rfl
    dsimp only at hf1 hf2 hf3
    clear hfb
    by_cases hbig : 2000 < s.length
    · (repeat' first | refine stp ?_ | intro v' hv' | intro (b : Nat) | (apply w_convU; rfl; rfl; omega; omega) | (apply w_convI; rfl; rfl; omega; omega) | (apply w_quoU; rfl; rfl; rfl; omega; omega; omega) | (apply w_remU; rfl; rfl; rfl; omega; omega) | (apply w_minL; rfl; rfl; rfl; omega) | (apply w_minG; rfl; rfl; rfl; omega) | (apply w_min; rfl; rfl; rfl) | (apply w_mfR; rfl; rfl) | (apply w_cvp; rfl; rfl; exact inferInstance; rfl; rfl; assumption) | (apply w_eqS2T; rfl; rfl; rfl; omega) | (apply w_eqS2F; rfl; rfl; rfl; omega) | (apply w_neS2T; rfl; rfl; rfl; omega) | (apply w_neS2F; rfl; rfl; rfl; omega) | (apply w_eqS3T; rfl; rfl; rfl; omega) | (apply w_eqS3F; rfl; rfl; rfl; omega) | (apply w_neS3T; rfl; rfl; rfl; omega) | (apply w_neS3F; rfl; rfl; rfl; omega) | (apply w_eqS3; rfl; rfl; rfl) | (apply w_neS3; rfl; rfl; rfl) | (apply w_eqS2; rfl; rfl; rfl) | (apply w_neS2; rfl; rfl; rfl) | (apply w_maxL; rfl; rfl; rfl; omega) | (apply w_maxG; rfl; rfl; rfl; omega) | (apply w_max; rfl; rfl; rfl) | (apply w_neB; rfl; rfl; rfl; rfl) | (apply w_eqB; rfl; rfl; rfl; rfl) | (apply w_strA; rfl; rfl; rfl; first | omega | (simp only [List.length_append, List.length_cons, List.length_nil]; omega)) | (apply w_strET; rfl; rfl; rfl; assumption) | (apply w_strEF; rfl; rfl; rfl; assumption) | (apply w_strNF; rfl; rfl; rfl; assumption) | (apply w_strNT; rfl; rfl; rfl; assumption) | (apply w_strE; rfl; rfl; rfl; rfl) | (apply w_strN; rfl; rfl; rfl; rfl) | (apply w_strL; rfl; rfl) | (apply w_cd; rfl; rfl; exact awake_ok _; ((exact kmf))) | (apply w_cd; rfl; rfl; exact hPr; ((exact kmf))) | (apply w_cd; rfl; rfl; exact hPd _; ((exact kmf))) | (apply w_cd; rfl; rfl; exact hAl _; ((exact kmf))) | (apply w_sa; rfl; rfl; rfl; exact hOc; ((focus ((repeat (first | exact .pt rfl | apply StAll.there)); done))); ((exact kmf))) | refine spl ?_ ?_ | intro hc)
      all_goals first | (exfalso; omega) | skip
      all_goals (refine At_ret1 (by (first | exact .inl rfl | exact .inr rfl)) Tryd.results5 rfl ⟨by rfl, rfl⟩ (by (exact frm)))
    · (repeat' first | refine stp ?_ | intro v' hv' | intro (b : Nat) | (apply w_convU; rfl; rfl; omega; omega) | (apply w_convI; rfl; rfl; omega; omega) | (apply w_quoU; rfl; rfl; rfl; omega; omega; omega) | (apply w_remU; rfl; rfl; rfl; omega; omega) | (apply w_minL; rfl; rfl; rfl; omega) | (apply w_minG; rfl; rfl; rfl; omega) | (apply w_min; rfl; rfl; rfl) | (apply w_mfR; rfl; rfl) | (apply w_cvp; rfl; rfl; exact inferInstance; rfl; rfl; assumption) | (apply w_eqS2T; rfl; rfl; rfl; omega) | (apply w_eqS2F; rfl; rfl; rfl; omega) | (apply w_neS2T; rfl; rfl; rfl; omega) | (apply w_neS2F; rfl; rfl; rfl; omega) | (apply w_eqS3T; rfl; rfl; rfl; omega) | (apply w_eqS3F; rfl; rfl; rfl; omega) | (apply w_neS3T; rfl; rfl; rfl; omega) | (apply w_neS3F; rfl; rfl; rfl; omega) | (apply w_eqS3; rfl; rfl; rfl) | (apply w_neS3; rfl; rfl; rfl) | (apply w_eqS2; rfl; rfl; rfl) | (apply w_neS2; rfl; rfl; rfl) | (apply w_maxL; rfl; rfl; rfl; omega) | (apply w_maxG; rfl; rfl; rfl; omega) | (apply w_max; rfl; rfl; rfl) | (apply w_neB; rfl; rfl; rfl; rfl) | (apply w_eqB; rfl; rfl; rfl; rfl) | (apply w_strA; rfl; rfl; rfl; first | omega | (simp only [List.length_append, List.length_cons, List.length_nil]; omega)) | (apply w_strET; rfl; rfl; rfl; assumption) | (apply w_strEF; rfl; rfl; rfl; assumption) | (apply w_strNF; rfl; rfl; rfl; assumption) | (apply w_strNT; rfl; rfl; rfl; assumption) | (apply w_strE; rfl; rfl; rfl; rfl) | (apply w_strN; rfl; rfl; rfl; rfl) | (apply w_strL; rfl; rfl) | (apply w_cd; rfl; rfl; exact awake_ok _; ((exact kmf))) | (apply w_cd; rfl; rfl; exact hPr; ((exact kmf))) | (apply w_cd; rfl; rfl; exact hPd _; ((exact kmf))) | (apply w_cd; rfl; rfl; exact hAl _; ((exact kmf))) | (apply w_sa; rfl; rfl; rfl; exact hOc; ((focus ((repeat (first | exact .pt rfl | apply StAll.there)); done))); ((exact kmf))) | refine spl ?_ ?_ | intro hc)
      all_goals first | (exfalso; omega) | skip
      refine C_loopK (α := Nat × Value) [5, 6, 7, 27, 28, 29, 30, 31, 32, 33, 34, 35, 36, 37, 38, 39, 40, 41, 42, 43, 44, 45, 46, 47, 48] (fun x => ds.length - x.1) (fun x => [(6, int x.1), (5, x.2)]) (fun x => sl 50 3 x.2 ((ds.take x.1).map plE) :: pt bc 45 [v, int mu, int qu, u] :: R) (fun x => x.1 ≤ ds.length ∧ IsSl x.2 x.1) (0, .slice none 0 0) ⟨Nat.zero_le _, IsSl.nil⟩ (by (focus ((repeat (first | exact Keep.nil | apply Keep.drop rfl | apply Keep.keep rfl)); done))) (by (exact sbf)) (fun w hs => hs.sl_nil) ?_
      rintro ⟨k, o⟩ ⟨hk0, ho⟩
      dsimp only [List.cons_append, List.nil_append] at *
      by_cases hlt : k < ds.length
      · have hra : RdAll R (vb v) (vo v + k * 3) (plE ds[k]) := RdAll.srcS h.dsrc (by simp [hlt])
        have htk := take_snoc hlt
        generalize ds[k] = p at *
        obtain ⟨wk, hd, cp⟩ := p
        unfold plE at hra
        dsimp only at hra
        (repeat' first | refine stp ?_ | intro v' hv' | intro (b : Nat) | (apply w_convU; rfl; rfl; omega; omega) | (apply w_convI; rfl; rfl; omega; omega) | (apply w_quoU; rfl; rfl; rfl; omega; omega; omega) | (apply w_remU; rfl; rfl; rfl; omega; omega) | (apply w_minL; rfl; rfl; rfl; omega) | (apply w_minG; rfl; rfl; rfl; omega) | (apply w_min; rfl; rfl; rfl) | (apply w_mfR; rfl; rfl) | (apply w_cvp; rfl; rfl; exact inferInstance; rfl; rfl; assumption) | (apply w_eqS2T; rfl; rfl; rfl; omega) | (apply w_eqS2F; rfl; rfl; rfl; omega) | (apply w_neS2T; rfl; rfl; rfl; omega) | (apply w_neS2F; rfl; rfl; rfl; omega) | (apply w_eqS3T; rfl; rfl; rfl; omega) | (apply w_eqS3F; rfl; rfl; rfl; omega) | (apply w_neS3T; rfl; rfl; rfl; omega) | (apply w_neS3F; rfl; rfl; rfl; omega) | (apply w_eqS3; rfl; rfl; rfl) | (apply w_neS3; rfl; rfl; rfl) | (apply w_eqS2; rfl; rfl; rfl) | (apply w_neS2; rfl; rfl; rfl) | (apply w_maxL; rfl; rfl; rfl; omega) | (apply w_maxG; rfl; rfl; rfl; omega) | (apply w_max; rfl; rfl; rfl) | (apply w_neB; rfl; rfl; rfl; rfl) | (apply w_eqB; rfl; rfl; rfl; rfl) | (apply w_strA; rfl; rfl; rfl; first | omega | (simp only [List.length_append, List.length_cons, List.length_nil]; omega)) | (apply w_strET; rfl; rfl; rfl; assumption) | (apply w_strEF; rfl; rfl; rfl; assumption) | (apply w_strNF; rfl; rfl; rfl; assumption) | (apply w_strNT; rfl; rfl; rfl; assumption) | (apply w_strE; rfl; rfl; rfl; rfl) | (apply w_strN; rfl; rfl; rfl; rfl) | (apply w_strL; rfl; rfl) | (apply w_cd; rfl; rfl; exact awake_ok _; ((exact kmf))) | (apply w_cd; rfl; rfl; exact hPr; ((exact kmf))) | (apply w_cd; rfl; rfl; exact hPd _; ((exact kmf))) | (apply w_cd; rfl; rfl; exact hAl _; ((exact kmf))) | (apply w_sa; rfl; rfl; rfl; exact hOc; ((focus ((repeat (first | exact .pt rfl | apply StAll.there)); done))); ((exact kmf))) | refine spl ?_ ?_ | intro hc)
        all_goals first | (exfalso; omega) | skip
        apply w_ap (es := [[int wk, .bool hd, int cp]])
        rfl; rfl; rfl; ((focus ((repeat (first | exact Del.here | apply Del.there)); done))); ((exact srf)); rfl; (simp; omega); (simp; omega)
        intro o2 ho2
        refine ⟨by (exact kmf), ?_⟩
        have ho3 : IsSl o2 (k + 1) := by
          have e2 : ((ds.take k).map plE ++ [[int wk, .bool hd, int cp]]).length = k + 1 := by simp; omega
          rwa [e2] at ho2
        (repeat' first | refine stp ?_ | intro v' hv' | intro (b : Nat) | (apply w_convU; rfl; rfl; omega; omega) | (apply w_convI; rfl; rfl; omega; omega) | (apply w_quoU; rfl; rfl; rfl; omega; omega; omega) | (apply w_remU; rfl; rfl; rfl; omega; omega) | (apply w_minL; rfl; rfl; rfl; omega) | (apply w_minG; rfl; rfl; rfl; omega) | (apply w_min; rfl; rfl; rfl) | (apply w_mfR; rfl; rfl) | (apply w_cvp; rfl; rfl; exact inferInstance; rfl; rfl; assumption) | (apply w_eqS2T; rfl; rfl; rfl; omega) | (apply w_eqS2F; rfl; rfl; rfl; omega) | (apply w_neS2T; rfl; rfl; rfl; omega) | (apply w_neS2F; rfl; rfl; rfl; omega) | (apply w_eqS3T; rfl; rfl; rfl; omega) | (apply w_eqS3F; rfl; rfl; rfl; omega) | (apply w_neS3T; rfl; rfl; rfl; omega) | (apply w_neS3F; rfl; rfl; rfl; omega) | (apply w_eqS3; rfl; rfl; rfl) | (apply w_neS3; rfl; rfl; rfl) | (apply w_eqS2; rfl; rfl; rfl) | (apply w_neS2; rfl; rfl; rfl) | (apply w_maxL; rfl; rfl; rfl; omega) | (apply w_maxG; rfl; rfl; rfl; omega) | (apply w_max; rfl; rfl; rfl) | (apply w_neB; rfl; rfl; rfl; rfl) | (apply w_eqB; rfl; rfl; rfl; rfl) | (apply w_strA; rfl; rfl; rfl; first | omega | (simp only [List.length_append, List.length_cons, List.length_nil]; omega)) | (apply w_strET; rfl; rfl; rfl; assumption) | (apply w_strEF; rfl; rfl; rfl; assumption) | (apply w_strNF; rfl; rfl; rfl; assumption) | (apply w_strNT; rfl; rfl; rfl; assumption) | (apply w_strE; rfl; rfl; rfl; rfl) | (apply w_strN; rfl; rfl; rfl; rfl) | (apply w_strL; rfl; rfl) | (apply w_cd; rfl; rfl; exact awake_ok _; ((exact kmf))) | (apply w_cd; rfl; rfl; exact hPr; ((exact kmf))) | (apply w_cd; rfl; rfl; exact hPd _; ((exact kmf))) | (apply w_cd; rfl; rfl; exact hAl _; ((exact kmf))) | (apply w_sa; rfl; rfl; rfl; exact hOc; ((focus ((repeat (first | exact .pt rfl | apply StAll.there)); done))); ((exact kmf))) | refine spl ?_ ?_ | intro hc)
        refine At_againK (k + 1, o2) ⟨hlt, ho3⟩ (by show ds.length - (k + 1) < ds.length - k; omega) (by (exact sbf)) (by (exact sbf)) (fun w hs => ?_)
        show Sat w (sl 50 3 o2 ((ds.take (k + 1)).map plE) :: pt bc 45 [v, int mu, int qu, u] :: R)
        rw [htk, List.map_append]
        exact Sel.sat (by (focus ((repeat (first | exact Sel.refl | (apply Sel.cons; (focus ((repeat (first | exact Del.here | apply Del.there)); done))) | refine Sel.drop ?_)); done))) hs
      · have hk' : k = ds.length := by omega
        subst hk'
        rw [List.take_length] at *
        clear hPr
        have hPr := hPr0 (sl 50 3 o (ds.map plE) :: pt bc 45 [v, int mu, int qu, u] :: R) inferInstance h.there.there (by omega) (by omega)
        have hLb := library_ok v u us ⟨ds, mu, qu, lib⟩ (sl 50 3 o (ds.map plE) :: pt bc 45 [v, int mu, int qu, u] :: R) h.there.there (by show lib.length ≤ 100; omega) (fun p hp => by have := hf3 p hp; omega)
        (repeat' first | refine stp ?_ | intro v' hv' | intro (b : Nat) | (apply w_convU; rfl; rfl; omega; omega) | (apply w_convI; rfl; rfl; omega; omega) | (apply w_quoU; rfl; rfl; rfl; omega; omega; omega) | (apply w_remU; rfl; rfl; rfl; omega; omega) | (apply w_minL; rfl; rfl; rfl; omega) | (apply w_minG; rfl; rfl; rfl; omega) | (apply w_min; rfl; rfl; rfl) | (apply w_mfR; rfl; rfl) | (apply w_cvp; rfl; rfl; exact inferInstance; rfl; rfl; assumption) | (apply w_eqS2T; rfl; rfl; rfl; omega) | (apply w_eqS2F; rfl; rfl; rfl; omega) | (apply w_neS2T; rfl; rfl; rfl; omega) | (apply w_neS2F; rfl; rfl; rfl; omega) | (apply w_eqS3T; rfl; rfl; rfl; omega) | (apply w_eqS3F; rfl; rfl; rfl; omega) | (apply w_neS3T; rfl; rfl; rfl; omega) | (apply w_neS3F; rfl; rfl; rfl; omega) | (apply w_eqS3; rfl; rfl; rfl) | (apply w_neS3; rfl; rfl; rfl) | (apply w_eqS2; rfl; rfl; rfl) | (apply w_neS2; rfl; rfl; rfl) | (apply w_maxL; rfl; rfl; rfl; omega) | (apply w_maxG; rfl; rfl; rfl; omega) | (apply w_max; rfl; rfl; rfl) | (apply w_neB; rfl; rfl; rfl; rfl) | (apply w_eqB; rfl; rfl; rfl; rfl) | (apply w_strA; rfl; rfl; rfl; first | omega | (simp only [List.length_append, List.length_cons, List.length_nil]; omega)) | (apply w_strET; rfl; rfl; rfl; assumption) | (apply w_strEF; rfl; rfl; rfl; assumption) | (apply w_strNF; rfl; rfl; rfl; assumption) | (apply w_strNT; rfl; rfl; rfl; assumption) | (apply w_strE; rfl; rfl; rfl; rfl) | (apply w_strN; rfl; rfl; rfl; rfl) | (apply w_strL; rfl; rfl) | (apply w_cd; rfl; rfl; exact awake_ok _; ((exact kmf))) | (apply w_cd; rfl; rfl; exact hPr; ((exact kmf))) | (apply w_cd; rfl; rfl; exact hPd _; ((exact kmf))) | (apply w_cd; rfl; rfl; exact hAl _; ((exact kmf))) | (apply w_sa; rfl; rfl; rfl; exact hOc; ((focus ((repeat (first | exact .pt rfl | apply StAll.there)); done))); ((exact kmf))) | refine spl ?_ ?_ | intro hc)
        all_goals first | (exfalso; omega) | skip
        apply w_cl; rfl; rfl; exact hLb; exact libP_ne (by show lib.length ≤ 100; omega) (fun p hp => by have := hf3 p hp; omega)
        rintro w3 _ ⟨us3, hr3, hi3, rfl⟩
        refine ⟨by (exact kmf), ?_⟩
        dsimp only at hr3
        have hIn : CfIn (sl 93 1 w3 (us3.map uE) :: rowsT 112 us3 lib :: sl 50 3 o (ds.map plE) :: pt bc 45 [v, int mu, int qu, u] :: R) o w3 us3 ⟨ds, mu, qu, lib⟩ := ⟨ho, Sep.Src.sl.there.there, by show IsSl w3 lib.length; rw [← hr3.len]; exact hi3, hr3.len, Sep.Src.sl, fun i p q h1 h2 => (rowsT_in h1 h2 (hr3.isl i p q h1 h2)).there⟩
        have hCf := hRc o w3 us3 _ hIn (by omega) (by omega)
        (repeat' first | refine stp ?_ | intro v' hv' | intro (b : Nat) | (apply w_convU; rfl; rfl; omega; omega) | (apply w_convI; rfl; rfl; omega; omega) | (apply w_quoU; rfl; rfl; rfl; omega; omega; omega) | (apply w_remU; rfl; rfl; rfl; omega; omega) | (apply w_minL; rfl; rfl; rfl; omega) | (apply w_minG; rfl; rfl; rfl; omega) | (apply w_min; rfl; rfl; rfl) | (apply w_mfR; rfl; rfl) | (apply w_cvp; rfl; rfl; exact inferInstance; rfl; rfl; assumption) | (apply w_eqS2T; rfl; rfl; rfl; omega) | (apply w_eqS2F; rfl; rfl; rfl; omega) | (apply w_neS2T; rfl; rfl; rfl; omega) | (apply w_neS2F; rfl; rfl; rfl; omega) | (apply w_eqS3T; rfl; rfl; rfl; omega) | (apply w_eqS3F; rfl; rfl; rfl; omega) | (apply w_neS3T; rfl; rfl; rfl; omega) | (apply w_neS3F; rfl; rfl; rfl; omega) | (apply w_eqS3; rfl; rfl; rfl) | (apply w_neS3; rfl; rfl; rfl) | (apply w_eqS2; rfl; rfl; rfl) | (apply w_neS2; rfl; rfl; rfl) | (apply w_maxL; rfl; rfl; rfl; omega) | (apply w_maxG; rfl; rfl; rfl; omega) | (apply w_max; rfl; rfl; rfl) | (apply w_neB; rfl; rfl; rfl; rfl) | (apply w_eqB; rfl; rfl; rfl; rfl) | (apply w_strA; rfl; rfl; rfl; first | omega | (simp only [List.length_append, List.length_cons, List.length_nil]; omega)) | (apply w_strET; rfl; rfl; rfl; assumption) | (apply w_strEF; rfl; rfl; rfl; assumption) | (apply w_strNF; rfl; rfl; rfl; assumption) | (apply w_strNT; rfl; rfl; rfl; assumption) | (apply w_strE; rfl; rfl; rfl; rfl) | (apply w_strN; rfl; rfl; rfl; rfl) | (apply w_strL; rfl; rfl) | (apply w_cd; rfl; rfl; exact awake_ok _; ((exact kmf))) | (apply w_cd; rfl; rfl; exact hPr; ((exact kmf))) | (apply w_cd; rfl; rfl; exact hPd _; ((exact kmf))) | (apply w_cd; rfl; rfl; exact hAl _; ((exact kmf))) | (apply w_sa; rfl; rfl; rfl; exact hOc; ((focus ((repeat (first | exact .pt rfl | apply StAll.there)); done))); ((exact kmf))) | refine spl ?_ ?_ | intro hc)
        all_goals first | (exfalso; omega) | skip
        apply w_cd; rfl; rfl; exact hCf; ((exact kmf))
        have htt : tx = tx := rfl
        by_cases he : e = 0
        · subst he
          obtain ⟨hcE, hcT⟩ := hok tx rfl
          have hle2 := hle hcE
          rw [hcT] at hle2
          have hpt2 := hpt hcE
          rw [hcT] at hpt2
          have hpl := (hpo hcE).1
          (repeat' first | refine stp ?_ | intro v' hv' | intro (b : Nat) | (apply w_convU; rfl; rfl; omega; omega) | (apply w_convI; rfl; rfl; omega; omega) | (apply w_quoU; rfl; rfl; rfl; omega; omega; omega) | (apply w_remU; rfl; rfl; rfl; omega; omega) | (apply w_minL; rfl; rfl; rfl; omega) | (apply w_minG; rfl; rfl; rfl; omega) | (apply w_min; rfl; rfl; rfl) | (apply w_mfR; rfl; rfl) | (apply w_cvp; rfl; rfl; exact inferInstance; rfl; rfl; assumption) | (apply w_eqS2T; rfl; rfl; rfl; omega) | (apply w_eqS2F; rfl; rfl; rfl; omega) | (apply w_neS2T; rfl; rfl; rfl; omega) | (apply w_neS2F; rfl; rfl; rfl; omega) | (apply w_eqS3T; rfl; rfl; rfl; omega) | (apply w_eqS3F; rfl; rfl; rfl; omega) | (apply w_neS3T; rfl; rfl; rfl; omega) | (apply w_neS3F; rfl; rfl; rfl; omega) | (apply w_eqS3; rfl; rfl; rfl) | (apply w_neS3; rfl; rfl; rfl) | (apply w_eqS2; rfl; rfl; rfl) | (apply w_neS2; rfl; rfl; rfl) | (apply w_maxL; rfl; rfl; rfl; omega) | (apply w_maxG; rfl; rfl; rfl; omega) | (apply w_max; rfl; rfl; rfl) | (apply w_neB; rfl; rfl; rfl; rfl) | (apply w_eqB; rfl; rfl; rfl; rfl) | (apply w_strA; rfl; rfl; rfl; first | omega | (simp only [List.length_append, List.length_cons, List.length_nil]; omega)) | (apply w_strET; rfl; rfl; rfl; assumption) | (apply w_strEF; rfl; rfl; rfl; assumption) | (apply w_strNF; rfl; rfl; rfl; assumption) | (apply w_strNT; rfl; rfl; rfl; assumption) | (apply w_strE; rfl; rfl; rfl; rfl) | (apply w_strN; rfl; rfl; rfl; rfl) | (apply w_strL; rfl; rfl) | (apply w_cd; rfl; rfl; exact awake_ok _; ((exact kmf))) | (apply w_cd; rfl; rfl; exact hPr; ((exact kmf))) | (apply w_cd; rfl; rfl; exact hPd _; ((exact kmf))) | (apply w_cd; rfl; rfl; exact hAl _; ((exact kmf))) | (apply w_sa; rfl; rfl; rfl; exact hOc; ((focus ((repeat (first | exact .pt rfl | apply StAll.there)); done))); ((exact kmf))) | refine spl ?_ ?_ | intro hc)
          all_goals first | (exfalso; omega) | skip
          refine W_sat (L' := pt bc 45 [v, int mu, int qu, u] :: R) (by (exact frm)) ?_
          have hPc := sParseC_ok tx (pt bc 45 [v, int mu, int qu, u] :: R) (by omega)
          refine W_run (.inl rfl) rfl (cl rfl hPc) ?_
          unfold pcP cfE
          rw [hpt2]
          dsimp only
          rintro _ _ ⟨v4, u4, us4, rfl, hr4, hv4, hu4, rfl⟩
          clear hOc hAl
          have hOc : [v4, int mu, int qu, u4].all Value.oneCell' = true := by
            simp only [List.all_cons, List.all_nil, hv4.one, hu4.one]
            rfl
          have hAl := fun b => alike_ok v u v4 u4 us us4 ⟨ds, mu, qu, lib⟩ (pt b 45 [v4, int mu, int qu, u4] :: sl 49 3 v4 (ds.map plE) :: sl 86 1 u4 (us4.map uE) :: rowsT 88 us4 lib :: pt bc 45 [v, int mu, int qu, u] :: R) h.there.there.there.there.there (cfIn_own (c := ⟨ds, mu, qu, lib⟩) hr4 hv4 hu4).there hpl
          (repeat' first | refine stp ?_ | intro v' hv' | intro (b : Nat) | (apply w_convU; rfl; rfl; omega; omega) | (apply w_convI; rfl; rfl; omega; omega) | (apply w_quoU; rfl; rfl; rfl; omega; omega; omega) | (apply w_remU; rfl; rfl; rfl; omega; omega) | (apply w_minL; rfl; rfl; rfl; omega) | (apply w_minG; rfl; rfl; rfl; omega) | (apply w_min; rfl; rfl; rfl) | (apply w_mfR; rfl; rfl) | (apply w_cvp; rfl; rfl; exact inferInstance; rfl; rfl; assumption) | (apply w_eqS2T; rfl; rfl; rfl; omega) | (apply w_eqS2F; rfl; rfl; rfl; omega) | (apply w_neS2T; rfl; rfl; rfl; omega) | (apply w_neS2F; rfl; rfl; rfl; omega) | (apply w_eqS3T; rfl; rfl; rfl; omega) | (apply w_eqS3F; rfl; rfl; rfl; omega) | (apply w_neS3T; rfl; rfl; rfl; omega) | (apply w_neS3F; rfl; rfl; rfl; omega) | (apply w_eqS3; rfl; rfl; rfl) | (apply w_neS3; rfl; rfl; rfl) | (apply w_eqS2; rfl; rfl; rfl) | (apply w_neS2; rfl; rfl; rfl) | (apply w_maxL; rfl; rfl; rfl; omega) | (apply w_maxG; rfl; rfl; rfl; omega) | (apply w_max; rfl; rfl; rfl) | (apply w_neB; rfl; rfl; rfl; rfl) | (apply w_eqB; rfl; rfl; rfl; rfl) | (apply w_strA; rfl; rfl; rfl; first | omega | (simp only [List.length_append, List.length_cons, List.length_nil]; omega)) | (apply w_strET; rfl; rfl; rfl; assumption) | (apply w_strEF; rfl; rfl; rfl; assumption) | (apply w_strNF; rfl; rfl; rfl; assumption) | (apply w_strNT; rfl; rfl; rfl; assumption) | (apply w_strE; rfl; rfl; rfl; rfl) | (apply w_strN; rfl; rfl; rfl; rfl) | (apply w_strL; rfl; rfl) | (apply w_cd; rfl; rfl; exact awake_ok _; ((exact kmf))) | (apply w_cd; rfl; rfl; exact hPr; ((exact kmf))) | (apply w_cd; rfl; rfl; exact hPd _; ((exact kmf))) | (apply w_cd; rfl; rfl; exact hAl _; ((exact kmf))) | (apply w_sa; rfl; rfl; rfl; exact hOc; ((focus ((repeat (first | exact .pt rfl | apply StAll.there)); done))); ((exact kmf))) | refine spl ?_ ?_ | intro hc)
          all_goals first | (exfalso; omega) | skip
          refine W_sat (L' := R) (by (exact frm)) ?_
          have hPc2 := sParseC_ok s R (by omega)
          refine W_run (.inl rfl) rfl (cl rfl hPc2) ?_
          have hq1 := parseC_ok (s := s)
          have hq2 := parseC_bad (s := s)
          unfold pcP cfE
          clear hPc2
          generalize parseC s = pq at *
          rintro _ _ ⟨v5, u5, us5, rfl, hr5, hv5, hu5, rfl⟩
          obtain ⟨⟨ds2, mu2, qu2, lib2⟩, g⟩ := pq
          dsimp only at *
          clear hOc hAl hPr
          have hPr : True := trivial
          have hOc : [v5, int mu2, int qu2, u5].all Value.oneCell' = true := by
            simp only [List.all_cons, List.all_nil, hv5.one, hu5.one]
            rfl
          have hss : s = s := rfl
          by_cases hg : g = 0
          · subst hg
            have hp2 := hq1 rfl
            obtain ⟨hE2, hT2⟩ := printC_ok hp2
            have hge := cfgT_ge ⟨ds2, mu2, qu2, lib2⟩
            rw [hT2] at hge
            dsimp only at hge
            have hAl : True := trivial
            have hPd := fun b => sPrintC_ok v5 u5 us5 ⟨ds2, mu2, qu2, lib2⟩ (pt b 45 [v5, int mu2, int qu2, u5] :: sl 49 3 v5 (ds2.map plE) :: sl 86 1 u5 (us5.map uE) :: rowsT 88 us5 lib2 :: R) (cfIn_own (c := ⟨ds2, mu2, qu2, lib2⟩) hr5 hv5 hu5).there (by show ds2.length ≤ _; omega) (by show lib2.length ≤ _; omega)
            simp only [hp2] at hPd
            (repeat' first | refine stp ?_ | intro v' hv' | intro (b : Nat) | (apply w_convU; rfl; rfl; omega; omega) | (apply w_convI; rfl; rfl; omega; omega) | (apply w_quoU; rfl; rfl; rfl; omega; omega; omega) | (apply w_remU; rfl; rfl; rfl; omega; omega) | (apply w_minL; rfl; rfl; rfl; omega) | (apply w_minG; rfl; rfl; rfl; omega) | (apply w_min; rfl; rfl; rfl) | (apply w_mfR; rfl; rfl) | (apply w_cvp; rfl; rfl; exact inferInstance; rfl; rfl; assumption) | (apply w_eqS2T; rfl; rfl; rfl; omega) | (apply w_eqS2F; rfl; rfl; rfl; omega) | (apply w_neS2T; rfl; rfl; rfl; omega) | (apply w_neS2F; rfl; rfl; rfl; omega) | (apply w_eqS3T; rfl; rfl; rfl; omega) | (apply w_eqS3F; rfl; rfl; rfl; omega) | (apply w_neS3T; rfl; rfl; rfl; omega) | (apply w_neS3F; rfl; rfl; rfl; omega) | (apply w_eqS3; rfl; rfl; rfl) | (apply w_neS3; rfl; rfl; rfl) | (apply w_eqS2; rfl; rfl; rfl) | (apply w_neS2; rfl; rfl; rfl) | (apply w_maxL; rfl; rfl; rfl; omega) | (apply w_maxG; rfl; rfl; rfl; omega) | (apply w_max; rfl; rfl; rfl) | (apply w_neB; rfl; rfl; rfl; rfl) | (apply w_eqB; rfl; rfl; rfl; rfl) | (apply w_strA; rfl; rfl; rfl; first | omega | (simp only [List.length_append, List.length_cons, List.length_nil]; omega)) | (apply w_strET; rfl; rfl; rfl; assumption) | (apply w_strEF; rfl; rfl; rfl; assumption) | (apply w_strNF; rfl; rfl; rfl; assumption) | (apply w_strNT; rfl; rfl; rfl; assumption) | (apply w_strE; rfl; rfl; rfl; rfl) | (apply w_strN; rfl; rfl; rfl; rfl) | (apply w_strL; rfl; rfl) | (apply w_cd; rfl; rfl; exact awake_ok _; ((exact kmf))) | (apply w_cd; rfl; rfl; exact hPr; ((exact kmf))) | (apply w_cd; rfl; rfl; exact hPd _; ((exact kmf))) | (apply w_cd; rfl; rfl; exact hAl _; ((exact kmf))) | (apply w_sa; rfl; rfl; rfl; exact hOc; ((focus ((repeat (first | exact .pt rfl | apply StAll.there)); done))); ((exact kmf))) | refine spl ?_ ?_ | intro hc)
            all_goals first | (exfalso; omega) | skip
            all_goals (refine At_ret1 (by (first | exact .inl rfl | exact .inr rfl)) Tryd.results5 rfl ⟨by rfl, rfl⟩ (by (exact frm)))
          · have h3 : ((⟨ds2, mu2, qu2, lib2⟩ : Cfg), g) = ((⟨[], 0, 0, []⟩ : Cfg), 22) := hq2 hg
            cases h3
            have hPd : True := trivial
            have hAl := fun b => alike_ok v5 u5 (.slice none 0 0) (.slice none 0 0) us5 [] cfg0 (pt b 45 [v5, int 0, int 0, u5] :: sl 49 3 v5 (([] : List Pl).map plE) :: sl 86 1 u5 (us5.map uE) :: rowsT 88 us5 [] :: R) (cfIn_own (c := cfg0) hr5 hv5 hu5).there cfIn_zero (fun p hp => by cases hp)
            (repeat' first | refine stp ?_ | intro v' hv' | intro (b : Nat) | (apply w_convU; rfl; rfl; omega; omega) | (apply w_convI; rfl; rfl; omega; omega) | (apply w_quoU; rfl; rfl; rfl; omega; omega; omega) | (apply w_remU; rfl; rfl; rfl; omega; omega) | (apply w_minL; rfl; rfl; rfl; omega) | (apply w_minG; rfl; rfl; rfl; omega) | (apply w_min; rfl; rfl; rfl) | (apply w_mfR; rfl; rfl) | (apply w_cvp; rfl; rfl; exact inferInstance; rfl; rfl; assumption) | (apply w_eqS2T; rfl; rfl; rfl; omega) | (apply w_eqS2F; rfl; rfl; rfl; omega) | (apply w_neS2T; rfl; rfl; rfl; omega) | (apply w_neS2F; rfl; rfl; rfl; omega) | (apply w_eqS3T; rfl; rfl; rfl; omega) | (apply w_eqS3F; rfl; rfl; rfl; omega) | (apply w_neS3T; rfl; rfl; rfl; omega) | (apply w_neS3F; rfl; rfl; rfl; omega) | (apply w_eqS3; rfl; rfl; rfl) | (apply w_neS3; rfl; rfl; rfl) | (apply w_eqS2; rfl; rfl; rfl) | (apply w_neS2; rfl; rfl; rfl) | (apply w_maxL; rfl; rfl; rfl; omega) | (apply w_maxG; rfl; rfl; rfl; omega) | (apply w_max; rfl; rfl; rfl) | (apply w_neB; rfl; rfl; rfl; rfl) | (apply w_eqB; rfl; rfl; rfl; rfl) | (apply w_strA; rfl; rfl; rfl; first | omega | (simp only [List.length_append, List.length_cons, List.length_nil]; omega)) | (apply w_strET; rfl; rfl; rfl; assumption) | (apply w_strEF; rfl; rfl; rfl; assumption) | (apply w_strNF; rfl; rfl; rfl; assumption) | (apply w_strNT; rfl; rfl; rfl; assumption) | (apply w_strE; rfl; rfl; rfl; rfl) | (apply w_strN; rfl; rfl; rfl; rfl) | (apply w_strL; rfl; rfl) | (apply w_cd; rfl; rfl; exact awake_ok _; ((exact kmf))) | (apply w_cd; rfl; rfl; exact hPr; ((exact kmf))) | (apply w_cd; rfl; rfl; exact hPd _; ((exact kmf))) | (apply w_cd; rfl; rfl; exact hAl _; ((exact kmf))) | (apply w_sa; rfl; rfl; rfl; exact hOc; ((focus ((repeat (first | exact .pt rfl | apply StAll.there)); done))); ((exact kmf))) | refine spl ?_ ?_ | intro hc)
            all_goals first | (exfalso; omega) | skip
            all_goals (refine At_ret1 (by (first | exact .inl rfl | exact .inr rfl)) Tryd.results5 rfl ⟨by rfl, rfl⟩ (by (exact frm)))
        · (repeat' first | refine stp ?_ | intro v' hv' | intro (b : Nat) | (apply w_convU; rfl; rfl; omega; omega) | (apply w_convI; rfl; rfl; omega; omega) | (apply w_quoU; rfl; rfl; rfl; omega; omega; omega) | (apply w_remU; rfl; rfl; rfl; omega; omega) | (apply w_minL; rfl; rfl; rfl; omega) | (apply w_minG; rfl; rfl; rfl; omega) | (apply w_min; rfl; rfl; rfl) | (apply w_mfR; rfl; rfl) | (apply w_cvp; rfl; rfl; exact inferInstance; rfl; rfl; assumption) | (apply w_eqS2T; rfl; rfl; rfl; omega) | (apply w_eqS2F; rfl; rfl; rfl; omega) | (apply w_neS2T; rfl; rfl; rfl; omega) | (apply w_neS2F; rfl; rfl; rfl; omega) | (apply w_eqS3T; rfl; rfl; rfl; omega) | (apply w_eqS3F; rfl; rfl; rfl; omega) | (apply w_neS3T; rfl; rfl; rfl; omega) | (apply w_neS3F; rfl; rfl; rfl; omega) | (apply w_eqS3; rfl; rfl; rfl) | (apply w_neS3; rfl; rfl; rfl) | (apply w_eqS2; rfl; rfl; rfl) | (apply w_neS2; rfl; rfl; rfl) | (apply w_maxL; rfl; rfl; rfl; omega) | (apply w_maxG; rfl; rfl; rfl; omega) | (apply w_max; rfl; rfl; rfl) | (apply w_neB; rfl; rfl; rfl; rfl) | (apply w_eqB; rfl; rfl; rfl; rfl) | (apply w_strA; rfl; rfl; rfl; first | omega | (simp only [List.length_append, List.length_cons, List.length_nil]; omega)) | (apply w_strET; rfl; rfl; rfl; assumption) | (apply w_strEF; rfl; rfl; rfl; assumption) | (apply w_strNF; rfl; rfl; rfl; assumption) | (apply w_strNT; rfl; rfl; rfl; assumption) | (apply w_strE; rfl; rfl; rfl; rfl) | (apply w_strN; rfl; rfl; rfl; rfl) | (apply w_strL; rfl; rfl) | (apply w_cd; rfl; rfl; exact awake_ok _; ((exact kmf))) | (apply w_cd; rfl; rfl; exact hPr; ((exact kmf))) | (apply w_cd; rfl; rfl; exact hPd _; ((exact kmf))) | (apply w_cd; rfl; rfl; exact hAl _; ((exact kmf))) | (apply w_sa; rfl; rfl; rfl; exact hOc; ((focus ((repeat (first | exact .pt rfl | apply StAll.there)); done))); ((exact kmf))) | refine spl ?_ ?_ | intro hc)
          all_goals first | (exfalso; omega) | skip
          refine W_sat (L' := R) (by (exact frm)) ?_
          have hPc2 := sParseC_ok s R (by omega)
          refine W_run (.inl rfl) rfl (cl rfl hPc2) ?_
          have hq1 := parseC_ok (s := s)
          have hq2 := parseC_bad (s := s)
          unfold pcP cfE
          clear hPc2
          generalize parseC s = pq at *
          rintro _ _ ⟨v5, u5, us5, rfl, hr5, hv5, hu5, rfl⟩
          obtain ⟨⟨ds2, mu2, qu2, lib2⟩, g⟩ := pq
          dsimp only at *
          clear hOc hAl hPr
          have hPr : True := trivial
          have hOc : [v5, int mu2, int qu2, u5].all Value.oneCell' = true := by
            simp only [List.all_cons, List.all_nil, hv5.one, hu5.one]
            rfl
          have hss : s = s := rfl
          by_cases hg : g = 0
          · subst hg
            have hp2 := hq1 rfl
            obtain ⟨hE2, hT2⟩ := printC_ok hp2
            have hge := cfgT_ge ⟨ds2, mu2, qu2, lib2⟩
            rw [hT2] at hge
            dsimp only at hge
            have hAl : True := trivial
            have hPd := fun b => sPrintC_ok v5 u5 us5 ⟨ds2, mu2, qu2, lib2⟩ (pt b 45 [v5, int mu2, int qu2, u5] :: sl 49 3 v5 (ds2.map plE) :: sl 86 1 u5 (us5.map uE) :: rowsT 88 us5 lib2 :: R) (cfIn_own (c := ⟨ds2, mu2, qu2, lib2⟩) hr5 hv5 hu5).there (by show ds2.length ≤ _; omega) (by show lib2.length ≤ _; omega)
            simp only [hp2] at hPd
            (repeat' first | refine stp ?_ | intro v' hv' | intro (b : Nat) | (apply w_convU; rfl; rfl; omega; omega) | (apply w_convI; rfl; rfl; omega; omega) | (apply w_quoU; rfl; rfl; rfl; omega; omega; omega) | (apply w_remU; rfl; rfl; rfl; omega; omega) | (apply w_minL; rfl; rfl; rfl; omega) | (apply w_minG; rfl; rfl; rfl; omega) | (apply w_min; rfl; rfl; rfl) | (apply w_mfR; rfl; rfl) | (apply w_cvp; rfl; rfl; exact inferInstance; rfl; rfl; assumption) | (apply w_eqS2T; rfl; rfl; rfl; omega) | (apply w_eqS2F; rfl; rfl; rfl; omega) | (apply w_neS2T; rfl; rfl; rfl; omega) | (apply w_neS2F; rfl; rfl; rfl; omega) | (apply w_eqS3T; rfl; rfl; rfl; omega) | (apply w_eqS3F; rfl; rfl; rfl; omega) | (apply w_neS3T; rfl; rfl; rfl; omega) | (apply w_neS3F; rfl; rfl; rfl; omega) | (apply w_eqS3; rfl; rfl; rfl) | (apply w_neS3; rfl; rfl; rfl) | (apply w_eqS2; rfl; rfl; rfl) | (apply w_neS2; rfl; rfl; rfl) | (apply w_maxL; rfl; rfl; rfl; omega) | (apply w_maxG; rfl; rfl; rfl; omega) | (apply w_max; rfl; rfl; rfl) | (apply w_neB; rfl; rfl; rfl; rfl) | (apply w_eqB; rfl; rfl; rfl; rfl) | (apply w_strA; rfl; rfl; rfl; first | omega | (simp only [List.length_append, List.length_cons, List.length_nil]; omega)) | (apply w_strET; rfl; rfl; rfl; assumption) | (apply w_strEF; rfl; rfl; rfl; assumption) | (apply w_strNF; rfl; rfl; rfl; assumption) | (apply w_strNT; rfl; rfl; rfl; assumption) | (apply w_strE; rfl; rfl; rfl; rfl) | (apply w_strN; rfl; rfl; rfl; rfl) | (apply w_strL; rfl; rfl) | (apply w_cd; rfl; rfl; exact awake_ok _; ((exact kmf))) | (apply w_cd; rfl; rfl; exact hPr; ((exact kmf))) | (apply w_cd; rfl; rfl; exact hPd _; ((exact kmf))) | (apply w_cd; rfl; rfl; exact hAl _; ((exact kmf))) | (apply w_sa; rfl; rfl; rfl; exact hOc; ((focus ((repeat (first | exact .pt rfl | apply StAll.there)); done))); ((exact kmf))) | refine spl ?_ ?_ | intro hc)
            all_goals first | (exfalso; omega) | skip
            all_goals (refine At_ret1 (by (first | exact .inl rfl | exact .inr rfl)) Tryd.results5 rfl ⟨by rfl, rfl⟩ (by (exact frm)))
          · have h3 : ((⟨ds2, mu2, qu2, lib2⟩ : Cfg), g) = ((⟨[], 0, 0, []⟩ : Cfg), 22) := hq2 hg
            cases h3
            have hPd : True := trivial
            have hAl := fun b => alike_ok v5 u5 (.slice none 0 0) (.slice none 0 0) us5 [] cfg0 (pt b 45 [v5, int 0, int 0, u5] :: sl 49 3 v5 (([] : List Pl).map plE) :: sl 86 1 u5 (us5.map uE) :: rowsT 88 us5 [] :: R) (cfIn_own (c := cfg0) hr5 hv5 hu5).there cfIn_zero (fun p hp => by cases hp)
            (repeat' first | refine stp ?_ | intro v' hv' | intro (b : Nat) | (apply w_convU; rfl; rfl; omega; omega) | (apply w_convI; rfl; rfl; omega; omega) | (apply w_quoU; rfl; rfl; rfl; omega; omega; omega) | (apply w_remU; rfl; rfl; rfl; omega; omega) | (apply w_minL; rfl; rfl; rfl; omega) | (apply w_minG; rfl; rfl; rfl; omega) | (apply w_min; rfl; rfl; rfl) | (apply w_mfR; rfl; rfl) | (apply w_cvp; rfl; rfl; exact inferInstance; rfl; rfl; assumption) | (apply w_eqS2T; rfl; rfl; rfl; omega) | (apply w_eqS2F; rfl; rfl; rfl; omega) | (apply w_neS2T; rfl; rfl; rfl; omega) | (apply w_neS2F; rfl; rfl; rfl; omega) | (apply w_eqS3T; rfl; rfl; rfl; omega) | (apply w_eqS3F; rfl; rfl; rfl; omega) | (apply w_neS3T; rfl; rfl; rfl; omega) | (apply w_neS3F; rfl; rfl; rfl; omega) | (apply w_eqS3; rfl; rfl; rfl) | (apply w_neS3; rfl; rfl; rfl) | (apply w_eqS2; rfl; rfl; rfl) | (apply w_neS2; rfl; rfl; rfl) | (apply w_maxL; rfl; rfl; rfl; omega) | (apply w_maxG; rfl; rfl; rfl; omega) | (apply w_max; rfl; rfl; rfl) | (apply w_neB; rfl; rfl; rfl; rfl) | (apply w_eqB; rfl; rfl; rfl; rfl) | (apply w_strA; rfl; rfl; rfl; first | omega | (simp only [List.length_append, List.length_cons, List.length_nil]; omega)) | (apply w_strET; rfl; rfl; rfl; assumption) | (apply w_strEF; rfl; rfl; rfl; assumption) | (apply w_strNF; rfl; rfl; rfl; assumption) | (apply w_strNT; rfl; rfl; rfl; assumption) | (apply w_strE; rfl; rfl; rfl; rfl) | (apply w_strN; rfl; rfl; rfl; rfl) | (apply w_strL; rfl; rfl) | (apply w_cd; rfl; rfl; exact awake_ok _; ((exact kmf))) | (apply w_cd; rfl; rfl; exact hPr; ((exact kmf))) | (apply w_cd; rfl; rfl; exact hPd _; ((exact kmf))) | (apply w_cd; rfl; rfl; exact hAl _; ((exact kmf))) | (apply w_sa; rfl; rfl; rfl; exact hOc; ((focus ((repeat (first | exact .pt rfl | apply StAll.there)); done))); ((exact kmf))) | refine spl ?_ ?_ | intro hc)
            all_goals first | (exfalso; omega) | skip
            all_goals (refine At_ret1 (by (first | exact .inl rfl | exact .inr rfl)) Tryd.results5 rfl ⟨by rfl, rfl⟩ (by (exact frm)))
end Go.Proofs.YteggkdlgailfoaaDoor
