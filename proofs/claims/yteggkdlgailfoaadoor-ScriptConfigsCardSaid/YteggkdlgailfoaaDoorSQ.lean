/- script: the reference's Config. Conditions: none. -/
import Derived.Test.YteggkdlgailfoaaDoorSP
set_option linter.all false
set_option linter.deprecated false
namespace Go.Proofs.YteggkdlgailfoaaDoor
open Go.Sep
variable [B0 : Base]
theorem itoa_flB (c : Bool) : Lib.itoa (flB c) = [if c = true then 49 else 48] := by
  cases c with
  | true => show Lib.itoa 1 = _; unfold Lib.itoa; rw [if_neg (by decide)]; rw [Lib.decDigits]; rfl
  | false => show Lib.itoa 0 = _; unfold Lib.itoa; rw [if_neg (by decide)]; rw [Lib.decDigits]; rfl
theorem plLine_eq (p : Pl) : plLine p = [100, 111, 109, 97, 105, 110, 32] ++ Lib.itoa p.wk ++ [32, if p.hd = true then 49 else 48, 32] ++ Lib.itoa p.cp ++ [10] := by
  unfold plLine lnB lnN plNs
  simp [wDom, itoa_flB]
theorem mqText_eq (mu qu : Int) : mqText mu qu = [109, 117, 116, 101, 120, 101, 115, 32] ++ Lib.itoa mu ++ [10, 113, 117, 97, 110, 116, 117, 109, 32] ++ Lib.itoa qu ++ [10] := by
  unfold mqText lnB lnN
  simp [wMut, wQua]
set_option maxHeartbeats 8000000 in
theorem rConfig_ok (v u : Value) (us : List Value) (c : Cfg) (R : List HP) (h : CfIn R v u us c) (hds : c.ds.length ≤ 1000) (hlb : c.lib.length ≤ 1000) : Called Tryd.prog 17 [v, int c.mu, int c.qu, u] R (is (.tuple #[str (printC c).1, int (printC c).2]) R) := by
  have hv := h.dl
  have hu := h.ll
  have hvN := hv.len
  have huN := hu.len
  have hNa : True := trivial
  have hNb : True := trivial
  have hDa : True := trivial
  have hDb : True := trivial
  have hCk : True := trivial
  have hTx : True := trivial
  have hb1 := fun p => printC_bad1 (c := c) (p := p)
  have hb2 := printC_bad2 (c := c)
  have hb3 := fun a b k => printC_bad3 (c := c) a b (k := k)
  have hgo := printC_good (c := c)
  have hcT : cfgT c = dsText c.ds ++ mqText c.mu c.qu ++ lbText c.lib := rfl
  generalize printC c = pc at *
  obtain ⟨ds, mu, qu, lib⟩ := c
  dsimp only at *
  refine Fn4 Tryd.func17 rfl Tryd.ntmps17 rfl ?_
  (repeat' first | refine C_drawI (id := 10) [] [0, 1, 2, 3, 4, 5, 6, 9, 11, 12, 13, 14, 15, 7, 8, 10, 16, 17, 18, 19] (by kernel_rfl) (by kernel_rfl) (by kernel_rfl) rfl ?_ | refine stp ?_ | intro v' hv' | intro (b : Nat) | (apply w_convU; rfl; rfl; omega; omega) | (apply w_convI; rfl; rfl; omega; omega) | (apply w_quoU; rfl; rfl; rfl; omega; omega; omega) | (apply w_remU; rfl; rfl; rfl; omega; omega) | (apply w_minL; rfl; rfl; rfl; omega) | (apply w_minG; rfl; rfl; rfl; omega) | (apply w_min; rfl; rfl; rfl) | (apply w_mfR; rfl; rfl) | (apply w_cvp; rfl; rfl; exact inferInstance; rfl; rfl; assumption) | (apply w_eqS2T; rfl; rfl; rfl; omega) | (apply w_eqS2F; rfl; rfl; rfl; omega) | (apply w_neS2T; rfl; rfl; rfl; omega) | (apply w_neS2F; rfl; rfl; rfl; omega) | (apply w_eqS3T; rfl; rfl; rfl; omega) | (apply w_eqS3F; rfl; rfl; rfl; omega) | (apply w_neS3T; rfl; rfl; rfl; omega) | (apply w_neS3F; rfl; rfl; rfl; omega) | (apply w_eqS3; rfl; rfl; rfl) | (apply w_neS3; rfl; rfl; rfl) | (apply w_eqS2; rfl; rfl; rfl) | (apply w_neS2; rfl; rfl; rfl) | (apply w_maxL; rfl; rfl; rfl; omega) | (apply w_maxG; rfl; rfl; rfl; omega) | (apply w_max; rfl; rfl; rfl) | (apply w_neB; rfl; rfl; rfl; rfl) | (apply w_eqB; rfl; rfl; rfl; rfl) | (apply w_strA; rfl; rfl; rfl; first | omega | (simp only [List.length_append, List.length_cons, List.length_nil]; omega)) | (apply w_strET; rfl; rfl; rfl; assumption) | (apply w_strEF; rfl; rfl; rfl; assumption) | (apply w_strNF; rfl; rfl; rfl; assumption) | (apply w_strNT; rfl; rfl; rfl; assumption) | (apply w_strE; rfl; rfl; rfl; rfl) | (apply w_strN; rfl; rfl; rfl; rfl) | (apply w_strL; rfl; rfl) | (apply w_cp; rfl; rfl; first | exact hNa | exact hNb | exact hDa | exact hDb) | (apply w_cd; rfl; rfl; exact hCk; ((exact kmf))) | (apply w_cd; rfl; rfl; exact hTx; ((exact kmf))) | refine spl ?_ ?_ | intro hc)
  refine C_loopK [8, 9, 10, 11, 12, 15, 16, 17, 18, 19, 20, 21, 22, 23, 24, 25, 26, 27, 28, 29, 30, 31, 32, 33, 34, 35, 36, 37, 38, 39, 40, 41, 42, 43, 44, 45, 46, 47, 48, 49, 50, 51, 52, 53, 54, 55, 56, 57, 58, 59, 60] (fun k : Nat => ds.length - k) (fun k => [(11, int k), (10, str (dsText (ds.take k)))]) (fun _ => R) (fun k => k ≤ ds.length ∧ ∀ p ∈ ds.take k, plOk p = true) 0 ⟨Nat.zero_le _, by simp⟩ (by (focus ((repeat (first | exact Keep.nil | apply Keep.drop rfl | apply Keep.keep rfl)); done))) (by (exact sbf)) (by (exact frm)) ?_
  rintro k ⟨hk0, hz⟩
  dsimp only [List.cons_append, List.nil_append]
  by_cases hlt : k < ds.length
  · have hra : ∀ (j : Nat) (x : Value), (plE ds[k])[j]? = some x → Rd R ⟨vb v, vo v + k * 3 + j, none⟩ x := fun j x hx => Rd.src h.dsrc (i := k) (k := j) (e := plE ds[k]) (by simp [hlt]) hx
    have hmem : ds[k] ∈ ds := List.getElem_mem hlt
    have htk := take_snoc hlt
    have hsn := dsText_snoc (ds.take k) ds[k]
    rw [← htk] at hsn
    have htl := dsText_le hz
    rw [List.length_take] at htl
    have hzz := fun (hh : plOk ds[k] = true) => mem_snoc (P := fun p => plOk p = true) hz (a := ds[k]) hh
    rw [← htk] at hzz
    generalize ds[k] = p at *
    rw [plLine_eq] at hsn
    have hr0 := hra 0 _ rfl
    have hr1 := hra 1 _ rfl
    have hr2 := hra 2 _ rfl
    clear hra
    by_cases hc0 : plOk p = true
    · obtain ⟨hn1, hn2⟩ := plOk_iff.1 hc0
      obtain ⟨wk, hd, cp⟩ := p
      dsimp only at *
      have hi1 := itoa_num hn1
      have hi2 := itoa_num hn2
      clear hNa hNb hDa hDb
      have hNa : ∀ M, Called Tryd.prog 38 [int wk] M (is (.bool true) M) := fun M => by have := in_ok wk M; rwa [hn1] at this
      have hNb : ∀ M, Called Tryd.prog 38 [int cp] M (is (.bool true) M) := fun M => by have := in_ok cp M; rwa [hn2] at this
      have hDa : ∀ M, Called Tryd.prog 27 [int wk] M (is (str (Lib.itoa wk)) M) := fun M => rDig_ok hn1 M
      have hDb : ∀ M, Called Tryd.prog 27 [int cp] M (is (str (Lib.itoa cp)) M) := fun M => rDig_ok hn2 M
      generalize Lib.itoa wk = d1 at *
      generalize Lib.itoa cp = d2 at *
      generalize dsText (ds.take k) = tx at *
      cases hd with
      | true =>
        rw [if_pos rfl] at hsn
        have e : dsText (ds.take (k + 1)) = tx ++ [100, 111, 109, 97, 105, 110, 32] ++ d1 ++ [32, 49, 32] ++ d2 ++ [10] := by rw [hsn]; simp [List.append_assoc]
        (repeat' first | refine C_drawI (id := 10) [] [0, 1, 2, 3, 4, 5, 6, 9, 11, 12, 13, 14, 15, 7, 8, 10, 16, 17, 18, 19] (by kernel_rfl) (by kernel_rfl) (by kernel_rfl) rfl ?_ | refine stp ?_ | intro v' hv' | intro (b : Nat) | (apply w_convU; rfl; rfl; omega; omega) | (apply w_convI; rfl; rfl; omega; omega) | (apply w_quoU; rfl; rfl; rfl; omega; omega; omega) | (apply w_remU; rfl; rfl; rfl; omega; omega) | (apply w_minL; rfl; rfl; rfl; omega) | (apply w_minG; rfl; rfl; rfl; omega) | (apply w_min; rfl; rfl; rfl) | (apply w_mfR; rfl; rfl) | (apply w_cvp; rfl; rfl; exact inferInstance; rfl; rfl; assumption) | (apply w_eqS2T; rfl; rfl; rfl; omega) | (apply w_eqS2F; rfl; rfl; rfl; omega) | (apply w_neS2T; rfl; rfl; rfl; omega) | (apply w_neS2F; rfl; rfl; rfl; omega) | (apply w_eqS3T; rfl; rfl; rfl; omega) | (apply w_eqS3F; rfl; rfl; rfl; omega) | (apply w_neS3T; rfl; rfl; rfl; omega) | (apply w_neS3F; rfl; rfl; rfl; omega) | (apply w_eqS3; rfl; rfl; rfl) | (apply w_neS3; rfl; rfl; rfl) | (apply w_eqS2; rfl; rfl; rfl) | (apply w_neS2; rfl; rfl; rfl) | (apply w_maxL; rfl; rfl; rfl; omega) | (apply w_maxG; rfl; rfl; rfl; omega) | (apply w_max; rfl; rfl; rfl) | (apply w_neB; rfl; rfl; rfl; rfl) | (apply w_eqB; rfl; rfl; rfl; rfl) | (apply w_strA; rfl; rfl; rfl; first | omega | (simp only [List.length_append, List.length_cons, List.length_nil]; omega)) | (apply w_strET; rfl; rfl; rfl; assumption) | (apply w_strEF; rfl; rfl; rfl; assumption) | (apply w_strNF; rfl; rfl; rfl; assumption) | (apply w_strNT; rfl; rfl; rfl; assumption) | (apply w_strE; rfl; rfl; rfl; rfl) | (apply w_strN; rfl; rfl; rfl; rfl) | (apply w_strL; rfl; rfl) | (apply w_cp; rfl; rfl; first | exact hNa | exact hNb | exact hDa | exact hDb) | (apply w_cd; rfl; rfl; exact hCk; ((exact kmf))) | (apply w_cd; rfl; rfl; exact hTx; ((exact kmf))) | refine spl ?_ ?_ | intro hc)
        all_goals first | (exfalso; omega) | skip
        all_goals exact At_againK (k + 1) ⟨hlt, hzz hc0⟩ (by omega) (by rw [e]; (exact sbf)) (by (exact sbf)) (by (exact frm))
      | false =>
        rw [if_neg (by decide)] at hsn
        have e : dsText (ds.take (k + 1)) = tx ++ [100, 111, 109, 97, 105, 110, 32] ++ d1 ++ [32, 48, 32] ++ d2 ++ [10] := by rw [hsn]; simp [List.append_assoc]
        (repeat' first | refine C_drawI (id := 10) [] [0, 1, 2, 3, 4, 5, 6, 9, 11, 12, 13, 14, 15, 7, 8, 10, 16, 17, 18, 19] (by kernel_rfl) (by kernel_rfl) (by kernel_rfl) rfl ?_ | refine stp ?_ | intro v' hv' | intro (b : Nat) | (apply w_convU; rfl; rfl; omega; omega) | (apply w_convI; rfl; rfl; omega; omega) | (apply w_quoU; rfl; rfl; rfl; omega; omega; omega) | (apply w_remU; rfl; rfl; rfl; omega; omega) | (apply w_minL; rfl; rfl; rfl; omega) | (apply w_minG; rfl; rfl; rfl; omega) | (apply w_min; rfl; rfl; rfl) | (apply w_mfR; rfl; rfl) | (apply w_cvp; rfl; rfl; exact inferInstance; rfl; rfl; assumption) | (apply w_eqS2T; rfl; rfl; rfl; omega) | (apply w_eqS2F; rfl; rfl; rfl; omega) | (apply w_neS2T; rfl; rfl; rfl; omega) | (apply w_neS2F; rfl; rfl; rfl; omega) | (apply w_eqS3T; rfl; rfl; rfl; omega) | (apply w_eqS3F; rfl; rfl; rfl; omega) | (apply w_neS3T; rfl; rfl; rfl; omega) | (apply w_neS3F; rfl; rfl; rfl; omega) | (apply w_eqS3; rfl; rfl; rfl) | (apply w_neS3; rfl; rfl; rfl) | (apply w_eqS2; rfl; rfl; rfl) | (apply w_neS2; rfl; rfl; rfl) | (apply w_maxL; rfl; rfl; rfl; omega) | (apply w_maxG; rfl; rfl; rfl; omega) | (apply w_max; rfl; rfl; rfl) | (apply w_neB; rfl; rfl; rfl; rfl) | (apply w_eqB; rfl; rfl; rfl; rfl) | (apply w_strA; rfl; rfl; rfl; first | omega | (simp only [List.length_append, List.length_cons, List.length_nil]; omega)) | (apply w_strET; rfl; rfl; rfl; assumption) | (apply w_strEF; rfl; rfl; rfl; assumption) | (apply w_strNF; rfl; rfl; rfl; assumption) | (apply w_strNT; rfl; rfl; rfl; assumption) | (apply w_strE; rfl; rfl; rfl; rfl) | (apply w_strN; rfl; rfl; rfl; rfl) | (apply w_strL; rfl; rfl) | (apply w_cp; rfl; rfl; first | exact hNa | exact hNb | exact hDa | exact hDb) | (apply w_cd; rfl; rfl; exact hCk; ((exact kmf))) | (apply w_cd; rfl; rfl; exact hTx; ((exact kmf))) | refine spl ?_ ?_ | intro hc)
        all_goals first | (exfalso; omega) | skip
        all_goals exact At_againK (k + 1) ⟨hlt, hzz hc0⟩ (by omega) (by rw [e]; (exact sbf)) (by (exact sbf)) (by (exact frm))
    · have hpc := hb1 p hmem hc0
      rw [hpc]
      obtain ⟨wk, hd, cp⟩ := p
      dsimp only at *
      clear hNa hNb
      by_cases hn1 : numB wk = true
      · have hn2 : numB cp = false := by
          cases hx : numB cp with
          | false => rfl
          | true => exact absurd (plOk_iff.2 ⟨hn1, hx⟩) hc0
        have hNa : ∀ M, Called Tryd.prog 38 [int wk] M (is (.bool true) M) := fun M => by have := in_ok wk M; rwa [hn1] at this
        have hNb : ∀ M, Called Tryd.prog 38 [int cp] M (is (.bool false) M) := fun M => by have := in_ok cp M; rwa [hn2] at this
        (repeat' first | refine C_drawI (id := 10) [] [0, 1, 2, 3, 4, 5, 6, 9, 11, 12, 13, 14, 15, 7, 8, 10, 16, 17, 18, 19] (by kernel_rfl) (by kernel_rfl) (by kernel_rfl) rfl ?_ | refine stp ?_ | intro v' hv' | intro (b : Nat) | (apply w_convU; rfl; rfl; omega; omega) | (apply w_convI; rfl; rfl; omega; omega) | (apply w_quoU; rfl; rfl; rfl; omega; omega; omega) | (apply w_remU; rfl; rfl; rfl; omega; omega) | (apply w_minL; rfl; rfl; rfl; omega) | (apply w_minG; rfl; rfl; rfl; omega) | (apply w_min; rfl; rfl; rfl) | (apply w_mfR; rfl; rfl) | (apply w_cvp; rfl; rfl; exact inferInstance; rfl; rfl; assumption) | (apply w_eqS2T; rfl; rfl; rfl; omega) | (apply w_eqS2F; rfl; rfl; rfl; omega) | (apply w_neS2T; rfl; rfl; rfl; omega) | (apply w_neS2F; rfl; rfl; rfl; omega) | (apply w_eqS3T; rfl; rfl; rfl; omega) | (apply w_eqS3F; rfl; rfl; rfl; omega) | (apply w_neS3T; rfl; rfl; rfl; omega) | (apply w_neS3F; rfl; rfl; rfl; omega) | (apply w_eqS3; rfl; rfl; rfl) | (apply w_neS3; rfl; rfl; rfl) | (apply w_eqS2; rfl; rfl; rfl) | (apply w_neS2; rfl; rfl; rfl) | (apply w_maxL; rfl; rfl; rfl; omega) | (apply w_maxG; rfl; rfl; rfl; omega) | (apply w_max; rfl; rfl; rfl) | (apply w_neB; rfl; rfl; rfl; rfl) | (apply w_eqB; rfl; rfl; rfl; rfl) | (apply w_strA; rfl; rfl; rfl; first | omega | (simp only [List.length_append, List.length_cons, List.length_nil]; omega)) | (apply w_strET; rfl; rfl; rfl; assumption) | (apply w_strEF; rfl; rfl; rfl; assumption) | (apply w_strNF; rfl; rfl; rfl; assumption) | (apply w_strNT; rfl; rfl; rfl; assumption) | (apply w_strE; rfl; rfl; rfl; rfl) | (apply w_strN; rfl; rfl; rfl; rfl) | (apply w_strL; rfl; rfl) | (apply w_cp; rfl; rfl; first | exact hNa | exact hNb | exact hDa | exact hDb) | (apply w_cd; rfl; rfl; exact hCk; ((exact kmf))) | (apply w_cd; rfl; rfl; exact hTx; ((exact kmf))) | refine spl ?_ ?_ | intro hc)
        all_goals first | (exfalso; omega) | skip
        all_goals (refine At_ret2 (by (first | exact .inl rfl | exact .inr rfl)) Tryd.results17 rfl rfl ⟨by rfl, rfl⟩ (by (exact frm)))
      · have hn1' : numB wk = false := by cases hx : numB wk with | false => rfl | true => exact absurd hx hn1
        have hNa : ∀ M, Called Tryd.prog 38 [int wk] M (is (.bool false) M) := fun M => by have := in_ok wk M; rwa [hn1'] at this
        have hNb : True := trivial
        (repeat' first | refine C_drawI (id := 10) [] [0, 1, 2, 3, 4, 5, 6, 9, 11, 12, 13, 14, 15, 7, 8, 10, 16, 17, 18, 19] (by kernel_rfl) (by kernel_rfl) (by kernel_rfl) rfl ?_ | refine stp ?_ | intro v' hv' | intro (b : Nat) | (apply w_convU; rfl; rfl; omega; omega) | (apply w_convI; rfl; rfl; omega; omega) | (apply w_quoU; rfl; rfl; rfl; omega; omega; omega) | (apply w_remU; rfl; rfl; rfl; omega; omega) | (apply w_minL; rfl; rfl; rfl; omega) | (apply w_minG; rfl; rfl; rfl; omega) | (apply w_min; rfl; rfl; rfl) | (apply w_mfR; rfl; rfl) | (apply w_cvp; rfl; rfl; exact inferInstance; rfl; rfl; assumption) | (apply w_eqS2T; rfl; rfl; rfl; omega) | (apply w_eqS2F; rfl; rfl; rfl; omega) | (apply w_neS2T; rfl; rfl; rfl; omega) | (apply w_neS2F; rfl; rfl; rfl; omega) | (apply w_eqS3T; rfl; rfl; rfl; omega) | (apply w_eqS3F; rfl; rfl; rfl; omega) | (apply w_neS3T; rfl; rfl; rfl; omega) | (apply w_neS3F; rfl; rfl; rfl; omega) | (apply w_eqS3; rfl; rfl; rfl) | (apply w_neS3; rfl; rfl; rfl) | (apply w_eqS2; rfl; rfl; rfl) | (apply w_neS2; rfl; rfl; rfl) | (apply w_maxL; rfl; rfl; rfl; omega) | (apply w_maxG; rfl; rfl; rfl; omega) | (apply w_max; rfl; rfl; rfl) | (apply w_neB; rfl; rfl; rfl; rfl) | (apply w_eqB; rfl; rfl; rfl; rfl) | (apply w_strA; rfl; rfl; rfl; first | omega | (simp only [List.length_append, List.length_cons, List.length_nil]; omega)) | (apply w_strET; rfl; rfl; rfl; assumption) | (apply w_strEF; rfl; rfl; rfl; assumption) | (apply w_strNF; rfl; rfl; rfl; assumption) | (apply w_strNT; rfl; rfl; rfl; assumption) | (apply w_strE; rfl; rfl; rfl; rfl) | (apply w_strN; rfl; rfl; rfl; rfl) | (apply w_strL; rfl; rfl) | (apply w_cp; rfl; rfl; first | exact hNa | exact hNb | exact hDa | exact hDb) | (apply w_cd; rfl; rfl; exact hCk; ((exact kmf))) | (apply w_cd; rfl; rfl; exact hTx; ((exact kmf))) | refine spl ?_ ?_ | intro hc)
        all_goals first | (exfalso; omega) | skip
        all_goals (refine At_ret2 (by (first | exact .inl rfl | exact .inr rfl)) Tryd.results17 rfl rfl ⟨by rfl, rfl⟩ (by (exact frm)))
  · have hk' : k = ds.length := by omega
    subst hk'
    rw [List.take_length] at *
    have htl := dsText_le hz
    clear hNa hNb
    by_cases hn1 : numB mu = true
    · by_cases hn2 : numB qu = true
      · have hi1 := itoa_num hn1
        have hi2 := itoa_num hn2
        have hNa : ∀ M, Called Tryd.prog 38 [int mu] M (is (.bool true) M) := fun M => by have := in_ok mu M; rwa [hn1] at this
        have hNb : ∀ M, Called Tryd.prog 38 [int qu] M (is (.bool true) M) := fun M => by have := in_ok qu M; rwa [hn2] at this
        clear hDa hDb
        have hDa : ∀ M, Called Tryd.prog 27 [int mu] M (is (str (Lib.itoa mu)) M) := fun M => rDig_ok hn1 M
        have hDb : ∀ M, Called Tryd.prog 27 [int qu] M (is (str (Lib.itoa qu)) M) := fun M => rDig_ok hn2 M
        rw [mqText_eq] at hcT
        generalize Lib.itoa mu = d1 at *
        generalize Lib.itoa qu = d2 at *
        generalize dsText ds = tx at *
        obtain ⟨X, hX⟩ : ∃ X, X = tx ++ [109, 117, 116, 101, 120, 101, 115, 32] ++ d1 ++ [10, 113, 117, 97, 110, 116, 117, 109, 32] ++ d2 ++ [10] := ⟨_, rfl⟩
        have hXl : X.length ≤ 100100 := by rw [hX]; simp only [List.length_append, List.length_cons, List.length_nil]; omega
        have hcT2 : cfgT { ds := ds, mu := mu, qu := qu, lib := lib } = X ++ lbText lib := by rw [hcT, hX]; simp [List.append_assoc]
        have e0 : X ++ lbText (lib.take 0) = tx ++ [109, 117, 116, 101, 120, 101, 115, 32] ++ d1 ++ [10, 113, 117, 97, 110, 116, 117, 109, 32] ++ d2 ++ [10] := by rw [hX]; simp [lbText]
        (repeat' first | refine C_drawI (id := 10) [] [0, 1, 2, 3, 4, 5, 6, 9, 11, 12, 13, 14, 15, 7, 8, 10, 16, 17, 18, 19] (by kernel_rfl) (by kernel_rfl) (by kernel_rfl) rfl ?_ | refine stp ?_ | intro v' hv' | intro (b : Nat) | (apply w_convU; rfl; rfl; omega; omega) | (apply w_convI; rfl; rfl; omega; omega) | (apply w_quoU; rfl; rfl; rfl; omega; omega; omega) | (apply w_remU; rfl; rfl; rfl; omega; omega) | (apply w_minL; rfl; rfl; rfl; omega) | (apply w_minG; rfl; rfl; rfl; omega) | (apply w_min; rfl; rfl; rfl) | (apply w_mfR; rfl; rfl) | (apply w_cvp; rfl; rfl; exact inferInstance; rfl; rfl; assumption) | (apply w_eqS2T; rfl; rfl; rfl; omega) | (apply w_eqS2F; rfl; rfl; rfl; omega) | (apply w_neS2T; rfl; rfl; rfl; omega) | (apply w_neS2F; rfl; rfl; rfl; omega) | (apply w_eqS3T; rfl; rfl; rfl; omega) | (apply w_eqS3F; rfl; rfl; rfl; omega) | (apply w_neS3T; rfl; rfl; rfl; omega) | (apply w_neS3F; rfl; rfl; rfl; omega) | (apply w_eqS3; rfl; rfl; rfl) | (apply w_neS3; rfl; rfl; rfl) | (apply w_eqS2; rfl; rfl; rfl) | (apply w_neS2; rfl; rfl; rfl) | (apply w_maxL; rfl; rfl; rfl; omega) | (apply w_maxG; rfl; rfl; rfl; omega) | (apply w_max; rfl; rfl; rfl) | (apply w_neB; rfl; rfl; rfl; rfl) | (apply w_eqB; rfl; rfl; rfl; rfl) | (apply w_strA; rfl; rfl; rfl; first | omega | (simp only [List.length_append, List.length_cons, List.length_nil]; omega)) | (apply w_strET; rfl; rfl; rfl; assumption) | (apply w_strEF; rfl; rfl; rfl; assumption) | (apply w_strNF; rfl; rfl; rfl; assumption) | (apply w_strNT; rfl; rfl; rfl; assumption) | (apply w_strE; rfl; rfl; rfl; rfl) | (apply w_strN; rfl; rfl; rfl; rfl) | (apply w_strL; rfl; rfl) | (apply w_cp; rfl; rfl; first | exact hNa | exact hNb | exact hDa | exact hDb) | (apply w_cd; rfl; rfl; exact hCk; ((exact kmf))) | (apply w_cd; rfl; rfl; exact hTx; ((exact kmf))) | refine spl ?_ ?_ | intro hc)
        all_goals first | (exfalso; omega) | skip
        refine C_loopK [8, 9, 10, 13, 14, 79, 80, 81, 82, 83, 84, 85, 86, 87, 88, 89, 90, 91, 92, 93, 94, 95, 96, 97, 98, 99, 100] (fun k : Nat => lib.length - k) (fun k => [(13, int k), (10, str (X ++ lbText (lib.take k)))]) (fun _ => R) (fun k => k ≤ lib.length ∧ ∀ p ∈ lib.take k, progE p = 0) 0 ⟨Nat.zero_le _, by simp⟩ (by (focus ((repeat (first | exact Keep.nil | apply Keep.drop rfl | apply Keep.keep rfl)); done))) (by rw [e0]; (exact sbf)) (by (exact frm)) ?_
        clear e0 hX hcT
        rintro k ⟨hk2, hz2⟩
        dsimp only [List.cons_append, List.nil_append]
        by_cases hlt2 : k < lib.length
        · obtain ⟨p, hp, hrd, hpi⟩ := h.row (k := k) hlt2
          have htk := take_snoc hlt2
          have hsn := lbText_snoc (lib.take k) lib[k]
          rw [← htk] at hsn
          have hbl := lbText_le hz2
          rw [List.length_take] at hbl
          have hpl := hpi.isl
          clear hCk hTx
          have hCk := rCheck_ok p lib[k] R hpl hpi.src
          have hzz := fun (hh : progE lib[k] = 0) => mem_snoc (P := fun p => progE p = 0) hz2 (a := lib[k]) hh
          rw [← htk] at hzz
          have hb4 := hb3 hz ⟨hn1, hn2⟩ k hlt2 hz2
          generalize lib[k] = q at *
          by_cases hq0 : progE q = 0
          · rw [hq0] at hCk
            obtain ⟨h64, hall⟩ := progE_may hq0
            have hTx := Text_ok p q R hpi h64 hall
            have hpgq : pgText q = wPro ++ textB q := rfl
            have hl3 := textB_le hall
            clear hb4
            rw [hpgq] at hsn
            generalize textB q = tq at *
            generalize lbText (lib.take k) = ty at *
            have hW8 : (X ++ ty).length ≤ 2000000 := by rw [List.length_append]; omega
            have e : X ++ lbText (lib.take (k + 1)) = X ++ ty ++ [112, 114, 111, 103, 114, 97, 109, 10] ++ tq := by rw [hsn]; simp [List.append_assoc, wPro]
            (repeat' first | refine C_drawI (id := 10) [] [0, 1, 2, 3, 4, 5, 6, 9, 11, 12, 13, 14, 15, 7, 8, 10, 16, 17, 18, 19] (by kernel_rfl) (by kernel_rfl) (by kernel_rfl) rfl ?_ | refine stp ?_ | intro v' hv' | intro (b : Nat) | (apply w_convU; rfl; rfl; omega; omega) | (apply w_convI; rfl; rfl; omega; omega) | (apply w_quoU; rfl; rfl; rfl; omega; omega; omega) | (apply w_remU; rfl; rfl; rfl; omega; omega) | (apply w_minL; rfl; rfl; rfl; omega) | (apply w_minG; rfl; rfl; rfl; omega) | (apply w_min; rfl; rfl; rfl) | (apply w_mfR; rfl; rfl) | (apply w_cvp; rfl; rfl; exact inferInstance; rfl; rfl; assumption) | (apply w_eqS2T; rfl; rfl; rfl; omega) | (apply w_eqS2F; rfl; rfl; rfl; omega) | (apply w_neS2T; rfl; rfl; rfl; omega) | (apply w_neS2F; rfl; rfl; rfl; omega) | (apply w_eqS3T; rfl; rfl; rfl; omega) | (apply w_eqS3F; rfl; rfl; rfl; omega) | (apply w_neS3T; rfl; rfl; rfl; omega) | (apply w_neS3F; rfl; rfl; rfl; omega) | (apply w_eqS3; rfl; rfl; rfl) | (apply w_neS3; rfl; rfl; rfl) | (apply w_eqS2; rfl; rfl; rfl) | (apply w_neS2; rfl; rfl; rfl) | (apply w_maxL; rfl; rfl; rfl; omega) | (apply w_maxG; rfl; rfl; rfl; omega) | (apply w_max; rfl; rfl; rfl) | (apply w_neB; rfl; rfl; rfl; rfl) | (apply w_eqB; rfl; rfl; rfl; rfl) | (apply w_strA; rfl; rfl; rfl; first | omega | (simp only [List.length_append, List.length_cons, List.length_nil]; omega)) | (apply w_strET; rfl; rfl; rfl; assumption) | (apply w_strEF; rfl; rfl; rfl; assumption) | (apply w_strNF; rfl; rfl; rfl; assumption) | (apply w_strNT; rfl; rfl; rfl; assumption) | (apply w_strE; rfl; rfl; rfl; rfl) | (apply w_strN; rfl; rfl; rfl; rfl) | (apply w_strL; rfl; rfl) | (apply w_cp; rfl; rfl; first | exact hNa | exact hNb | exact hDa | exact hDb) | (apply w_cd; rfl; rfl; exact hCk; ((exact kmf))) | (apply w_cd; rfl; rfl; exact hTx; ((exact kmf))) | refine spl ?_ ?_ | intro hc)
            all_goals first | (exfalso; omega) | skip
            all_goals exact At_againK (k + 1) ⟨hlt2, hzz hq0⟩ (by omega) (by rw [e]; (exact sbf)) (by (exact sbf)) (by (exact frm))
          · rw [hb4 hq0]
            have hTx : True := trivial
            clear hb4 hzz hb1 hb2 hb3 hgo
            generalize progE q = e at *
            (repeat' first | refine C_drawI (id := 10) [] [0, 1, 2, 3, 4, 5, 6, 9, 11, 12, 13, 14, 15, 7, 8, 10, 16, 17, 18, 19] (by kernel_rfl) (by kernel_rfl) (by kernel_rfl) rfl ?_ | refine stp ?_ | intro v' hv' | intro (b : Nat) | (apply w_convU; rfl; rfl; omega; omega) | (apply w_convI; rfl; rfl; omega; omega) | (apply w_quoU; rfl; rfl; rfl; omega; omega; omega) | (apply w_remU; rfl; rfl; rfl; omega; omega) | (apply w_minL; rfl; rfl; rfl; omega) | (apply w_minG; rfl; rfl; rfl; omega) | (apply w_min; rfl; rfl; rfl) | (apply w_mfR; rfl; rfl) | (apply w_cvp; rfl; rfl; exact inferInstance; rfl; rfl; assumption) | (apply w_eqS2T; rfl; rfl; rfl; omega) | (apply w_eqS2F; rfl; rfl; rfl; omega) | (apply w_neS2T; rfl; rfl; rfl; omega) | (apply w_neS2F; rfl; rfl; rfl; omega) | (apply w_eqS3T; rfl; rfl; rfl; omega) | (apply w_eqS3F; rfl; rfl; rfl; omega) | (apply w_neS3T; rfl; rfl; rfl; omega) | (apply w_neS3F; rfl; rfl; rfl; omega) | (apply w_eqS3; rfl; rfl; rfl) | (apply w_neS3; rfl; rfl; rfl) | (apply w_eqS2; rfl; rfl; rfl) | (apply w_neS2; rfl; rfl; rfl) | (apply w_maxL; rfl; rfl; rfl; omega) | (apply w_maxG; rfl; rfl; rfl; omega) | (apply w_max; rfl; rfl; rfl) | (apply w_neB; rfl; rfl; rfl; rfl) | (apply w_eqB; rfl; rfl; rfl; rfl) | (apply w_strA; rfl; rfl; rfl; first | omega | (simp only [List.length_append, List.length_cons, List.length_nil]; omega)) | (apply w_strET; rfl; rfl; rfl; assumption) | (apply w_strEF; rfl; rfl; rfl; assumption) | (apply w_strNF; rfl; rfl; rfl; assumption) | (apply w_strNT; rfl; rfl; rfl; assumption) | (apply w_strE; rfl; rfl; rfl; rfl) | (apply w_strN; rfl; rfl; rfl; rfl) | (apply w_strL; rfl; rfl) | (apply w_cp; rfl; rfl; first | exact hNa | exact hNb | exact hDa | exact hDb) | (apply w_cd; rfl; rfl; exact hCk; ((exact kmf))) | (apply w_cd; rfl; rfl; exact hTx; ((exact kmf))) | refine spl ?_ ?_ | intro hc)
            all_goals first | (exfalso; omega) | skip
            all_goals (refine At_ret2 (by (first | exact .inl rfl | exact .inr rfl)) Tryd.results17 rfl rfl ⟨by rfl, rfl⟩ (by (exact frm)))
        · have hk' : k = lib.length := by omega
          subst hk'
          rw [List.take_length] at *
          rw [hgo hz ⟨hn1, hn2⟩ hz2, hcT2]
          (repeat' first | refine C_drawI (id := 10) [] [0, 1, 2, 3, 4, 5, 6, 9, 11, 12, 13, 14, 15, 7, 8, 10, 16, 17, 18, 19] (by kernel_rfl) (by kernel_rfl) (by kernel_rfl) rfl ?_ | refine stp ?_ | intro v' hv' | intro (b : Nat) | (apply w_convU; rfl; rfl; omega; omega) | (apply w_convI; rfl; rfl; omega; omega) | (apply w_quoU; rfl; rfl; rfl; omega; omega; omega) | (apply w_remU; rfl; rfl; rfl; omega; omega) | (apply w_minL; rfl; rfl; rfl; omega) | (apply w_minG; rfl; rfl; rfl; omega) | (apply w_min; rfl; rfl; rfl) | (apply w_mfR; rfl; rfl) | (apply w_cvp; rfl; rfl; exact inferInstance; rfl; rfl; assumption) | (apply w_eqS2T; rfl; rfl; rfl; omega) | (apply w_eqS2F; rfl; rfl; rfl; omega) | (apply w_neS2T; rfl; rfl; rfl; omega) | (apply w_neS2F; rfl; rfl; rfl; omega) | (apply w_eqS3T; rfl; rfl; rfl; omega) | (apply w_eqS3F; rfl; rfl; rfl; omega) | (apply w_neS3T; rfl; rfl; rfl; omega) | (apply w_neS3F; rfl; rfl; rfl; omega) | (apply w_eqS3; rfl; rfl; rfl) | (apply w_neS3; rfl; rfl; rfl) | (apply w_eqS2; rfl; rfl; rfl) | (apply w_neS2; rfl; rfl; rfl) | (apply w_maxL; rfl; rfl; rfl; omega) | (apply w_maxG; rfl; rfl; rfl; omega) | (apply w_max; rfl; rfl; rfl) | (apply w_neB; rfl; rfl; rfl; rfl) | (apply w_eqB; rfl; rfl; rfl; rfl) | (apply w_strA; rfl; rfl; rfl; first | omega | (simp only [List.length_append, List.length_cons, List.length_nil]; omega)) | (apply w_strET; rfl; rfl; rfl; assumption) | (apply w_strEF; rfl; rfl; rfl; assumption) | (apply w_strNF; rfl; rfl; rfl; assumption) | (apply w_strNT; rfl; rfl; rfl; assumption) | (apply w_strE; rfl; rfl; rfl; rfl) | (apply w_strN; rfl; rfl; rfl; rfl) | (apply w_strL; rfl; rfl) | (apply w_cp; rfl; rfl; first | exact hNa | exact hNb | exact hDa | exact hDb) | (apply w_cd; rfl; rfl; exact hCk; ((exact kmf))) | (apply w_cd; rfl; rfl; exact hTx; ((exact kmf))) | refine spl ?_ ?_ | intro hc)
          all_goals (refine At_ret2 (by (first | exact .inl rfl | exact .inr rfl)) Tryd.results17 rfl rfl ⟨by rfl, rfl⟩ (by (exact frm)))
      · have hn2' : numB qu = false := by cases hx : numB qu with | false => rfl | true => exact absurd hx hn2
        rw [hb2 (fun hh => hn2 hh.2)]
        have hNa : ∀ M, Called Tryd.prog 38 [int mu] M (is (.bool true) M) := fun M => by have := in_ok mu M; rwa [hn1] at this
        have hNb : ∀ M, Called Tryd.prog 38 [int qu] M (is (.bool false) M) := fun M => by have := in_ok qu M; rwa [hn2'] at this
        (repeat' first | refine C_drawI (id := 10) [] [0, 1, 2, 3, 4, 5, 6, 9, 11, 12, 13, 14, 15, 7, 8, 10, 16, 17, 18, 19] (by kernel_rfl) (by kernel_rfl) (by kernel_rfl) rfl ?_ | refine stp ?_ | intro v' hv' | intro (b : Nat) | (apply w_convU; rfl; rfl; omega; omega) | (apply w_convI; rfl; rfl; omega; omega) | (apply w_quoU; rfl; rfl; rfl; omega; omega; omega) | (apply w_remU; rfl; rfl; rfl; omega; omega) | (apply w_minL; rfl; rfl; rfl; omega) | (apply w_minG; rfl; rfl; rfl; omega) | (apply w_min; rfl; rfl; rfl) | (apply w_mfR; rfl; rfl) | (apply w_cvp; rfl; rfl; exact inferInstance; rfl; rfl; assumption) | (apply w_eqS2T; rfl; rfl; rfl; omega) | (apply w_eqS2F; rfl; rfl; rfl; omega) | (apply w_neS2T; rfl; rfl; rfl; omega) | (apply w_neS2F; rfl; rfl; rfl; omega) | (apply w_eqS3T; rfl; rfl; rfl; omega) | (apply w_eqS3F; rfl; rfl; rfl; omega) | (apply w_neS3T; rfl; rfl; rfl; omega) | (apply w_neS3F; rfl; rfl; rfl; omega) | (apply w_eqS3; rfl; rfl; rfl) | (apply w_neS3; rfl; rfl; rfl) | (apply w_eqS2; rfl; rfl; rfl) | (apply w_neS2; rfl; rfl; rfl) | (apply w_maxL; rfl; rfl; rfl; omega) | (apply w_maxG; rfl; rfl; rfl; omega) | (apply w_max; rfl; rfl; rfl) | (apply w_neB; rfl; rfl; rfl; rfl) | (apply w_eqB; rfl; rfl; rfl; rfl) | (apply w_strA; rfl; rfl; rfl; first | omega | (simp only [List.length_append, List.length_cons, List.length_nil]; omega)) | (apply w_strET; rfl; rfl; rfl; assumption) | (apply w_strEF; rfl; rfl; rfl; assumption) | (apply w_strNF; rfl; rfl; rfl; assumption) | (apply w_strNT; rfl; rfl; rfl; assumption) | (apply w_strE; rfl; rfl; rfl; rfl) | (apply w_strN; rfl; rfl; rfl; rfl) | (apply w_strL; rfl; rfl) | (apply w_cp; rfl; rfl; first | exact hNa | exact hNb | exact hDa | exact hDb) | (apply w_cd; rfl; rfl; exact hCk; ((exact kmf))) | (apply w_cd; rfl; rfl; exact hTx; ((exact kmf))) | refine spl ?_ ?_ | intro hc)
        all_goals first | (exfalso; omega) | skip
        all_goals (refine At_ret2 (by (first | exact .inl rfl | exact .inr rfl)) Tryd.results17 rfl rfl ⟨by rfl, rfl⟩ (by (exact frm)))
    · have hn1' : numB mu = false := by cases hx : numB mu with | false => rfl | true => exact absurd hx hn1
      rw [hb2 (fun hh => hn1 hh.1)]
      have hNa : ∀ M, Called Tryd.prog 38 [int mu] M (is (.bool false) M) := fun M => by have := in_ok mu M; rwa [hn1'] at this
      have hNb : True := trivial
      (repeat' first | refine C_drawI (id := 10) [] [0, 1, 2, 3, 4, 5, 6, 9, 11, 12, 13, 14, 15, 7, 8, 10, 16, 17, 18, 19] (by kernel_rfl) (by kernel_rfl) (by kernel_rfl) rfl ?_ | refine stp ?_ | intro v' hv' | intro (b : Nat) | (apply w_convU; rfl; rfl; omega; omega) | (apply w_convI; rfl; rfl; omega; omega) | (apply w_quoU; rfl; rfl; rfl; omega; omega; omega) | (apply w_remU; rfl; rfl; rfl; omega; omega) | (apply w_minL; rfl; rfl; rfl; omega) | (apply w_minG; rfl; rfl; rfl; omega) | (apply w_min; rfl; rfl; rfl) | (apply w_mfR; rfl; rfl) | (apply w_cvp; rfl; rfl; exact inferInstance; rfl; rfl; assumption) | (apply w_eqS2T; rfl; rfl; rfl; omega) | (apply w_eqS2F; rfl; rfl; rfl; omega) | (apply w_neS2T; rfl; rfl; rfl; omega) | (apply w_neS2F; rfl; rfl; rfl; omega) | (apply w_eqS3T; rfl; rfl; rfl; omega) | (apply w_eqS3F; rfl; rfl; rfl; omega) | (apply w_neS3T; rfl; rfl; rfl; omega) | (apply w_neS3F; rfl; rfl; rfl; omega) | (apply w_eqS3; rfl; rfl; rfl) | (apply w_neS3; rfl; rfl; rfl) | (apply w_eqS2; rfl; rfl; rfl) | (apply w_neS2; rfl; rfl; rfl) | (apply w_maxL; rfl; rfl; rfl; omega) | (apply w_maxG; rfl; rfl; rfl; omega) | (apply w_max; rfl; rfl; rfl) | (apply w_neB; rfl; rfl; rfl; rfl) | (apply w_eqB; rfl; rfl; rfl; rfl) | (apply w_strA; rfl; rfl; rfl; first | omega | (simp only [List.length_append, List.length_cons, List.length_nil]; omega)) | (apply w_strET; rfl; rfl; rfl; assumption) | (apply w_strEF; rfl; rfl; rfl; assumption) | (apply w_strNF; rfl; rfl; rfl; assumption) | (apply w_strNT; rfl; rfl; rfl; assumption) | (apply w_strE; rfl; rfl; rfl; rfl) | (apply w_strN; rfl; rfl; rfl; rfl) | (apply w_strL; rfl; rfl) | (apply w_cp; rfl; rfl; first | exact hNa | exact hNb | exact hDa | exact hDb) | (apply w_cd; rfl; rfl; exact hCk; ((exact kmf))) | (apply w_cd; rfl; rfl; exact hTx; ((exact kmf))) | refine spl ?_ ?_ | intro hc)
      all_goals first | (exfalso; omega) | skip
      all_goals (refine At_ret2 (by (first | exact .inl rfl | exact .inr rfl)) Tryd.results17 rfl rfl ⟨by rfl, rfl⟩ (by (exact frm)))
end Go.Proofs.YteggkdlgailfoaaDoor
