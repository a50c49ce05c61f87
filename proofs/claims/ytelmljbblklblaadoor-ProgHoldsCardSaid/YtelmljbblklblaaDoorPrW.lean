/- prog: the reference's Balanced. Conditions: none. -/
import Derived.Test.YtelmljbblklblaaDoorPrV
import Derived.Test.YtelmljbblklblaaDoorPrM
set_option linter.all false
set_option linter.deprecated false
namespace Go.Proofs.YtelmljbblklblaaDoor
open Go.Sep
variable [B0 : Base]
theorem foldS_step {l : List Ins} {k : Nat} {x : Ins} (hx : l[k]? = some x) {h : List Int} (hs : foldS balNx l [] = foldS balNx (l.drop k) h) :
    (x.op = 2 ∧ x.n ∈ h ∨ x.op = 4 ∧ x.n ∉ h → foldS balNx l [] = (h, some .ret)) ∧ (¬ (x.op = 2 ∧ x.n ∈ h ∨ x.op = 4 ∧ x.n ∉ h) → foldS balNx l [] = foldS balNx (l.drop (k + 1)) (turn h x)) := by
  obtain ⟨hk, rfl⟩ := List.getElem?_eq_some_iff.1 hx
  rw [List.drop_eq_getElem_cons hk] at hs
  simp only [foldS, balNx] at hs
  constructor
  · intro hc; rw [if_pos hc] at hs; exact hs
  · intro hc; rw [if_neg hc] at hs; exact hs
set_option maxHeartbeats 4000000 in
theorem rBalanced_ok (v : Value) (l : List Ins) (R : List HP) (hP : PrIn R v l) : Called Tryd.prog 23 [v] R (is (.bool (balM l)) R) := by
  have hC := rCheck_ok v l R hP.isl hP.src
  unfold balM
  by_cases h0 : progE l = 0
  · rw [h0] at hC
    obtain ⟨h64, hm⟩ := progE_may h0
    rw [decide_eq_true h0, Bool.true_and]
    have hll := listed_len l
    have hml : ∀ x ∈ listed l, mayE x = 0 := fun x hx => hm x (listed_mem hx)
    refine Fn1 Tryd.func23 rfl Tryd.ntmps23 rfl ?_
    (repeat' first | refine stp ?_ | intro v' hv' | intro (b : Nat) | (apply w_convU; rfl; rfl; omega; omega) | (apply w_convI; rfl; rfl; omega; omega) | (apply w_quoU; rfl; rfl; rfl; omega; omega; omega) | (apply w_remU; rfl; rfl; rfl; omega; omega) | (apply w_minL; rfl; rfl; rfl; omega) | (apply w_minG; rfl; rfl; rfl; omega) | (apply w_min; rfl; rfl; rfl) | (apply w_mfR; rfl; rfl) | (apply w_cvp; rfl; rfl; exact inferInstance; rfl; rfl; assumption) | (apply w_eqS2T; rfl; rfl; rfl; omega) | (apply w_eqS2F; rfl; rfl; rfl; omega) | (apply w_neS2T; rfl; rfl; rfl; omega) | (apply w_neS2F; rfl; rfl; rfl; omega) | (apply w_eqS3T; rfl; rfl; rfl; omega) | (apply w_eqS3F; rfl; rfl; rfl; omega) | (apply w_neS3T; rfl; rfl; rfl; omega) | (apply w_neS3F; rfl; rfl; rfl; omega) | (apply w_eqS3; rfl; rfl; rfl) | (apply w_neS3; rfl; rfl; rfl) | (apply w_eqS2; rfl; rfl; rfl) | (apply w_neS2; rfl; rfl; rfl) | (apply w_maxL; rfl; rfl; rfl; omega) | (apply w_maxG; rfl; rfl; rfl; omega) | (apply w_max; rfl; rfl; rfl) | (apply w_neB; rfl; rfl; rfl; rfl) | (apply w_eqB; rfl; rfl; rfl; rfl) | (apply w_cd; rfl; rfl; exact hHe; ((exact kmf))) | (apply w_ld0; rfl; rfl; exact hrb2 _) | (apply w_sa; rfl; rfl; exact hla; exact bE_one _; (first | exact StAll.pt (by simp [bE, hbl]) | exact StAll.there (StAll.pt (by simp [bE, hbl]))); ((exact kmf))) | refine spl ?_ ?_ | intro hc)
    apply w_cq; rfl; rfl; exact hC
    (repeat' first | refine stp ?_ | intro v' hv' | intro (b : Nat) | (apply w_convU; rfl; rfl; omega; omega) | (apply w_convI; rfl; rfl; omega; omega) | (apply w_quoU; rfl; rfl; rfl; omega; omega; omega) | (apply w_remU; rfl; rfl; rfl; omega; omega) | (apply w_minL; rfl; rfl; rfl; omega) | (apply w_minG; rfl; rfl; rfl; omega) | (apply w_min; rfl; rfl; rfl) | (apply w_mfR; rfl; rfl) | (apply w_cvp; rfl; rfl; exact inferInstance; rfl; rfl; assumption) | (apply w_eqS2T; rfl; rfl; rfl; omega) | (apply w_eqS2F; rfl; rfl; rfl; omega) | (apply w_neS2T; rfl; rfl; rfl; omega) | (apply w_neS2F; rfl; rfl; rfl; omega) | (apply w_eqS3T; rfl; rfl; rfl; omega) | (apply w_eqS3F; rfl; rfl; rfl; omega) | (apply w_neS3T; rfl; rfl; rfl; omega) | (apply w_neS3F; rfl; rfl; rfl; omega) | (apply w_eqS3; rfl; rfl; rfl) | (apply w_neS3; rfl; rfl; rfl) | (apply w_eqS2; rfl; rfl; rfl) | (apply w_neS2; rfl; rfl; rfl) | (apply w_maxL; rfl; rfl; rfl; omega) | (apply w_maxG; rfl; rfl; rfl; omega) | (apply w_max; rfl; rfl; rfl) | (apply w_neB; rfl; rfl; rfl; rfl) | (apply w_eqB; rfl; rfl; rfl; rfl) | (apply w_cd; rfl; rfl; exact hHe; ((exact kmf))) | (apply w_ld0; rfl; rfl; exact hrb2 _) | (apply w_sa; rfl; rfl; exact hla; exact bE_one _; (first | exact StAll.pt (by simp [bE, hbl]) | exact StAll.there (StAll.pt (by simp [bE, hbl]))); ((exact kmf))) | refine spl ?_ ?_ | intro hc)
    refine W_run (.inl rfl) rfl (cl rfl (rAll_ok v l R hP)) ?_
    rintro u _ ⟨hu, rfl⟩
    have hu1 := hu.isl
    have hu2 := hu.src
    have huN := hu1.len
    (repeat' first | refine stp ?_ | intro v' hv' | intro (b : Nat) | (apply w_convU; rfl; rfl; omega; omega) | (apply w_convI; rfl; rfl; omega; omega) | (apply w_quoU; rfl; rfl; rfl; omega; omega; omega) | (apply w_remU; rfl; rfl; rfl; omega; omega) | (apply w_minL; rfl; rfl; rfl; omega) | (apply w_minG; rfl; rfl; rfl; omega) | (apply w_min; rfl; rfl; rfl) | (apply w_mfR; rfl; rfl) | (apply w_cvp; rfl; rfl; exact inferInstance; rfl; rfl; assumption) | (apply w_eqS2T; rfl; rfl; rfl; omega) | (apply w_eqS2F; rfl; rfl; rfl; omega) | (apply w_neS2T; rfl; rfl; rfl; omega) | (apply w_neS2F; rfl; rfl; rfl; omega) | (apply w_eqS3T; rfl; rfl; rfl; omega) | (apply w_eqS3F; rfl; rfl; rfl; omega) | (apply w_neS3T; rfl; rfl; rfl; omega) | (apply w_neS3F; rfl; rfl; rfl; omega) | (apply w_eqS3; rfl; rfl; rfl) | (apply w_neS3; rfl; rfl; rfl) | (apply w_eqS2; rfl; rfl; rfl) | (apply w_neS2; rfl; rfl; rfl) | (apply w_maxL; rfl; rfl; rfl; omega) | (apply w_maxG; rfl; rfl; rfl; omega) | (apply w_max; rfl; rfl; rfl) | (apply w_neB; rfl; rfl; rfl; rfl) | (apply w_eqB; rfl; rfl; rfl; rfl) | (apply w_cd; rfl; rfl; exact hHe; ((exact kmf))) | (apply w_ld0; rfl; rfl; exact hrb2 _) | (apply w_sa; rfl; rfl; exact hla; exact bE_one _; (first | exact StAll.pt (by simp [bE, hbl]) | exact StAll.there (StAll.pt (by simp [bE, hbl]))); ((exact kmf))) | refine spl ?_ ?_ | intro hc)
    refine C_loopK [2, 4, 5, 11, 12, 13, 14, 15, 16, 17, 18, 19, 20, 21, 22, 23, 24, 25, 26, 27, 28, 29, 30, 31, 32, 33, 34, 35, 36, 37, 38, 39, 40, 41, 42, 43, 44, 45, 46, 47, 48, 49, 50, 51, 52] (fun k : Nat => (listed l).length - k) (fun k => [(4, int k)]) (fun _ => R) (fun k => k ≤ (listed l).length ∧ foldS balNx (listed l) [] = foldS balNx ((listed l).drop k) (((listed l).take k).foldl turn [])) 0 ⟨Nat.zero_le _, rfl⟩ (by (focus ((repeat (first | exact Keep.nil | apply Keep.drop rfl | apply Keep.keep rfl)); done))) (by (exact sbf)) (by (exact frm)) ?_
    rintro k ⟨hk, hz⟩
    dsimp only [List.cons_append, List.nil_append]
    have hag := agree_fold (l := (listed l).take k) (fun x hx => hml x (List.mem_of_mem_take hx))
    have hbl := heldB_len ((listed l).take k)
    have hHe : Called Tryd.prog 27 [u, int k] R (is (.agg (bE (heldB ((listed l).take k))).toArray) R) := Held_ok u (listed l) k R hu hk hml
    have hla : (bE (heldB ((listed l).take k))).length = 32 := by simp [bE, hbl]
    by_cases hlt : k < (listed l).length
    · have hx : (listed l)[k]? = some (listed l)[k] := by simp [hlt]
      have hr0 : Rd R ⟨vb u, vo u + k * 2 + 0, none⟩ (int (listed l)[k].op) := Rd.src hu2 (i := k) (k := 0) (e := insE (listed l)[k]) (by simp [hlt]) rfl
      have hr1 : Rd R ⟨vb u, vo u + k * 2 + 1, none⟩ (int (listed l)[k].n) := Rd.src hu2 (i := k) (k := 1) (e := insE (listed l)[k]) (by simp [hlt]) rfl
      have hst := foldS_step hx hz
      have hmx := hml _ (List.mem_of_getElem? hx)
      have htk : ((listed l).take (k + 1)).foldl turn [] = turn (((listed l).take k).foldl turn []) (listed l)[k] := by rw [List.take_add_one, hx, List.foldl_append]; rfl
      rw [← htk] at hst
      generalize (listed l)[k] = x at *
      have hmu := may_mut hmx
      obtain ⟨op, n⟩ := x
      dsimp only at *
      generalize heldB ((listed l).take k) = bs at *
      generalize ((listed l).take k).foldl turn [] = h at *
      have hgt : (op = 2 ∨ op = 4) → bs[n.toNat]? = some (decide (n ∈ h)) := fun ho => by
        have h1 := hmu (by omega)
        have h2 := hag.2.2.2 n.toNat (by omega)
        rw [show ((n.toNat : Nat) : Int) = n by omega] at h2
        have h3 : bs[n.toNat]? = some (bs[n.toNat]'(by rw [hbl]; omega)) := List.getElem?_eq_getElem _
        rw [h3] at h2 ⊢
        congr 1
        by_cases hn : n ∈ h
        · rw [decide_eq_true hn]; exact Option.some.inj (h2.2 hn)
        · rw [decide_eq_false hn]
          cases hb : bs[n.toNat]'(by rw [hbl]; omega) with
          | false => rfl
          | true => exact absurd (h2.1 (by rw [hb])) hn
      have hrb : (op = 2 ∨ op = 4) → ∀ b, Rd (pt b 52 (bE bs) :: R) ⟨b, 0 + n.toNat * 1, none⟩ (.bool (decide (n ∈ h))) := fun ho b => rd_bools (hgt ho)
      clear hgt
      by_cases h24 : op = 2 ∨ op = 4
      · have hnn := hmu (by omega)
        have hrb2 := hrb h24
        clear hrb
        by_cases hc : op = 2 ∧ n ∈ h ∨ op = 4 ∧ n ∉ h
        · have hfin := hst.1 hc
          clear hst
          by_cases hnh : n ∈ h
          · rw [decide_eq_true hnh] at hrb2
            have ho : op = 2 := by rcases hc with hc | hc; exact hc.1; exact absurd hnh hc.2
            (repeat' first | refine stp ?_ | intro v' hv' | intro (b : Nat) | (apply w_convU; rfl; rfl; omega; omega) | (apply w_convI; rfl; rfl; omega; omega) | (apply w_quoU; rfl; rfl; rfl; omega; omega; omega) | (apply w_remU; rfl; rfl; rfl; omega; omega) | (apply w_minL; rfl; rfl; rfl; omega) | (apply w_minG; rfl; rfl; rfl; omega) | (apply w_min; rfl; rfl; rfl) | (apply w_mfR; rfl; rfl) | (apply w_cvp; rfl; rfl; exact inferInstance; rfl; rfl; assumption) | (apply w_eqS2T; rfl; rfl; rfl; omega) | (apply w_eqS2F; rfl; rfl; rfl; omega) | (apply w_neS2T; rfl; rfl; rfl; omega) | (apply w_neS2F; rfl; rfl; rfl; omega) | (apply w_eqS3T; rfl; rfl; rfl; omega) | (apply w_eqS3F; rfl; rfl; rfl; omega) | (apply w_neS3T; rfl; rfl; rfl; omega) | (apply w_neS3F; rfl; rfl; rfl; omega) | (apply w_eqS3; rfl; rfl; rfl) | (apply w_neS3; rfl; rfl; rfl) | (apply w_eqS2; rfl; rfl; rfl) | (apply w_neS2; rfl; rfl; rfl) | (apply w_maxL; rfl; rfl; rfl; omega) | (apply w_maxG; rfl; rfl; rfl; omega) | (apply w_max; rfl; rfl; rfl) | (apply w_neB; rfl; rfl; rfl; rfl) | (apply w_eqB; rfl; rfl; rfl; rfl) | (apply w_cd; rfl; rfl; exact hHe; ((exact kmf))) | (apply w_ld0; rfl; rfl; exact hrb2 _) | (apply w_sa; rfl; rfl; exact hla; exact bE_one _; (first | exact StAll.pt (by simp [bE, hbl]) | exact StAll.there (StAll.pt (by simp [bE, hbl]))); ((exact kmf))) | refine spl ?_ ?_ | intro hc)
            all_goals first | (exfalso; omega) | skip
            all_goals (refine At_ret1 (by (first | exact .inl rfl | exact .inr rfl)) Tryd.results23 rfl ⟨by (unfold balR; rw [hfin]), rfl⟩ (by (exact frm)))
          · rw [decide_eq_false hnh] at hrb2
            have ho : op = 4 := by rcases hc with hc | hc; exact absurd hc.2 hnh; exact hc.1
            (repeat' first | refine stp ?_ | intro v' hv' | intro (b : Nat) | (apply w_convU; rfl; rfl; omega; omega) | (apply w_convI; rfl; rfl; omega; omega) | (apply w_quoU; rfl; rfl; rfl; omega; omega; omega) | (apply w_remU; rfl; rfl; rfl; omega; omega) | (apply w_minL; rfl; rfl; rfl; omega) | (apply w_minG; rfl; rfl; rfl; omega) | (apply w_min; rfl; rfl; rfl) | (apply w_mfR; rfl; rfl) | (apply w_cvp; rfl; rfl; exact inferInstance; rfl; rfl; assumption) | (apply w_eqS2T; rfl; rfl; rfl; omega) | (apply w_eqS2F; rfl; rfl; rfl; omega) | (apply w_neS2T; rfl; rfl; rfl; omega) | (apply w_neS2F; rfl; rfl; rfl; omega) | (apply w_eqS3T; rfl; rfl; rfl; omega) | (apply w_eqS3F; rfl; rfl; rfl; omega) | (apply w_neS3T; rfl; rfl; rfl; omega) | (apply w_neS3F; rfl; rfl; rfl; omega) | (apply w_eqS3; rfl; rfl; rfl) | (apply w_neS3; rfl; rfl; rfl) | (apply w_eqS2; rfl; rfl; rfl) | (apply w_neS2; rfl; rfl; rfl) | (apply w_maxL; rfl; rfl; rfl; omega) | (apply w_maxG; rfl; rfl; rfl; omega) | (apply w_max; rfl; rfl; rfl) | (apply w_neB; rfl; rfl; rfl; rfl) | (apply w_eqB; rfl; rfl; rfl; rfl) | (apply w_cd; rfl; rfl; exact hHe; ((exact kmf))) | (apply w_ld0; rfl; rfl; exact hrb2 _) | (apply w_sa; rfl; rfl; exact hla; exact bE_one _; (first | exact StAll.pt (by simp [bE, hbl]) | exact StAll.there (StAll.pt (by simp [bE, hbl]))); ((exact kmf))) | refine spl ?_ ?_ | intro hc)
            all_goals first | (exfalso; omega) | skip
            all_goals (refine At_ret1 (by (first | exact .inl rfl | exact .inr rfl)) Tryd.results23 rfl ⟨by (unfold balR; rw [hfin]), rfl⟩ (by (exact frm)))
        · have hnext := hst.2 hc
          clear hst
          by_cases hnh : n ∈ h
          · rw [decide_eq_true hnh] at hrb2
            have ho : op = 4 := by rcases h24 with e | e; exact absurd (.inl ⟨e, hnh⟩) hc; exact e
            (repeat' first | refine stp ?_ | intro v' hv' | intro (b : Nat) | (apply w_convU; rfl; rfl; omega; omega) | (apply w_convI; rfl; rfl; omega; omega) | (apply w_quoU; rfl; rfl; rfl; omega; omega; omega) | (apply w_remU; rfl; rfl; rfl; omega; omega) | (apply w_minL; rfl; rfl; rfl; omega) | (apply w_minG; rfl; rfl; rfl; omega) | (apply w_min; rfl; rfl; rfl) | (apply w_mfR; rfl; rfl) | (apply w_cvp; rfl; rfl; exact inferInstance; rfl; rfl; assumption) | (apply w_eqS2T; rfl; rfl; rfl; omega) | (apply w_eqS2F; rfl; rfl; rfl; omega) | (apply w_neS2T; rfl; rfl; rfl; omega) | (apply w_neS2F; rfl; rfl; rfl; omega) | (apply w_eqS3T; rfl; rfl; rfl; omega) | (apply w_eqS3F; rfl; rfl; rfl; omega) | (apply w_neS3T; rfl; rfl; rfl; omega) | (apply w_neS3F; rfl; rfl; rfl; omega) | (apply w_eqS3; rfl; rfl; rfl) | (apply w_neS3; rfl; rfl; rfl) | (apply w_eqS2; rfl; rfl; rfl) | (apply w_neS2; rfl; rfl; rfl) | (apply w_maxL; rfl; rfl; rfl; omega) | (apply w_maxG; rfl; rfl; rfl; omega) | (apply w_max; rfl; rfl; rfl) | (apply w_neB; rfl; rfl; rfl; rfl) | (apply w_eqB; rfl; rfl; rfl; rfl) | (apply w_cd; rfl; rfl; exact hHe; ((exact kmf))) | (apply w_ld0; rfl; rfl; exact hrb2 _) | (apply w_sa; rfl; rfl; exact hla; exact bE_one _; (first | exact StAll.pt (by simp [bE, hbl]) | exact StAll.there (StAll.pt (by simp [bE, hbl]))); ((exact kmf))) | refine spl ?_ ?_ | intro hc)
            all_goals first | (exfalso; omega) | skip
            all_goals exact At_againK (k + 1) ⟨hlt, hnext⟩ (by omega) (by (exact sbf)) (by (exact sbf)) (by (exact frm))
          · rw [decide_eq_false hnh] at hrb2
            have ho : op = 2 := by rcases h24 with e | e; exact e; exact absurd (.inr ⟨e, hnh⟩) hc
            (repeat' first | refine stp ?_ | intro v' hv' | intro (b : Nat) | (apply w_convU; rfl; rfl; omega; omega) | (apply w_convI; rfl; rfl; omega; omega) | (apply w_quoU; rfl; rfl; rfl; omega; omega; omega) | (apply w_remU; rfl; rfl; rfl; omega; omega) | (apply w_minL; rfl; rfl; rfl; omega) | (apply w_minG; rfl; rfl; rfl; omega) | (apply w_min; rfl; rfl; rfl) | (apply w_mfR; rfl; rfl) | (apply w_cvp; rfl; rfl; exact inferInstance; rfl; rfl; assumption) | (apply w_eqS2T; rfl; rfl; rfl; omega) | (apply w_eqS2F; rfl; rfl; rfl; omega) | (apply w_neS2T; rfl; rfl; rfl; omega) | (apply w_neS2F; rfl; rfl; rfl; omega) | (apply w_eqS3T; rfl; rfl; rfl; omega) | (apply w_eqS3F; rfl; rfl; rfl; omega) | (apply w_neS3T; rfl; rfl; rfl; omega) | (apply w_neS3F; rfl; rfl; rfl; omega) | (apply w_eqS3; rfl; rfl; rfl) | (apply w_neS3; rfl; rfl; rfl) | (apply w_eqS2; rfl; rfl; rfl) | (apply w_neS2; rfl; rfl; rfl) | (apply w_maxL; rfl; rfl; rfl; omega) | (apply w_maxG; rfl; rfl; rfl; omega) | (apply w_max; rfl; rfl; rfl) | (apply w_neB; rfl; rfl; rfl; rfl) | (apply w_eqB; rfl; rfl; rfl; rfl) | (apply w_cd; rfl; rfl; exact hHe; ((exact kmf))) | (apply w_ld0; rfl; rfl; exact hrb2 _) | (apply w_sa; rfl; rfl; exact hla; exact bE_one _; (first | exact StAll.pt (by simp [bE, hbl]) | exact StAll.there (StAll.pt (by simp [bE, hbl]))); ((exact kmf))) | refine spl ?_ ?_ | intro hc)
            all_goals first | (exfalso; omega) | skip
            all_goals exact At_againK (k + 1) ⟨hlt, hnext⟩ (by omega) (by (exact sbf)) (by (exact sbf)) (by (exact frm))
      · have hnext := hst.2 (fun hc => by omega)
        clear hst hrb
        have hrb2 : True := trivial
        (repeat' first | refine stp ?_ | intro v' hv' | intro (b : Nat) | (apply w_convU; rfl; rfl; omega; omega) | (apply w_convI; rfl; rfl; omega; omega) | (apply w_quoU; rfl; rfl; rfl; omega; omega; omega) | (apply w_remU; rfl; rfl; rfl; omega; omega) | (apply w_minL; rfl; rfl; rfl; omega) | (apply w_minG; rfl; rfl; rfl; omega) | (apply w_min; rfl; rfl; rfl) | (apply w_mfR; rfl; rfl) | (apply w_cvp; rfl; rfl; exact inferInstance; rfl; rfl; assumption) | (apply w_eqS2T; rfl; rfl; rfl; omega) | (apply w_eqS2F; rfl; rfl; rfl; omega) | (apply w_neS2T; rfl; rfl; rfl; omega) | (apply w_neS2F; rfl; rfl; rfl; omega) | (apply w_eqS3T; rfl; rfl; rfl; omega) | (apply w_eqS3F; rfl; rfl; rfl; omega) | (apply w_neS3T; rfl; rfl; rfl; omega) | (apply w_neS3F; rfl; rfl; rfl; omega) | (apply w_eqS3; rfl; rfl; rfl) | (apply w_neS3; rfl; rfl; rfl) | (apply w_eqS2; rfl; rfl; rfl) | (apply w_neS2; rfl; rfl; rfl) | (apply w_maxL; rfl; rfl; rfl; omega) | (apply w_maxG; rfl; rfl; rfl; omega) | (apply w_max; rfl; rfl; rfl) | (apply w_neB; rfl; rfl; rfl; rfl) | (apply w_eqB; rfl; rfl; rfl; rfl) | (apply w_cd; rfl; rfl; exact hHe; ((exact kmf))) | (apply w_ld0; rfl; rfl; exact hrb2 _) | (apply w_sa; rfl; rfl; exact hla; exact bE_one _; (first | exact StAll.pt (by simp [bE, hbl]) | exact StAll.there (StAll.pt (by simp [bE, hbl]))); ((exact kmf))) | refine spl ?_ ?_ | intro hc)
        all_goals first | (exfalso; omega) | skip
        all_goals exact At_againK (k + 1) ⟨hlt, hnext⟩ (by omega) (by (exact sbf)) (by (exact sbf)) (by (exact frm))
    · have hk' : k = (listed l).length := by omega
      subst hk'
      have hfin : balR (listed l) = ((listed l).foldl turn [], none) := by
        rw [List.drop_eq_nil_of_le (Nat.le_refl _), List.take_length] at hz
        exact hz
      rw [List.take_length] at hag hHe hbl hla
      rw [hfin]
      dsimp only
      have hLi := fun X : List HP => List_ok (heldB (listed l)) hbl X
      rw [hag.list] at hLi
      have hfl := fold_len (listed l) []
      simp only [List.length_nil] at hfl
      generalize heldB (listed l) = bs at *
      generalize (listed l).foldl turn [] = h at *
      have hrb2 : True := trivial
      (repeat' first | refine stp ?_ | intro v' hv' | intro (b : Nat) | (apply w_convU; rfl; rfl; omega; omega) | (apply w_convI; rfl; rfl; omega; omega) | (apply w_quoU; rfl; rfl; rfl; omega; omega; omega) | (apply w_remU; rfl; rfl; rfl; omega; omega) | (apply w_minL; rfl; rfl; rfl; omega) | (apply w_minG; rfl; rfl; rfl; omega) | (apply w_min; rfl; rfl; rfl) | (apply w_mfR; rfl; rfl) | (apply w_cvp; rfl; rfl; exact inferInstance; rfl; rfl; assumption) | (apply w_eqS2T; rfl; rfl; rfl; omega) | (apply w_eqS2F; rfl; rfl; rfl; omega) | (apply w_neS2T; rfl; rfl; rfl; omega) | (apply w_neS2F; rfl; rfl; rfl; omega) | (apply w_eqS3T; rfl; rfl; rfl; omega) | (apply w_eqS3F; rfl; rfl; rfl; omega) | (apply w_neS3T; rfl; rfl; rfl; omega) | (apply w_neS3F; rfl; rfl; rfl; omega) | (apply w_eqS3; rfl; rfl; rfl) | (apply w_neS3; rfl; rfl; rfl) | (apply w_eqS2; rfl; rfl; rfl) | (apply w_neS2; rfl; rfl; rfl) | (apply w_maxL; rfl; rfl; rfl; omega) | (apply w_maxG; rfl; rfl; rfl; omega) | (apply w_max; rfl; rfl; rfl) | (apply w_neB; rfl; rfl; rfl; rfl) | (apply w_eqB; rfl; rfl; rfl; rfl) | (apply w_cd; rfl; rfl; exact hHe; ((exact kmf))) | (apply w_ld0; rfl; rfl; exact hrb2 _) | (apply w_sa; rfl; rfl; exact hla; exact bE_one _; (first | exact StAll.pt (by simp [bE, hbl]) | exact StAll.there (StAll.pt (by simp [bE, hbl]))); ((exact kmf))) | refine spl ?_ ?_ | intro hc)
      apply w_clM; rfl; rfl; exact hLi _; (first | omega | (simp; omega) | simp); intro w5 hw5; refine ⟨by (exact kmf), ?_⟩
      (repeat' first | refine stp ?_ | intro v' hv' | intro (b : Nat) | (apply w_convU; rfl; rfl; omega; omega) | (apply w_convI; rfl; rfl; omega; omega) | (apply w_quoU; rfl; rfl; rfl; omega; omega; omega) | (apply w_remU; rfl; rfl; rfl; omega; omega) | (apply w_minL; rfl; rfl; rfl; omega) | (apply w_minG; rfl; rfl; rfl; omega) | (apply w_min; rfl; rfl; rfl) | (apply w_mfR; rfl; rfl) | (apply w_cvp; rfl; rfl; exact inferInstance; rfl; rfl; assumption) | (apply w_eqS2T; rfl; rfl; rfl; omega) | (apply w_eqS2F; rfl; rfl; rfl; omega) | (apply w_neS2T; rfl; rfl; rfl; omega) | (apply w_neS2F; rfl; rfl; rfl; omega) | (apply w_eqS3T; rfl; rfl; rfl; omega) | (apply w_eqS3F; rfl; rfl; rfl; omega) | (apply w_neS3T; rfl; rfl; rfl; omega) | (apply w_neS3F; rfl; rfl; rfl; omega) | (apply w_eqS3; rfl; rfl; rfl) | (apply w_neS3; rfl; rfl; rfl) | (apply w_eqS2; rfl; rfl; rfl) | (apply w_neS2; rfl; rfl; rfl) | (apply w_maxL; rfl; rfl; rfl; omega) | (apply w_maxG; rfl; rfl; rfl; omega) | (apply w_max; rfl; rfl; rfl) | (apply w_neB; rfl; rfl; rfl; rfl) | (apply w_eqB; rfl; rfl; rfl; rfl) | (apply w_cd; rfl; rfl; exact hHe; ((exact kmf))) | (apply w_ld0; rfl; rfl; exact hrb2 _) | (apply w_sa; rfl; rfl; exact hla; exact bE_one _; (first | exact StAll.pt (by simp [bE, hbl]) | exact StAll.there (StAll.pt (by simp [bE, hbl]))); ((exact kmf))) | refine spl ?_ ?_ | intro hc)
      all_goals (refine At_ret1 (by (first | exact .inl rfl | exact .inr rfl)) Tryd.results23 rfl ⟨by rfl, rfl⟩ (by (exact frm)))
  · rw [decide_eq_false h0, Bool.false_and]
    generalize progE l = e at *
    refine Fn1 Tryd.func23 rfl Tryd.ntmps23 rfl ?_
    (repeat' first | refine stp ?_ | intro v' hv' | intro (b : Nat) | (apply w_convU; rfl; rfl; omega; omega) | (apply w_convI; rfl; rfl; omega; omega) | (apply w_quoU; rfl; rfl; rfl; omega; omega; omega) | (apply w_remU; rfl; rfl; rfl; omega; omega) | (apply w_minL; rfl; rfl; rfl; omega) | (apply w_minG; rfl; rfl; rfl; omega) | (apply w_min; rfl; rfl; rfl) | (apply w_mfR; rfl; rfl) | (apply w_cvp; rfl; rfl; exact inferInstance; rfl; rfl; assumption) | (apply w_eqS2T; rfl; rfl; rfl; omega) | (apply w_eqS2F; rfl; rfl; rfl; omega) | (apply w_neS2T; rfl; rfl; rfl; omega) | (apply w_neS2F; rfl; rfl; rfl; omega) | (apply w_eqS3T; rfl; rfl; rfl; omega) | (apply w_eqS3F; rfl; rfl; rfl; omega) | (apply w_neS3T; rfl; rfl; rfl; omega) | (apply w_neS3F; rfl; rfl; rfl; omega) | (apply w_eqS3; rfl; rfl; rfl) | (apply w_neS3; rfl; rfl; rfl) | (apply w_eqS2; rfl; rfl; rfl) | (apply w_neS2; rfl; rfl; rfl) | (apply w_maxL; rfl; rfl; rfl; omega) | (apply w_maxG; rfl; rfl; rfl; omega) | (apply w_max; rfl; rfl; rfl) | (apply w_neB; rfl; rfl; rfl; rfl) | (apply w_eqB; rfl; rfl; rfl; rfl) | (apply w_cd; rfl; rfl; exact hHe; ((exact kmf))) | (apply w_ld0; rfl; rfl; exact hrb2 _) | (apply w_sa; rfl; rfl; exact hla; exact bE_one _; (first | exact StAll.pt (by simp [bE, hbl]) | exact StAll.there (StAll.pt (by simp [bE, hbl]))); ((exact kmf))) | refine spl ?_ ?_ | intro hc)
    apply w_cq; rfl; rfl; exact hC
    (repeat' first | refine stp ?_ | intro v' hv' | intro (b : Nat) | (apply w_convU; rfl; rfl; omega; omega) | (apply w_convI; rfl; rfl; omega; omega) | (apply w_quoU; rfl; rfl; rfl; omega; omega; omega) | (apply w_remU; rfl; rfl; rfl; omega; omega) | (apply w_minL; rfl; rfl; rfl; omega) | (apply w_minG; rfl; rfl; rfl; omega) | (apply w_min; rfl; rfl; rfl) | (apply w_mfR; rfl; rfl) | (apply w_cvp; rfl; rfl; exact inferInstance; rfl; rfl; assumption) | (apply w_eqS2T; rfl; rfl; rfl; omega) | (apply w_eqS2F; rfl; rfl; rfl; omega) | (apply w_neS2T; rfl; rfl; rfl; omega) | (apply w_neS2F; rfl; rfl; rfl; omega) | (apply w_eqS3T; rfl; rfl; rfl; omega) | (apply w_eqS3F; rfl; rfl; rfl; omega) | (apply w_neS3T; rfl; rfl; rfl; omega) | (apply w_neS3F; rfl; rfl; rfl; omega) | (apply w_eqS3; rfl; rfl; rfl) | (apply w_neS3; rfl; rfl; rfl) | (apply w_eqS2; rfl; rfl; rfl) | (apply w_neS2; rfl; rfl; rfl) | (apply w_maxL; rfl; rfl; rfl; omega) | (apply w_maxG; rfl; rfl; rfl; omega) | (apply w_max; rfl; rfl; rfl) | (apply w_neB; rfl; rfl; rfl; rfl) | (apply w_eqB; rfl; rfl; rfl; rfl) | (apply w_cd; rfl; rfl; exact hHe; ((exact kmf))) | (apply w_ld0; rfl; rfl; exact hrb2 _) | (apply w_sa; rfl; rfl; exact hla; exact bE_one _; (first | exact StAll.pt (by simp [bE, hbl]) | exact StAll.there (StAll.pt (by simp [bE, hbl]))); ((exact kmf))) | refine spl ?_ ?_ | intro hc)
    all_goals (refine At_ret1 (by (first | exact .inl rfl | exact .inr rfl)) Tryd.results23 rfl ⟨by rfl, rfl⟩ (by (exact frm)))
end Go.Proofs.YtelmljbblklblaaDoor
