/- SpreadPlays: same. Conditions: none. -/
import Derived.Test.YtoddjdghjpdomaaSpV
set_option linter.all false
set_option linter.deprecated false
namespace Go.Proofs.Ytoddjdghjpdomaa
open Go.Sep
variable [B0 : Base]
def cntI (L : List Sv) (i : Nat) : Nat := ((List.range i).filter fun j => (svA L j).is).length
theorem cntI_succ (L : List Sv) (i : Nat) : cntI L (i + 1) = cntI L i + (if (svA L i).is = true then 1 else 0) := by
  unfold cntI
  rw [List.range_succ, List.filter_append, List.length_append]
  congr 1
  rw [List.filter_cons, List.filter_nil]
  split <;> rfl
theorem cntI_all {M : List Wk} {L : List Sv} (hw : WfS M) (h : RelS M L) : cntI L 64 = manyM M := by
  rw [many_eq]
  have hperm : ((List.range 64).filter fun j => (svA L j).is).Perm ((rk M ++ wq M).map fun x => x.id.toNat) := by
    refine (List.perm_ext_iff_of_nodup (List.nodup_range.filter _) ?_).2 fun j => ?_
    · have h1 := hw.nodup
      have h2 : ((rk M ++ wq M).map fun x => x.id.toNat) = ((rk M ++ wq M).map (·.id)).map Int.toNat := by rw [List.map_map]; rfl
      rw [h2]
      refine List.Pairwise.map _ (fun a b hab => ?_) (List.Pairwise.and_mem.1 h1)
      obtain ⟨ha, hb, hne⟩ := hab
      obtain ⟨x, hx, rfl⟩ := List.mem_map.1 ha
      obtain ⟨y, hy, rfl⟩ := List.mem_map.1 hb
      have := hw.kb x hx
      have := hw.kb y hy
      intro e; apply hne; omega
    · rw [List.mem_filter, List.mem_range, List.mem_map]
      constructor
      · rintro ⟨hj, hi⟩
        rcases h.is_cases hj hi with ⟨i, c1, c2, c3⟩ | ⟨i, z, c1, c2, c3⟩
        · exact ⟨_, List.mem_append_left _ (rk_mem.2 ⟨i, c1, c2, rfl⟩), by omega⟩
        · exact ⟨z, List.mem_append_right _ (wq_mem.2 ⟨i, c1, c2⟩), by omega⟩
      · rintro ⟨x, hx, rfl⟩
        refine ⟨(id_nat hw hx).2, ?_⟩
        rcases List.mem_append.1 hx with hx | hx
        · obtain ⟨i, c1, c2, rfl⟩ := rk_mem.1 hx
          rw [h.run i c1 c2]
        · obtain ⟨i, c1, c2⟩ := wq_mem.1 hx
          rw [h.wait i c1 x c2]
  have := hperm.length_eq
  rw [List.length_map, List.length_append] at this
  unfold cntI
  omega
theorem same_at {M : List Wk} {L : List Sv} (hw : WfS M) (h : RelS M L) {i : Nat} (hi : i < 64) :
    (svA L i = sv0 ∧ whereM M i = ((0, false), 14)) ∨ (∃ (w : Nat) (k : Ky), w < M.length ∧ rnA M w = k ∧ svA L i = ⟨true, k, w, true⟩ ∧ whereM M i = (((w : Int), true), 0)) ∨ (∃ (w : Nat) (z : Ky), svA L i = ⟨true, z, w, false⟩ ∧ whereM M i = (((w : Int), false), 0)) := by
  have hm : mayK ⟨0, (i : Int)⟩ = true := mayK_iff.2 ⟨by dsimp only; omega, by dsimp only; omega, Int.le_refl 0, by show (0 : Int) < 1099511627776; decide⟩
  unfold whereM
  rw [if_neg (by rw [hm]; simp)]
  cases hf : findM M i with
  | none => exact .inl ⟨h.no i hi (findM_none.1 hf), rfl⟩
  | some p =>
    obtain ⟨w, j⟩ := p
    dsimp only
    obtain ⟨hwl, ⟨rfl, h2, h3⟩ | ⟨j', x, rfl, hx, he⟩⟩ := findM_some hf
    · have := h.run w hwl h2
      rw [h3, Int.toNat_natCast] at this
      exact .inr (.inl ⟨w, _, hwl, rnA_run hwl h2, this, rfl⟩)
    · have := h.wait w hwl x (List.mem_of_getElem? hx)
      rw [he, Int.toNat_natCast] at this
      exact .inr (.inr ⟨w, x, this, by rw [decide_eq_false (by omega)]⟩)
instance : FlatEq Try.prog 36 2 := ⟨by kernel_rfl⟩
attribute [local irreducible] rcells
set_option maxHeartbeats 16000000 in
theorem same12_ok (tb bx : Nat) (M : List Wk) (L : List Sv) (hI : InvS M) (hR : RelS M L) (R : List HP) : Called Try.prog 21 [ptr tb, ptr bx] (msb tb M :: rsb bx M.length L :: R) (is (.bool true) (msb tb M :: rsb bx M.length L :: R)) := by
  have hfew := hI.few
  have hw := hI.wf
  have h64 := hR.len
  have hRu := fun R => Runs_ok tb M hfew R
  obtain ⟨v16, hv16⟩ := IsSl.any (N := 16) (by decide)
  refine Fn2 Try.func21 rfl Try.ntmps21 rfl ?_
  (repeat' first | refine stp ?_ | intro v' hv' | intro (b : Nat) | (apply w_convU; rfl; rfl; omega; omega) | (apply w_convI; rfl; rfl; omega; omega) | (apply w_quoU; rfl; rfl; rfl; omega; omega; omega) | (apply w_remU; rfl; rfl; rfl; omega; omega) | (apply w_ld0; rfl; rfl; ((focus ((repeat (first | exact hr1 _ | exact hr2 _ | exact hr3 _ | exact hr4 _ | exact hr5 _ | exact Rd.pt rfl | apply Rd.there)); done)))) | (apply w_ld; rfl; rfl; ((focus ((repeat (first | exact hr1 _ | exact hr2 _ | exact hr3 _ | exact hr4 _ | exact hr5 _ | exact Rd.pt rfl | apply Rd.there)); done)))) | (apply w_la0; rfl; rfl; ((focus ((repeat (first | exact hra _ | exact hrb _ | exact hrc _ | exact .pt | exact RdAll.mid rfl rfl | apply RdAll.there)); done))); rfl) | (apply w_la; rfl; rfl; ((focus ((repeat (first | exact hra _ | exact hrb _ | exact hrc _ | exact .pt | exact RdAll.mid rfl rfl | apply RdAll.there)); done))); rfl) | (apply w_sa; rfl; rfl; rfl; rfl; ((focus ((repeat (first | exact .pt rfl | apply StAll.there)); done))); ((exact kmf))) | (apply w_minL; rfl; rfl; rfl; omega) | (apply w_minG; rfl; rfl; rfl; omega) | (apply w_min; rfl; rfl; rfl) | (apply w_mfR; rfl; rfl) | (apply w_cvp; rfl; rfl; exact inferInstance; rfl; rfl; assumption) | (apply w_eqS2T; rfl; rfl; rfl; omega) | (apply w_eqS2F; rfl; rfl; rfl; omega) | (apply w_neS2T; rfl; rfl; rfl; omega) | (apply w_neS2F; rfl; rfl; rfl; omega) | (apply w_eqS3T; rfl; rfl; rfl; omega) | (apply w_eqS3F; rfl; rfl; rfl; omega) | (apply w_neS3T; rfl; rfl; rfl; omega) | (apply w_neS3F; rfl; rfl; rfl; omega) | (apply w_eqS3; rfl; rfl; rfl) | (apply w_neS3; rfl; rfl; rfl) | (apply w_eqS2; rfl; rfl; rfl) | (apply w_neS2; rfl; rfl; rfl) | (apply w_maxL; rfl; rfl; rfl; omega) | (apply w_maxG; rfl; rfl; rfl; omega) | (apply w_max; rfl; rfl; rfl) | (apply w_neB; rfl; rfl; rfl; rfl) | (apply w_eqB; rfl; rfl; rfl; rfl) | refine spl ?_ ?_ | intro hc)
  apply w_cl; rfl; rfl; exact Called.del1 (A := msb tb M) (by (focus ((repeat (first | exact Del.here | apply Del.there)); done))) (hRu _)
  exact ⟨_, _, v16, rfl, hv16, rfl⟩
  rintro _ _ ⟨vr, rfl, hvr, rfl⟩
  refine ⟨by (exact kmf), ?_⟩
  clear hRu
  (repeat' first | refine stp ?_ | intro v' hv' | intro (b : Nat) | (apply w_convU; rfl; rfl; omega; omega) | (apply w_convI; rfl; rfl; omega; omega) | (apply w_quoU; rfl; rfl; rfl; omega; omega; omega) | (apply w_remU; rfl; rfl; rfl; omega; omega) | (apply w_ld0; rfl; rfl; ((focus ((repeat (first | exact hr1 _ | exact hr2 _ | exact hr3 _ | exact hr4 _ | exact hr5 _ | exact Rd.pt rfl | apply Rd.there)); done)))) | (apply w_ld; rfl; rfl; ((focus ((repeat (first | exact hr1 _ | exact hr2 _ | exact hr3 _ | exact hr4 _ | exact hr5 _ | exact Rd.pt rfl | apply Rd.there)); done)))) | (apply w_la0; rfl; rfl; ((focus ((repeat (first | exact hra _ | exact hrb _ | exact hrc _ | exact .pt | exact RdAll.mid rfl rfl | apply RdAll.there)); done))); rfl) | (apply w_la; rfl; rfl; ((focus ((repeat (first | exact hra _ | exact hrb _ | exact hrc _ | exact .pt | exact RdAll.mid rfl rfl | apply RdAll.there)); done))); rfl) | (apply w_sa; rfl; rfl; rfl; rfl; ((focus ((repeat (first | exact .pt rfl | apply StAll.there)); done))); ((exact kmf))) | (apply w_minL; rfl; rfl; rfl; omega) | (apply w_minG; rfl; rfl; rfl; omega) | (apply w_min; rfl; rfl; rfl) | (apply w_mfR; rfl; rfl) | (apply w_cvp; rfl; rfl; exact inferInstance; rfl; rfl; assumption) | (apply w_eqS2T; rfl; rfl; rfl; omega) | (apply w_eqS2F; rfl; rfl; rfl; omega) | (apply w_neS2T; rfl; rfl; rfl; omega) | (apply w_neS2F; rfl; rfl; rfl; omega) | (apply w_eqS3T; rfl; rfl; rfl; omega) | (apply w_eqS3F; rfl; rfl; rfl; omega) | (apply w_neS3T; rfl; rfl; rfl; omega) | (apply w_neS3F; rfl; rfl; rfl; omega) | (apply w_eqS3; rfl; rfl; rfl) | (apply w_neS3; rfl; rfl; rfl) | (apply w_eqS2; rfl; rfl; rfl) | (apply w_neS2; rfl; rfl; rfl) | (apply w_maxL; rfl; rfl; rfl; omega) | (apply w_maxG; rfl; rfl; rfl; omega) | (apply w_max; rfl; rfl; rfl) | (apply w_neB; rfl; rfl; rfl; rfl) | (apply w_eqB; rfl; rfl; rfl; rfl) | refine spl ?_ ?_ | intro hc)
  refine C_loopK (α := Nat) [4, 7, 8, 9, 10, 11, 12, 26, 27, 28, 29, 30, 31, 32, 33, 34, 35, 36, 37, 38, 39, 40, 41, 42, 43, 44, 45, 46, 47, 48, 49, 50, 51, 52, 53, 54, 55, 56, 57, 58, 59, 60, 61, 62, 63, 64, 65, 66, 67, 68, 69, 70, 71, 72, 73, 74, 75, 76, 77, 78, 79, 80, 81, 82] (fun x => 64 - x) (fun x => [(8, int x), (7, int (cntI L x : Nat))]) (fun x => sl 36 2 vr ((rnL M).map kyE) :: msb tb M :: rsb bx M.length L :: R) (fun x => x ≤ 64 ∧ cntI L x ≤ x) 0 ⟨Nat.zero_le _, Nat.zero_le _⟩ (by (focus ((repeat (first | exact Keep.nil | apply Keep.drop rfl | apply Keep.keep rfl)); done))) (by (exact sbf)) (fun w hs => Sel.sat (by (focus ((repeat (first | exact Sel.refl | (apply Sel.cons; (focus ((repeat (first | exact Del.here | apply Del.there)); done))) | refine Sel.drop ?_)); done))) hs) ?_
  rintro i ⟨hi, hib⟩
  dsimp only [List.cons_append, List.nil_append] at *
  by_cases hlt : i < 64
  · have hiL : i < L.length := by omega
    have hsu := cntI_succ L i
    have hWh := Where_ok tb M i
    have hra0 : ∀ R, RdAll (pt bx 57 (rcells M.length L) :: R) bx (0 + 1 + i * 5) (svE (svA L i)) := fun R => RdAll.sv hiL
    unfold rsb
    rcases same_at hw hR hlt with ⟨c1, c2⟩ | ⟨w, k, c0, c1, c2, c3⟩ | ⟨w, z, c2, c3⟩
    · rw [c1] at hsu hra0
      rw [c2] at hWh
      have hra : ∀ R, RdAll (pt bx 57 (rcells M.length L) :: R) bx (0 + 1 + i * 5) [.bool false, int 0, int 0, int 0, .bool false] := hra0
      clear hra0
      have hsu : cntI L (i + 1) = cntI L i := hsu
      (repeat' first | refine stp ?_ | intro v' hv' | intro (b : Nat) | (apply w_convU; rfl; rfl; omega; omega) | (apply w_convI; rfl; rfl; omega; omega) | (apply w_quoU; rfl; rfl; rfl; omega; omega; omega) | (apply w_remU; rfl; rfl; rfl; omega; omega) | (apply w_ld0; rfl; rfl; ((focus ((repeat (first | exact hr1 _ | exact hr2 _ | exact hr3 _ | exact hr4 _ | exact hr5 _ | exact Rd.pt rfl | apply Rd.there)); done)))) | (apply w_ld; rfl; rfl; ((focus ((repeat (first | exact hr1 _ | exact hr2 _ | exact hr3 _ | exact hr4 _ | exact hr5 _ | exact Rd.pt rfl | apply Rd.there)); done)))) | (apply w_la0; rfl; rfl; ((focus ((repeat (first | exact hra _ | exact hrb _ | exact hrc _ | exact .pt | exact RdAll.mid rfl rfl | apply RdAll.there)); done))); rfl) | (apply w_la; rfl; rfl; ((focus ((repeat (first | exact hra _ | exact hrb _ | exact hrc _ | exact .pt | exact RdAll.mid rfl rfl | apply RdAll.there)); done))); rfl) | (apply w_sa; rfl; rfl; rfl; rfl; ((focus ((repeat (first | exact .pt rfl | apply StAll.there)); done))); ((exact kmf))) | (apply w_minL; rfl; rfl; rfl; omega) | (apply w_minG; rfl; rfl; rfl; omega) | (apply w_min; rfl; rfl; rfl) | (apply w_mfR; rfl; rfl) | (apply w_cvp; rfl; rfl; exact inferInstance; rfl; rfl; assumption) | (apply w_eqS2T; rfl; rfl; rfl; omega) | (apply w_eqS2F; rfl; rfl; rfl; omega) | (apply w_neS2T; rfl; rfl; rfl; omega) | (apply w_neS2F; rfl; rfl; rfl; omega) | (apply w_eqS3T; rfl; rfl; rfl; omega) | (apply w_eqS3F; rfl; rfl; rfl; omega) | (apply w_neS3T; rfl; rfl; rfl; omega) | (apply w_neS3F; rfl; rfl; rfl; omega) | (apply w_eqS3; rfl; rfl; rfl) | (apply w_neS3; rfl; rfl; rfl) | (apply w_eqS2; rfl; rfl; rfl) | (apply w_neS2; rfl; rfl; rfl) | (apply w_maxL; rfl; rfl; rfl; omega) | (apply w_maxG; rfl; rfl; rfl; omega) | (apply w_max; rfl; rfl; rfl) | (apply w_neB; rfl; rfl; rfl; rfl) | (apply w_eqB; rfl; rfl; rfl; rfl) | refine spl ?_ ?_ | intro hc)
      exact At_againK (i + 1) ⟨hlt, by omega⟩ (by omega) (by rw [hsu]; (exact sbf)) (by (exact sbf)) (fun w hs => Sel.sat (by (focus ((repeat (first | exact Sel.refl | (apply Sel.cons; (focus ((repeat (first | exact Del.here | apply Del.there)); done))) | refine Sel.drop ?_)); done))) hs)
    · rw [c2] at hsu hra0
      rw [c3] at hWh
      have hra : ∀ R, RdAll (pt bx 57 (rcells M.length L) :: R) bx (0 + 1 + i * 5) [.bool true, int k.at', int k.id, int (w : Int), .bool true] := hra0
      clear hra0
      have hsu : cntI L (i + 1) = cntI L i + 1 := hsu
      have hrb : ∀ L, RdAll (sl 36 2 vr ((rnL M).map kyE) :: L) (vb vr) (vo vr + w * 2) [int k.at', int k.id] := fun L => RdAll.sl (by rw [List.getElem?_map, rnL_get M (by omega), c1]; rfl)
      dsimp only at hWh
      (repeat' first | refine stp ?_ | intro v' hv' | intro (b : Nat) | (apply w_convU; rfl; rfl; omega; omega) | (apply w_convI; rfl; rfl; omega; omega) | (apply w_quoU; rfl; rfl; rfl; omega; omega; omega) | (apply w_remU; rfl; rfl; rfl; omega; omega) | (apply w_ld0; rfl; rfl; ((focus ((repeat (first | exact hr1 _ | exact hr2 _ | exact hr3 _ | exact hr4 _ | exact hr5 _ | exact Rd.pt rfl | apply Rd.there)); done)))) | (apply w_ld; rfl; rfl; ((focus ((repeat (first | exact hr1 _ | exact hr2 _ | exact hr3 _ | exact hr4 _ | exact hr5 _ | exact Rd.pt rfl | apply Rd.there)); done)))) | (apply w_la0; rfl; rfl; ((focus ((repeat (first | exact hra _ | exact hrb _ | exact hrc _ | exact .pt | exact RdAll.mid rfl rfl | apply RdAll.there)); done))); rfl) | (apply w_la; rfl; rfl; ((focus ((repeat (first | exact hra _ | exact hrb _ | exact hrc _ | exact .pt | exact RdAll.mid rfl rfl | apply RdAll.there)); done))); rfl) | (apply w_sa; rfl; rfl; rfl; rfl; ((focus ((repeat (first | exact .pt rfl | apply StAll.there)); done))); ((exact kmf))) | (apply w_minL; rfl; rfl; rfl; omega) | (apply w_minG; rfl; rfl; rfl; omega) | (apply w_min; rfl; rfl; rfl) | (apply w_mfR; rfl; rfl) | (apply w_cvp; rfl; rfl; exact inferInstance; rfl; rfl; assumption) | (apply w_eqS2T; rfl; rfl; rfl; omega) | (apply w_eqS2F; rfl; rfl; rfl; omega) | (apply w_neS2T; rfl; rfl; rfl; omega) | (apply w_neS2F; rfl; rfl; rfl; omega) | (apply w_eqS3T; rfl; rfl; rfl; omega) | (apply w_eqS3F; rfl; rfl; rfl; omega) | (apply w_neS3T; rfl; rfl; rfl; omega) | (apply w_neS3F; rfl; rfl; rfl; omega) | (apply w_eqS3; rfl; rfl; rfl) | (apply w_neS3; rfl; rfl; rfl) | (apply w_eqS2; rfl; rfl; rfl) | (apply w_neS2; rfl; rfl; rfl) | (apply w_maxL; rfl; rfl; rfl; omega) | (apply w_maxG; rfl; rfl; rfl; omega) | (apply w_max; rfl; rfl; rfl) | (apply w_neB; rfl; rfl; rfl; rfl) | (apply w_eqB; rfl; rfl; rfl; rfl) | refine spl ?_ ?_ | intro hc)
      exact At_againK (i + 1) ⟨hlt, by omega⟩ (by omega) (by rw [hsu]; (exact sbf)) (by (exact sbf)) (fun w hs => Sel.sat (by (focus ((repeat (first | exact Sel.refl | (apply Sel.cons; (focus ((repeat (first | exact Del.here | apply Del.there)); done))) | refine Sel.drop ?_)); done))) hs)
    · rw [c2] at hsu hra0
      rw [c3] at hWh
      have hra : ∀ R, RdAll (pt bx 57 (rcells M.length L) :: R) bx (0 + 1 + i * 5) [.bool true, int z.at', int z.id, int (w : Int), .bool false] := hra0
      clear hra0
      have hsu : cntI L (i + 1) = cntI L i + 1 := hsu
      dsimp only at hWh
      (repeat' first | refine stp ?_ | intro v' hv' | intro (b : Nat) | (apply w_convU; rfl; rfl; omega; omega) | (apply w_convI; rfl; rfl; omega; omega) | (apply w_quoU; rfl; rfl; rfl; omega; omega; omega) | (apply w_remU; rfl; rfl; rfl; omega; omega) | (apply w_ld0; rfl; rfl; ((focus ((repeat (first | exact hr1 _ | exact hr2 _ | exact hr3 _ | exact hr4 _ | exact hr5 _ | exact Rd.pt rfl | apply Rd.there)); done)))) | (apply w_ld; rfl; rfl; ((focus ((repeat (first | exact hr1 _ | exact hr2 _ | exact hr3 _ | exact hr4 _ | exact hr5 _ | exact Rd.pt rfl | apply Rd.there)); done)))) | (apply w_la0; rfl; rfl; ((focus ((repeat (first | exact hra _ | exact hrb _ | exact hrc _ | exact .pt | exact RdAll.mid rfl rfl | apply RdAll.there)); done))); rfl) | (apply w_la; rfl; rfl; ((focus ((repeat (first | exact hra _ | exact hrb _ | exact hrc _ | exact .pt | exact RdAll.mid rfl rfl | apply RdAll.there)); done))); rfl) | (apply w_sa; rfl; rfl; rfl; rfl; ((focus ((repeat (first | exact .pt rfl | apply StAll.there)); done))); ((exact kmf))) | (apply w_minL; rfl; rfl; rfl; omega) | (apply w_minG; rfl; rfl; rfl; omega) | (apply w_min; rfl; rfl; rfl) | (apply w_mfR; rfl; rfl) | (apply w_cvp; rfl; rfl; exact inferInstance; rfl; rfl; assumption) | (apply w_eqS2T; rfl; rfl; rfl; omega) | (apply w_eqS2F; rfl; rfl; rfl; omega) | (apply w_neS2T; rfl; rfl; rfl; omega) | (apply w_neS2F; rfl; rfl; rfl; omega) | (apply w_eqS3T; rfl; rfl; rfl; omega) | (apply w_eqS3F; rfl; rfl; rfl; omega) | (apply w_neS3T; rfl; rfl; rfl; omega) | (apply w_neS3F; rfl; rfl; rfl; omega) | (apply w_eqS3; rfl; rfl; rfl) | (apply w_neS3; rfl; rfl; rfl) | (apply w_eqS2; rfl; rfl; rfl) | (apply w_neS2; rfl; rfl; rfl) | (apply w_maxL; rfl; rfl; rfl; omega) | (apply w_maxG; rfl; rfl; rfl; omega) | (apply w_max; rfl; rfl; rfl) | (apply w_neB; rfl; rfl; rfl; rfl) | (apply w_eqB; rfl; rfl; rfl; rfl) | refine spl ?_ ?_ | intro hc)
      exact At_againK (i + 1) ⟨hlt, by omega⟩ (by omega) (by rw [hsu]; (exact sbf)) (by (exact sbf)) (fun w hs => Sel.sat (by (focus ((repeat (first | exact Sel.refl | (apply Sel.cons; (focus ((repeat (first | exact Del.here | apply Del.there)); done))) | refine Sel.drop ?_)); done))) hs)
  obtain rfl : i = 64 := by omega
  rw [cntI_all hw hR] at hib ⊢
  clear hlt hi
  (repeat' first | refine stp ?_ | intro v' hv' | intro (b : Nat) | (apply w_convU; rfl; rfl; omega; omega) | (apply w_convI; rfl; rfl; omega; omega) | (apply w_quoU; rfl; rfl; rfl; omega; omega; omega) | (apply w_remU; rfl; rfl; rfl; omega; omega) | (apply w_ld0; rfl; rfl; ((focus ((repeat (first | exact hr1 _ | exact hr2 _ | exact hr3 _ | exact hr4 _ | exact hr5 _ | exact Rd.pt rfl | apply Rd.there)); done)))) | (apply w_ld; rfl; rfl; ((focus ((repeat (first | exact hr1 _ | exact hr2 _ | exact hr3 _ | exact hr4 _ | exact hr5 _ | exact Rd.pt rfl | apply Rd.there)); done)))) | (apply w_la0; rfl; rfl; ((focus ((repeat (first | exact hra _ | exact hrb _ | exact hrc _ | exact .pt | exact RdAll.mid rfl rfl | apply RdAll.there)); done))); rfl) | (apply w_la; rfl; rfl; ((focus ((repeat (first | exact hra _ | exact hrb _ | exact hrc _ | exact .pt | exact RdAll.mid rfl rfl | apply RdAll.there)); done))); rfl) | (apply w_sa; rfl; rfl; rfl; rfl; ((focus ((repeat (first | exact .pt rfl | apply StAll.there)); done))); ((exact kmf))) | (apply w_minL; rfl; rfl; rfl; omega) | (apply w_minG; rfl; rfl; rfl; omega) | (apply w_min; rfl; rfl; rfl) | (apply w_mfR; rfl; rfl) | (apply w_cvp; rfl; rfl; exact inferInstance; rfl; rfl; assumption) | (apply w_eqS2T; rfl; rfl; rfl; omega) | (apply w_eqS2F; rfl; rfl; rfl; omega) | (apply w_neS2T; rfl; rfl; rfl; omega) | (apply w_neS2F; rfl; rfl; rfl; omega) | (apply w_eqS3T; rfl; rfl; rfl; omega) | (apply w_eqS3F; rfl; rfl; rfl; omega) | (apply w_neS3T; rfl; rfl; rfl; omega) | (apply w_neS3F; rfl; rfl; rfl; omega) | (apply w_eqS3; rfl; rfl; rfl) | (apply w_neS3; rfl; rfl; rfl) | (apply w_eqS2; rfl; rfl; rfl) | (apply w_neS2; rfl; rfl; rfl) | (apply w_maxL; rfl; rfl; rfl; omega) | (apply w_maxG; rfl; rfl; rfl; omega) | (apply w_max; rfl; rfl; rfl) | (apply w_neB; rfl; rfl; rfl; rfl) | (apply w_eqB; rfl; rfl; rfl; rfl) | refine spl ?_ ?_ | intro hc)
  refine C_loopK (α := Nat) [4, 13, 14, 15, 16, 83, 84, 85, 86, 87, 88, 89, 90, 91, 92, 93, 94, 95, 96, 97, 98, 99, 100, 101, 102, 103, 104, 105, 106, 107, 108, 109, 110, 111, 112, 113, 114, 115, 116, 117, 118, 119, 120, 121, 122, 123, 124, 125, 126, 127, 128, 129, 130, 131, 132, 133, 134, 135, 136, 137, 138, 139, 140, 141, 142, 143, 144, 145, 146, 147, 148, 149, 150, 151, 152, 153, 154, 155, 156, 157, 158, 159, 160, 161, 162, 163, 164, 165, 166, 167, 168, 169, 170, 171, 172, 173, 174, 175, 176, 177, 178, 179, 180, 181, 182, 183, 184, 185] (fun x => 16 - x) (fun x => [(14, int x), (13, int ((wq (M.take x)).length : Nat))]) (fun x => sl 36 2 vr ((rnL M).map kyE) :: msb tb M :: rsb bx M.length L :: R) (fun x => x ≤ 16 ∧ (wq (M.take x)).length ≤ 64 * x) 0 ⟨Nat.zero_le _, Nat.zero_le _⟩ (by (focus ((repeat (first | exact Keep.nil | apply Keep.drop rfl | apply Keep.keep rfl)); done))) (by (exact sbf)) (fun w hs => Sel.sat (by (focus ((repeat (first | exact Sel.refl | (apply Sel.cons; (focus ((repeat (first | exact Del.here | apply Del.there)); done))) | refine Sel.drop ?_)); done))) hs) ?_
  rintro w ⟨hwi, hwb⟩
  dsimp only [List.cons_append, List.nil_append] at *
  by_cases hlw : w < 16
  · have hx : ((rnL M).map kyE)[w]? = some (kyE (rnA M w)) := by rw [List.getElem?_map, rnL_get M hlw]; rfl
    have hr1 : ∀ L, Rd (sl 36 2 vr ((rnL M).map kyE) :: L) ⟨vb vr, vo vr + w * 2 + 1, none⟩ (int (rnA M w).id) := fun L => Rd.sl (n := 2) (k := 1) hx rfl
    have hOn := rOn_ok bx M.length L h64 w
    rw [on_rel hw hR] at hOn
    have hWt := Waiting_ok tb M w
    have ew : waitM M w = if w < M.length then (wkA M w).q else [] := by
      unfold waitM
      by_cases h : w < M.length
      · rw [if_pos ⟨by omega, by omega⟩, if_pos h, Int.toNat_natCast]
      · rw [if_neg (fun hc => h (by omega)), if_neg h]
    have hq64 : (waitM M w).length ≤ 64 := by
      rw [ew]
      split
      · rename_i h; exact hw.q64 h
      · exact Nat.zero_le _
    have hwt : (wq (M.take (w + 1))).length = (wq (M.take w)).length + (waitM M w).length := by
      rw [ew]
      by_cases h : w < M.length
      · rw [if_pos h]; exact wq_take h
      · rw [if_neg h, List.take_of_length_le (by omega), List.take_of_length_le (by omega)]; rfl
    have hqs : ∀ z ∈ waitM M w, svA L z.id.toNat = ⟨true, z, w, false⟩ ∧ 0 ≤ z.id ∧ z.id < 64 := fun z hz => by
      rw [ew] at hz
      by_cases h : w < M.length
      · rw [if_pos h] at hz
        have := hw.kb z (List.mem_append_right _ (wq_mem.2 ⟨w, h, hz⟩))
        exact ⟨hR.wait w h z hz, this.1, this.2.1⟩
      · rw [if_neg h] at hz; cases hz
    have hsrt : Srt (waitM M w) := by
      rw [ew]
      split
      · rename_i h; exact hw.srt w h
      · exact List.Pairwise.nil
    have hboth : ∃ rid oid : Int, (rnA M w).id = rid ∧ (if w < M.length ∧ (wkA M w).runs = true then (wkA M w).k.id else -1) = oid ∧ ((rid < 0 ∧ oid < 0) ∨ (0 ≤ rid ∧ 0 ≤ oid)) := by
      refine ⟨_, _, rfl, rfl, ?_⟩
      by_cases hc : w < M.length ∧ (wkA M w).runs = true
      · right
        rw [if_pos hc, rnA_run hc.1 hc.2]
        have := (hw.kb _ (List.mem_append_left _ (rk_mem.2 ⟨w, hc.1, hc.2, rfl⟩))).1
        exact ⟨this, this⟩
      · left
        rw [if_neg hc, rnA_no hc]
        exact ⟨by decide, by decide⟩
    obtain ⟨rid, oid, d1, d2, d3⟩ := hboth
    rw [d1] at hr1
    rw [d2] at hOn
    clear d1 d2 hx ew
    have hrx : Rd (sl 36 2 vr ((rnL M).map kyE) :: msb tb M :: rsb bx M.length L :: R) ⟨vb vr, vo vr + w * 2 + 1, none⟩ (int rid) := hr1 _
    generalize waitM M w = q at *
    rcases d3 with d3 | d3
    all_goals
      (repeat' first | refine stp ?_ | intro v' hv' | intro (b : Nat) | (apply w_convU; rfl; rfl; omega; omega) | (apply w_convI; rfl; rfl; omega; omega) | (apply w_quoU; rfl; rfl; rfl; omega; omega; omega) | (apply w_remU; rfl; rfl; rfl; omega; omega) | (apply w_ld0; rfl; rfl; ((focus ((repeat (first | exact hr1 _ | exact hr2 _ | exact hr3 _ | exact hr4 _ | exact hr5 _ | exact Rd.pt rfl | apply Rd.there)); done)))) | (apply w_ld; rfl; rfl; ((focus ((repeat (first | exact hr1 _ | exact hr2 _ | exact hr3 _ | exact hr4 _ | exact hr5 _ | exact Rd.pt rfl | apply Rd.there)); done)))) | (apply w_la0; rfl; rfl; ((focus ((repeat (first | exact hra _ | exact hrb _ | exact hrc _ | exact .pt | exact RdAll.mid rfl rfl | apply RdAll.there)); done))); rfl) | (apply w_la; rfl; rfl; ((focus ((repeat (first | exact hra _ | exact hrb _ | exact hrc _ | exact .pt | exact RdAll.mid rfl rfl | apply RdAll.there)); done))); rfl) | (apply w_sa; rfl; rfl; rfl; rfl; ((focus ((repeat (first | exact .pt rfl | apply StAll.there)); done))); ((exact kmf))) | (apply w_minL; rfl; rfl; rfl; omega) | (apply w_minG; rfl; rfl; rfl; omega) | (apply w_min; rfl; rfl; rfl) | (apply w_mfR; rfl; rfl) | (apply w_cvp; rfl; rfl; exact inferInstance; rfl; rfl; assumption) | (apply w_eqS2T; rfl; rfl; rfl; omega) | (apply w_eqS2F; rfl; rfl; rfl; omega) | (apply w_neS2T; rfl; rfl; rfl; omega) | (apply w_neS2F; rfl; rfl; rfl; omega) | (apply w_eqS3T; rfl; rfl; rfl; omega) | (apply w_eqS3F; rfl; rfl; rfl; omega) | (apply w_neS3T; rfl; rfl; rfl; omega) | (apply w_neS3F; rfl; rfl; rfl; omega) | (apply w_eqS3; rfl; rfl; rfl) | (apply w_neS3; rfl; rfl; rfl) | (apply w_eqS2; rfl; rfl; rfl) | (apply w_neS2; rfl; rfl; rfl) | (apply w_maxL; rfl; rfl; rfl; omega) | (apply w_maxG; rfl; rfl; rfl; omega) | (apply w_max; rfl; rfl; rfl) | (apply w_neB; rfl; rfl; rfl; rfl) | (apply w_eqB; rfl; rfl; rfl; rfl) | refine spl ?_ ?_ | intro hc)
      obtain ⟨vq, hvq⟩ : ∃ r, r = v' := ⟨_, rfl⟩
      subst hvq
      have hvq : IsSl vq q.length := by first | exact hv' | (have := hv'; rwa [List.length_map] at this)
      clear hv' hWt hOn hr1 hrx
      refine C_loopK (α := Nat) [4, 13, 16, 101, 102, 103, 104, 105, 106, 107, 108, 109, 110, 111, 112, 113, 114, 115, 116, 117, 118, 119, 120, 121, 122, 123, 124, 125, 126, 127, 128, 129, 130, 131, 132, 133, 134, 135, 136, 137, 138, 139, 140, 141, 142, 143, 144, 145, 146, 147, 148, 149, 150, 151, 152, 153, 154, 155, 156, 157, 158, 159, 160, 161, 162, 163, 164, 165, 166, 167, 168, 169, 170, 171, 172, 173, 174, 175, 176, 177, 178, 179, 180, 181, 182, 183, 184, 185] (fun x => q.length - x) (fun x => [(16, int x), (13, int (((wq (M.take w)).length + x : Nat)))]) (fun x => sl 36 2 vq (q.map kyE) :: sl 36 2 vr ((rnL M).map kyE) :: msb tb M :: rsb bx M.length L :: R) (fun x => x ≤ q.length) 0 (Nat.zero_le _) (by (focus ((repeat (first | exact Keep.nil | apply Keep.drop rfl | apply Keep.keep rfl)); done))) (by (exact sbf)) (fun w hs => Sel.sat (by (focus ((repeat (first | exact Sel.refl | (apply Sel.cons; (focus ((repeat (first | exact Del.here | apply Del.there)); done))) | refine Sel.drop ?_)); done))) hs) ?_
      rintro k hk
      dsimp only [List.cons_append, List.nil_append] at *
      by_cases hlk : k < q.length
      · have hz : q[k]? = some q[k] := List.getElem?_eq_getElem hlk
        obtain ⟨hzs, hz0, hz1⟩ := hqs _ (List.mem_of_getElem? hz)
        have hrb : ∀ L, RdAll (sl 36 2 vq (q.map kyE) :: L) (vb vq) (vo vq + k * 2) [int q[k].at', int q[k].id] := fun L => RdAll.sl (by rw [List.getElem?_map, hz]; rfl)
        have hr2 : ∀ L, Rd (sl 36 2 vq (q.map kyE) :: L) ⟨vb vq, vo vq + k * 2 + 1, none⟩ (int q[k].id) := fun L => Rd.sl (n := 2) (k := 1) (e := kyE q[k]) (by rw [List.getElem?_map, hz]; rfl) rfl
        have hbef : 0 < k → ∃ ka ki : Int, (∀ L, RdAll (sl 36 2 vq (q.map kyE) :: L) (vb vq) (vo vq + ((k : Int) - 1).toNat * 2) [int ka, int ki]) ∧ ∀ R, Called Try.prog 34 [.agg #[int ka, int ki], .agg #[int q[k].at', int q[k].id]] R (is (.bool true) R) := fun hk0 => by
          have hj : k - 1 < q.length := by omega
          have hj2 : q[k - 1]? = some q[k - 1] := List.getElem?_eq_getElem hj
          refine ⟨q[k - 1].at', q[k - 1].id, fun L => ?_, fun R => ?_⟩
          · rw [show ((k : Int) - 1).toNat = k - 1 by omega]
            exact RdAll.sl (by rw [List.getElem?_map, hj2]; rfl)
          · have := Less_ok q[k - 1] q[k] R
            rw [List.pairwise_iff_getElem.1 hsrt (k - 1) k hj hlk (by omega)] at this
            exact this
        generalize q[k] = z at *
        obtain ⟨za, zi⟩ := z
        dsimp only at *
        obtain ⟨zn, rfl⟩ := Int.eq_ofNat_of_zero_le hz0
        have hzl : zn < L.length := by omega
        rw [Int.toNat_natCast] at hzs
        have hra : ∀ R, RdAll (pt bx 57 (rcells M.length L) :: R) bx (0 + 1 + zn * 5 + 1) [int za, int (zn : Int)] := fun R => by have := RdAll.svk (b := bx) (N := M.length) (R := R) hzl; rw [hzs] at this; exact this
        have hr3 : ∀ R, Rd (pt bx 57 (rcells M.length L) :: R) ⟨bx, 0 + 1 + zn * 5 + 3, none⟩ (int (w : Int)) := fun R => by have := Rd.sv (b := bx) (N := M.length) (R := R) (f := 3) (u := int (w : Int)) hzl (by rw [hzs]; rfl); exact this
        have hr4 : ∀ R, Rd (pt bx 57 (rcells M.length L) :: R) ⟨bx, 0 + 1 + zn * 5 + 4, none⟩ (.bool false) := fun R => by have := Rd.sv (b := bx) (N := M.length) (R := R) (f := 4) (u := .bool false) hzl (by rw [hzs]; rfl); exact this
        unfold rsb
        by_cases hk0 : 0 < k
        · obtain ⟨pa, pi, hrc, hLs⟩ := hbef hk0
          clear hbef hzs
          (repeat' first | refine stp ?_ | intro v' hv' | intro (b : Nat) | (apply w_convU; rfl; rfl; omega; omega) | (apply w_convI; rfl; rfl; omega; omega) | (apply w_quoU; rfl; rfl; rfl; omega; omega; omega) | (apply w_remU; rfl; rfl; rfl; omega; omega) | (apply w_ld0; rfl; rfl; ((focus ((repeat (first | exact hr1 _ | exact hr2 _ | exact hr3 _ | exact hr4 _ | exact hr5 _ | exact Rd.pt rfl | apply Rd.there)); done)))) | (apply w_ld; rfl; rfl; ((focus ((repeat (first | exact hr1 _ | exact hr2 _ | exact hr3 _ | exact hr4 _ | exact hr5 _ | exact Rd.pt rfl | apply Rd.there)); done)))) | (apply w_la0; rfl; rfl; ((focus ((repeat (first | exact hra _ | exact hrb _ | exact hrc _ | exact .pt | exact RdAll.mid rfl rfl | apply RdAll.there)); done))); rfl) | (apply w_la; rfl; rfl; ((focus ((repeat (first | exact hra _ | exact hrb _ | exact hrc _ | exact .pt | exact RdAll.mid rfl rfl | apply RdAll.there)); done))); rfl) | (apply w_sa; rfl; rfl; rfl; rfl; ((focus ((repeat (first | exact .pt rfl | apply StAll.there)); done))); ((exact kmf))) | (apply w_minL; rfl; rfl; rfl; omega) | (apply w_minG; rfl; rfl; rfl; omega) | (apply w_min; rfl; rfl; rfl) | (apply w_mfR; rfl; rfl) | (apply w_cvp; rfl; rfl; exact inferInstance; rfl; rfl; assumption) | (apply w_eqS2T; rfl; rfl; rfl; omega) | (apply w_eqS2F; rfl; rfl; rfl; omega) | (apply w_neS2T; rfl; rfl; rfl; omega) | (apply w_neS2F; rfl; rfl; rfl; omega) | (apply w_eqS3T; rfl; rfl; rfl; omega) | (apply w_eqS3F; rfl; rfl; rfl; omega) | (apply w_neS3T; rfl; rfl; rfl; omega) | (apply w_neS3F; rfl; rfl; rfl; omega) | (apply w_eqS3; rfl; rfl; rfl) | (apply w_neS3; rfl; rfl; rfl) | (apply w_eqS2; rfl; rfl; rfl) | (apply w_neS2; rfl; rfl; rfl) | (apply w_maxL; rfl; rfl; rfl; omega) | (apply w_maxG; rfl; rfl; rfl; omega) | (apply w_max; rfl; rfl; rfl) | (apply w_neB; rfl; rfl; rfl; rfl) | (apply w_eqB; rfl; rfl; rfl; rfl) | refine spl ?_ ?_ | intro hc)
          exact At_againK (k + 1) hlk (by omega) (by (exact sbf)) (by (exact sbf)) (by (exact frm))
        · clear hbef hzs
          (repeat' first | refine stp ?_ | intro v' hv' | intro (b : Nat) | (apply w_convU; rfl; rfl; omega; omega) | (apply w_convI; rfl; rfl; omega; omega) | (apply w_quoU; rfl; rfl; rfl; omega; omega; omega) | (apply w_remU; rfl; rfl; rfl; omega; omega) | (apply w_ld0; rfl; rfl; ((focus ((repeat (first | exact hr1 _ | exact hr2 _ | exact hr3 _ | exact hr4 _ | exact hr5 _ | exact Rd.pt rfl | apply Rd.there)); done)))) | (apply w_ld; rfl; rfl; ((focus ((repeat (first | exact hr1 _ | exact hr2 _ | exact hr3 _ | exact hr4 _ | exact hr5 _ | exact Rd.pt rfl | apply Rd.there)); done)))) | (apply w_la0; rfl; rfl; ((focus ((repeat (first | exact hra _ | exact hrb _ | exact hrc _ | exact .pt | exact RdAll.mid rfl rfl | apply RdAll.there)); done))); rfl) | (apply w_la; rfl; rfl; ((focus ((repeat (first | exact hra _ | exact hrb _ | exact hrc _ | exact .pt | exact RdAll.mid rfl rfl | apply RdAll.there)); done))); rfl) | (apply w_sa; rfl; rfl; rfl; rfl; ((focus ((repeat (first | exact .pt rfl | apply StAll.there)); done))); ((exact kmf))) | (apply w_minL; rfl; rfl; rfl; omega) | (apply w_minG; rfl; rfl; rfl; omega) | (apply w_min; rfl; rfl; rfl) | (apply w_mfR; rfl; rfl) | (apply w_cvp; rfl; rfl; exact inferInstance; rfl; rfl; assumption) | (apply w_eqS2T; rfl; rfl; rfl; omega) | (apply w_eqS2F; rfl; rfl; rfl; omega) | (apply w_neS2T; rfl; rfl; rfl; omega) | (apply w_neS2F; rfl; rfl; rfl; omega) | (apply w_eqS3T; rfl; rfl; rfl; omega) | (apply w_eqS3F; rfl; rfl; rfl; omega) | (apply w_neS3T; rfl; rfl; rfl; omega) | (apply w_neS3F; rfl; rfl; rfl; omega) | (apply w_eqS3; rfl; rfl; rfl) | (apply w_neS3; rfl; rfl; rfl) | (apply w_eqS2; rfl; rfl; rfl) | (apply w_neS2; rfl; rfl; rfl) | (apply w_maxL; rfl; rfl; rfl; omega) | (apply w_maxG; rfl; rfl; rfl; omega) | (apply w_max; rfl; rfl; rfl) | (apply w_neB; rfl; rfl; rfl; rfl) | (apply w_eqB; rfl; rfl; rfl; rfl) | refine spl ?_ ?_ | intro hc)
          exact At_againK (k + 1) hlk (by omega) (by (exact sbf)) (by (exact sbf)) (by (exact frm))
      · obtain rfl : k = q.length := by omega
        (repeat' first | refine stp ?_ | intro v' hv' | intro (b : Nat) | (apply w_convU; rfl; rfl; omega; omega) | (apply w_convI; rfl; rfl; omega; omega) | (apply w_quoU; rfl; rfl; rfl; omega; omega; omega) | (apply w_remU; rfl; rfl; rfl; omega; omega) | (apply w_ld0; rfl; rfl; ((focus ((repeat (first | exact hr1 _ | exact hr2 _ | exact hr3 _ | exact hr4 _ | exact hr5 _ | exact Rd.pt rfl | apply Rd.there)); done)))) | (apply w_ld; rfl; rfl; ((focus ((repeat (first | exact hr1 _ | exact hr2 _ | exact hr3 _ | exact hr4 _ | exact hr5 _ | exact Rd.pt rfl | apply Rd.there)); done)))) | (apply w_la0; rfl; rfl; ((focus ((repeat (first | exact hra _ | exact hrb _ | exact hrc _ | exact .pt | exact RdAll.mid rfl rfl | apply RdAll.there)); done))); rfl) | (apply w_la; rfl; rfl; ((focus ((repeat (first | exact hra _ | exact hrb _ | exact hrc _ | exact .pt | exact RdAll.mid rfl rfl | apply RdAll.there)); done))); rfl) | (apply w_sa; rfl; rfl; rfl; rfl; ((focus ((repeat (first | exact .pt rfl | apply StAll.there)); done))); ((exact kmf))) | (apply w_minL; rfl; rfl; rfl; omega) | (apply w_minG; rfl; rfl; rfl; omega) | (apply w_min; rfl; rfl; rfl) | (apply w_mfR; rfl; rfl) | (apply w_cvp; rfl; rfl; exact inferInstance; rfl; rfl; assumption) | (apply w_eqS2T; rfl; rfl; rfl; omega) | (apply w_eqS2F; rfl; rfl; rfl; omega) | (apply w_neS2T; rfl; rfl; rfl; omega) | (apply w_neS2F; rfl; rfl; rfl; omega) | (apply w_eqS3T; rfl; rfl; rfl; omega) | (apply w_eqS3F; rfl; rfl; rfl; omega) | (apply w_neS3T; rfl; rfl; rfl; omega) | (apply w_neS3F; rfl; rfl; rfl; omega) | (apply w_eqS3; rfl; rfl; rfl) | (apply w_neS3; rfl; rfl; rfl) | (apply w_eqS2; rfl; rfl; rfl) | (apply w_neS2; rfl; rfl; rfl) | (apply w_maxL; rfl; rfl; rfl; omega) | (apply w_maxG; rfl; rfl; rfl; omega) | (apply w_max; rfl; rfl; rfl) | (apply w_neB; rfl; rfl; rfl; rfl) | (apply w_eqB; rfl; rfl; rfl; rfl) | refine spl ?_ ?_ | intro hc)
        exact At_againK (w + 1) ⟨hlw, by omega⟩ (by omega) (by rw [hwt]; (exact sbf)) (by (exact sbf)) (fun w hs => Sel.sat (by (focus ((repeat (first | exact Sel.refl | (apply Sel.cons; (focus ((repeat (first | exact Del.here | apply Del.there)); done))) | refine Sel.drop ?_)); done))) hs)
  obtain rfl : w = 16 := by omega
  rw [List.take_of_length_le (show M.length ≤ 16 from hfew)] at hwb ⊢
  clear hlw hwi
  (repeat' first | refine stp ?_ | intro v' hv' | intro (b : Nat) | (apply w_convU; rfl; rfl; omega; omega) | (apply w_convI; rfl; rfl; omega; omega) | (apply w_quoU; rfl; rfl; rfl; omega; omega; omega) | (apply w_remU; rfl; rfl; rfl; omega; omega) | (apply w_ld0; rfl; rfl; ((focus ((repeat (first | exact hr1 _ | exact hr2 _ | exact hr3 _ | exact hr4 _ | exact hr5 _ | exact Rd.pt rfl | apply Rd.there)); done)))) | (apply w_ld; rfl; rfl; ((focus ((repeat (first | exact hr1 _ | exact hr2 _ | exact hr3 _ | exact hr4 _ | exact hr5 _ | exact Rd.pt rfl | apply Rd.there)); done)))) | (apply w_la0; rfl; rfl; ((focus ((repeat (first | exact hra _ | exact hrb _ | exact hrc _ | exact .pt | exact RdAll.mid rfl rfl | apply RdAll.there)); done))); rfl) | (apply w_la; rfl; rfl; ((focus ((repeat (first | exact hra _ | exact hrb _ | exact hrc _ | exact .pt | exact RdAll.mid rfl rfl | apply RdAll.there)); done))); rfl) | (apply w_sa; rfl; rfl; rfl; rfl; ((focus ((repeat (first | exact .pt rfl | apply StAll.there)); done))); ((exact kmf))) | (apply w_minL; rfl; rfl; rfl; omega) | (apply w_minG; rfl; rfl; rfl; omega) | (apply w_min; rfl; rfl; rfl) | (apply w_mfR; rfl; rfl) | (apply w_cvp; rfl; rfl; exact inferInstance; rfl; rfl; assumption) | (apply w_eqS2T; rfl; rfl; rfl; omega) | (apply w_eqS2F; rfl; rfl; rfl; omega) | (apply w_neS2T; rfl; rfl; rfl; omega) | (apply w_neS2F; rfl; rfl; rfl; omega) | (apply w_eqS3T; rfl; rfl; rfl; omega) | (apply w_eqS3F; rfl; rfl; rfl; omega) | (apply w_neS3T; rfl; rfl; rfl; omega) | (apply w_neS3F; rfl; rfl; rfl; omega) | (apply w_eqS3; rfl; rfl; rfl) | (apply w_neS3; rfl; rfl; rfl) | (apply w_eqS2; rfl; rfl; rfl) | (apply w_neS2; rfl; rfl; rfl) | (apply w_maxL; rfl; rfl; rfl; omega) | (apply w_maxG; rfl; rfl; rfl; omega) | (apply w_max; rfl; rfl; rfl) | (apply w_neB; rfl; rfl; rfl; rfl) | (apply w_eqB; rfl; rfl; rfl; rfl) | refine spl ?_ ?_ | intro hc)
  refine C_loopK (α := Nat) [17, 18, 186, 187, 188, 189, 190, 191, 192, 193, 194, 195, 196, 197] (fun x => 16 - x) (fun x => [(18, int x), (17, int ((rk (M.take x)).length : Nat))]) (fun x => sl 36 2 vr ((rnL M).map kyE) :: msb tb M :: rsb bx M.length L :: R) (fun x => x ≤ 16 ∧ (rk (M.take x)).length ≤ x) 0 ⟨Nat.zero_le _, Nat.zero_le _⟩ (by (focus ((repeat (first | exact Keep.nil | apply Keep.drop rfl | apply Keep.keep rfl)); done))) (by (exact sbf)) (fun w hs => Sel.sat (by (focus ((repeat (first | exact Sel.refl | (apply Sel.cons; (focus ((repeat (first | exact Del.here | apply Del.there)); done))) | refine Sel.drop ?_)); done))) hs) ?_
  rintro w ⟨hwi, hrb'⟩
  dsimp only [List.cons_append, List.nil_append] at *
  by_cases hlw : w < 16
  · have hx : ((rnL M).map kyE)[w]? = some (kyE (rnA M w)) := by rw [List.getElem?_map, rnL_get M hlw]; rfl
    have hr1 : ∀ L, Rd (sl 36 2 vr ((rnL M).map kyE) :: L) ⟨vb vr, vo vr + w * 2 + 1, none⟩ (int (rnA M w).id) := fun L => Rd.sl (n := 2) (k := 1) hx rfl
    clear hx
    by_cases hc : w < M.length ∧ (wkA M w).runs = true
    · have htk := rk_take hc.1
      rw [if_pos hc.2] at htk
      rw [rnA_run hc.1 hc.2] at hr1
      have h0 := (hw.kb _ (List.mem_append_left _ (rk_mem.2 ⟨w, hc.1, hc.2, rfl⟩))).1
      generalize (wkA M w).k.id = id at *
      (repeat' first | refine stp ?_ | intro v' hv' | intro (b : Nat) | (apply w_convU; rfl; rfl; omega; omega) | (apply w_convI; rfl; rfl; omega; omega) | (apply w_quoU; rfl; rfl; rfl; omega; omega; omega) | (apply w_remU; rfl; rfl; rfl; omega; omega) | (apply w_ld0; rfl; rfl; ((focus ((repeat (first | exact hr1 _ | exact hr2 _ | exact hr3 _ | exact hr4 _ | exact hr5 _ | exact Rd.pt rfl | apply Rd.there)); done)))) | (apply w_ld; rfl; rfl; ((focus ((repeat (first | exact hr1 _ | exact hr2 _ | exact hr3 _ | exact hr4 _ | exact hr5 _ | exact Rd.pt rfl | apply Rd.there)); done)))) | (apply w_la0; rfl; rfl; ((focus ((repeat (first | exact hra _ | exact hrb _ | exact hrc _ | exact .pt | exact RdAll.mid rfl rfl | apply RdAll.there)); done))); rfl) | (apply w_la; rfl; rfl; ((focus ((repeat (first | exact hra _ | exact hrb _ | exact hrc _ | exact .pt | exact RdAll.mid rfl rfl | apply RdAll.there)); done))); rfl) | (apply w_sa; rfl; rfl; rfl; rfl; ((focus ((repeat (first | exact .pt rfl | apply StAll.there)); done))); ((exact kmf))) | (apply w_minL; rfl; rfl; rfl; omega) | (apply w_minG; rfl; rfl; rfl; omega) | (apply w_min; rfl; rfl; rfl) | (apply w_mfR; rfl; rfl) | (apply w_cvp; rfl; rfl; exact inferInstance; rfl; rfl; assumption) | (apply w_eqS2T; rfl; rfl; rfl; omega) | (apply w_eqS2F; rfl; rfl; rfl; omega) | (apply w_neS2T; rfl; rfl; rfl; omega) | (apply w_neS2F; rfl; rfl; rfl; omega) | (apply w_eqS3T; rfl; rfl; rfl; omega) | (apply w_eqS3F; rfl; rfl; rfl; omega) | (apply w_neS3T; rfl; rfl; rfl; omega) | (apply w_neS3F; rfl; rfl; rfl; omega) | (apply w_eqS3; rfl; rfl; rfl) | (apply w_neS3; rfl; rfl; rfl) | (apply w_eqS2; rfl; rfl; rfl) | (apply w_neS2; rfl; rfl; rfl) | (apply w_maxL; rfl; rfl; rfl; omega) | (apply w_maxG; rfl; rfl; rfl; omega) | (apply w_max; rfl; rfl; rfl) | (apply w_neB; rfl; rfl; rfl; rfl) | (apply w_eqB; rfl; rfl; rfl; rfl) | refine spl ?_ ?_ | intro hc)
      exact At_againK (w + 1) ⟨hlw, by omega⟩ (by omega) (by rw [htk]; (exact sbf)) (by (exact sbf)) (by (exact frm))
    · have htk : (rk (M.take (w + 1))).length = (rk (M.take w)).length := by
        by_cases hiM : w < M.length
        · rw [rk_take hiM, if_neg (fun h => hc ⟨hiM, h⟩)]; rfl
        · rw [List.take_of_length_le (by omega), List.take_of_length_le (by omega)]
      rw [rnA_no hc] at hr1
      have hr1 : ∀ L, Rd (sl 36 2 vr ((rnL M).map kyE) :: L) ⟨vb vr, vo vr + w * 2 + 1, none⟩ (int (-1)) := hr1
      (repeat' first | refine stp ?_ | intro v' hv' | intro (b : Nat) | (apply w_convU; rfl; rfl; omega; omega) | (apply w_convI; rfl; rfl; omega; omega) | (apply w_quoU; rfl; rfl; rfl; omega; omega; omega) | (apply w_remU; rfl; rfl; rfl; omega; omega) | (apply w_ld0; rfl; rfl; ((focus ((repeat (first | exact hr1 _ | exact hr2 _ | exact hr3 _ | exact hr4 _ | exact hr5 _ | exact Rd.pt rfl | apply Rd.there)); done)))) | (apply w_ld; rfl; rfl; ((focus ((repeat (first | exact hr1 _ | exact hr2 _ | exact hr3 _ | exact hr4 _ | exact hr5 _ | exact Rd.pt rfl | apply Rd.there)); done)))) | (apply w_la0; rfl; rfl; ((focus ((repeat (first | exact hra _ | exact hrb _ | exact hrc _ | exact .pt | exact RdAll.mid rfl rfl | apply RdAll.there)); done))); rfl) | (apply w_la; rfl; rfl; ((focus ((repeat (first | exact hra _ | exact hrb _ | exact hrc _ | exact .pt | exact RdAll.mid rfl rfl | apply RdAll.there)); done))); rfl) | (apply w_sa; rfl; rfl; rfl; rfl; ((focus ((repeat (first | exact .pt rfl | apply StAll.there)); done))); ((exact kmf))) | (apply w_minL; rfl; rfl; rfl; omega) | (apply w_minG; rfl; rfl; rfl; omega) | (apply w_min; rfl; rfl; rfl) | (apply w_mfR; rfl; rfl) | (apply w_cvp; rfl; rfl; exact inferInstance; rfl; rfl; assumption) | (apply w_eqS2T; rfl; rfl; rfl; omega) | (apply w_eqS2F; rfl; rfl; rfl; omega) | (apply w_neS2T; rfl; rfl; rfl; omega) | (apply w_neS2F; rfl; rfl; rfl; omega) | (apply w_eqS3T; rfl; rfl; rfl; omega) | (apply w_eqS3F; rfl; rfl; rfl; omega) | (apply w_neS3T; rfl; rfl; rfl; omega) | (apply w_neS3F; rfl; rfl; rfl; omega) | (apply w_eqS3; rfl; rfl; rfl) | (apply w_neS3; rfl; rfl; rfl) | (apply w_eqS2; rfl; rfl; rfl) | (apply w_neS2; rfl; rfl; rfl) | (apply w_maxL; rfl; rfl; rfl; omega) | (apply w_maxG; rfl; rfl; rfl; omega) | (apply w_max; rfl; rfl; rfl) | (apply w_neB; rfl; rfl; rfl; rfl) | (apply w_eqB; rfl; rfl; rfl; rfl) | refine spl ?_ ?_ | intro hc)
      exact At_againK (w + 1) ⟨hlw, by omega⟩ (by omega) (by rw [htk]; (exact sbf)) (by (exact sbf)) (by (exact frm))
  · obtain rfl : w = 16 := by omega
    rw [List.take_of_length_le (show M.length ≤ 16 from hfew)] at hrb' ⊢
    have hMa := Many_ok tb M
    have hme := many_eq M
    generalize manyM M = mm at *
    generalize (wq M).length = a1 at *
    generalize (rk M).length = a2 at *
    subst hme
    (repeat' first | refine stp ?_ | intro v' hv' | intro (b : Nat) | (apply w_convU; rfl; rfl; omega; omega) | (apply w_convI; rfl; rfl; omega; omega) | (apply w_quoU; rfl; rfl; rfl; omega; omega; omega) | (apply w_remU; rfl; rfl; rfl; omega; omega) | (apply w_ld0; rfl; rfl; ((focus ((repeat (first | exact hr1 _ | exact hr2 _ | exact hr3 _ | exact hr4 _ | exact hr5 _ | exact Rd.pt rfl | apply Rd.there)); done)))) | (apply w_ld; rfl; rfl; ((focus ((repeat (first | exact hr1 _ | exact hr2 _ | exact hr3 _ | exact hr4 _ | exact hr5 _ | exact Rd.pt rfl | apply Rd.there)); done)))) | (apply w_la0; rfl; rfl; ((focus ((repeat (first | exact hra _ | exact hrb _ | exact hrc _ | exact .pt | exact RdAll.mid rfl rfl | apply RdAll.there)); done))); rfl) | (apply w_la; rfl; rfl; ((focus ((repeat (first | exact hra _ | exact hrb _ | exact hrc _ | exact .pt | exact RdAll.mid rfl rfl | apply RdAll.there)); done))); rfl) | (apply w_sa; rfl; rfl; rfl; rfl; ((focus ((repeat (first | exact .pt rfl | apply StAll.there)); done))); ((exact kmf))) | (apply w_minL; rfl; rfl; rfl; omega) | (apply w_minG; rfl; rfl; rfl; omega) | (apply w_min; rfl; rfl; rfl) | (apply w_mfR; rfl; rfl) | (apply w_cvp; rfl; rfl; exact inferInstance; rfl; rfl; assumption) | (apply w_eqS2T; rfl; rfl; rfl; omega) | (apply w_eqS2F; rfl; rfl; rfl; omega) | (apply w_neS2T; rfl; rfl; rfl; omega) | (apply w_neS2F; rfl; rfl; rfl; omega) | (apply w_eqS3T; rfl; rfl; rfl; omega) | (apply w_eqS3F; rfl; rfl; rfl; omega) | (apply w_neS3T; rfl; rfl; rfl; omega) | (apply w_neS3F; rfl; rfl; rfl; omega) | (apply w_eqS3; rfl; rfl; rfl) | (apply w_neS3; rfl; rfl; rfl) | (apply w_eqS2; rfl; rfl; rfl) | (apply w_neS2; rfl; rfl; rfl) | (apply w_maxL; rfl; rfl; rfl; omega) | (apply w_maxG; rfl; rfl; rfl; omega) | (apply w_max; rfl; rfl; rfl) | (apply w_neB; rfl; rfl; rfl; rfl) | (apply w_eqB; rfl; rfl; rfl; rfl) | refine spl ?_ ?_ | intro hc)
    all_goals
      refine At_ret1 (by (first | exact .inl rfl | exact .inr rfl)) Try.results21 rfl ⟨rfl, rfl⟩ (fun w hs => Sel.sat (by (focus ((repeat (first | exact Sel.refl | (apply Sel.cons; (focus ((repeat (first | exact Del.here | apply Del.there)); done))) | refine Sel.drop ?_)); done))) hs)
end Go.Proofs.Ytoddjdghjpdomaa
