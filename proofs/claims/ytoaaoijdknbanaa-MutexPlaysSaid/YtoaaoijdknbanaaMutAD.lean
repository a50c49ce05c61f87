/- MutexOne. Conditions: none. -/
import Derived.Test.YtoaaoijdknbanaaMutAC
set_option linter.all false
set_option linter.deprecated false
namespace Go.Proofs.Ytoaaoijdknbanaa
open Go.Sep
variable [B0 : Base]
theorem wt_at {M : List Lk} (h : WfM M) {i : Nat} {k : Lk} {x : Ky} (hk : M[i]? = some k) (hx : x ∈ k.q) : ∃ j, waitAt M x.id = some (i, j) := by
  cases hw : waitAt M x.id with
  | none => exact absurd rfl (waitAt_none.1 hw k (List.mem_of_getElem? hk) x hx)
  | some ij =>
    obtain ⟨i', j'⟩ := ij
    obtain ⟨k', x', hk', hx', hid, -, -⟩ := waitAt_some hw
    by_cases e : i' = i
    · subst e; exact ⟨j', rfl⟩
    · exfalso
      have hnd := (List.nodup_append.1 (h.nd hk)).2.2
      refine hnd x.id (List.mem_map.2 ⟨x, hx, rfl⟩) x.id (List.mem_map.2 ⟨x', ?_, hid⟩) rfl
      refine List.mem_flatMap.2 ⟨k', ?_, List.mem_of_getElem? hx'⟩
      exact List.mem_eraseIdx_iff_getElem?.2 ⟨i', e, hk'⟩
theorem owner_at {M : List Lk} {m : Nat} (hm : m < M.length) : ownerM M m = if (lkA M m).own = -1 then (0, 14) else ((lkA M m).own, 0) := by
  have : mayI M.length m 0 0 = 0 := mayI_0.2 ⟨by omega, by omega, by decide, by decide, by decide, by decide⟩
  unfold ownerM
  rw [if_neg (by simp [this])]; rfl
theorem waiters_at {M : List Lk} {m : Nat} (hm : m < M.length) : waitersM M m = (lkA M m).q := by
  unfold waitersM; rw [if_pos ⟨by omega, by omega⟩]; rfl
theorem flag_at {M : List Lk} {m : Nat} (hm : m < M.length) : flagM M m = ((lkA M m).flag, 0) := by
  have : mayI M.length m 0 0 = 0 := mayI_0.2 ⟨by omega, by omega, by decide, by decide, by decide, by decide⟩
  unfold flagM
  rw [if_neg (by simp [this])]; rfl
theorem waits_at {M : List Lk} (h : WfM M) {m : Nat} (hm : m < M.length) {x : Ky} (hx : x ∈ (lkA M m).q) : waitsM M x.id = ((m : Int), 0) := by
  have hk := h.keys _ (List.mem_of_getElem? (lk_some hm)) x hx
  have : mayI M.length 0 x.id 0 = 0 := mayI_0.2 ⟨by omega, by omega, by omega, by omega, by decide, by decide⟩
  obtain ⟨j, hj⟩ := wt_at h (lk_some hm) hx
  unfold waitsM
  rw [if_neg (by simp [this]), hj]
/-! ### How often one waits -/
def wcnt (L : List Int) : List Int := (List.range 64).map fun (j : Nat) => if (j : Int) ∈ L then 1 else 0
theorem wcnt_len (L : List Int) : (wcnt L).length = 64 := by unfold wcnt; simp
theorem wcnt_nil : wcnt [] = List.replicate 64 0 := by decide +kernel
theorem wcnt_get (L : List Int) {j : Nat} (h : j < 64) : (wcnt L)[j]? = some (if (j : Int) ∈ L then 1 else 0) := by
  unfold wcnt; rw [List.getElem?_map, List.getElem?_range h]; rfl
theorem wcnt_set (L : List Int) {j : Nat} (h : j < 64) : (wcnt L).set j 1 = wcnt (L ++ [(j : Int)]) := by
  apply List.ext_getElem?
  intro i
  rw [List.getElem?_set, wcnt_len]
  by_cases hi : i < 64
  · rw [wcnt_get _ hi, wcnt_get _ hi]
    by_cases e : j = i
    · subst e; simp [h]
    · have : ¬ (i : Int) = j := by omega
      simp [e, this]
  · have h1 : (wcnt L)[i]? = none := by rw [List.getElem?_eq_none_iff, wcnt_len]; omega
    have h2 : (wcnt (L ++ [(j : Int)]))[i]? = none := by rw [List.getElem?_eq_none_iff, wcnt_len]; omega
    rw [h1, h2]
    have : ¬ j = i := by omega
    simp [this]
def seenL (M : List Lk) (m i : Nat) : List Int := ((M.take m).flatMap (·.q) ++ (lkA M m).q.take i).map (·.id)
theorem seen_end {M : List Lk} {m : Nat} (hm : m < M.length) : seenL M m (lkA M m).q.length = seenL M (m + 1) 0 := by
  unfold seenL
  rw [List.take_length, List.take_add_one, lk_some hm, List.flatMap_append]; simp
theorem seen_succ {M : List Lk} {m i : Nat} (hi : i < (lkA M m).q.length) : seenL M m (i + 1) = seenL M m i ++ [(lkA M m).q[i].id] := by
  unfold seenL
  rw [List.take_add_one, List.getElem?_eq_getElem hi]
  simp only [List.map_append, List.append_assoc, List.map_cons, List.map_nil, Option.toList_some]
theorem seen_nodup {M : List Lk} (h : WfM M) {m : Nat} (hm : m < M.length) (i : Nat) : (seenL M m i).Nodup := by
  refine h.nodup.sublist (List.Sublist.map _ ?_)
  have e : (M.take m).flatMap (·.q) ++ (lkA M m).q = (M.take (m + 1)).flatMap (·.q) := by
    rw [List.take_add_one, lk_some hm, List.flatMap_append]; simp
  refine List.Sublist.trans ((List.Sublist.refl _).append (List.take_sublist i _)) ?_
  rw [e]
  conv => rhs; rw [← List.take_append_drop (m + 1) M, List.flatMap_append]
  exact List.sublist_append_left ..
theorem seen_new {M : List Lk} (h : WfM M) {m i : Nat} (hm : m < M.length) (hi : i < (lkA M m).q.length) : (lkA M m).q[i].id ∉ seenL M m i := by
  have := seen_nodup h hm (i + 1)
  rw [seen_succ hi] at this
  intro hc
  exact (List.nodup_append.1 this).2.2 _ hc _ (List.mem_singleton.2 rfl) rfl
theorem seen_0 (M : List Lk) : seenL M 0 0 = [] := by unfold seenL; simp
instance : ZeroOf Try.prog 41 ((List.replicate 64 (0 : Int)).map int) := ⟨by kernel_rfl⟩
attribute [local irreducible] wcnt seenL
set_option maxHeartbeats 16000000 in
theorem one_ok (v : Value) (ops : List OpT) (R : List HP) (h : OpsIn R v ops) : Called Try.prog 4 [v] R (is (.bool true) R) := by
  have hA := awake_ok
  by_cases h80 : ops.length ≤ 80
  · refine Fn1 Try.func4 rfl Try.ntmps4 rfl ?_
    (repeat' first | refine stp ?_ | intro v' hv' | intro (b : Nat) | (apply w_convU; rfl; rfl; omega; omega) | (apply w_convI; rfl; rfl; omega; omega) | (apply w_quoU; rfl; rfl; rfl; omega; omega; omega) | (apply w_remU; rfl; rfl; rfl; omega; omega) | (apply w_minL; rfl; rfl; rfl; omega) | (apply w_minG; rfl; rfl; rfl; omega) | (apply w_min; rfl; rfl; rfl) | (apply w_mfR; rfl; rfl) | (apply w_cvp; rfl; rfl; exact inferInstance; rfl; rfl; assumption) | (apply w_eqS2T; rfl; rfl; rfl; omega) | (apply w_eqS2F; rfl; rfl; rfl; omega) | (apply w_neS2T; rfl; rfl; rfl; omega) | (apply w_neS2F; rfl; rfl; rfl; omega) | (apply w_eqS3T; rfl; rfl; rfl; omega) | (apply w_eqS3F; rfl; rfl; rfl; omega) | (apply w_neS3T; rfl; rfl; rfl; omega) | (apply w_neS3F; rfl; rfl; rfl; omega) | (apply w_eqS3; rfl; rfl; rfl) | (apply w_neS3; rfl; rfl; rfl) | (apply w_eqS2; rfl; rfl; rfl) | (apply w_neS2; rfl; rfl; rfl) | (apply w_maxL; rfl; rfl; rfl; omega) | (apply w_maxG; rfl; rfl; rfl; omega) | (apply w_max; rfl; rfl; rfl) | (apply w_neB; rfl; rfl; rfl; rfl) | (apply w_eqB; rfl; rfl; rfl; rfl) | (apply w_ld0; rfl; rfl; ((focus ((repeat (first | exact hr1 _ | exact hr2 _ | apply Rd.there)); done)))) | (apply w_ld; rfl; rfl; ((focus ((repeat (first | exact hr1 _ | exact hr2 _ | apply Rd.there)); done)))) | (apply w_st; rfl; rfl; rfl; ((focus ((repeat (first | exact hs1 _ | apply St.there)); done))); ((exact kmf))) | refine spl ?_ ?_ | intro hc)
    apply w_cl; rfl; rfl; exact begun_ok v ops _ h h80
    exact ⟨_, _, 0, rfl, rfl⟩
    rintro _ _ ⟨bt, rfl, rfl⟩
    refine ⟨by (exact kmf), ?_⟩
    have hlen := run_len ops
    have hI := run_inv ops
    generalize runM ops = M at *
    have hwf := hI.wf
    (repeat' first | refine stp ?_ | intro v' hv' | intro (b : Nat) | (apply w_convU; rfl; rfl; omega; omega) | (apply w_convI; rfl; rfl; omega; omega) | (apply w_quoU; rfl; rfl; rfl; omega; omega; omega) | (apply w_remU; rfl; rfl; rfl; omega; omega) | (apply w_minL; rfl; rfl; rfl; omega) | (apply w_minG; rfl; rfl; rfl; omega) | (apply w_min; rfl; rfl; rfl) | (apply w_mfR; rfl; rfl) | (apply w_cvp; rfl; rfl; exact inferInstance; rfl; rfl; assumption) | (apply w_eqS2T; rfl; rfl; rfl; omega) | (apply w_eqS2F; rfl; rfl; rfl; omega) | (apply w_neS2T; rfl; rfl; rfl; omega) | (apply w_neS2F; rfl; rfl; rfl; omega) | (apply w_eqS3T; rfl; rfl; rfl; omega) | (apply w_eqS3F; rfl; rfl; rfl; omega) | (apply w_neS3T; rfl; rfl; rfl; omega) | (apply w_neS3F; rfl; rfl; rfl; omega) | (apply w_eqS3; rfl; rfl; rfl) | (apply w_neS3; rfl; rfl; rfl) | (apply w_eqS2; rfl; rfl; rfl) | (apply w_neS2; rfl; rfl; rfl) | (apply w_maxL; rfl; rfl; rfl; omega) | (apply w_maxG; rfl; rfl; rfl; omega) | (apply w_max; rfl; rfl; rfl) | (apply w_neB; rfl; rfl; rfl; rfl) | (apply w_eqB; rfl; rfl; rfl; rfl) | (apply w_ld0; rfl; rfl; ((focus ((repeat (first | exact hr1 _ | exact hr2 _ | apply Rd.there)); done)))) | (apply w_ld; rfl; rfl; ((focus ((repeat (first | exact hr1 _ | exact hr2 _ | apply Rd.there)); done)))) | (apply w_st; rfl; rfl; rfl; ((focus ((repeat (first | exact hs1 _ | apply St.there)); done))); ((exact kmf))) | refine spl ?_ ?_ | intro hc)
    obtain ⟨b5, hb5⟩ : ∃ r, r = b := ⟨_, rfl⟩
    subst hb5
    refine C_loopK (α := Nat) [2, 5, 6, 7, 8, 9, 10, 11, 12, 13, 14, 15, 24, 25, 26, 27, 28, 29, 30, 31, 32, 33, 34, 35, 36, 37, 38, 39, 40, 41, 42, 43, 44, 45, 46, 47, 48, 49, 50, 51, 52, 53, 54, 55, 56, 57, 58, 59, 60, 61, 62, 63, 64, 65, 66, 67, 68, 69, 70, 71, 72, 73, 74, 75, 76, 77, 78, 79, 80, 81, 82, 83, 84, 85, 86, 87, 88, 89, 90, 91, 92, 93, 94, 95, 96, 97, 98, 99, 100, 101, 102, 103, 104, 105, 106, 107, 108, 109, 110, 111, 112, 113, 114, 115, 116, 117, 118, 119, 120, 121, 122, 123, 124, 125, 126, 127, 128, 129, 130, 131, 132, 133, 134, 135, 136, 137, 138, 139, 140, 141, 142, 143, 144, 145, 146, 147, 148, 149, 150, 151, 152, 153, 154, 155, 156, 157, 158] (fun x => 4 - x) (fun x => [(5, int x)]) (fun x => pt b5 41 ((wcnt (seenL M x 0)).map int) :: mtb bt M :: R) (fun x => x ≤ 4) 0 (Nat.zero_le _) (by (focus ((repeat (first | exact Keep.nil | apply Keep.drop rfl | apply Keep.keep rfl)); done))) (by (exact sbf)) (fun w hs => by rw [seen_0, wcnt_nil]; exact Sel.sat (by (focus ((repeat (first | exact Sel.refl | (apply Sel.cons; (focus ((repeat (first | exact Del.here | apply Del.there)); done))) | refine Sel.drop ?_)); done))) hs) ?_
    rintro m hm
    dsimp only [List.cons_append, List.nil_append] at *
    by_cases hlt : m < 4
    · have hmM : m < M.length := by omega
      have hL := hI.lk hmM
      have hwo := hwf.own _ (List.mem_of_getElem? (lk_some hmM))
      have hky := hwf.keys _ (List.mem_of_getElem? (lk_some hmM))
      have hO := Owner_ok bt M m
      have ow := owner_at hmM
      have wq := waiters_at hmM
      have hq64 := hwf.q64 (List.mem_of_getElem? (lk_some hmM))
      have a0 : (0 : Int) ≤ m := by omega
      have a1 : (m : Int) < M.length := by omega
      have hse := seen_end hmM
      obtain ⟨v0, hv0⟩ := IsSl.any (N := (waitersM M m).length) (by rw [wq]; omega)
      by_cases hown : (lkA M m).own = -1
      · have hq : (lkA M m).q = [] := by
          cases hq : (lkA M m).q with
          | nil => rfl
          | cons x q => exact absurd hown (hL.own (by rw [hq]; simp))
        rw [if_pos hown] at ow
        rw [ow] at hO
        rw [hq] at hse
        (repeat' first | refine stp ?_ | intro v' hv' | intro (b : Nat) | (apply w_convU; rfl; rfl; omega; omega) | (apply w_convI; rfl; rfl; omega; omega) | (apply w_quoU; rfl; rfl; rfl; omega; omega; omega) | (apply w_remU; rfl; rfl; rfl; omega; omega) | (apply w_minL; rfl; rfl; rfl; omega) | (apply w_minG; rfl; rfl; rfl; omega) | (apply w_min; rfl; rfl; rfl) | (apply w_mfR; rfl; rfl) | (apply w_cvp; rfl; rfl; exact inferInstance; rfl; rfl; assumption) | (apply w_eqS2T; rfl; rfl; rfl; omega) | (apply w_eqS2F; rfl; rfl; rfl; omega) | (apply w_neS2T; rfl; rfl; rfl; omega) | (apply w_neS2F; rfl; rfl; rfl; omega) | (apply w_eqS3T; rfl; rfl; rfl; omega) | (apply w_eqS3F; rfl; rfl; rfl; omega) | (apply w_neS3T; rfl; rfl; rfl; omega) | (apply w_neS3F; rfl; rfl; rfl; omega) | (apply w_eqS3; rfl; rfl; rfl) | (apply w_neS3; rfl; rfl; rfl) | (apply w_eqS2; rfl; rfl; rfl) | (apply w_neS2; rfl; rfl; rfl) | (apply w_maxL; rfl; rfl; rfl; omega) | (apply w_maxG; rfl; rfl; rfl; omega) | (apply w_max; rfl; rfl; rfl) | (apply w_neB; rfl; rfl; rfl; rfl) | (apply w_eqB; rfl; rfl; rfl; rfl) | (apply w_ld0; rfl; rfl; ((focus ((repeat (first | exact hr1 _ | exact hr2 _ | apply Rd.there)); done)))) | (apply w_ld; rfl; rfl; ((focus ((repeat (first | exact hr1 _ | exact hr2 _ | apply Rd.there)); done)))) | (apply w_st; rfl; rfl; rfl; ((focus ((repeat (first | exact hs1 _ | apply St.there)); done))); ((exact kmf))) | refine spl ?_ ?_ | intro hc)
        apply w_cl
        rfl
        rfl
        exact Called.del1 (A := mtb bt M) (by (focus ((repeat (first | exact Del.here | apply Del.there)); done))) (keys_ok bt M m a0 a1 _)
        exact ⟨_, _, v0, rfl, hv0, rfl⟩
        rintro _ _ ⟨v1, rfl, hv1, rfl⟩
        refine ⟨by (exact kmf), ?_⟩
        rw [wq, hq] at hv1 ⊢
        (repeat' first | refine stp ?_ | intro v' hv' | intro (b : Nat) | (apply w_convU; rfl; rfl; omega; omega) | (apply w_convI; rfl; rfl; omega; omega) | (apply w_quoU; rfl; rfl; rfl; omega; omega; omega) | (apply w_remU; rfl; rfl; rfl; omega; omega) | (apply w_minL; rfl; rfl; rfl; omega) | (apply w_minG; rfl; rfl; rfl; omega) | (apply w_min; rfl; rfl; rfl) | (apply w_mfR; rfl; rfl) | (apply w_cvp; rfl; rfl; exact inferInstance; rfl; rfl; assumption) | (apply w_eqS2T; rfl; rfl; rfl; omega) | (apply w_eqS2F; rfl; rfl; rfl; omega) | (apply w_neS2T; rfl; rfl; rfl; omega) | (apply w_neS2F; rfl; rfl; rfl; omega) | (apply w_eqS3T; rfl; rfl; rfl; omega) | (apply w_eqS3F; rfl; rfl; rfl; omega) | (apply w_neS3T; rfl; rfl; rfl; omega) | (apply w_neS3F; rfl; rfl; rfl; omega) | (apply w_eqS3; rfl; rfl; rfl) | (apply w_neS3; rfl; rfl; rfl) | (apply w_eqS2; rfl; rfl; rfl) | (apply w_neS2; rfl; rfl; rfl) | (apply w_maxL; rfl; rfl; rfl; omega) | (apply w_maxG; rfl; rfl; rfl; omega) | (apply w_max; rfl; rfl; rfl) | (apply w_neB; rfl; rfl; rfl; rfl) | (apply w_eqB; rfl; rfl; rfl; rfl) | (apply w_ld0; rfl; rfl; ((focus ((repeat (first | exact hr1 _ | exact hr2 _ | apply Rd.there)); done)))) | (apply w_ld; rfl; rfl; ((focus ((repeat (first | exact hr1 _ | exact hr2 _ | apply Rd.there)); done)))) | (apply w_st; rfl; rfl; rfl; ((focus ((repeat (first | exact hs1 _ | apply St.there)); done))); ((exact kmf))) | refine spl ?_ ?_ | intro hc)
        refine C_loopK (α := Nat) [2, 10, 11, 12, 51, 52, 53, 54, 55, 56, 57, 58, 59, 60, 61, 62, 63, 64, 65, 66, 67, 68, 69, 70, 71, 72, 73, 74, 75, 76, 77, 78, 79, 80, 81, 82, 83, 84, 85, 86, 87, 88, 89, 90, 91, 92, 93, 94, 95, 96, 97, 98, 99, 100, 101, 102, 103, 104, 105, 106, 107, 108, 109, 110, 111, 112, 113, 114, 115, 116, 117, 118, 119, 120, 121, 122, 123, 124, 125, 126, 127, 128, 129, 130, 131, 132, 133, 134, 135, 136] (fun x => 0 - x) (fun x => [(10, int x)]) (fun x => sl 46 2 v1 (([] : List Ky).map kyE) :: pt b5 41 ((wcnt (seenL M m 0)).map int) :: mtb bt M :: R) (fun x => x = 0) 0 rfl (by (focus ((repeat (first | exact Keep.nil | apply Keep.drop rfl | apply Keep.keep rfl)); done))) (by (exact sbf)) (fun w hs => Sel.sat (by (focus ((repeat (first | exact Sel.refl | (apply Sel.cons; (focus ((repeat (first | exact Del.here | apply Del.there)); done))) | refine Sel.drop ?_)); done))) hs) ?_
        rintro i rfl
        dsimp only [List.cons_append, List.nil_append] at *
        have hv1' : IsSl v1 0 := hv1
        (repeat' first | refine stp ?_ | intro v' hv' | intro (b : Nat) | (apply w_convU; rfl; rfl; omega; omega) | (apply w_convI; rfl; rfl; omega; omega) | (apply w_quoU; rfl; rfl; rfl; omega; omega; omega) | (apply w_remU; rfl; rfl; rfl; omega; omega) | (apply w_minL; rfl; rfl; rfl; omega) | (apply w_minG; rfl; rfl; rfl; omega) | (apply w_min; rfl; rfl; rfl) | (apply w_mfR; rfl; rfl) | (apply w_cvp; rfl; rfl; exact inferInstance; rfl; rfl; assumption) | (apply w_eqS2T; rfl; rfl; rfl; omega) | (apply w_eqS2F; rfl; rfl; rfl; omega) | (apply w_neS2T; rfl; rfl; rfl; omega) | (apply w_neS2F; rfl; rfl; rfl; omega) | (apply w_eqS3T; rfl; rfl; rfl; omega) | (apply w_eqS3F; rfl; rfl; rfl; omega) | (apply w_neS3T; rfl; rfl; rfl; omega) | (apply w_neS3F; rfl; rfl; rfl; omega) | (apply w_eqS3; rfl; rfl; rfl) | (apply w_neS3; rfl; rfl; rfl) | (apply w_eqS2; rfl; rfl; rfl) | (apply w_neS2; rfl; rfl; rfl) | (apply w_maxL; rfl; rfl; rfl; omega) | (apply w_maxG; rfl; rfl; rfl; omega) | (apply w_max; rfl; rfl; rfl) | (apply w_neB; rfl; rfl; rfl; rfl) | (apply w_eqB; rfl; rfl; rfl; rfl) | (apply w_ld0; rfl; rfl; ((focus ((repeat (first | exact hr1 _ | exact hr2 _ | apply Rd.there)); done)))) | (apply w_ld; rfl; rfl; ((focus ((repeat (first | exact hr1 _ | exact hr2 _ | apply Rd.there)); done)))) | (apply w_st; rfl; rfl; rfl; ((focus ((repeat (first | exact hs1 _ | apply St.there)); done))); ((exact kmf))) | refine spl ?_ ?_ | intro hc)
        refine At_againK (m + 1) hlt (by omega) (by (exact sbf)) (by (exact sbf)) (fun w hs => ?_)
        rw [← hse]
        exact Sel.sat (by (focus ((repeat (first | exact Sel.refl | (apply Sel.cons; (focus ((repeat (first | exact Del.here | apply Del.there)); done))) | refine Sel.drop ?_)); done))) hs
      · rw [if_neg hown] at ow
        rw [ow] at hO
        (repeat' first | refine stp ?_ | intro v' hv' | intro (b : Nat) | (apply w_convU; rfl; rfl; omega; omega) | (apply w_convI; rfl; rfl; omega; omega) | (apply w_quoU; rfl; rfl; rfl; omega; omega; omega) | (apply w_remU; rfl; rfl; rfl; omega; omega) | (apply w_minL; rfl; rfl; rfl; omega) | (apply w_minG; rfl; rfl; rfl; omega) | (apply w_min; rfl; rfl; rfl) | (apply w_mfR; rfl; rfl) | (apply w_cvp; rfl; rfl; exact inferInstance; rfl; rfl; assumption) | (apply w_eqS2T; rfl; rfl; rfl; omega) | (apply w_eqS2F; rfl; rfl; rfl; omega) | (apply w_neS2T; rfl; rfl; rfl; omega) | (apply w_neS2F; rfl; rfl; rfl; omega) | (apply w_eqS3T; rfl; rfl; rfl; omega) | (apply w_eqS3F; rfl; rfl; rfl; omega) | (apply w_neS3T; rfl; rfl; rfl; omega) | (apply w_neS3F; rfl; rfl; rfl; omega) | (apply w_eqS3; rfl; rfl; rfl) | (apply w_neS3; rfl; rfl; rfl) | (apply w_eqS2; rfl; rfl; rfl) | (apply w_neS2; rfl; rfl; rfl) | (apply w_maxL; rfl; rfl; rfl; omega) | (apply w_maxG; rfl; rfl; rfl; omega) | (apply w_max; rfl; rfl; rfl) | (apply w_neB; rfl; rfl; rfl; rfl) | (apply w_eqB; rfl; rfl; rfl; rfl) | (apply w_ld0; rfl; rfl; ((focus ((repeat (first | exact hr1 _ | exact hr2 _ | apply Rd.there)); done)))) | (apply w_ld; rfl; rfl; ((focus ((repeat (first | exact hr1 _ | exact hr2 _ | apply Rd.there)); done)))) | (apply w_st; rfl; rfl; rfl; ((focus ((repeat (first | exact hs1 _ | apply St.there)); done))); ((exact kmf))) | refine spl ?_ ?_ | intro hc)
        apply w_cl
        rfl
        rfl
        exact Called.del1 (A := mtb bt M) (by (focus ((repeat (first | exact Del.here | apply Del.there)); done))) (keys_ok bt M m a0 a1 _)
        exact ⟨_, _, v0, rfl, hv0, rfl⟩
        rintro _ _ ⟨v1, rfl, hv1, rfl⟩
        refine ⟨by (exact kmf), ?_⟩
        rw [wq] at hv1 ⊢
        (repeat' first | refine stp ?_ | intro v' hv' | intro (b : Nat) | (apply w_convU; rfl; rfl; omega; omega) | (apply w_convI; rfl; rfl; omega; omega) | (apply w_quoU; rfl; rfl; rfl; omega; omega; omega) | (apply w_remU; rfl; rfl; rfl; omega; omega) | (apply w_minL; rfl; rfl; rfl; omega) | (apply w_minG; rfl; rfl; rfl; omega) | (apply w_min; rfl; rfl; rfl) | (apply w_mfR; rfl; rfl) | (apply w_cvp; rfl; rfl; exact inferInstance; rfl; rfl; assumption) | (apply w_eqS2T; rfl; rfl; rfl; omega) | (apply w_eqS2F; rfl; rfl; rfl; omega) | (apply w_neS2T; rfl; rfl; rfl; omega) | (apply w_neS2F; rfl; rfl; rfl; omega) | (apply w_eqS3T; rfl; rfl; rfl; omega) | (apply w_eqS3F; rfl; rfl; rfl; omega) | (apply w_neS3T; rfl; rfl; rfl; omega) | (apply w_neS3F; rfl; rfl; rfl; omega) | (apply w_eqS3; rfl; rfl; rfl) | (apply w_neS3; rfl; rfl; rfl) | (apply w_eqS2; rfl; rfl; rfl) | (apply w_neS2; rfl; rfl; rfl) | (apply w_maxL; rfl; rfl; rfl; omega) | (apply w_maxG; rfl; rfl; rfl; omega) | (apply w_max; rfl; rfl; rfl) | (apply w_neB; rfl; rfl; rfl; rfl) | (apply w_eqB; rfl; rfl; rfl; rfl) | (apply w_ld0; rfl; rfl; ((focus ((repeat (first | exact hr1 _ | exact hr2 _ | apply Rd.there)); done)))) | (apply w_ld; rfl; rfl; ((focus ((repeat (first | exact hr1 _ | exact hr2 _ | apply Rd.there)); done)))) | (apply w_st; rfl; rfl; rfl; ((focus ((repeat (first | exact hs1 _ | apply St.there)); done))); ((exact kmf))) | refine spl ?_ ?_ | intro hc)
        all_goals
          clear hc
          refine C_loopK (α := Nat) [2, 10, 11, 12, 51, 52, 53, 54, 55, 56, 57, 58, 59, 60, 61, 62, 63, 64, 65, 66, 67, 68, 69, 70, 71, 72, 73, 74, 75, 76, 77, 78, 79, 80, 81, 82, 83, 84, 85, 86, 87, 88, 89, 90, 91, 92, 93, 94, 95, 96, 97, 98, 99, 100, 101, 102, 103, 104, 105, 106, 107, 108, 109, 110, 111, 112, 113, 114, 115, 116, 117, 118, 119, 120, 121, 122, 123, 124, 125, 126, 127, 128, 129, 130, 131, 132, 133, 134, 135, 136] (fun x => (lkA M m).q.length - x) (fun x => [(10, int x)]) (fun x => sl 46 2 v1 ((lkA M m).q.map kyE) :: pt b5 41 ((wcnt (seenL M m x)).map int) :: mtb bt M :: R) (fun x => x ≤ (lkA M m).q.length) 0 (Nat.zero_le _) (by (focus ((repeat (first | exact Keep.nil | apply Keep.drop rfl | apply Keep.keep rfl)); done))) (by (exact sbf)) (fun w hs => Sel.sat (by (focus ((repeat (first | exact Sel.refl | (apply Sel.cons; (focus ((repeat (first | exact Del.here | apply Del.there)); done))) | refine Sel.drop ?_)); done))) hs) ?_
          rintro i hi
          dsimp only [List.cons_append, List.nil_append] at *
          by_cases hli : i < (lkA M m).q.length
          · have hx : (lkA M m).q[i]? = some (lkA M m).q[i] := by simp [hli]
            have hxm := List.mem_of_getElem? hx
            have hpe : ((lkA M m).q.map kyE)[i]? = some [int (lkA M m).q[i].at', int (lkA M m).q[i].id] := by rw [List.getElem?_map, hx]; rfl
            have hb := hky _ hxm
            have hne := hL.ne _ hxm
            have hWt := Waits_ok bt M (lkA M m).q[i].id
            rw [waits_at hwf hmM hxm] at hWt
            have hnew := seen_new hwf hmM hli
            have hsu := seen_succ hli
            have hbef : 0 < i → ∃ a id, ((lkA M m).q.map kyE)[((i : Int) - 1).toNat]? = some [int a, int id] ∧ ∀ R, Called Try.prog 20 [.agg #[int a, int id], .agg #[int (lkA M m).q[i].at', int (lkA M m).q[i].id]] R (is (.bool true) R) := fun hi0 => by
              have hj : i - 1 < (lkA M m).q.length := by omega
              have hj2 : (lkA M m).q[i - 1]? = some (lkA M m).q[i - 1] := by simp [hj]
              refine ⟨(lkA M m).q[i - 1].at', (lkA M m).q[i - 1].id, ?_, fun R => ?_⟩
              · rw [show ((i : Int) - 1).toNat = i - 1 by omega, List.getElem?_map, hj2]; rfl
              · have := Before_ok (lkA M m).q[i - 1] (lkA M m).q[i] R
                rw [List.pairwise_iff_getElem.1 hL.srt (i - 1) i hj hli (by omega)] at this
                exact this
            generalize (lkA M m).q[i] = x at *
            obtain ⟨at', id⟩ := x
            dsimp only at *
            obtain ⟨jd, rfl⟩ := Int.eq_ofNat_of_zero_le hb.1
            have hjd : jd < 64 := by omega
            have hr1 : ∀ L, Rd (pt b5 41 ((wcnt (seenL M m i)).map int) :: L) ⟨b5, 0 + jd * 1, none⟩ (int 0) := fun L => Rd.pt (by rw [show 0 + jd * 1 = jd by omega, List.getElem?_map, wcnt_get _ hjd, if_neg hnew]; rfl)
            have hs1 : ∀ L, St (pt b5 41 ((wcnt (seenL M m i)).map int) :: L) ⟨b5, 0 + jd * 1, none⟩ (int 1) (pt b5 41 ((wcnt (seenL M m (i + 1))).map int) :: L) := fun L => by
              rw [hsu, ← wcnt_set _ hjd, List.map_set, show 0 + jd * 1 = jd by omega]
              exact St.pt' (by rw [Nat.blt_eq, List.length_map, wcnt_len]; exact hjd) rfl
            have hr2 : ∀ L, Rd (pt b5 41 ((wcnt (seenL M m (i + 1))).map int) :: L) ⟨b5, 0 + jd * 1, none⟩ (int 1) := fun L => Rd.pt (by rw [show 0 + jd * 1 = jd by omega, List.getElem?_map, wcnt_get _ hjd, hsu, if_pos (by simp)]; rfl)
            by_cases hi0 : 0 < i
            · obtain ⟨pa, pi, hpp, hBe⟩ := hbef hi0
              clear hbef
              (repeat' first | refine stp ?_ | intro v' hv' | intro (b : Nat) | (apply w_convU; rfl; rfl; omega; omega) | (apply w_convI; rfl; rfl; omega; omega) | (apply w_quoU; rfl; rfl; rfl; omega; omega; omega) | (apply w_remU; rfl; rfl; rfl; omega; omega) | (apply w_minL; rfl; rfl; rfl; omega) | (apply w_minG; rfl; rfl; rfl; omega) | (apply w_min; rfl; rfl; rfl) | (apply w_mfR; rfl; rfl) | (apply w_cvp; rfl; rfl; exact inferInstance; rfl; rfl; assumption) | (apply w_eqS2T; rfl; rfl; rfl; omega) | (apply w_eqS2F; rfl; rfl; rfl; omega) | (apply w_neS2T; rfl; rfl; rfl; omega) | (apply w_neS2F; rfl; rfl; rfl; omega) | (apply w_eqS3T; rfl; rfl; rfl; omega) | (apply w_eqS3F; rfl; rfl; rfl; omega) | (apply w_neS3T; rfl; rfl; rfl; omega) | (apply w_neS3F; rfl; rfl; rfl; omega) | (apply w_eqS3; rfl; rfl; rfl) | (apply w_neS3; rfl; rfl; rfl) | (apply w_eqS2; rfl; rfl; rfl) | (apply w_neS2; rfl; rfl; rfl) | (apply w_maxL; rfl; rfl; rfl; omega) | (apply w_maxG; rfl; rfl; rfl; omega) | (apply w_max; rfl; rfl; rfl) | (apply w_neB; rfl; rfl; rfl; rfl) | (apply w_eqB; rfl; rfl; rfl; rfl) | (apply w_ld0; rfl; rfl; ((focus ((repeat (first | exact hr1 _ | exact hr2 _ | apply Rd.there)); done)))) | (apply w_ld; rfl; rfl; ((focus ((repeat (first | exact hr1 _ | exact hr2 _ | apply Rd.there)); done)))) | (apply w_st; rfl; rfl; rfl; ((focus ((repeat (first | exact hs1 _ | apply St.there)); done))); ((exact kmf))) | refine spl ?_ ?_ | intro hc)
              exact At_againK (i + 1) hli (by omega) (by (exact sbf)) (by (exact sbf)) (by (exact frm))
            · clear hbef
              (repeat' first | refine stp ?_ | intro v' hv' | intro (b : Nat) | (apply w_convU; rfl; rfl; omega; omega) | (apply w_convI; rfl; rfl; omega; omega) | (apply w_quoU; rfl; rfl; rfl; omega; omega; omega) | (apply w_remU; rfl; rfl; rfl; omega; omega) | (apply w_minL; rfl; rfl; rfl; omega) | (apply w_minG; rfl; rfl; rfl; omega) | (apply w_min; rfl; rfl; rfl) | (apply w_mfR; rfl; rfl) | (apply w_cvp; rfl; rfl; exact inferInstance; rfl; rfl; assumption) | (apply w_eqS2T; rfl; rfl; rfl; omega) | (apply w_eqS2F; rfl; rfl; rfl; omega) | (apply w_neS2T; rfl; rfl; rfl; omega) | (apply w_neS2F; rfl; rfl; rfl; omega) | (apply w_eqS3T; rfl; rfl; rfl; omega) | (apply w_eqS3F; rfl; rfl; rfl; omega) | (apply w_neS3T; rfl; rfl; rfl; omega) | (apply w_neS3F; rfl; rfl; rfl; omega) | (apply w_eqS3; rfl; rfl; rfl) | (apply w_neS3; rfl; rfl; rfl) | (apply w_eqS2; rfl; rfl; rfl) | (apply w_neS2; rfl; rfl; rfl) | (apply w_maxL; rfl; rfl; rfl; omega) | (apply w_maxG; rfl; rfl; rfl; omega) | (apply w_max; rfl; rfl; rfl) | (apply w_neB; rfl; rfl; rfl; rfl) | (apply w_eqB; rfl; rfl; rfl; rfl) | (apply w_ld0; rfl; rfl; ((focus ((repeat (first | exact hr1 _ | exact hr2 _ | apply Rd.there)); done)))) | (apply w_ld; rfl; rfl; ((focus ((repeat (first | exact hr1 _ | exact hr2 _ | apply Rd.there)); done)))) | (apply w_st; rfl; rfl; rfl; ((focus ((repeat (first | exact hs1 _ | apply St.there)); done))); ((exact kmf))) | refine spl ?_ ?_ | intro hc)
              exact At_againK (i + 1) hli (by omega) (by (exact sbf)) (by (exact sbf)) (by (exact frm))
          · obtain rfl : i = (lkA M m).q.length := by omega
            have hHe := Held_ok bt M (lkA M m).own
            unfold heldM at hHe
            rw [if_pos ⟨by omega, by omega⟩] at hHe
            have hmem : m ∈ heldN M (lkA M m).own := heldN_mem.2 ⟨hmM, rfl⟩
            have hhl : (heldN M (lkA M m).own).length ≤ M.length := heldK_len M _ M.length
            generalize heldN M (lkA M m).own = hh at *
            (repeat' first | refine stp ?_ | intro v' hv' | intro (b : Nat) | (apply w_convU; rfl; rfl; omega; omega) | (apply w_convI; rfl; rfl; omega; omega) | (apply w_quoU; rfl; rfl; rfl; omega; omega; omega) | (apply w_remU; rfl; rfl; rfl; omega; omega) | (apply w_minL; rfl; rfl; rfl; omega) | (apply w_minG; rfl; rfl; rfl; omega) | (apply w_min; rfl; rfl; rfl) | (apply w_mfR; rfl; rfl) | (apply w_cvp; rfl; rfl; exact inferInstance; rfl; rfl; assumption) | (apply w_eqS2T; rfl; rfl; rfl; omega) | (apply w_eqS2F; rfl; rfl; rfl; omega) | (apply w_neS2T; rfl; rfl; rfl; omega) | (apply w_neS2F; rfl; rfl; rfl; omega) | (apply w_eqS3T; rfl; rfl; rfl; omega) | (apply w_eqS3F; rfl; rfl; rfl; omega) | (apply w_neS3T; rfl; rfl; rfl; omega) | (apply w_neS3F; rfl; rfl; rfl; omega) | (apply w_eqS3; rfl; rfl; rfl) | (apply w_neS3; rfl; rfl; rfl) | (apply w_eqS2; rfl; rfl; rfl) | (apply w_neS2; rfl; rfl; rfl) | (apply w_maxL; rfl; rfl; rfl; omega) | (apply w_maxG; rfl; rfl; rfl; omega) | (apply w_max; rfl; rfl; rfl) | (apply w_neB; rfl; rfl; rfl; rfl) | (apply w_eqB; rfl; rfl; rfl; rfl) | (apply w_ld0; rfl; rfl; ((focus ((repeat (first | exact hr1 _ | exact hr2 _ | apply Rd.there)); done)))) | (apply w_ld; rfl; rfl; ((focus ((repeat (first | exact hr1 _ | exact hr2 _ | apply Rd.there)); done)))) | (apply w_st; rfl; rfl; rfl; ((focus ((repeat (first | exact hs1 _ | apply St.there)); done))); ((exact kmf))) | refine spl ?_ ?_ | intro hc)
            obtain ⟨v5, hv5⟩ : ∃ r, r = v' := ⟨_, rfl⟩
            subst hv5
            refine C_loopK (α := Nat) [14, 15, 142, 143, 144, 145, 146, 147, 148, 149, 150, 151, 152, 153, 154, 155, 156] (fun x => hh.length - x) (fun x => [(15, int x), (14, .bool (decide (m ∈ hh.take x)))]) (fun x => sl 3 1 v5 (hh.map niE) :: pt b5 41 ((wcnt (seenL M m (lkA M m).q.length)).map int) :: mtb bt M :: R) (fun x => x ≤ hh.length) 0 (Nat.zero_le _) (by (focus ((repeat (first | exact Keep.nil | apply Keep.drop rfl | apply Keep.keep rfl)); done))) (by (exact sbf)) (fun w hs => Sel.sat (by (focus ((repeat (first | exact Sel.refl | (apply Sel.cons; (focus ((repeat (first | exact Del.here | apply Del.there)); done))) | refine Sel.drop ?_)); done))) hs) ?_
            rintro k hk
            dsimp only [List.cons_append, List.nil_append] at *
            by_cases hlk : k < hh.length
            · have hx : hh[k]? = some hh[k] := by simp [hlk]
              have hpe : (hh.map niE)[k]? = some [int (hh[k] : Int)] := by rw [List.getElem?_map, hx]; rfl
              have htk : hh.take (k + 1) = hh.take k ++ [hh[k]] := by rw [List.take_add_one, hx]; rfl
              by_cases hin : m ∈ hh.take k
              · have hin2 : m ∈ hh.take (k + 1) := by rw [htk]; exact List.mem_append_left _ hin
                rw [decide_eq_true hin]
                (repeat' first | refine stp ?_ | intro v' hv' | intro (b : Nat) | (apply w_convU; rfl; rfl; omega; omega) | (apply w_convI; rfl; rfl; omega; omega) | (apply w_quoU; rfl; rfl; rfl; omega; omega; omega) | (apply w_remU; rfl; rfl; rfl; omega; omega) | (apply w_minL; rfl; rfl; rfl; omega) | (apply w_minG; rfl; rfl; rfl; omega) | (apply w_min; rfl; rfl; rfl) | (apply w_mfR; rfl; rfl) | (apply w_cvp; rfl; rfl; exact inferInstance; rfl; rfl; assumption) | (apply w_eqS2T; rfl; rfl; rfl; omega) | (apply w_eqS2F; rfl; rfl; rfl; omega) | (apply w_neS2T; rfl; rfl; rfl; omega) | (apply w_neS2F; rfl; rfl; rfl; omega) | (apply w_eqS3T; rfl; rfl; rfl; omega) | (apply w_eqS3F; rfl; rfl; rfl; omega) | (apply w_neS3T; rfl; rfl; rfl; omega) | (apply w_neS3F; rfl; rfl; rfl; omega) | (apply w_eqS3; rfl; rfl; rfl) | (apply w_neS3; rfl; rfl; rfl) | (apply w_eqS2; rfl; rfl; rfl) | (apply w_neS2; rfl; rfl; rfl) | (apply w_maxL; rfl; rfl; rfl; omega) | (apply w_maxG; rfl; rfl; rfl; omega) | (apply w_max; rfl; rfl; rfl) | (apply w_neB; rfl; rfl; rfl; rfl) | (apply w_eqB; rfl; rfl; rfl; rfl) | (apply w_ld0; rfl; rfl; ((focus ((repeat (first | exact hr1 _ | exact hr2 _ | apply Rd.there)); done)))) | (apply w_ld; rfl; rfl; ((focus ((repeat (first | exact hr1 _ | exact hr2 _ | apply Rd.there)); done)))) | (apply w_st; rfl; rfl; rfl; ((focus ((repeat (first | exact hs1 _ | apply St.there)); done))); ((exact kmf))) | refine spl ?_ ?_ | intro hc)
                exact At_againK (k + 1) hlk (by omega) (by rw [decide_eq_true hin2]; (exact sbf)) (by (exact sbf)) (by (exact frm))
              · rw [decide_eq_false hin]
                by_cases he : hh[k] = m
                · have hin2 : m ∈ hh.take (k + 1) := by rw [htk]; exact List.mem_append_right _ (by simp [he])
                  (repeat' first | refine stp ?_ | intro v' hv' | intro (b : Nat) | (apply w_convU; rfl; rfl; omega; omega) | (apply w_convI; rfl; rfl; omega; omega) | (apply w_quoU; rfl; rfl; rfl; omega; omega; omega) | (apply w_remU; rfl; rfl; rfl; omega; omega) | (apply w_minL; rfl; rfl; rfl; omega) | (apply w_minG; rfl; rfl; rfl; omega) | (apply w_min; rfl; rfl; rfl) | (apply w_mfR; rfl; rfl) | (apply w_cvp; rfl; rfl; exact inferInstance; rfl; rfl; assumption) | (apply w_eqS2T; rfl; rfl; rfl; omega) | (apply w_eqS2F; rfl; rfl; rfl; omega) | (apply w_neS2T; rfl; rfl; rfl; omega) | (apply w_neS2F; rfl; rfl; rfl; omega) | (apply w_eqS3T; rfl; rfl; rfl; omega) | (apply w_eqS3F; rfl; rfl; rfl; omega) | (apply w_neS3T; rfl; rfl; rfl; omega) | (apply w_neS3F; rfl; rfl; rfl; omega) | (apply w_eqS3; rfl; rfl; rfl) | (apply w_neS3; rfl; rfl; rfl) | (apply w_eqS2; rfl; rfl; rfl) | (apply w_neS2; rfl; rfl; rfl) | (apply w_maxL; rfl; rfl; rfl; omega) | (apply w_maxG; rfl; rfl; rfl; omega) | (apply w_max; rfl; rfl; rfl) | (apply w_neB; rfl; rfl; rfl; rfl) | (apply w_eqB; rfl; rfl; rfl; rfl) | (apply w_ld0; rfl; rfl; ((focus ((repeat (first | exact hr1 _ | exact hr2 _ | apply Rd.there)); done)))) | (apply w_ld; rfl; rfl; ((focus ((repeat (first | exact hr1 _ | exact hr2 _ | apply Rd.there)); done)))) | (apply w_st; rfl; rfl; rfl; ((focus ((repeat (first | exact hs1 _ | apply St.there)); done))); ((exact kmf))) | refine spl ?_ ?_ | intro hc)
                  exact At_againK (k + 1) hlk (by omega) (by rw [decide_eq_true hin2]; (exact sbf)) (by (exact sbf)) (by (exact frm))
                · have hin2 : m ∉ hh.take (k + 1) := by rw [htk]; intro hc; rcases List.mem_append.1 hc with hc | hc; exact hin hc; exact he (List.mem_singleton.1 hc).symm
                  (repeat' first | refine stp ?_ | intro v' hv' | intro (b : Nat) | (apply w_convU; rfl; rfl; omega; omega) | (apply w_convI; rfl; rfl; omega; omega) | (apply w_quoU; rfl; rfl; rfl; omega; omega; omega) | (apply w_remU; rfl; rfl; rfl; omega; omega) | (apply w_minL; rfl; rfl; rfl; omega) | (apply w_minG; rfl; rfl; rfl; omega) | (apply w_min; rfl; rfl; rfl) | (apply w_mfR; rfl; rfl) | (apply w_cvp; rfl; rfl; exact inferInstance; rfl; rfl; assumption) | (apply w_eqS2T; rfl; rfl; rfl; omega) | (apply w_eqS2F; rfl; rfl; rfl; omega) | (apply w_neS2T; rfl; rfl; rfl; omega) | (apply w_neS2F; rfl; rfl; rfl; omega) | (apply w_eqS3T; rfl; rfl; rfl; omega) | (apply w_eqS3F; rfl; rfl; rfl; omega) | (apply w_neS3T; rfl; rfl; rfl; omega) | (apply w_neS3F; rfl; rfl; rfl; omega) | (apply w_eqS3; rfl; rfl; rfl) | (apply w_neS3; rfl; rfl; rfl) | (apply w_eqS2; rfl; rfl; rfl) | (apply w_neS2; rfl; rfl; rfl) | (apply w_maxL; rfl; rfl; rfl; omega) | (apply w_maxG; rfl; rfl; rfl; omega) | (apply w_max; rfl; rfl; rfl) | (apply w_neB; rfl; rfl; rfl; rfl) | (apply w_eqB; rfl; rfl; rfl; rfl) | (apply w_ld0; rfl; rfl; ((focus ((repeat (first | exact hr1 _ | exact hr2 _ | apply Rd.there)); done)))) | (apply w_ld; rfl; rfl; ((focus ((repeat (first | exact hr1 _ | exact hr2 _ | apply Rd.there)); done)))) | (apply w_st; rfl; rfl; rfl; ((focus ((repeat (first | exact hs1 _ | apply St.there)); done))); ((exact kmf))) | refine spl ?_ ?_ | intro hc)
                  exact At_againK (k + 1) hlk (by omega) (by rw [decide_eq_false hin2]; (exact sbf)) (by (exact sbf)) (by (exact frm))
            · obtain rfl : k = hh.length := by omega
              rw [List.take_length, decide_eq_true hmem]
              (repeat' first | refine stp ?_ | intro v' hv' | intro (b : Nat) | (apply w_convU; rfl; rfl; omega; omega) | (apply w_convI; rfl; rfl; omega; omega) | (apply w_quoU; rfl; rfl; rfl; omega; omega; omega) | (apply w_remU; rfl; rfl; rfl; omega; omega) | (apply w_minL; rfl; rfl; rfl; omega) | (apply w_minG; rfl; rfl; rfl; omega) | (apply w_min; rfl; rfl; rfl) | (apply w_mfR; rfl; rfl) | (apply w_cvp; rfl; rfl; exact inferInstance; rfl; rfl; assumption) | (apply w_eqS2T; rfl; rfl; rfl; omega) | (apply w_eqS2F; rfl; rfl; rfl; omega) | (apply w_neS2T; rfl; rfl; rfl; omega) | (apply w_neS2F; rfl; rfl; rfl; omega) | (apply w_eqS3T; rfl; rfl; rfl; omega) | (apply w_eqS3F; rfl; rfl; rfl; omega) | (apply w_neS3T; rfl; rfl; rfl; omega) | (apply w_neS3F; rfl; rfl; rfl; omega) | (apply w_eqS3; rfl; rfl; rfl) | (apply w_neS3; rfl; rfl; rfl) | (apply w_eqS2; rfl; rfl; rfl) | (apply w_neS2; rfl; rfl; rfl) | (apply w_maxL; rfl; rfl; rfl; omega) | (apply w_maxG; rfl; rfl; rfl; omega) | (apply w_max; rfl; rfl; rfl) | (apply w_neB; rfl; rfl; rfl; rfl) | (apply w_eqB; rfl; rfl; rfl; rfl) | (apply w_ld0; rfl; rfl; ((focus ((repeat (first | exact hr1 _ | exact hr2 _ | apply Rd.there)); done)))) | (apply w_ld; rfl; rfl; ((focus ((repeat (first | exact hr1 _ | exact hr2 _ | apply Rd.there)); done)))) | (apply w_st; rfl; rfl; rfl; ((focus ((repeat (first | exact hs1 _ | apply St.there)); done))); ((exact kmf))) | refine spl ?_ ?_ | intro hc)
              refine At_againK (m + 1) hlt (by omega) (by (exact sbf)) (by (exact sbf)) (fun w hs => ?_)
              rw [← hse]
              exact Sel.sat (by (focus ((repeat (first | exact Sel.refl | (apply Sel.cons; (focus ((repeat (first | exact Del.here | apply Del.there)); done))) | refine Sel.drop ?_)); done))) hs
    · obtain rfl : m = 4 := by omega
      (repeat' first | refine stp ?_ | intro v' hv' | intro (b : Nat) | (apply w_convU; rfl; rfl; omega; omega) | (apply w_convI; rfl; rfl; omega; omega) | (apply w_quoU; rfl; rfl; rfl; omega; omega; omega) | (apply w_remU; rfl; rfl; rfl; omega; omega) | (apply w_minL; rfl; rfl; rfl; omega) | (apply w_minG; rfl; rfl; rfl; omega) | (apply w_min; rfl; rfl; rfl) | (apply w_mfR; rfl; rfl) | (apply w_cvp; rfl; rfl; exact inferInstance; rfl; rfl; assumption) | (apply w_eqS2T; rfl; rfl; rfl; omega) | (apply w_eqS2F; rfl; rfl; rfl; omega) | (apply w_neS2T; rfl; rfl; rfl; omega) | (apply w_neS2F; rfl; rfl; rfl; omega) | (apply w_eqS3T; rfl; rfl; rfl; omega) | (apply w_eqS3F; rfl; rfl; rfl; omega) | (apply w_neS3T; rfl; rfl; rfl; omega) | (apply w_neS3F; rfl; rfl; rfl; omega) | (apply w_eqS3; rfl; rfl; rfl) | (apply w_neS3; rfl; rfl; rfl) | (apply w_eqS2; rfl; rfl; rfl) | (apply w_neS2; rfl; rfl; rfl) | (apply w_maxL; rfl; rfl; rfl; omega) | (apply w_maxG; rfl; rfl; rfl; omega) | (apply w_max; rfl; rfl; rfl) | (apply w_neB; rfl; rfl; rfl; rfl) | (apply w_eqB; rfl; rfl; rfl; rfl) | (apply w_ld0; rfl; rfl; ((focus ((repeat (first | exact hr1 _ | exact hr2 _ | apply Rd.there)); done)))) | (apply w_ld; rfl; rfl; ((focus ((repeat (first | exact hr1 _ | exact hr2 _ | apply Rd.there)); done)))) | (apply w_st; rfl; rfl; rfl; ((focus ((repeat (first | exact hs1 _ | apply St.there)); done))); ((exact kmf))) | refine spl ?_ ?_ | intro hc)
      all_goals (refine At_ret1 (by (first | exact .inl rfl | exact .inr rfl)) Try.results4 rfl ⟨by rfl, rfl⟩ (by (exact frm)))
  · have hB := begins_ok
    refine Fn1 Try.func4 rfl Try.ntmps4 rfl ?_
    (repeat' first | refine stp ?_ | intro v' hv' | intro (b : Nat) | (apply w_convU; rfl; rfl; omega; omega) | (apply w_convI; rfl; rfl; omega; omega) | (apply w_quoU; rfl; rfl; rfl; omega; omega; omega) | (apply w_remU; rfl; rfl; rfl; omega; omega) | (apply w_minL; rfl; rfl; rfl; omega) | (apply w_minG; rfl; rfl; rfl; omega) | (apply w_min; rfl; rfl; rfl) | (apply w_mfR; rfl; rfl) | (apply w_cvp; rfl; rfl; exact inferInstance; rfl; rfl; assumption) | (apply w_eqS2T; rfl; rfl; rfl; omega) | (apply w_eqS2F; rfl; rfl; rfl; omega) | (apply w_neS2T; rfl; rfl; rfl; omega) | (apply w_neS2F; rfl; rfl; rfl; omega) | (apply w_eqS3T; rfl; rfl; rfl; omega) | (apply w_eqS3F; rfl; rfl; rfl; omega) | (apply w_neS3T; rfl; rfl; rfl; omega) | (apply w_neS3F; rfl; rfl; rfl; omega) | (apply w_eqS3; rfl; rfl; rfl) | (apply w_neS3; rfl; rfl; rfl) | (apply w_eqS2; rfl; rfl; rfl) | (apply w_neS2; rfl; rfl; rfl) | (apply w_maxL; rfl; rfl; rfl; omega) | (apply w_maxG; rfl; rfl; rfl; omega) | (apply w_max; rfl; rfl; rfl) | (apply w_neB; rfl; rfl; rfl; rfl) | (apply w_eqB; rfl; rfl; rfl; rfl) | (apply w_ld0; rfl; rfl; ((focus ((repeat (first | exact hr1 _ | exact hr2 _ | apply Rd.there)); done)))) | (apply w_ld; rfl; rfl; ((focus ((repeat (first | exact hr1 _ | exact hr2 _ | apply Rd.there)); done)))) | (apply w_st; rfl; rfl; rfl; ((focus ((repeat (first | exact hs1 _ | apply St.there)); done))); ((exact kmf))) | refine spl ?_ ?_ | intro hc)
    apply w_cd; rfl; rfl; exact begun_no v ops _ h (by omega); ((exact kmf))
    (repeat' first | refine stp ?_ | intro v' hv' | intro (b : Nat) | (apply w_convU; rfl; rfl; omega; omega) | (apply w_convI; rfl; rfl; omega; omega) | (apply w_quoU; rfl; rfl; rfl; omega; omega; omega) | (apply w_remU; rfl; rfl; rfl; omega; omega) | (apply w_minL; rfl; rfl; rfl; omega) | (apply w_minG; rfl; rfl; rfl; omega) | (apply w_min; rfl; rfl; rfl) | (apply w_mfR; rfl; rfl) | (apply w_cvp; rfl; rfl; exact inferInstance; rfl; rfl; assumption) | (apply w_eqS2T; rfl; rfl; rfl; omega) | (apply w_eqS2F; rfl; rfl; rfl; omega) | (apply w_neS2T; rfl; rfl; rfl; omega) | (apply w_neS2F; rfl; rfl; rfl; omega) | (apply w_eqS3T; rfl; rfl; rfl; omega) | (apply w_eqS3F; rfl; rfl; rfl; omega) | (apply w_neS3T; rfl; rfl; rfl; omega) | (apply w_neS3F; rfl; rfl; rfl; omega) | (apply w_eqS3; rfl; rfl; rfl) | (apply w_neS3; rfl; rfl; rfl) | (apply w_eqS2; rfl; rfl; rfl) | (apply w_neS2; rfl; rfl; rfl) | (apply w_maxL; rfl; rfl; rfl; omega) | (apply w_maxG; rfl; rfl; rfl; omega) | (apply w_max; rfl; rfl; rfl) | (apply w_neB; rfl; rfl; rfl; rfl) | (apply w_eqB; rfl; rfl; rfl; rfl) | (apply w_ld0; rfl; rfl; ((focus ((repeat (first | exact hr1 _ | exact hr2 _ | apply Rd.there)); done)))) | (apply w_ld; rfl; rfl; ((focus ((repeat (first | exact hr1 _ | exact hr2 _ | apply Rd.there)); done)))) | (apply w_st; rfl; rfl; rfl; ((focus ((repeat (first | exact hs1 _ | apply St.there)); done))); ((exact kmf))) | refine spl ?_ ?_ | intro hc)
    all_goals (refine At_ret1 (by (first | exact .inl rfl | exact .inr rfl)) Try.results4 rfl ⟨by rfl, rfl⟩ (by (exact frm)))
end Go.Proofs.Ytoaaoijdknbanaa
