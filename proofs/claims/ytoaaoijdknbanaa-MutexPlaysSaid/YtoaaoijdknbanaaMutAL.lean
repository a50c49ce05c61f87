/- MutexPlays: threads. Conditions: none. -/
import Derived.Test.YtoaaoijdknbanaaMutAJ
set_option linter.all false
set_option linter.deprecated false
namespace Go.Proofs.Ytoaaoijdknbanaa
open Go.Sep
variable [B0 : Base]
theorem heldK_pre (M : List Lk) (n : Int) (k : Nat) : ∀ N, k ≤ N → ∃ r, heldK M n N = heldK M n k ++ r := by
  intro N
  induction N with
  | zero =>
           intro h
           obtain rfl : k = 0 := by omega
           exact ⟨[], by simp⟩
  | succ N ih =>
    intro h
    by_cases e : k = N + 1
    · subst e; exact ⟨[], by simp⟩
    · obtain ⟨r, hr⟩ := ih (by omega)
      rw [heldK_succ, hr]
      exact ⟨_, List.append_assoc ..⟩
theorem heldK_at {M : List Lk} {n : Int} {k N : Nat} (hk : k < N) (h : (lkA M k).own = n) : (heldK M n N)[(heldK M n k).length]? = some k := by
  obtain ⟨r, hr⟩ := heldK_pre M n (k + 1) N hk
  rw [hr, heldK_succ, if_pos h, List.append_assoc, List.getElem?_append_right (Nat.le_refl _), Nat.sub_self]
  rfl
theorem waits_rel {M : List Lk} {X : RT} (hI : Inv2 M) (hR : Rel M X) (hX : WfR X) {i : Nat} (hi : i < 64) : waitsM M i = if 0 ≤ gi X.fo i then (gi X.fo i, 0) else (0, 14) := by
  have hp := hX.pos
  rw [hR.len] at hp
  have hmay : mayI M.length 0 i 0 = 0 := mayI_0.2 ⟨by omega, by omega, by omega, by omega, by decide, by decide⟩
  unfold waitsM
  rw [if_neg (by simp [hmay])]
  cases hw : waitAt M i with
  | none =>
    have := Rel.none hI hR hX ⟨by omega, by omega⟩ hw
    rw [Int.toNat_natCast] at this
    rw [this, if_neg (by decide)]
  | some ij =>
    obtain ⟨a, b⟩ := ij
    obtain ⟨h1, x, h2, h3, h4, h5⟩ := Rel.some hI hR hw
    rw [Int.toNat_natCast] at h4
    rw [h4, if_pos (by omega)]
set_option maxHeartbeats 16000000 in
theorem threads_ok (tb bx : Nat) (M : List Lk) (X : RT) (hI : Inv2 M) (hR : Rel M X) (R : List HP) : Called Try.prog 28 [ptr tb, ptr bx] (mtb tb M :: rtb bx X :: R) (is (.bool true) (mtb tb M :: rtb bx X :: R)) := by
  refine Fn2 Try.func28 rfl Try.ntmps28 rfl ?_
  refine C_sat (L' := rtb bx X :: mtb tb M :: R) (by (exact frm)) ?_
  refine C_rtb fun ov fv hokx => ?_
  have hX := hokx.wf
  have hov := hokx.ov1
  have hfv := hokx.fv1
  have hfew := hX.few
  have hlen := hR.len
  have hwf := hI.wf
  (repeat' first | refine stp ?_ | intro v' hv' | intro (b : Nat) | (apply w_convU; rfl; rfl; omega; omega) | (apply w_convI; rfl; rfl; omega; omega) | (apply w_quoU; rfl; rfl; rfl; omega; omega; omega) | (apply w_remU; rfl; rfl; rfl; omega; omega) | (apply w_minL; rfl; rfl; rfl; omega) | (apply w_minG; rfl; rfl; rfl; omega) | (apply w_min; rfl; rfl; rfl) | (apply w_mfR; rfl; rfl) | (apply w_cvp; rfl; rfl; exact inferInstance; rfl; rfl; assumption) | (apply w_eqS2T; rfl; rfl; rfl; omega) | (apply w_eqS2F; rfl; rfl; rfl; omega) | (apply w_neS2T; rfl; rfl; rfl; omega) | (apply w_neS2F; rfl; rfl; rfl; omega) | (apply w_eqS3T; rfl; rfl; rfl; omega) | (apply w_eqS3F; rfl; rfl; rfl; omega) | (apply w_neS3T; rfl; rfl; rfl; omega) | (apply w_neS3F; rfl; rfl; rfl; omega) | (apply w_eqS3; rfl; rfl; rfl) | (apply w_neS3; rfl; rfl; rfl) | (apply w_eqS2; rfl; rfl; rfl) | (apply w_neS2; rfl; rfl; rfl) | (apply w_maxL; rfl; rfl; rfl; omega) | (apply w_maxG; rfl; rfl; rfl; omega) | (apply w_max; rfl; rfl; rfl) | (apply w_neB; rfl; rfl; rfl; rfl) | (apply w_eqB; rfl; rfl; rfl; rfl) | (apply w_ld0; rfl; rfl; ((focus ((repeat (first | exact hr1 _ | exact hr2 _ | exact hr3 _ | exact hr4 _ | exact Rd.own | exact Rd.fl | apply Rd.there)); done)))) | (apply w_ld; rfl; rfl; ((focus ((repeat (first | exact hr1 _ | exact hr2 _ | exact hr3 _ | exact hr4 _ | exact Rd.own | exact Rd.fl | apply Rd.there)); done)))) | refine spl ?_ ?_ | intro hc)
  apply w_cl
  rfl
  rfl
  exact Called.del1 (A := mtb tb M) (by (focus ((repeat (first | exact Del.here | apply Del.there)); done))) (Chains_ok tb M _)
  obtain ⟨v64, hv64⟩ := IsSl.any (N := 64) (by decide)
  exact ⟨_, _, v64, rfl, hv64, rfl⟩
  rintro vc _ ⟨_, rfl, hvc, rfl⟩
  refine ⟨by (exact kmf), ?_⟩
  (repeat' first | refine stp ?_ | intro v' hv' | intro (b : Nat) | (apply w_convU; rfl; rfl; omega; omega) | (apply w_convI; rfl; rfl; omega; omega) | (apply w_quoU; rfl; rfl; rfl; omega; omega; omega) | (apply w_remU; rfl; rfl; rfl; omega; omega) | (apply w_minL; rfl; rfl; rfl; omega) | (apply w_minG; rfl; rfl; rfl; omega) | (apply w_min; rfl; rfl; rfl) | (apply w_mfR; rfl; rfl) | (apply w_cvp; rfl; rfl; exact inferInstance; rfl; rfl; assumption) | (apply w_eqS2T; rfl; rfl; rfl; omega) | (apply w_eqS2F; rfl; rfl; rfl; omega) | (apply w_neS2T; rfl; rfl; rfl; omega) | (apply w_neS2F; rfl; rfl; rfl; omega) | (apply w_eqS3T; rfl; rfl; rfl; omega) | (apply w_eqS3F; rfl; rfl; rfl; omega) | (apply w_neS3T; rfl; rfl; rfl; omega) | (apply w_neS3F; rfl; rfl; rfl; omega) | (apply w_eqS3; rfl; rfl; rfl) | (apply w_neS3; rfl; rfl; rfl) | (apply w_eqS2; rfl; rfl; rfl) | (apply w_neS2; rfl; rfl; rfl) | (apply w_maxL; rfl; rfl; rfl; omega) | (apply w_maxG; rfl; rfl; rfl; omega) | (apply w_max; rfl; rfl; rfl) | (apply w_neB; rfl; rfl; rfl; rfl) | (apply w_eqB; rfl; rfl; rfl; rfl) | (apply w_ld0; rfl; rfl; ((focus ((repeat (first | exact hr1 _ | exact hr2 _ | exact hr3 _ | exact hr4 _ | exact Rd.own | exact Rd.fl | apply Rd.there)); done)))) | (apply w_ld; rfl; rfl; ((focus ((repeat (first | exact hr1 _ | exact hr2 _ | exact hr3 _ | exact hr4 _ | exact Rd.own | exact Rd.fl | apply Rd.there)); done)))) | refine spl ?_ ?_ | intro hc)
  refine C_loopK (α := Nat) [4, 6, 7, 8, 9, 10, 11, 12, 18, 19, 20, 21, 22, 23, 24, 25, 26, 27, 28, 29, 30, 31, 32, 33, 34, 35, 36, 37, 38, 39, 40, 41, 42, 43, 44, 45, 46, 47, 48, 49, 50, 51, 52, 53, 54, 55, 56, 57, 58, 59, 60, 61, 62, 63, 64, 65, 66, 67, 68, 69, 70, 71, 72, 73, 74, 75, 76, 77, 78, 79, 80, 81, 82, 83, 84, 85, 86, 87, 88, 89, 90, 91, 92, 93, 94, 95, 96, 97, 98, 99, 100, 101, 102, 103, 104, 105, 106, 107, 108, 109, 110, 111, 112, 113, 114, 115, 116, 117, 118, 119, 120, 121, 122, 123, 124, 125, 126, 127] (fun x => 64 - x) (fun x => [(6, int x)]) (fun x => sl 3 1 vc ((chainsM M).map ioE) :: mtb tb M :: pt bx 84 (rcl ov fv X.fo X.at') :: sl 3 1 ov (X.own.map ioE) :: sl 4 1 fv (X.fl.map boE) :: R) (fun x => x ≤ 64) 0 (Nat.zero_le _) (by (focus ((repeat (first | exact Keep.nil | apply Keep.drop rfl | apply Keep.keep rfl)); done))) (by (exact sbf)) (fun w hs => Sel.sat (by (focus ((repeat (first | exact Sel.refl | (apply Sel.cons; (focus ((repeat (first | exact Del.here | apply Del.there)); done))) | refine Sel.drop ?_)); done))) hs) ?_
  rintro i hi
  dsimp only [List.cons_append, List.nil_append] at *
  by_cases hlt : i < 64
  · have hW := Waits_ok tb M i
    rw [waits_rel hI hR hX hlt] at hW
    have hfo : i < X.fo.length := by rw [hX.l2]; exact hlt
    have hr1 : ∀ L, Rd (pt bx 84 (rcl ov fv X.fo X.at') :: L) ⟨bx, 0 + 2 + i * 1, none⟩ (int (gi X.fo i)) := fun L => Rd.fo hfo
    have hb := hX.fb _ (gi_mem hfo)
    have hcg := chains_get hI hR hX hlt
    have hcl : (chainsM M).length = 64 := by rw [chains_eq, setF_len]; unfold m64; rw [List.length_replicate]
    have hr2 : ∀ L, Rd (sl 3 1 vc ((chainsM M).map ioE) :: L) ⟨vb vc, vo vc + i * 1, none⟩ (int (gi (chainsM M) i)) := fun L => Rd.io (by rw [hcl]; exact hlt)
    have hH := Held_ok tb M i
    unfold heldM at hH
    rw [if_pos ⟨by omega, by omega⟩] at hH
    have hN : heldN M i = heldK M i X.own.length := by unfold heldN heldK; rw [hlen]
    rw [hN] at hH
    have hhl := heldK_len M (i : Int) X.own.length
    have hob : ∀ k, k < X.own.length → gi X.own k = (lkA M k).own := fun k hk => hR.own k (by omega)
    generalize gi X.fo i = fo at *
    by_cases h0 : 0 ≤ fo
    · obtain ⟨m, rfl⟩ := Int.eq_ofNat_of_zero_le h0
      rw [if_pos h0] at hW hcg
      rw [Int.toNat_natCast] at hcg
      rw [hcg] at hr2
      have hm : m < X.own.length := by omega
      have hr3 : ∀ L, Rd (sl 3 1 ov (X.own.map ioE) :: L) ⟨vb ov, vo ov + m * 1, none⟩ (int (gi X.own m)) := fun L => Rd.io hm
      generalize gi X.own m = o at *
      dsimp only at hW
      (repeat' first | refine stp ?_ | intro v' hv' | intro (b : Nat) | (apply w_convU; rfl; rfl; omega; omega) | (apply w_convI; rfl; rfl; omega; omega) | (apply w_quoU; rfl; rfl; rfl; omega; omega; omega) | (apply w_remU; rfl; rfl; rfl; omega; omega) | (apply w_minL; rfl; rfl; rfl; omega) | (apply w_minG; rfl; rfl; rfl; omega) | (apply w_min; rfl; rfl; rfl) | (apply w_mfR; rfl; rfl) | (apply w_cvp; rfl; rfl; exact inferInstance; rfl; rfl; assumption) | (apply w_eqS2T; rfl; rfl; rfl; omega) | (apply w_eqS2F; rfl; rfl; rfl; omega) | (apply w_neS2T; rfl; rfl; rfl; omega) | (apply w_neS2F; rfl; rfl; rfl; omega) | (apply w_eqS3T; rfl; rfl; rfl; omega) | (apply w_eqS3F; rfl; rfl; rfl; omega) | (apply w_neS3T; rfl; rfl; rfl; omega) | (apply w_neS3F; rfl; rfl; rfl; omega) | (apply w_eqS3; rfl; rfl; rfl) | (apply w_neS3; rfl; rfl; rfl) | (apply w_eqS2; rfl; rfl; rfl) | (apply w_neS2; rfl; rfl; rfl) | (apply w_maxL; rfl; rfl; rfl; omega) | (apply w_maxG; rfl; rfl; rfl; omega) | (apply w_max; rfl; rfl; rfl) | (apply w_neB; rfl; rfl; rfl; rfl) | (apply w_eqB; rfl; rfl; rfl; rfl) | (apply w_ld0; rfl; rfl; ((focus ((repeat (first | exact hr1 _ | exact hr2 _ | exact hr3 _ | exact hr4 _ | exact Rd.own | exact Rd.fl | apply Rd.there)); done)))) | (apply w_ld; rfl; rfl; ((focus ((repeat (first | exact hr1 _ | exact hr2 _ | exact hr3 _ | exact hr4 _ | exact Rd.own | exact Rd.fl | apply Rd.there)); done)))) | refine spl ?_ ?_ | intro hc)
      clear hr3
      obtain ⟨vh, hvh⟩ : ∃ r, r = v' := ⟨_, rfl⟩
      subst hvh
      have hvh : IsSl vh (heldK M i X.own.length).length := by first | exact hv' | (have := hv'; rwa [List.length_map] at this)
      clear hv' hH hW
      refine C_loopK (α := Nat) [4, 11, 12, 92, 93, 94, 95, 96, 97, 98, 99, 100, 101, 102, 103, 104, 105, 106, 107, 108, 109, 110, 111, 112, 113, 114, 115, 116, 117, 118, 119, 120, 121, 122, 123] (fun x => X.own.length - x) (fun x => [(11, int (heldK M i x).length), (12, int x)]) (fun x => sl 3 1 vh ((heldK M i X.own.length).map niE) :: mtb tb M :: sl 3 1 vc ((chainsM M).map ioE) :: pt bx 84 (rcl ov fv X.fo X.at') :: sl 3 1 ov (X.own.map ioE) :: sl 4 1 fv (X.fl.map boE) :: R) (fun x => x ≤ X.own.length) 0 (Nat.zero_le _) (by (focus ((repeat (first | exact Keep.nil | apply Keep.drop rfl | apply Keep.keep rfl)); done))) (by (exact sbf)) (fun w hs => Sel.sat (by (focus ((repeat (first | exact Sel.refl | (apply Sel.cons; (focus ((repeat (first | exact Del.here | apply Del.there)); done))) | refine Sel.drop ?_)); done))) hs) ?_
      rintro k hk
      dsimp only [List.cons_append, List.nil_append] at *
      by_cases hlk : k < X.own.length
      · have hr3 : ∀ L, Rd (sl 3 1 ov (X.own.map ioE) :: L) ⟨vb ov, vo ov + k * 1, none⟩ (int (lkA M k).own) := fun L => by rw [← hob k hlk]; exact Rd.io hlk
        have hks := heldK_succ M i k
        have hka := fun h => heldK_at (M := M) (n := (i : Int)) hlk h
        have hkl := heldK_len M i k
        generalize (lkA M k).own = ow at *
        by_cases hoi : ow = i
        · rw [if_pos hoi] at hks
          have hka := hka hoi
          have hkl2 := (List.getElem?_eq_some_iff.1 hka).1
          have hr4 : ∀ L, Rd (sl 3 1 vh ((heldK M i X.own.length).map niE) :: L) ⟨vb vh, vo vh + (heldK M i k).length * 1, none⟩ (int (k : Int)) := fun L => Rd.sl (n := 1) (k := 0) (e := niE k) (by rw [List.getElem?_map, hka]; rfl) rfl
          have hks2 : (heldK M i (k + 1)).length = (heldK M i k).length + 1 := by rw [hks, List.length_append]; rfl
          clear hks hka
          (repeat' first | refine stp ?_ | intro v' hv' | intro (b : Nat) | (apply w_convU; rfl; rfl; omega; omega) | (apply w_convI; rfl; rfl; omega; omega) | (apply w_quoU; rfl; rfl; rfl; omega; omega; omega) | (apply w_remU; rfl; rfl; rfl; omega; omega) | (apply w_minL; rfl; rfl; rfl; omega) | (apply w_minG; rfl; rfl; rfl; omega) | (apply w_min; rfl; rfl; rfl) | (apply w_mfR; rfl; rfl) | (apply w_cvp; rfl; rfl; exact inferInstance; rfl; rfl; assumption) | (apply w_eqS2T; rfl; rfl; rfl; omega) | (apply w_eqS2F; rfl; rfl; rfl; omega) | (apply w_neS2T; rfl; rfl; rfl; omega) | (apply w_neS2F; rfl; rfl; rfl; omega) | (apply w_eqS3T; rfl; rfl; rfl; omega) | (apply w_eqS3F; rfl; rfl; rfl; omega) | (apply w_neS3T; rfl; rfl; rfl; omega) | (apply w_neS3F; rfl; rfl; rfl; omega) | (apply w_eqS3; rfl; rfl; rfl) | (apply w_neS3; rfl; rfl; rfl) | (apply w_eqS2; rfl; rfl; rfl) | (apply w_neS2; rfl; rfl; rfl) | (apply w_maxL; rfl; rfl; rfl; omega) | (apply w_maxG; rfl; rfl; rfl; omega) | (apply w_max; rfl; rfl; rfl) | (apply w_neB; rfl; rfl; rfl; rfl) | (apply w_eqB; rfl; rfl; rfl; rfl) | (apply w_ld0; rfl; rfl; ((focus ((repeat (first | exact hr1 _ | exact hr2 _ | exact hr3 _ | exact hr4 _ | exact Rd.own | exact Rd.fl | apply Rd.there)); done)))) | (apply w_ld; rfl; rfl; ((focus ((repeat (first | exact hr1 _ | exact hr2 _ | exact hr3 _ | exact hr4 _ | exact Rd.own | exact Rd.fl | apply Rd.there)); done)))) | refine spl ?_ ?_ | intro hc)
          exact At_againK (k + 1) hlk (by omega) (by rw [hks2]; (exact sbf)) (by (exact sbf)) (by (exact frm))
        · rw [if_neg hoi, List.append_nil] at hks
          clear hka
          rw [← hks]
          (repeat' first | refine stp ?_ | intro v' hv' | intro (b : Nat) | (apply w_convU; rfl; rfl; omega; omega) | (apply w_convI; rfl; rfl; omega; omega) | (apply w_quoU; rfl; rfl; rfl; omega; omega; omega) | (apply w_remU; rfl; rfl; rfl; omega; omega) | (apply w_minL; rfl; rfl; rfl; omega) | (apply w_minG; rfl; rfl; rfl; omega) | (apply w_min; rfl; rfl; rfl) | (apply w_mfR; rfl; rfl) | (apply w_cvp; rfl; rfl; exact inferInstance; rfl; rfl; assumption) | (apply w_eqS2T; rfl; rfl; rfl; omega) | (apply w_eqS2F; rfl; rfl; rfl; omega) | (apply w_neS2T; rfl; rfl; rfl; omega) | (apply w_neS2F; rfl; rfl; rfl; omega) | (apply w_eqS3T; rfl; rfl; rfl; omega) | (apply w_eqS3F; rfl; rfl; rfl; omega) | (apply w_neS3T; rfl; rfl; rfl; omega) | (apply w_neS3F; rfl; rfl; rfl; omega) | (apply w_eqS3; rfl; rfl; rfl) | (apply w_neS3; rfl; rfl; rfl) | (apply w_eqS2; rfl; rfl; rfl) | (apply w_neS2; rfl; rfl; rfl) | (apply w_maxL; rfl; rfl; rfl; omega) | (apply w_maxG; rfl; rfl; rfl; omega) | (apply w_max; rfl; rfl; rfl) | (apply w_neB; rfl; rfl; rfl; rfl) | (apply w_eqB; rfl; rfl; rfl; rfl) | (apply w_ld0; rfl; rfl; ((focus ((repeat (first | exact hr1 _ | exact hr2 _ | exact hr3 _ | exact hr4 _ | exact Rd.own | exact Rd.fl | apply Rd.there)); done)))) | (apply w_ld; rfl; rfl; ((focus ((repeat (first | exact hr1 _ | exact hr2 _ | exact hr3 _ | exact hr4 _ | exact Rd.own | exact Rd.fl | apply Rd.there)); done)))) | refine spl ?_ ?_ | intro hc)
          exact At_againK (k + 1) hlk (by omega) (by (exact sbf)) (by (exact sbf)) (by (exact frm))
      · obtain rfl : k = X.own.length := by omega
        (repeat' first | refine stp ?_ | intro v' hv' | intro (b : Nat) | (apply w_convU; rfl; rfl; omega; omega) | (apply w_convI; rfl; rfl; omega; omega) | (apply w_quoU; rfl; rfl; rfl; omega; omega; omega) | (apply w_remU; rfl; rfl; rfl; omega; omega) | (apply w_minL; rfl; rfl; rfl; omega) | (apply w_minG; rfl; rfl; rfl; omega) | (apply w_min; rfl; rfl; rfl) | (apply w_mfR; rfl; rfl) | (apply w_cvp; rfl; rfl; exact inferInstance; rfl; rfl; assumption) | (apply w_eqS2T; rfl; rfl; rfl; omega) | (apply w_eqS2F; rfl; rfl; rfl; omega) | (apply w_neS2T; rfl; rfl; rfl; omega) | (apply w_neS2F; rfl; rfl; rfl; omega) | (apply w_eqS3T; rfl; rfl; rfl; omega) | (apply w_eqS3F; rfl; rfl; rfl; omega) | (apply w_neS3T; rfl; rfl; rfl; omega) | (apply w_neS3F; rfl; rfl; rfl; omega) | (apply w_eqS3; rfl; rfl; rfl) | (apply w_neS3; rfl; rfl; rfl) | (apply w_eqS2; rfl; rfl; rfl) | (apply w_neS2; rfl; rfl; rfl) | (apply w_maxL; rfl; rfl; rfl; omega) | (apply w_maxG; rfl; rfl; rfl; omega) | (apply w_max; rfl; rfl; rfl) | (apply w_neB; rfl; rfl; rfl; rfl) | (apply w_eqB; rfl; rfl; rfl; rfl) | (apply w_ld0; rfl; rfl; ((focus ((repeat (first | exact hr1 _ | exact hr2 _ | exact hr3 _ | exact hr4 _ | exact Rd.own | exact Rd.fl | apply Rd.there)); done)))) | (apply w_ld; rfl; rfl; ((focus ((repeat (first | exact hr1 _ | exact hr2 _ | exact hr3 _ | exact hr4 _ | exact Rd.own | exact Rd.fl | apply Rd.there)); done)))) | refine spl ?_ ?_ | intro hc)
        exact At_againK (i + 1) hlt (by omega) (by (exact sbf)) (by (exact sbf)) (fun w hs => Sel.sat (by (focus ((repeat (first | exact Sel.refl | (apply Sel.cons; (focus ((repeat (first | exact Del.here | apply Del.there)); done))) | refine Sel.drop ?_)); done))) hs)
    · rw [if_neg h0] at hW hcg
      rw [hcg] at hr2
      dsimp only at hW
      (repeat' first | refine stp ?_ | intro v' hv' | intro (b : Nat) | (apply w_convU; rfl; rfl; omega; omega) | (apply w_convI; rfl; rfl; omega; omega) | (apply w_quoU; rfl; rfl; rfl; omega; omega; omega) | (apply w_remU; rfl; rfl; rfl; omega; omega) | (apply w_minL; rfl; rfl; rfl; omega) | (apply w_minG; rfl; rfl; rfl; omega) | (apply w_min; rfl; rfl; rfl) | (apply w_mfR; rfl; rfl) | (apply w_cvp; rfl; rfl; exact inferInstance; rfl; rfl; assumption) | (apply w_eqS2T; rfl; rfl; rfl; omega) | (apply w_eqS2F; rfl; rfl; rfl; omega) | (apply w_neS2T; rfl; rfl; rfl; omega) | (apply w_neS2F; rfl; rfl; rfl; omega) | (apply w_eqS3T; rfl; rfl; rfl; omega) | (apply w_eqS3F; rfl; rfl; rfl; omega) | (apply w_neS3T; rfl; rfl; rfl; omega) | (apply w_neS3F; rfl; rfl; rfl; omega) | (apply w_eqS3; rfl; rfl; rfl) | (apply w_neS3; rfl; rfl; rfl) | (apply w_eqS2; rfl; rfl; rfl) | (apply w_neS2; rfl; rfl; rfl) | (apply w_maxL; rfl; rfl; rfl; omega) | (apply w_maxG; rfl; rfl; rfl; omega) | (apply w_max; rfl; rfl; rfl) | (apply w_neB; rfl; rfl; rfl; rfl) | (apply w_eqB; rfl; rfl; rfl; rfl) | (apply w_ld0; rfl; rfl; ((focus ((repeat (first | exact hr1 _ | exact hr2 _ | exact hr3 _ | exact hr4 _ | exact Rd.own | exact Rd.fl | apply Rd.there)); done)))) | (apply w_ld; rfl; rfl; ((focus ((repeat (first | exact hr1 _ | exact hr2 _ | exact hr3 _ | exact hr4 _ | exact Rd.own | exact Rd.fl | apply Rd.there)); done)))) | refine spl ?_ ?_ | intro hc)
      obtain ⟨vh, hvh⟩ : ∃ r, r = v' := ⟨_, rfl⟩
      subst hvh
      have hvh : IsSl vh (heldK M i X.own.length).length := by first | exact hv' | (have := hv'; rwa [List.length_map] at this)
      clear hv' hH hW
      refine C_loopK (α := Nat) [4, 11, 12, 92, 93, 94, 95, 96, 97, 98, 99, 100, 101, 102, 103, 104, 105, 106, 107, 108, 109, 110, 111, 112, 113, 114, 115, 116, 117, 118, 119, 120, 121, 122, 123] (fun x => X.own.length - x) (fun x => [(11, int (heldK M i x).length), (12, int x)]) (fun x => sl 3 1 vh ((heldK M i X.own.length).map niE) :: mtb tb M :: sl 3 1 vc ((chainsM M).map ioE) :: pt bx 84 (rcl ov fv X.fo X.at') :: sl 3 1 ov (X.own.map ioE) :: sl 4 1 fv (X.fl.map boE) :: R) (fun x => x ≤ X.own.length) 0 (Nat.zero_le _) (by (focus ((repeat (first | exact Keep.nil | apply Keep.drop rfl | apply Keep.keep rfl)); done))) (by (exact sbf)) (fun w hs => Sel.sat (by (focus ((repeat (first | exact Sel.refl | (apply Sel.cons; (focus ((repeat (first | exact Del.here | apply Del.there)); done))) | refine Sel.drop ?_)); done))) hs) ?_
      rintro k hk
      dsimp only [List.cons_append, List.nil_append] at *
      by_cases hlk : k < X.own.length
      · have hr3 : ∀ L, Rd (sl 3 1 ov (X.own.map ioE) :: L) ⟨vb ov, vo ov + k * 1, none⟩ (int (lkA M k).own) := fun L => by rw [← hob k hlk]; exact Rd.io hlk
        have hks := heldK_succ M i k
        have hka := fun h => heldK_at (M := M) (n := (i : Int)) hlk h
        have hkl := heldK_len M i k
        generalize (lkA M k).own = ow at *
        by_cases hoi : ow = i
        · rw [if_pos hoi] at hks
          have hka := hka hoi
          have hkl2 := (List.getElem?_eq_some_iff.1 hka).1
          have hr4 : ∀ L, Rd (sl 3 1 vh ((heldK M i X.own.length).map niE) :: L) ⟨vb vh, vo vh + (heldK M i k).length * 1, none⟩ (int (k : Int)) := fun L => Rd.sl (n := 1) (k := 0) (e := niE k) (by rw [List.getElem?_map, hka]; rfl) rfl
          have hks2 : (heldK M i (k + 1)).length = (heldK M i k).length + 1 := by rw [hks, List.length_append]; rfl
          clear hks hka
          (repeat' first | refine stp ?_ | intro v' hv' | intro (b : Nat) | (apply w_convU; rfl; rfl; omega; omega) | (apply w_convI; rfl; rfl; omega; omega) | (apply w_quoU; rfl; rfl; rfl; omega; omega; omega) | (apply w_remU; rfl; rfl; rfl; omega; omega) | (apply w_minL; rfl; rfl; rfl; omega) | (apply w_minG; rfl; rfl; rfl; omega) | (apply w_min; rfl; rfl; rfl) | (apply w_mfR; rfl; rfl) | (apply w_cvp; rfl; rfl; exact inferInstance; rfl; rfl; assumption) | (apply w_eqS2T; rfl; rfl; rfl; omega) | (apply w_eqS2F; rfl; rfl; rfl; omega) | (apply w_neS2T; rfl; rfl; rfl; omega) | (apply w_neS2F; rfl; rfl; rfl; omega) | (apply w_eqS3T; rfl; rfl; rfl; omega) | (apply w_eqS3F; rfl; rfl; rfl; omega) | (apply w_neS3T; rfl; rfl; rfl; omega) | (apply w_neS3F; rfl; rfl; rfl; omega) | (apply w_eqS3; rfl; rfl; rfl) | (apply w_neS3; rfl; rfl; rfl) | (apply w_eqS2; rfl; rfl; rfl) | (apply w_neS2; rfl; rfl; rfl) | (apply w_maxL; rfl; rfl; rfl; omega) | (apply w_maxG; rfl; rfl; rfl; omega) | (apply w_max; rfl; rfl; rfl) | (apply w_neB; rfl; rfl; rfl; rfl) | (apply w_eqB; rfl; rfl; rfl; rfl) | (apply w_ld0; rfl; rfl; ((focus ((repeat (first | exact hr1 _ | exact hr2 _ | exact hr3 _ | exact hr4 _ | exact Rd.own | exact Rd.fl | apply Rd.there)); done)))) | (apply w_ld; rfl; rfl; ((focus ((repeat (first | exact hr1 _ | exact hr2 _ | exact hr3 _ | exact hr4 _ | exact Rd.own | exact Rd.fl | apply Rd.there)); done)))) | refine spl ?_ ?_ | intro hc)
          exact At_againK (k + 1) hlk (by omega) (by rw [hks2]; (exact sbf)) (by (exact sbf)) (by (exact frm))
        · rw [if_neg hoi, List.append_nil] at hks
          clear hka
          rw [← hks]
          (repeat' first | refine stp ?_ | intro v' hv' | intro (b : Nat) | (apply w_convU; rfl; rfl; omega; omega) | (apply w_convI; rfl; rfl; omega; omega) | (apply w_quoU; rfl; rfl; rfl; omega; omega; omega) | (apply w_remU; rfl; rfl; rfl; omega; omega) | (apply w_minL; rfl; rfl; rfl; omega) | (apply w_minG; rfl; rfl; rfl; omega) | (apply w_min; rfl; rfl; rfl) | (apply w_mfR; rfl; rfl) | (apply w_cvp; rfl; rfl; exact inferInstance; rfl; rfl; assumption) | (apply w_eqS2T; rfl; rfl; rfl; omega) | (apply w_eqS2F; rfl; rfl; rfl; omega) | (apply w_neS2T; rfl; rfl; rfl; omega) | (apply w_neS2F; rfl; rfl; rfl; omega) | (apply w_eqS3T; rfl; rfl; rfl; omega) | (apply w_eqS3F; rfl; rfl; rfl; omega) | (apply w_neS3T; rfl; rfl; rfl; omega) | (apply w_neS3F; rfl; rfl; rfl; omega) | (apply w_eqS3; rfl; rfl; rfl) | (apply w_neS3; rfl; rfl; rfl) | (apply w_eqS2; rfl; rfl; rfl) | (apply w_neS2; rfl; rfl; rfl) | (apply w_maxL; rfl; rfl; rfl; omega) | (apply w_maxG; rfl; rfl; rfl; omega) | (apply w_max; rfl; rfl; rfl) | (apply w_neB; rfl; rfl; rfl; rfl) | (apply w_eqB; rfl; rfl; rfl; rfl) | (apply w_ld0; rfl; rfl; ((focus ((repeat (first | exact hr1 _ | exact hr2 _ | exact hr3 _ | exact hr4 _ | exact Rd.own | exact Rd.fl | apply Rd.there)); done)))) | (apply w_ld; rfl; rfl; ((focus ((repeat (first | exact hr1 _ | exact hr2 _ | exact hr3 _ | exact hr4 _ | exact Rd.own | exact Rd.fl | apply Rd.there)); done)))) | refine spl ?_ ?_ | intro hc)
          exact At_againK (k + 1) hlk (by omega) (by (exact sbf)) (by (exact sbf)) (by (exact frm))
      · obtain rfl : k = X.own.length := by omega
        (repeat' first | refine stp ?_ | intro v' hv' | intro (b : Nat) | (apply w_convU; rfl; rfl; omega; omega) | (apply w_convI; rfl; rfl; omega; omega) | (apply w_quoU; rfl; rfl; rfl; omega; omega; omega) | (apply w_remU; rfl; rfl; rfl; omega; omega) | (apply w_minL; rfl; rfl; rfl; omega) | (apply w_minG; rfl; rfl; rfl; omega) | (apply w_min; rfl; rfl; rfl) | (apply w_mfR; rfl; rfl) | (apply w_cvp; rfl; rfl; exact inferInstance; rfl; rfl; assumption) | (apply w_eqS2T; rfl; rfl; rfl; omega) | (apply w_eqS2F; rfl; rfl; rfl; omega) | (apply w_neS2T; rfl; rfl; rfl; omega) | (apply w_neS2F; rfl; rfl; rfl; omega) | (apply w_eqS3T; rfl; rfl; rfl; omega) | (apply w_eqS3F; rfl; rfl; rfl; omega) | (apply w_neS3T; rfl; rfl; rfl; omega) | (apply w_neS3F; rfl; rfl; rfl; omega) | (apply w_eqS3; rfl; rfl; rfl) | (apply w_neS3; rfl; rfl; rfl) | (apply w_eqS2; rfl; rfl; rfl) | (apply w_neS2; rfl; rfl; rfl) | (apply w_maxL; rfl; rfl; rfl; omega) | (apply w_maxG; rfl; rfl; rfl; omega) | (apply w_max; rfl; rfl; rfl) | (apply w_neB; rfl; rfl; rfl; rfl) | (apply w_eqB; rfl; rfl; rfl; rfl) | (apply w_ld0; rfl; rfl; ((focus ((repeat (first | exact hr1 _ | exact hr2 _ | exact hr3 _ | exact hr4 _ | exact Rd.own | exact Rd.fl | apply Rd.there)); done)))) | (apply w_ld; rfl; rfl; ((focus ((repeat (first | exact hr1 _ | exact hr2 _ | exact hr3 _ | exact hr4 _ | exact Rd.own | exact Rd.fl | apply Rd.there)); done)))) | refine spl ?_ ?_ | intro hc)
        exact At_againK (i + 1) hlt (by omega) (by (exact sbf)) (by (exact sbf)) (fun w hs => Sel.sat (by (focus ((repeat (first | exact Sel.refl | (apply Sel.cons; (focus ((repeat (first | exact Del.here | apply Del.there)); done))) | refine Sel.drop ?_)); done))) hs)
  · obtain rfl : i = 64 := by omega
    (repeat' first | refine stp ?_ | intro v' hv' | intro (b : Nat) | (apply w_convU; rfl; rfl; omega; omega) | (apply w_convI; rfl; rfl; omega; omega) | (apply w_quoU; rfl; rfl; rfl; omega; omega; omega) | (apply w_remU; rfl; rfl; rfl; omega; omega) | (apply w_minL; rfl; rfl; rfl; omega) | (apply w_minG; rfl; rfl; rfl; omega) | (apply w_min; rfl; rfl; rfl) | (apply w_mfR; rfl; rfl) | (apply w_cvp; rfl; rfl; exact inferInstance; rfl; rfl; assumption) | (apply w_eqS2T; rfl; rfl; rfl; omega) | (apply w_eqS2F; rfl; rfl; rfl; omega) | (apply w_neS2T; rfl; rfl; rfl; omega) | (apply w_neS2F; rfl; rfl; rfl; omega) | (apply w_eqS3T; rfl; rfl; rfl; omega) | (apply w_eqS3F; rfl; rfl; rfl; omega) | (apply w_neS3T; rfl; rfl; rfl; omega) | (apply w_neS3F; rfl; rfl; rfl; omega) | (apply w_eqS3; rfl; rfl; rfl) | (apply w_neS3; rfl; rfl; rfl) | (apply w_eqS2; rfl; rfl; rfl) | (apply w_neS2; rfl; rfl; rfl) | (apply w_maxL; rfl; rfl; rfl; omega) | (apply w_maxG; rfl; rfl; rfl; omega) | (apply w_max; rfl; rfl; rfl) | (apply w_neB; rfl; rfl; rfl; rfl) | (apply w_eqB; rfl; rfl; rfl; rfl) | (apply w_ld0; rfl; rfl; ((focus ((repeat (first | exact hr1 _ | exact hr2 _ | exact hr3 _ | exact hr4 _ | exact Rd.own | exact Rd.fl | apply Rd.there)); done)))) | (apply w_ld; rfl; rfl; ((focus ((repeat (first | exact hr1 _ | exact hr2 _ | exact hr3 _ | exact hr4 _ | exact Rd.own | exact Rd.fl | apply Rd.there)); done)))) | refine spl ?_ ?_ | intro hc)
    refine At_ret1 (by (first | exact .inl rfl | exact .inr rfl)) Try.results28 rfl ⟨rfl, rfl⟩ (fun w hs => ?_)
    have h1 : Sat w (pt bx 84 (rcl ov fv X.fo X.at') :: sl 3 1 ov (X.own.map ioE) :: sl 4 1 fv (X.fl.map boE) :: mtb tb M :: R) := Sel.sat (by (focus ((repeat (first | exact Sel.refl | (apply Sel.cons; (focus ((repeat (first | exact Del.here | apply Del.there)); done))) | refine Sel.drop ?_)); done))) hs
    exact Sel.sat (by (focus ((repeat (first | exact Sel.refl | (apply Sel.cons; (focus ((repeat (first | exact Del.here | apply Del.there)); done))) | refine Sel.drop ?_)); done))) (rtb_fold hokx h1)
end Go.Proofs.Ytoaaoijdknbanaa
