/- MutexPlays: owners. Conditions: none. -/
import Derived.Test.YtoaaoijdknbanaaMutAJ
set_option linter.all false
set_option linter.deprecated false
namespace Go.Proofs.Ytoaaoijdknbanaa
open Go.Sep
variable [B0 : Base]
def noL (q : List Ky) (i : Nat) : List Bool := (List.range 64).map fun (j : Nat) => decide ((j : Int) ∈ (q.take i).map (·.id))
theorem noL_len (q : List Ky) (i : Nat) : (noL q i).length = 64 := by unfold noL; simp
theorem noL_0 (q : List Ky) : noL q 0 = no0 := by
  unfold noL no0
  rw [List.take_zero]
  refine List.ext_getElem? fun j => ?_
  rw [List.getElem?_map, List.getElem?_replicate]
  by_cases h : j < 64
  · rw [if_pos h, List.getElem?_range h]; rfl
  · rw [if_neg h, List.getElem?_eq_none (by simp; omega)]; rfl
theorem noL_gb {q : List Ky} {i j : Nat} (h : j < 64) : gb (noL q i) j = true ↔ (j : Int) ∈ (q.take i).map (·.id) := by
  unfold gb noL
  rw [List.getD_eq_getElem?_getD, List.getElem?_map, List.getElem?_range h]
  simp only [Option.map_some, Option.getD_some, decide_eq_true_eq]
theorem noL_set {q : List Ky} {i jd : Nat} {x : Ky} (hx : q[i]? = some x) (he : x.id = (jd : Int)) (h : jd < 64) : (noL q i).set jd true = noL q (i + 1) := by
  unfold noL
  refine List.ext_getElem? fun j => ?_
  rw [List.getElem?_set, List.getElem?_map, List.getElem?_map]
  have e : q.take (i + 1) = q.take i ++ [x] := by rw [List.take_add_one, hx]; rfl
  by_cases hj : jd = j
  · subst hj
    rw [if_pos rfl, if_pos (by simp; exact h), List.getElem?_range h]
    simp [e, he]
  · rw [if_neg hj]
    by_cases hj2 : j < 64
    · rw [List.getElem?_range hj2]
      have : ¬ ((j : Int) = x.id) := by omega
      simp [e, this]
    · rw [List.getElem?_eq_none (by simp; omega)]; rfl
set_option maxRecDepth 4000 in
instance : ZeroOf Try.prog 87 (no0.map Value.bool) := ⟨by kernel_rfl⟩
attribute [local irreducible] noL
set_option maxHeartbeats 16000000 in
theorem owners_ok (tb bx : Nat) (M : List Lk) (X : RT) (hI : Inv2 M) (hR : Rel M X) (R : List HP) : Called Try.prog 27 [ptr tb, ptr bx] (mtb tb M :: rtb bx X :: R) (is (.bool true) (mtb tb M :: rtb bx X :: R)) := by
  refine Fn2 Try.func27 rfl Try.ntmps27 rfl ?_
  refine C_sat (L' := rtb bx X :: mtb tb M :: R) (by (exact frm)) ?_
  refine C_rtb fun ov fv hokx => ?_
  have hX := hokx.wf
  have hov := hokx.ov1
  have hfv := hokx.fv1
  have hfl := hX.l1
  have hfew := hX.few
  have hlen := hR.len
  have hwf := hI.wf
  (repeat' first | refine stp ?_ | intro v' hv' | intro (b : Nat) | (apply w_convU; rfl; rfl; omega; omega) | (apply w_convI; rfl; rfl; omega; omega) | (apply w_quoU; rfl; rfl; rfl; omega; omega; omega) | (apply w_remU; rfl; rfl; rfl; omega; omega) | (apply w_minL; rfl; rfl; rfl; omega) | (apply w_minG; rfl; rfl; rfl; omega) | (apply w_min; rfl; rfl; rfl) | (apply w_mfR; rfl; rfl) | (apply w_cvp; rfl; rfl; exact inferInstance; rfl; rfl; assumption) | (apply w_eqS2T; rfl; rfl; rfl; omega) | (apply w_eqS2F; rfl; rfl; rfl; omega) | (apply w_neS2T; rfl; rfl; rfl; omega) | (apply w_neS2F; rfl; rfl; rfl; omega) | (apply w_eqS3T; rfl; rfl; rfl; omega) | (apply w_eqS3F; rfl; rfl; rfl; omega) | (apply w_neS3T; rfl; rfl; rfl; omega) | (apply w_neS3F; rfl; rfl; rfl; omega) | (apply w_eqS3; rfl; rfl; rfl) | (apply w_neS3; rfl; rfl; rfl) | (apply w_eqS2; rfl; rfl; rfl) | (apply w_neS2; rfl; rfl; rfl) | (apply w_maxL; rfl; rfl; rfl; omega) | (apply w_maxG; rfl; rfl; rfl; omega) | (apply w_max; rfl; rfl; rfl) | (apply w_neB; rfl; rfl; rfl; rfl) | (apply w_eqB; rfl; rfl; rfl; rfl) | (apply w_ld0; rfl; rfl; ((focus ((repeat (first | exact hr1 _ | exact hr2 _ | exact hr3 _ | exact Rd.own | exact Rd.fl | apply Rd.there)); done)))) | (apply w_ld; rfl; rfl; ((focus ((repeat (first | exact hr1 _ | exact hr2 _ | exact hr3 _ | exact Rd.own | exact Rd.fl | apply Rd.there)); done)))) | (apply w_la0; rfl; rfl; ((focus ((repeat (first | exact hra _ | exact .pt | apply RdAll.there)); done))); first | rfl | exact hnl) | (apply w_la; rfl; rfl; ((focus ((repeat (first | exact hra _ | exact .pt | apply RdAll.there)); done))); first | rfl | exact hnl) | (apply w_st; rfl; rfl; rfl; ((focus ((repeat (first | exact hs1 _ | apply St.there)); done))); ((exact kmf))) | (apply w_cq; rfl; rfl; apply Called.at (h := hFi); ((focus ((repeat (first | exact Rep.here | apply Rep.there)); done)))) | refine spl ?_ ?_ | intro hc)
  refine C_loopK (α := Nat) [4, 5, 6, 7, 8, 9, 10, 11, 12, 13, 14, 15, 16, 17, 18, 19, 20, 21, 22, 23, 24, 25, 26, 27, 28, 29, 30, 31, 32, 33, 34, 35, 36, 37, 38, 39, 40, 41, 42, 43, 44, 45, 46, 47, 48, 49, 50, 51, 52, 53, 54, 55, 56, 57, 58, 59, 60, 61, 62, 63, 64, 65, 66, 67, 68, 69, 70, 71, 72, 73, 74, 75, 76, 77, 78, 79, 80, 81, 82, 83, 84, 85, 86, 87, 88, 89, 90, 91, 92, 93, 94, 95, 96, 97, 98, 99, 100, 101, 102, 103, 104, 105, 106, 107, 108, 109, 110, 111, 112, 113, 114, 115, 116, 117, 118, 119, 120, 121, 122, 123, 124, 125, 126, 127, 128, 129] (fun x => X.own.length - x) (fun x => [(5, int x)]) (fun x => pt bx 84 (rcl ov fv X.fo X.at') :: sl 3 1 ov (X.own.map ioE) :: sl 4 1 fv (X.fl.map boE) :: mtb tb M :: R) (fun x => x ≤ X.own.length) 0 (Nat.zero_le _) (by (focus ((repeat (first | exact Keep.nil | apply Keep.drop rfl | apply Keep.keep rfl)); done))) (by (exact sbf)) (fun w hs => Sel.sat (by (focus ((repeat (first | exact Sel.refl | (apply Sel.cons; (focus ((repeat (first | exact Del.here | apply Del.there)); done))) | refine Sel.drop ?_)); done))) hs) ?_
  rintro m hm
  dsimp only [List.cons_append, List.nil_append] at *
  by_cases hlt : m < X.own.length
  · have hmM : m < M.length := by omega
    have hlf : m < X.fl.length := by omega
    have hO := Owner_ok tb M m
    rw [owner_at hmM] at hO
    have hF := Flag_ok tb M m
    rw [flag_at hmM] at hF
    dsimp only at hF
    have wq := waiters_at hmM
    have hro := hR.own m hmM
    have hrf := hR.fl m hmM
    have hq64 := hwf.q64 (List.mem_of_getElem? (lk_some hmM))
    have hwo := hwf.own _ (List.mem_of_getElem? (lk_some hmM))
    have a0 : (0 : Int) ≤ m := by omega
    have a1 : (m : Int) < M.length := by omega
    have hr1 : ∀ L, Rd (sl 3 1 ov (X.own.map ioE) :: L) ⟨vb ov, vo ov + m * 1, none⟩ (int (lkA M m).own) := fun L => by rw [← hro]; exact Rd.io hlt
    have hr2 : ∀ L, Rd (sl 4 1 fv (X.fl.map boE) :: L) ⟨vb fv, vo fv + m * 1, none⟩ (.bool (lkA M m).flag) := fun L => by rw [← hrf]; exact Rd.bo hlf
    obtain ⟨v0, hv0⟩ := IsSl.any (N := (waitersM M m).length) (by rw [wq]; omega)
    have hfr := fun i => first_rel hI hR hmM (no := noL (lkA M m).q i) (a := i) (fun j hj => noL_gb hj)
    have hky := fun x hx => lkq_b hI.wf hmM (x := x) hx
    have hat := fun x hx => hR.at hI hmM (x := x) hx
    clear hro hrf
    generalize hown : (lkA M m).own = own at *
    generalize (lkA M m).flag = flag at *
    generalize hqq : (lkA M m).q = q at *
    by_cases h1 : own = -1
    all_goals simp only [h1, if_true, if_false] at hO
    all_goals cases flag
    all_goals
      (repeat' first | refine stp ?_ | intro v' hv' | intro (b : Nat) | (apply w_convU; rfl; rfl; omega; omega) | (apply w_convI; rfl; rfl; omega; omega) | (apply w_quoU; rfl; rfl; rfl; omega; omega; omega) | (apply w_remU; rfl; rfl; rfl; omega; omega) | (apply w_minL; rfl; rfl; rfl; omega) | (apply w_minG; rfl; rfl; rfl; omega) | (apply w_min; rfl; rfl; rfl) | (apply w_mfR; rfl; rfl) | (apply w_cvp; rfl; rfl; exact inferInstance; rfl; rfl; assumption) | (apply w_eqS2T; rfl; rfl; rfl; omega) | (apply w_eqS2F; rfl; rfl; rfl; omega) | (apply w_neS2T; rfl; rfl; rfl; omega) | (apply w_neS2F; rfl; rfl; rfl; omega) | (apply w_eqS3T; rfl; rfl; rfl; omega) | (apply w_eqS3F; rfl; rfl; rfl; omega) | (apply w_neS3T; rfl; rfl; rfl; omega) | (apply w_neS3F; rfl; rfl; rfl; omega) | (apply w_eqS3; rfl; rfl; rfl) | (apply w_neS3; rfl; rfl; rfl) | (apply w_eqS2; rfl; rfl; rfl) | (apply w_neS2; rfl; rfl; rfl) | (apply w_maxL; rfl; rfl; rfl; omega) | (apply w_maxG; rfl; rfl; rfl; omega) | (apply w_max; rfl; rfl; rfl) | (apply w_neB; rfl; rfl; rfl; rfl) | (apply w_eqB; rfl; rfl; rfl; rfl) | (apply w_ld0; rfl; rfl; ((focus ((repeat (first | exact hr1 _ | exact hr2 _ | exact hr3 _ | exact Rd.own | exact Rd.fl | apply Rd.there)); done)))) | (apply w_ld; rfl; rfl; ((focus ((repeat (first | exact hr1 _ | exact hr2 _ | exact hr3 _ | exact Rd.own | exact Rd.fl | apply Rd.there)); done)))) | (apply w_la0; rfl; rfl; ((focus ((repeat (first | exact hra _ | exact .pt | apply RdAll.there)); done))); first | rfl | exact hnl) | (apply w_la; rfl; rfl; ((focus ((repeat (first | exact hra _ | exact .pt | apply RdAll.there)); done))); first | rfl | exact hnl) | (apply w_st; rfl; rfl; rfl; ((focus ((repeat (first | exact hs1 _ | apply St.there)); done))); ((exact kmf))) | (apply w_cq; rfl; rfl; apply Called.at (h := hFi); ((focus ((repeat (first | exact Rep.here | apply Rep.there)); done)))) | refine spl ?_ ?_ | intro hc)
      apply w_cl
      rfl
      rfl
      exact Called.del1 (A := mtb tb M) (by (focus ((repeat (first | exact Del.here | apply Del.there)); done))) (keys_ok tb M m a0 a1 _)
      exact ⟨_, _, v0, rfl, hv0, rfl⟩
      rintro _ _ ⟨v5, rfl, hv5, rfl⟩
      refine ⟨by (exact kmf), ?_⟩
      rw [wq] at hv5 ⊢
      (repeat' first | refine stp ?_ | intro v' hv' | intro (b : Nat) | (apply w_convU; rfl; rfl; omega; omega) | (apply w_convI; rfl; rfl; omega; omega) | (apply w_quoU; rfl; rfl; rfl; omega; omega; omega) | (apply w_remU; rfl; rfl; rfl; omega; omega) | (apply w_minL; rfl; rfl; rfl; omega) | (apply w_minG; rfl; rfl; rfl; omega) | (apply w_min; rfl; rfl; rfl) | (apply w_mfR; rfl; rfl) | (apply w_cvp; rfl; rfl; exact inferInstance; rfl; rfl; assumption) | (apply w_eqS2T; rfl; rfl; rfl; omega) | (apply w_eqS2F; rfl; rfl; rfl; omega) | (apply w_neS2T; rfl; rfl; rfl; omega) | (apply w_neS2F; rfl; rfl; rfl; omega) | (apply w_eqS3T; rfl; rfl; rfl; omega) | (apply w_eqS3F; rfl; rfl; rfl; omega) | (apply w_neS3T; rfl; rfl; rfl; omega) | (apply w_neS3F; rfl; rfl; rfl; omega) | (apply w_eqS3; rfl; rfl; rfl) | (apply w_neS3; rfl; rfl; rfl) | (apply w_eqS2; rfl; rfl; rfl) | (apply w_neS2; rfl; rfl; rfl) | (apply w_maxL; rfl; rfl; rfl; omega) | (apply w_maxG; rfl; rfl; rfl; omega) | (apply w_max; rfl; rfl; rfl) | (apply w_neB; rfl; rfl; rfl; rfl) | (apply w_eqB; rfl; rfl; rfl; rfl) | (apply w_ld0; rfl; rfl; ((focus ((repeat (first | exact hr1 _ | exact hr2 _ | exact hr3 _ | exact Rd.own | exact Rd.fl | apply Rd.there)); done)))) | (apply w_ld; rfl; rfl; ((focus ((repeat (first | exact hr1 _ | exact hr2 _ | exact hr3 _ | exact Rd.own | exact Rd.fl | apply Rd.there)); done)))) | (apply w_la0; rfl; rfl; ((focus ((repeat (first | exact hra _ | exact .pt | apply RdAll.there)); done))); first | rfl | exact hnl) | (apply w_la; rfl; rfl; ((focus ((repeat (first | exact hra _ | exact .pt | apply RdAll.there)); done))); first | rfl | exact hnl) | (apply w_st; rfl; rfl; rfl; ((focus ((repeat (first | exact hs1 _ | apply St.there)); done))); ((exact kmf))) | (apply w_cq; rfl; rfl; apply Called.at (h := hFi); ((focus ((repeat (first | exact Rep.here | apply Rep.there)); done)))) | refine spl ?_ ?_ | intro hc)
      obtain ⟨b5, hb5⟩ : ∃ r, r = b := ⟨_, rfl⟩
      subst hb5
      refine C_loopK (α := Nat) [4, 13, 14, 96, 97, 98, 99, 100, 101, 102, 103, 104, 105, 106, 107, 108, 109, 110, 111, 112, 113, 114, 115, 116, 117, 118, 119, 120, 121, 122, 123, 124] (fun x => q.length - x) (fun x => [(13, int x)]) (fun x => pt b5 87 ((noL q x).map Value.bool) :: sl 46 2 v5 (q.map kyE) :: mtb tb M :: pt bx 84 (rcl ov fv X.fo X.at') :: sl 3 1 ov (X.own.map ioE) :: sl 4 1 fv (X.fl.map boE) :: R) (fun x => x ≤ q.length) 0 (Nat.zero_le _) (by (focus ((repeat (first | exact Keep.nil | apply Keep.drop rfl | apply Keep.keep rfl)); done))) (by (exact sbf)) (fun w hs => by rw [noL_0]; exact Sel.sat (by (focus ((repeat (first | exact Sel.refl | (apply Sel.cons; (focus ((repeat (first | exact Del.here | apply Del.there)); done))) | refine Sel.drop ?_)); done))) hs) ?_
      rintro i hi
      dsimp only [List.cons_append, List.nil_append] at *
      have hfi := hfr i
      have hnl0 := noL_len q i
      have hFi := First_low bx ov fv X.fo X.at' m (noL q i) hX.l2 hX.l3 hnl0
      rw [hfi] at hFi
      have hnl : ((noL q i).map Value.bool).length = 64 := by rw [List.length_map]; exact hnl0
      by_cases hli : i < q.length
      · have hx : q[i]? = some q[i] := List.getElem?_eq_getElem hli
        have hra0 : ∀ L, RdAll (sl 46 2 v5 (q.map kyE) :: L) (vb v5) (vo v5 + i * 2) (kyE q[i]) := fun L => RdAll.sl (by rw [List.getElem?_map, hx]; rfl)
        have hxb := hky _ (List.mem_of_getElem? hx)
        have hxa := (hat _ (List.mem_of_getElem? hx)).2
        rw [hx] at hFi
        dsimp only at hFi
        have hst := fun jd he h => noL_set (jd := jd) hx he h
        generalize q[i] = x at *
        obtain ⟨xa, xi⟩ := x
        dsimp only at *
        obtain ⟨jd, rfl⟩ := Int.eq_ofNat_of_zero_le hxb.1
        have hjd : jd < 64 := by omega
        rw [Int.toNat_natCast] at hxa
        have hra : ∀ L, RdAll (sl 46 2 v5 (q.map kyE) :: L) (vb v5) (vo v5 + i * 2) [int xa, int (jd : Int)] := hra0
        have hst := hst jd rfl hjd
        have hr3 : ∀ L, Rd (pt bx 84 (rcl ov fv X.fo X.at') :: L) ⟨bx, 0 + 66 + jd * 1, none⟩ (int xa) := fun L => by rw [← hxa]; exact Rd.at hX.l2 (by rw [hX.l3]; exact hjd)
        have hs1 : ∀ L, St (pt b5 87 ((noL q i).map Value.bool) :: L) ⟨b5, 0 + jd * 1, none⟩ (.bool true) (pt b5 87 ((noL q (i + 1)).map Value.bool) :: L) := fun L => by
          rw [← hst, List.map_set, show 0 + jd * 1 = jd by omega]
          exact St.pt' (by rw [Nat.blt_eq, hnl]; exact hjd) rfl
        (repeat' first | refine stp ?_ | intro v' hv' | intro (b : Nat) | (apply w_convU; rfl; rfl; omega; omega) | (apply w_convI; rfl; rfl; omega; omega) | (apply w_quoU; rfl; rfl; rfl; omega; omega; omega) | (apply w_remU; rfl; rfl; rfl; omega; omega) | (apply w_minL; rfl; rfl; rfl; omega) | (apply w_minG; rfl; rfl; rfl; omega) | (apply w_min; rfl; rfl; rfl) | (apply w_mfR; rfl; rfl) | (apply w_cvp; rfl; rfl; exact inferInstance; rfl; rfl; assumption) | (apply w_eqS2T; rfl; rfl; rfl; omega) | (apply w_eqS2F; rfl; rfl; rfl; omega) | (apply w_neS2T; rfl; rfl; rfl; omega) | (apply w_neS2F; rfl; rfl; rfl; omega) | (apply w_eqS3T; rfl; rfl; rfl; omega) | (apply w_eqS3F; rfl; rfl; rfl; omega) | (apply w_neS3T; rfl; rfl; rfl; omega) | (apply w_neS3F; rfl; rfl; rfl; omega) | (apply w_eqS3; rfl; rfl; rfl) | (apply w_neS3; rfl; rfl; rfl) | (apply w_eqS2; rfl; rfl; rfl) | (apply w_neS2; rfl; rfl; rfl) | (apply w_maxL; rfl; rfl; rfl; omega) | (apply w_maxG; rfl; rfl; rfl; omega) | (apply w_max; rfl; rfl; rfl) | (apply w_neB; rfl; rfl; rfl; rfl) | (apply w_eqB; rfl; rfl; rfl; rfl) | (apply w_ld0; rfl; rfl; ((focus ((repeat (first | exact hr1 _ | exact hr2 _ | exact hr3 _ | exact Rd.own | exact Rd.fl | apply Rd.there)); done)))) | (apply w_ld; rfl; rfl; ((focus ((repeat (first | exact hr1 _ | exact hr2 _ | exact hr3 _ | exact Rd.own | exact Rd.fl | apply Rd.there)); done)))) | (apply w_la0; rfl; rfl; ((focus ((repeat (first | exact hra _ | exact .pt | apply RdAll.there)); done))); first | rfl | exact hnl) | (apply w_la; rfl; rfl; ((focus ((repeat (first | exact hra _ | exact .pt | apply RdAll.there)); done))); first | rfl | exact hnl) | (apply w_st; rfl; rfl; rfl; ((focus ((repeat (first | exact hs1 _ | apply St.there)); done))); ((exact kmf))) | (apply w_cq; rfl; rfl; apply Called.at (h := hFi); ((focus ((repeat (first | exact Rep.here | apply Rep.there)); done)))) | refine spl ?_ ?_ | intro hc)
        exact At_againK (i + 1) hli (by omega) (by (exact sbf)) (by (exact sbf)) (by (exact frm))
      · obtain rfl : i = q.length := by omega
        rw [List.getElem?_eq_none (Nat.le_refl _)] at hFi
        dsimp only at hFi
        (repeat' first | refine stp ?_ | intro v' hv' | intro (b : Nat) | (apply w_convU; rfl; rfl; omega; omega) | (apply w_convI; rfl; rfl; omega; omega) | (apply w_quoU; rfl; rfl; rfl; omega; omega; omega) | (apply w_remU; rfl; rfl; rfl; omega; omega) | (apply w_minL; rfl; rfl; rfl; omega) | (apply w_minG; rfl; rfl; rfl; omega) | (apply w_min; rfl; rfl; rfl) | (apply w_mfR; rfl; rfl) | (apply w_cvp; rfl; rfl; exact inferInstance; rfl; rfl; assumption) | (apply w_eqS2T; rfl; rfl; rfl; omega) | (apply w_eqS2F; rfl; rfl; rfl; omega) | (apply w_neS2T; rfl; rfl; rfl; omega) | (apply w_neS2F; rfl; rfl; rfl; omega) | (apply w_eqS3T; rfl; rfl; rfl; omega) | (apply w_eqS3F; rfl; rfl; rfl; omega) | (apply w_neS3T; rfl; rfl; rfl; omega) | (apply w_neS3F; rfl; rfl; rfl; omega) | (apply w_eqS3; rfl; rfl; rfl) | (apply w_neS3; rfl; rfl; rfl) | (apply w_eqS2; rfl; rfl; rfl) | (apply w_neS2; rfl; rfl; rfl) | (apply w_maxL; rfl; rfl; rfl; omega) | (apply w_maxG; rfl; rfl; rfl; omega) | (apply w_max; rfl; rfl; rfl) | (apply w_neB; rfl; rfl; rfl; rfl) | (apply w_eqB; rfl; rfl; rfl; rfl) | (apply w_ld0; rfl; rfl; ((focus ((repeat (first | exact hr1 _ | exact hr2 _ | exact hr3 _ | exact Rd.own | exact Rd.fl | apply Rd.there)); done)))) | (apply w_ld; rfl; rfl; ((focus ((repeat (first | exact hr1 _ | exact hr2 _ | exact hr3 _ | exact Rd.own | exact Rd.fl | apply Rd.there)); done)))) | (apply w_la0; rfl; rfl; ((focus ((repeat (first | exact hra _ | exact .pt | apply RdAll.there)); done))); first | rfl | exact hnl) | (apply w_la; rfl; rfl; ((focus ((repeat (first | exact hra _ | exact .pt | apply RdAll.there)); done))); first | rfl | exact hnl) | (apply w_st; rfl; rfl; rfl; ((focus ((repeat (first | exact hs1 _ | apply St.there)); done))); ((exact kmf))) | (apply w_cq; rfl; rfl; apply Called.at (h := hFi); ((focus ((repeat (first | exact Rep.here | apply Rep.there)); done)))) | refine spl ?_ ?_ | intro hc)
        exact At_againK (m + 1) hlt (by omega) (by (exact sbf)) (by (exact sbf)) (fun w hs => Sel.sat (by (focus ((repeat (first | exact Sel.refl | (apply Sel.cons; (focus ((repeat (first | exact Del.here | apply Del.there)); done))) | refine Sel.drop ?_)); done))) hs)
  · obtain rfl : m = X.own.length := by omega
    (repeat' first | refine stp ?_ | intro v' hv' | intro (b : Nat) | (apply w_convU; rfl; rfl; omega; omega) | (apply w_convI; rfl; rfl; omega; omega) | (apply w_quoU; rfl; rfl; rfl; omega; omega; omega) | (apply w_remU; rfl; rfl; rfl; omega; omega) | (apply w_minL; rfl; rfl; rfl; omega) | (apply w_minG; rfl; rfl; rfl; omega) | (apply w_min; rfl; rfl; rfl) | (apply w_mfR; rfl; rfl) | (apply w_cvp; rfl; rfl; exact inferInstance; rfl; rfl; assumption) | (apply w_eqS2T; rfl; rfl; rfl; omega) | (apply w_eqS2F; rfl; rfl; rfl; omega) | (apply w_neS2T; rfl; rfl; rfl; omega) | (apply w_neS2F; rfl; rfl; rfl; omega) | (apply w_eqS3T; rfl; rfl; rfl; omega) | (apply w_eqS3F; rfl; rfl; rfl; omega) | (apply w_neS3T; rfl; rfl; rfl; omega) | (apply w_neS3F; rfl; rfl; rfl; omega) | (apply w_eqS3; rfl; rfl; rfl) | (apply w_neS3; rfl; rfl; rfl) | (apply w_eqS2; rfl; rfl; rfl) | (apply w_neS2; rfl; rfl; rfl) | (apply w_maxL; rfl; rfl; rfl; omega) | (apply w_maxG; rfl; rfl; rfl; omega) | (apply w_max; rfl; rfl; rfl) | (apply w_neB; rfl; rfl; rfl; rfl) | (apply w_eqB; rfl; rfl; rfl; rfl) | (apply w_ld0; rfl; rfl; ((focus ((repeat (first | exact hr1 _ | exact hr2 _ | exact hr3 _ | exact Rd.own | exact Rd.fl | apply Rd.there)); done)))) | (apply w_ld; rfl; rfl; ((focus ((repeat (first | exact hr1 _ | exact hr2 _ | exact hr3 _ | exact Rd.own | exact Rd.fl | apply Rd.there)); done)))) | (apply w_la0; rfl; rfl; ((focus ((repeat (first | exact hra _ | exact .pt | apply RdAll.there)); done))); first | rfl | exact hnl) | (apply w_la; rfl; rfl; ((focus ((repeat (first | exact hra _ | exact .pt | apply RdAll.there)); done))); first | rfl | exact hnl) | (apply w_st; rfl; rfl; rfl; ((focus ((repeat (first | exact hs1 _ | apply St.there)); done))); ((exact kmf))) | (apply w_cq; rfl; rfl; apply Called.at (h := hFi); ((focus ((repeat (first | exact Rep.here | apply Rep.there)); done)))) | refine spl ?_ ?_ | intro hc)
    refine At_ret1 (by (first | exact .inl rfl | exact .inr rfl)) Try.results27 rfl ⟨rfl, rfl⟩ (fun w hs => ?_)
    have h1 : Sat w (pt bx 84 (rcl ov fv X.fo X.at') :: sl 3 1 ov (X.own.map ioE) :: sl 4 1 fv (X.fl.map boE) :: mtb tb M :: R) := Sel.sat (by (focus ((repeat (first | exact Sel.refl | (apply Sel.cons; (focus ((repeat (first | exact Del.here | apply Del.there)); done))) | refine Sel.drop ?_)); done))) hs
    exact Sel.sat (by (focus ((repeat (first | exact Sel.refl | (apply Sel.cons; (focus ((repeat (first | exact Del.here | apply Del.there)); done))) | refine Sel.drop ?_)); done))) (rtb_fold hokx h1)
end Go.Proofs.Ytoaaoijdknbanaa
