/- mutex: the laws' does. Conditions: none. -/
import Derived.Test.YtoaaoijdknbanaaMutY
set_option linter.all false
set_option linter.deprecated false
namespace Go.Proofs.Ytoaaoijdknbanaa
open Go.Sep
variable [B0 : Base]
theorem quitM_b {M : List Lk} (h : MtK M) (n : Int) : (quitM M n).1.1.length ≤ 32 := by
  unfold quitM
  split
  · exact Nat.zero_le _
  · have h1 := (quitK_len (leaveM M n).2 n (heldN (leaveM M n).2 n).length).1
    rw [quitK_all, leave_len] at h1
    have := h.few
    dsimp only
    omega
theorem quitR_b {X : RT} (h : WfR X) (n : Int) : (quitR X n).1.1.1.length ≤ 32 ∧ (quitR X n).1.1.2.length = (quitR X n).1.1.1.length := by
  unfold quitR
  split
  · exact ⟨Nat.zero_le _, rfl⟩
  · obtain ⟨-, -, h1, h2⟩ := h.quitK n X.own.length
    have := h.few
    exact ⟨by dsimp only; omega, h2⟩
theorem map_eq_of {α : Type} {l : List α} {w : List Int} (f : α → Int) (hl : l.length = w.length) (h : ∀ i (hi : i < l.length), f l[i] = gi w i) : l.map f = w := by
  apply List.ext_getElem
  · rw [List.length_map]; exact hl
  · intro i h1 h2
    rw [List.getElem_map]
    rw [List.length_map] at h1
    rw [h i h1]
    have := gi_get h2
    rw [List.getElem?_eq_getElem h2] at this
    exact (Option.some.inj this).symm
theorem gi_of_map {α : Type} {l : List α} {w : List Int} (f : α → Int) (h : l.map f = w) (i : Nat) (hi : i < l.length) : f l[i] = gi w i := by
  subst h
  unfold gi
  rw [List.getD_eq_getElem?_getD, List.getElem?_map, List.getElem?_eq_getElem hi]; rfl
set_option maxHeartbeats 8000000 in
theorem does_5 (tb bx : Nat) (M : List Lk) (X : RT) (o : OpT) (h0 : o.ask ≠ 0) (h1 : o.ask ≠ 1) (h2 : o.ask ≠ 2) (h3 : o.ask ≠ 3) (h4 : o.ask ≠ 4) (R : List HP) : Called Try.prog 26 [ptr tb, ptr bx, opV o] (mtb tb M :: rtb bx X :: R)
    (is (.bool (decide ((quitM M o.n).1.2 = (quitR X o.n).1.2 ∧ (quitM M o.n).1.1.map (·.1) = (quitR X o.n).1.1.1 ∧ (quitM M o.n).1.1.map (·.2) = (quitR X o.n).1.1.2))) (mtb tb (quitM M o.n).2 :: rtb bx (quitR X o.n).2 :: R)) := by
  unfold opV opE
  obtain ⟨ask, m, n, t⟩ := o
  dsimp only at *
  refine Fn3 Try.func26 rfl Try.ntmps26 rfl ?_
  refine C_know (p := MtK M) (fun w hs => mtb_know hs) fun hK => ?_
  refine C_know (p := WfR X) (fun w hs => rtb_know (hs.perm (.swap ..))) fun hW => ?_
  have c1 := Quit_ok tb M n
  have c2 := rQuit_ok bx X n hW
  have q1 := quitM_b hK n
  have q2 := quitR_b hW n
  generalize quitM M n = p at *
  generalize quitR X n = q at *
  obtain ⟨⟨ou, e⟩, M'⟩ := p
  obtain ⟨⟨⟨ww, xx⟩, f⟩, X'⟩ := q
  dsimp only at *
  obtain ⟨q2, q3⟩ := q2
  (repeat' first | refine C_drawI (id := 7) [] [0, 1, 2, 3, 4, 6, 7, 8, 9, 10, 5, 11, 12, 13] (by kernel_rfl) (by kernel_rfl) (by kernel_rfl) rfl ?_ | refine C_drawI (id := 13) [] [0, 1, 2, 3, 4, 6, 7, 8, 9, 10, 5, 11, 12, 13] (by kernel_rfl) (by kernel_rfl) (by kernel_rfl) rfl ?_ | refine C_drawI (id := 15) [] [0, 1, 2, 4, 5, 6, 3, 7, 8, 9] (by kernel_rfl) (by kernel_rfl) (by kernel_rfl) rfl ?_ | refine stp ?_ | intro v' hv' | intro (b : Nat) | (apply w_convU; rfl; rfl; omega; omega) | (apply w_convI; rfl; rfl; omega; omega) | (apply w_quoU; rfl; rfl; rfl; omega; omega; omega) | (apply w_remU; rfl; rfl; rfl; omega; omega) | (apply w_minL; rfl; rfl; rfl; omega) | (apply w_minG; rfl; rfl; rfl; omega) | (apply w_min; rfl; rfl; rfl) | (apply w_mfR; rfl; rfl) | (apply w_cvp; rfl; rfl; exact inferInstance; rfl; rfl; assumption) | (apply w_eqS2T; rfl; rfl; rfl; omega) | (apply w_eqS2F; rfl; rfl; rfl; omega) | (apply w_neS2T; rfl; rfl; rfl; omega) | (apply w_neS2F; rfl; rfl; rfl; omega) | (apply w_eqS3T; rfl; rfl; rfl; omega) | (apply w_eqS3F; rfl; rfl; rfl; omega) | (apply w_neS3T; rfl; rfl; rfl; omega) | (apply w_neS3F; rfl; rfl; rfl; omega) | (apply w_eqS3; rfl; rfl; rfl) | (apply w_neS3; rfl; rfl; rfl) | (apply w_eqS2; rfl; rfl; rfl) | (apply w_neS2; rfl; rfl; rfl) | (apply w_maxL; rfl; rfl; rfl; omega) | (apply w_maxG; rfl; rfl; rfl; omega) | (apply w_max; rfl; rfl; rfl) | (apply w_neB; rfl; rfl; rfl; rfl) | (apply w_eqB; rfl; rfl; rfl; rfl) | refine spl ?_ ?_ | intro hc)
  obtain ⟨b5, hb5⟩ : ∃ r, r = b := ⟨_, rfl⟩
  subst hb5
  apply w_cl
  rfl; rfl; exact Called.pre (c1 (pt b5 24 [int ask, int m, int n, int t] :: rtb bx X :: R)) (by (exact frm))
  obtain ⟨v0, hv0⟩ := IsSl.any (N := ou.length) (by omega)
  exact ⟨_, _, v0, rfl, hv0, rfl⟩
  rintro _ _ ⟨v1, rfl, hv1, rfl⟩
  refine ⟨by (exact kmf), ?_⟩
  (repeat' first | refine C_drawI (id := 7) [] [0, 1, 2, 3, 4, 6, 7, 8, 9, 10, 5, 11, 12, 13] (by kernel_rfl) (by kernel_rfl) (by kernel_rfl) rfl ?_ | refine C_drawI (id := 13) [] [0, 1, 2, 3, 4, 6, 7, 8, 9, 10, 5, 11, 12, 13] (by kernel_rfl) (by kernel_rfl) (by kernel_rfl) rfl ?_ | refine C_drawI (id := 15) [] [0, 1, 2, 4, 5, 6, 3, 7, 8, 9] (by kernel_rfl) (by kernel_rfl) (by kernel_rfl) rfl ?_ | refine stp ?_ | intro v' hv' | intro (b : Nat) | (apply w_convU; rfl; rfl; omega; omega) | (apply w_convI; rfl; rfl; omega; omega) | (apply w_quoU; rfl; rfl; rfl; omega; omega; omega) | (apply w_remU; rfl; rfl; rfl; omega; omega) | (apply w_minL; rfl; rfl; rfl; omega) | (apply w_minG; rfl; rfl; rfl; omega) | (apply w_min; rfl; rfl; rfl) | (apply w_mfR; rfl; rfl) | (apply w_cvp; rfl; rfl; exact inferInstance; rfl; rfl; assumption) | (apply w_eqS2T; rfl; rfl; rfl; omega) | (apply w_eqS2F; rfl; rfl; rfl; omega) | (apply w_neS2T; rfl; rfl; rfl; omega) | (apply w_neS2F; rfl; rfl; rfl; omega) | (apply w_eqS3T; rfl; rfl; rfl; omega) | (apply w_eqS3F; rfl; rfl; rfl; omega) | (apply w_neS3T; rfl; rfl; rfl; omega) | (apply w_neS3F; rfl; rfl; rfl; omega) | (apply w_eqS3; rfl; rfl; rfl) | (apply w_neS3; rfl; rfl; rfl) | (apply w_eqS2; rfl; rfl; rfl) | (apply w_neS2; rfl; rfl; rfl) | (apply w_maxL; rfl; rfl; rfl; omega) | (apply w_maxG; rfl; rfl; rfl; omega) | (apply w_max; rfl; rfl; rfl) | (apply w_neB; rfl; rfl; rfl; rfl) | (apply w_eqB; rfl; rfl; rfl; rfl) | refine spl ?_ ?_ | intro hc)
  apply w_cl
  rfl; rfl; exact Called.pre (c2 (sl 54 2 v1 (ou.map hoE) :: mtb tb M' :: pt b5 24 [int ask, int m, int n, int t] :: R)) (by (exact frm))
  obtain ⟨v0, hv0⟩ := IsSl.any (N := ww.length) (by omega)
  exact ⟨_, _, v0, v0, rfl, hv0, by rw [q3]; exact hv0, rfl⟩
  rintro _ _ ⟨v2, v3, rfl, hv2, hv3, rfl⟩
  refine ⟨by (exact kmf), ?_⟩
  by_cases he : e = f
  · by_cases hl : ou.length = ww.length
    · (repeat' first | refine C_drawI (id := 7) [] [0, 1, 2, 3, 4, 6, 7, 8, 9, 10, 5, 11, 12, 13] (by kernel_rfl) (by kernel_rfl) (by kernel_rfl) rfl ?_ | refine C_drawI (id := 13) [] [0, 1, 2, 3, 4, 6, 7, 8, 9, 10, 5, 11, 12, 13] (by kernel_rfl) (by kernel_rfl) (by kernel_rfl) rfl ?_ | refine C_drawI (id := 15) [] [0, 1, 2, 4, 5, 6, 3, 7, 8, 9] (by kernel_rfl) (by kernel_rfl) (by kernel_rfl) rfl ?_ | refine stp ?_ | intro v' hv' | intro (b : Nat) | (apply w_convU; rfl; rfl; omega; omega) | (apply w_convI; rfl; rfl; omega; omega) | (apply w_quoU; rfl; rfl; rfl; omega; omega; omega) | (apply w_remU; rfl; rfl; rfl; omega; omega) | (apply w_minL; rfl; rfl; rfl; omega) | (apply w_minG; rfl; rfl; rfl; omega) | (apply w_min; rfl; rfl; rfl) | (apply w_mfR; rfl; rfl) | (apply w_cvp; rfl; rfl; exact inferInstance; rfl; rfl; assumption) | (apply w_eqS2T; rfl; rfl; rfl; omega) | (apply w_eqS2F; rfl; rfl; rfl; omega) | (apply w_neS2T; rfl; rfl; rfl; omega) | (apply w_neS2F; rfl; rfl; rfl; omega) | (apply w_eqS3T; rfl; rfl; rfl; omega) | (apply w_eqS3F; rfl; rfl; rfl; omega) | (apply w_neS3T; rfl; rfl; rfl; omega) | (apply w_neS3F; rfl; rfl; rfl; omega) | (apply w_eqS3; rfl; rfl; rfl) | (apply w_neS3; rfl; rfl; rfl) | (apply w_eqS2; rfl; rfl; rfl) | (apply w_neS2; rfl; rfl; rfl) | (apply w_maxL; rfl; rfl; rfl; omega) | (apply w_maxG; rfl; rfl; rfl; omega) | (apply w_max; rfl; rfl; rfl) | (apply w_neB; rfl; rfl; rfl; rfl) | (apply w_eqB; rfl; rfl; rfl; rfl) | refine spl ?_ ?_ | intro hc)
      refine C_loopK (α := Nat) [6, 20, 149, 150, 151, 152, 153, 154, 155, 156, 157, 158, 159, 160, 161, 162, 163, 164, 165, 166, 167, 168, 169, 170, 171, 172, 173, 174, 175, 176] (fun x => ou.length - x) (fun x => [(20, int x)]) (fun _ => sl 54 2 v1 (ou.map hoE) :: sl 3 1 v2 (ww.map ioE) :: sl 3 1 v3 (xx.map ioE) :: mtb tb M' :: rtb bx X' :: R) (fun x => x ≤ ou.length ∧ (∀ i (hi : i < ou.length), i < x → ou[i].1 = gi ww i) ∧ (∀ i (hi : i < ou.length), i < x → ou[i].2 = gi xx i)) 0 ⟨Nat.zero_le _, fun i _ hi => absurd hi (by omega), fun i _ hi => absurd hi (by omega)⟩ (by (focus ((repeat (first | exact Keep.nil | apply Keep.drop rfl | apply Keep.keep rfl)); done))) (by (exact sbf)) (by (exact frm)) ?_
      rintro k ⟨hk, ha, hb⟩
      dsimp only [List.cons_append, List.nil_append] at *
      by_cases hlt : k < ou.length
      · have hx : ou[k]? = some ou[k] := by simp [hlt]
        have hpe : (ou.map hoE)[k]? = some [int ou[k].1, int ou[k].2] := by rw [List.getElem?_map, hx]; rfl
        have hpw : (ww.map ioE)[k]? = some [int (gi ww k)] := by rw [List.getElem?_map, gi_get (by omega)]; rfl
        have hpx : (xx.map ioE)[k]? = some [int (gi xx k)] := by rw [List.getElem?_map, gi_get (by omega)]; rfl
        by_cases h5 : ou[k].1 = gi ww k
        · by_cases h6 : ou[k].2 = gi xx k
          · have hA : ∀ i (hi : i < ou.length), i < k + 1 → ou[i].1 = gi ww i := fun i hi hik => by
              by_cases hh : i < k
              · exact ha i hi hh
              · obtain rfl : i = k := by omega
                exact h5
            have hB : ∀ i (hi : i < ou.length), i < k + 1 → ou[i].2 = gi xx i := fun i hi hik => by
              by_cases hh : i < k
              · exact hb i hi hh
              · obtain rfl : i = k := by omega
                exact h6
            generalize ou[k] = pk at *
            generalize gi ww k = g1 at *
            generalize gi xx k = g2 at *
            (repeat' first | refine C_drawI (id := 7) [] [0, 1, 2, 3, 4, 6, 7, 8, 9, 10, 5, 11, 12, 13] (by kernel_rfl) (by kernel_rfl) (by kernel_rfl) rfl ?_ | refine C_drawI (id := 13) [] [0, 1, 2, 3, 4, 6, 7, 8, 9, 10, 5, 11, 12, 13] (by kernel_rfl) (by kernel_rfl) (by kernel_rfl) rfl ?_ | refine C_drawI (id := 15) [] [0, 1, 2, 4, 5, 6, 3, 7, 8, 9] (by kernel_rfl) (by kernel_rfl) (by kernel_rfl) rfl ?_ | refine stp ?_ | intro v' hv' | intro (b : Nat) | (apply w_convU; rfl; rfl; omega; omega) | (apply w_convI; rfl; rfl; omega; omega) | (apply w_quoU; rfl; rfl; rfl; omega; omega; omega) | (apply w_remU; rfl; rfl; rfl; omega; omega) | (apply w_minL; rfl; rfl; rfl; omega) | (apply w_minG; rfl; rfl; rfl; omega) | (apply w_min; rfl; rfl; rfl) | (apply w_mfR; rfl; rfl) | (apply w_cvp; rfl; rfl; exact inferInstance; rfl; rfl; assumption) | (apply w_eqS2T; rfl; rfl; rfl; omega) | (apply w_eqS2F; rfl; rfl; rfl; omega) | (apply w_neS2T; rfl; rfl; rfl; omega) | (apply w_neS2F; rfl; rfl; rfl; omega) | (apply w_eqS3T; rfl; rfl; rfl; omega) | (apply w_eqS3F; rfl; rfl; rfl; omega) | (apply w_neS3T; rfl; rfl; rfl; omega) | (apply w_neS3F; rfl; rfl; rfl; omega) | (apply w_eqS3; rfl; rfl; rfl) | (apply w_neS3; rfl; rfl; rfl) | (apply w_eqS2; rfl; rfl; rfl) | (apply w_neS2; rfl; rfl; rfl) | (apply w_maxL; rfl; rfl; rfl; omega) | (apply w_maxG; rfl; rfl; rfl; omega) | (apply w_max; rfl; rfl; rfl) | (apply w_neB; rfl; rfl; rfl; rfl) | (apply w_eqB; rfl; rfl; rfl; rfl) | refine spl ?_ ?_ | intro hc)
            exact At_againK (k + 1) ⟨hlt, hA, hB⟩ (by omega) (by (exact sbf)) (by (exact sbf)) (by (exact frm))
          · rw [decide_eq_false (fun h => h6 (gi_of_map (·.2) h.2.2 k hlt))]
            (repeat' first | refine C_drawI (id := 7) [] [0, 1, 2, 3, 4, 6, 7, 8, 9, 10, 5, 11, 12, 13] (by kernel_rfl) (by kernel_rfl) (by kernel_rfl) rfl ?_ | refine C_drawI (id := 13) [] [0, 1, 2, 3, 4, 6, 7, 8, 9, 10, 5, 11, 12, 13] (by kernel_rfl) (by kernel_rfl) (by kernel_rfl) rfl ?_ | refine C_drawI (id := 15) [] [0, 1, 2, 4, 5, 6, 3, 7, 8, 9] (by kernel_rfl) (by kernel_rfl) (by kernel_rfl) rfl ?_ | refine stp ?_ | intro v' hv' | intro (b : Nat) | (apply w_convU; rfl; rfl; omega; omega) | (apply w_convI; rfl; rfl; omega; omega) | (apply w_quoU; rfl; rfl; rfl; omega; omega; omega) | (apply w_remU; rfl; rfl; rfl; omega; omega) | (apply w_minL; rfl; rfl; rfl; omega) | (apply w_minG; rfl; rfl; rfl; omega) | (apply w_min; rfl; rfl; rfl) | (apply w_mfR; rfl; rfl) | (apply w_cvp; rfl; rfl; exact inferInstance; rfl; rfl; assumption) | (apply w_eqS2T; rfl; rfl; rfl; omega) | (apply w_eqS2F; rfl; rfl; rfl; omega) | (apply w_neS2T; rfl; rfl; rfl; omega) | (apply w_neS2F; rfl; rfl; rfl; omega) | (apply w_eqS3T; rfl; rfl; rfl; omega) | (apply w_eqS3F; rfl; rfl; rfl; omega) | (apply w_neS3T; rfl; rfl; rfl; omega) | (apply w_neS3F; rfl; rfl; rfl; omega) | (apply w_eqS3; rfl; rfl; rfl) | (apply w_neS3; rfl; rfl; rfl) | (apply w_eqS2; rfl; rfl; rfl) | (apply w_neS2; rfl; rfl; rfl) | (apply w_maxL; rfl; rfl; rfl; omega) | (apply w_maxG; rfl; rfl; rfl; omega) | (apply w_max; rfl; rfl; rfl) | (apply w_neB; rfl; rfl; rfl; rfl) | (apply w_eqB; rfl; rfl; rfl; rfl) | refine spl ?_ ?_ | intro hc)
            all_goals (refine At_ret1 (by (first | exact .inl rfl | exact .inr rfl)) Try.results26 rfl ⟨by rfl, rfl⟩ (by (exact frm)))
        · rw [decide_eq_false (fun h => h5 (gi_of_map (·.1) h.2.1 k hlt))]
          (repeat' first | refine C_drawI (id := 7) [] [0, 1, 2, 3, 4, 6, 7, 8, 9, 10, 5, 11, 12, 13] (by kernel_rfl) (by kernel_rfl) (by kernel_rfl) rfl ?_ | refine C_drawI (id := 13) [] [0, 1, 2, 3, 4, 6, 7, 8, 9, 10, 5, 11, 12, 13] (by kernel_rfl) (by kernel_rfl) (by kernel_rfl) rfl ?_ | refine C_drawI (id := 15) [] [0, 1, 2, 4, 5, 6, 3, 7, 8, 9] (by kernel_rfl) (by kernel_rfl) (by kernel_rfl) rfl ?_ | refine stp ?_ | intro v' hv' | intro (b : Nat) | (apply w_convU; rfl; rfl; omega; omega) | (apply w_convI; rfl; rfl; omega; omega) | (apply w_quoU; rfl; rfl; rfl; omega; omega; omega) | (apply w_remU; rfl; rfl; rfl; omega; omega) | (apply w_minL; rfl; rfl; rfl; omega) | (apply w_minG; rfl; rfl; rfl; omega) | (apply w_min; rfl; rfl; rfl) | (apply w_mfR; rfl; rfl) | (apply w_cvp; rfl; rfl; exact inferInstance; rfl; rfl; assumption) | (apply w_eqS2T; rfl; rfl; rfl; omega) | (apply w_eqS2F; rfl; rfl; rfl; omega) | (apply w_neS2T; rfl; rfl; rfl; omega) | (apply w_neS2F; rfl; rfl; rfl; omega) | (apply w_eqS3T; rfl; rfl; rfl; omega) | (apply w_eqS3F; rfl; rfl; rfl; omega) | (apply w_neS3T; rfl; rfl; rfl; omega) | (apply w_neS3F; rfl; rfl; rfl; omega) | (apply w_eqS3; rfl; rfl; rfl) | (apply w_neS3; rfl; rfl; rfl) | (apply w_eqS2; rfl; rfl; rfl) | (apply w_neS2; rfl; rfl; rfl) | (apply w_maxL; rfl; rfl; rfl; omega) | (apply w_maxG; rfl; rfl; rfl; omega) | (apply w_max; rfl; rfl; rfl) | (apply w_neB; rfl; rfl; rfl; rfl) | (apply w_eqB; rfl; rfl; rfl; rfl) | refine spl ?_ ?_ | intro hc)
          all_goals (refine At_ret1 (by (first | exact .inl rfl | exact .inr rfl)) Try.results26 rfl ⟨by rfl, rfl⟩ (by (exact frm)))
      · obtain rfl : k = ou.length := by omega
        rw [decide_eq_true ⟨he, map_eq_of (·.1) hl (fun i hi => ha i hi hi), map_eq_of (·.2) (by omega) (fun i hi => hb i hi hi)⟩]
        (repeat' first | refine C_drawI (id := 7) [] [0, 1, 2, 3, 4, 6, 7, 8, 9, 10, 5, 11, 12, 13] (by kernel_rfl) (by kernel_rfl) (by kernel_rfl) rfl ?_ | refine C_drawI (id := 13) [] [0, 1, 2, 3, 4, 6, 7, 8, 9, 10, 5, 11, 12, 13] (by kernel_rfl) (by kernel_rfl) (by kernel_rfl) rfl ?_ | refine C_drawI (id := 15) [] [0, 1, 2, 4, 5, 6, 3, 7, 8, 9] (by kernel_rfl) (by kernel_rfl) (by kernel_rfl) rfl ?_ | refine stp ?_ | intro v' hv' | intro (b : Nat) | (apply w_convU; rfl; rfl; omega; omega) | (apply w_convI; rfl; rfl; omega; omega) | (apply w_quoU; rfl; rfl; rfl; omega; omega; omega) | (apply w_remU; rfl; rfl; rfl; omega; omega) | (apply w_minL; rfl; rfl; rfl; omega) | (apply w_minG; rfl; rfl; rfl; omega) | (apply w_min; rfl; rfl; rfl) | (apply w_mfR; rfl; rfl) | (apply w_cvp; rfl; rfl; exact inferInstance; rfl; rfl; assumption) | (apply w_eqS2T; rfl; rfl; rfl; omega) | (apply w_eqS2F; rfl; rfl; rfl; omega) | (apply w_neS2T; rfl; rfl; rfl; omega) | (apply w_neS2F; rfl; rfl; rfl; omega) | (apply w_eqS3T; rfl; rfl; rfl; omega) | (apply w_eqS3F; rfl; rfl; rfl; omega) | (apply w_neS3T; rfl; rfl; rfl; omega) | (apply w_neS3F; rfl; rfl; rfl; omega) | (apply w_eqS3; rfl; rfl; rfl) | (apply w_neS3; rfl; rfl; rfl) | (apply w_eqS2; rfl; rfl; rfl) | (apply w_neS2; rfl; rfl; rfl) | (apply w_maxL; rfl; rfl; rfl; omega) | (apply w_maxG; rfl; rfl; rfl; omega) | (apply w_max; rfl; rfl; rfl) | (apply w_neB; rfl; rfl; rfl; rfl) | (apply w_eqB; rfl; rfl; rfl; rfl) | refine spl ?_ ?_ | intro hc)
        all_goals (refine At_ret1 (by (first | exact .inl rfl | exact .inr rfl)) Try.results26 rfl ⟨by rfl, rfl⟩ (by (exact frm)))
    · rw [decide_eq_false (fun h => hl (by rw [← h.2.1, List.length_map]))]
      (repeat' first | refine C_drawI (id := 7) [] [0, 1, 2, 3, 4, 6, 7, 8, 9, 10, 5, 11, 12, 13] (by kernel_rfl) (by kernel_rfl) (by kernel_rfl) rfl ?_ | refine C_drawI (id := 13) [] [0, 1, 2, 3, 4, 6, 7, 8, 9, 10, 5, 11, 12, 13] (by kernel_rfl) (by kernel_rfl) (by kernel_rfl) rfl ?_ | refine C_drawI (id := 15) [] [0, 1, 2, 4, 5, 6, 3, 7, 8, 9] (by kernel_rfl) (by kernel_rfl) (by kernel_rfl) rfl ?_ | refine stp ?_ | intro v' hv' | intro (b : Nat) | (apply w_convU; rfl; rfl; omega; omega) | (apply w_convI; rfl; rfl; omega; omega) | (apply w_quoU; rfl; rfl; rfl; omega; omega; omega) | (apply w_remU; rfl; rfl; rfl; omega; omega) | (apply w_minL; rfl; rfl; rfl; omega) | (apply w_minG; rfl; rfl; rfl; omega) | (apply w_min; rfl; rfl; rfl) | (apply w_mfR; rfl; rfl) | (apply w_cvp; rfl; rfl; exact inferInstance; rfl; rfl; assumption) | (apply w_eqS2T; rfl; rfl; rfl; omega) | (apply w_eqS2F; rfl; rfl; rfl; omega) | (apply w_neS2T; rfl; rfl; rfl; omega) | (apply w_neS2F; rfl; rfl; rfl; omega) | (apply w_eqS3T; rfl; rfl; rfl; omega) | (apply w_eqS3F; rfl; rfl; rfl; omega) | (apply w_neS3T; rfl; rfl; rfl; omega) | (apply w_neS3F; rfl; rfl; rfl; omega) | (apply w_eqS3; rfl; rfl; rfl) | (apply w_neS3; rfl; rfl; rfl) | (apply w_eqS2; rfl; rfl; rfl) | (apply w_neS2; rfl; rfl; rfl) | (apply w_maxL; rfl; rfl; rfl; omega) | (apply w_maxG; rfl; rfl; rfl; omega) | (apply w_max; rfl; rfl; rfl) | (apply w_neB; rfl; rfl; rfl; rfl) | (apply w_eqB; rfl; rfl; rfl; rfl) | refine spl ?_ ?_ | intro hc)
      all_goals (refine At_ret1 (by (first | exact .inl rfl | exact .inr rfl)) Try.results26 rfl ⟨by rfl, rfl⟩ (by (exact frm)))
  · rw [decide_eq_false (fun h => he h.1)]
    (repeat' first | refine C_drawI (id := 7) [] [0, 1, 2, 3, 4, 6, 7, 8, 9, 10, 5, 11, 12, 13] (by kernel_rfl) (by kernel_rfl) (by kernel_rfl) rfl ?_ | refine C_drawI (id := 13) [] [0, 1, 2, 3, 4, 6, 7, 8, 9, 10, 5, 11, 12, 13] (by kernel_rfl) (by kernel_rfl) (by kernel_rfl) rfl ?_ | refine C_drawI (id := 15) [] [0, 1, 2, 4, 5, 6, 3, 7, 8, 9] (by kernel_rfl) (by kernel_rfl) (by kernel_rfl) rfl ?_ | refine stp ?_ | intro v' hv' | intro (b : Nat) | (apply w_convU; rfl; rfl; omega; omega) | (apply w_convI; rfl; rfl; omega; omega) | (apply w_quoU; rfl; rfl; rfl; omega; omega; omega) | (apply w_remU; rfl; rfl; rfl; omega; omega) | (apply w_minL; rfl; rfl; rfl; omega) | (apply w_minG; rfl; rfl; rfl; omega) | (apply w_min; rfl; rfl; rfl) | (apply w_mfR; rfl; rfl) | (apply w_cvp; rfl; rfl; exact inferInstance; rfl; rfl; assumption) | (apply w_eqS2T; rfl; rfl; rfl; omega) | (apply w_eqS2F; rfl; rfl; rfl; omega) | (apply w_neS2T; rfl; rfl; rfl; omega) | (apply w_neS2F; rfl; rfl; rfl; omega) | (apply w_eqS3T; rfl; rfl; rfl; omega) | (apply w_eqS3F; rfl; rfl; rfl; omega) | (apply w_neS3T; rfl; rfl; rfl; omega) | (apply w_neS3F; rfl; rfl; rfl; omega) | (apply w_eqS3; rfl; rfl; rfl) | (apply w_neS3; rfl; rfl; rfl) | (apply w_eqS2; rfl; rfl; rfl) | (apply w_neS2; rfl; rfl; rfl) | (apply w_maxL; rfl; rfl; rfl; omega) | (apply w_maxG; rfl; rfl; rfl; omega) | (apply w_max; rfl; rfl; rfl) | (apply w_neB; rfl; rfl; rfl; rfl) | (apply w_eqB; rfl; rfl; rfl; rfl) | refine spl ?_ ?_ | intro hc)
    all_goals (refine At_ret1 (by (first | exact .inl rfl | exact .inr rfl)) Try.results26 rfl ⟨by rfl, rfl⟩ (by (exact frm)))
theorem does_ok (tb bx : Nat) (M : List Lk) (X : RT) (o : OpT) (R : List HP) : Called Try.prog 26 [ptr tb, ptr bx, opV o] (mtb tb M :: rtb bx X :: R)
    (is (.bool (decide (doesP M X o))) (mtb tb (doesM M o) :: rtb bx (doesX X o) :: R)) := by
  obtain ⟨ask, m, n, t⟩ := o
  by_cases h0 : ask = 0
  · subst h0; exact does_0 tb bx M X m n t R
  by_cases h1 : ask = 1
  · subst h1; exact does_1 tb bx M X m n t R
  by_cases h2 : ask = 2
  · subst h2; exact does_2 tb bx M X m n t R
  by_cases h3 : ask = 3
  · subst h3; exact does_3 tb bx M X m n t R
  by_cases h4 : ask = 4
  · subst h4; exact does_4 tb bx M X m n t R
  have h5 := does_5 tb bx M X ⟨ask, m, n, t⟩ h0 h1 h2 h3 h4 R
  have e1 : doesM M ⟨ask, m, n, t⟩ = (quitM M n).2 := by unfold doesM; simp only [h0, h1, h2, h3, h4, if_false]
  have e2 : doesX X ⟨ask, m, n, t⟩ = (quitR X n).2 := by unfold doesX; simp only [h0, h1, h2, h3, h4, if_false]
  have e3 : doesP M X ⟨ask, m, n, t⟩ = ((quitM M n).1.2 = (quitR X n).1.2 ∧ (quitM M n).1.1.map (·.1) = (quitR X n).1.1.1 ∧ (quitM M n).1.1.map (·.2) = (quitR X n).1.1.2) := by unfold doesP; simp only [h0, h1, h2, h3, h4, if_false]
  have e4 : decide (doesP M X ⟨ask, m, n, t⟩) = decide ((quitM M n).1.2 = (quitR X n).1.2 ∧ (quitM M n).1.1.map (·.1) = (quitR X n).1.1.1 ∧ (quitM M n).1.1.map (·.2) = (quitR X n).1.1.2) := by simp only [e3]
  rw [e1, e2, e4]
  exact h5
end Go.Proofs.Ytoaaoijdknbanaa
