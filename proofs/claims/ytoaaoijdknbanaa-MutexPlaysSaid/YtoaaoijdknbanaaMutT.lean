/- mutex: the document's answer: hand, Lock, Try, Unlock, Rekey, Leave. Conditions: none. -/
import Derived.Test.YtoaaoijdknbanaaMutS
set_option linter.all false
set_option linter.deprecated false
namespace Go.Proofs.Ytoaaoijdknbanaa
open Go.Sep
variable [B0 : Base]
theorem St.io {ov : Value} {l : List Int} {L : List HP} {k : Nat} {x : Int} (h : k < l.length) : St (sl 3 1 ov (l.map ioE) :: L) ⟨vb ov, vo ov + k * 1, none⟩ (int x) (sl 3 1 ov ((l.set k x).map ioE) :: L) :=
  St.slm (f := ioE) (k := 0) x h (by show 0 < 1; decide) rfl
theorem St.bo {ov : Value} {l : List Bool} {L : List HP} {k : Nat} {x : Bool} (h : k < l.length) : St (sl 4 1 ov (l.map boE) :: L) ⟨vb ov, vo ov + k * 1, none⟩ (.bool x) (sl 4 1 ov ((l.set k x).map boE) :: L) :=
  St.slm (f := boE) (k := 0) x h (by show 0 < 1; decide) rfl
theorem Rd.io {ov : Value} {l : List Int} {L : List HP} {k : Nat} (h : k < l.length) : Rd (sl 3 1 ov (l.map ioE) :: L) ⟨vb ov, vo ov + k * 1, none⟩ (int (gi l k)) :=
  Rd.sl (n := 1) (k := 0) (e := ioE (gi l k)) (by rw [List.getElem?_map, gi_get h]; rfl) rfl
theorem Rd.bo {ov : Value} {l : List Bool} {L : List HP} {k : Nat} (h : k < l.length) : Rd (sl 4 1 ov (l.map boE) :: L) ⟨vb ov, vo ov + k * 1, none⟩ (.bool (gb l k)) :=
  Rd.sl (n := 1) (k := 0) (e := boE (gb l k)) (by rw [List.getElem?_map, gb_get h]; rfl) rfl
set_option maxRecDepth 4000 in
instance : BuildP Try.prog 87 0 [] (no0.map Value.bool) := ⟨by kernel_rfl⟩
set_option maxHeartbeats 8000000 in
theorem rhand_ok (bx : Nat) (X : RT) (k : Nat) (f : Bool) (hk : k < X.own.length) (R : List HP) : Called Try.prog 57 [ptr bx, int (k : Int), .bool f] (rtb bx X :: R) (is (int (handR X k f).1) (rtb bx (handR X k f).2 :: R)) := by
  refine Fn3 Try.func57 rfl Try.ntmps57 rfl ?_
  refine C_rtb fun ov fv hok => ?_
  have hwf := hok.wf
  have hwf2 := hwf.hand k f
  have h1 := hok.ov1
  have h2 := hok.fv1
  have hl1 := hwf.l1
  have hk2 : k < X.fl.length := by omega
  have hfold : ∀ {X'} (h : RtOk X' ov fv) w, Sat w (pt bx 84 (rcl ov fv X'.fo X'.at') :: sl 3 1 ov (X'.own.map ioE) :: sl 4 1 fv (X'.fl.map boE) :: R) → Sat w (rtb bx X' :: R) := fun h w hs => rtb_fold h hs
  have hFi := First_low bx ov fv X.fo X.at' k no0 hwf.l2 hwf.l3 rfl
  have hb := firstK_b X.fo X.at' k no0 64
  have he : firstR X.fo X.at' k no0 = firstK X.fo X.at' k no0 64 := rfl
  rw [← he] at hb
  clear he
  unfold handR at *
  generalize firstR X.fo X.at' k no0 = o at *
  dsimp only at *
  have hs1 : ∀ L, St (sl 4 1 fv (X.fl.map boE) :: L) ⟨vb fv, vo fv + k * 1, none⟩ (.bool f) (sl 4 1 fv ((X.fl.set k f).map boE) :: L) := fun L => St.bo hk2
  have hs2 : ∀ L, St (sl 3 1 ov (X.own.map ioE) :: L) ⟨vb ov, vo ov + k * 1, none⟩ (int o) (sl 3 1 ov ((X.own.set k o).map ioE) :: L) := fun L => St.io hk
  have hr1 : ∀ L, Rd (sl 3 1 ov ((X.own.set k o).map ioE) :: L) ⟨vb ov, vo ov + k * 1, none⟩ (int o) := fun L => by
    have := Rd.io (ov := ov) (l := X.own.set k o) (L := L) (k := k) (by rw [List.length_set]; exact hk)
    rw [gi_set hk, if_pos rfl] at this
    exact this
  by_cases h0 : 0 ≤ o
  · obtain ⟨j, rfl⟩ := Int.eq_ofNat_of_zero_le h0
    rw [if_pos h0] at *
    have hs3 : ∀ L, St (pt bx 84 (rcl ov fv X.fo X.at') :: L) ⟨bx, 0 + 2 + j * 1, none⟩ (int (-1)) (pt bx 84 (rcl ov fv (X.fo.set j (-1)) X.at') :: L) := fun L => St.fo (by have := hwf.l2; omega)
    (repeat' first | refine stp ?_ | intro v' hv' | intro (b : Nat) | (apply w_convU; rfl; rfl; omega; omega) | (apply w_convI; rfl; rfl; omega; omega) | (apply w_quoU; rfl; rfl; rfl; omega; omega; omega) | (apply w_remU; rfl; rfl; rfl; omega; omega) | (apply w_minL; rfl; rfl; rfl; omega) | (apply w_minG; rfl; rfl; rfl; omega) | (apply w_min; rfl; rfl; rfl) | (apply w_mfR; rfl; rfl) | (apply w_cvp; rfl; rfl; exact inferInstance; rfl; rfl; assumption) | (apply w_eqS2T; rfl; rfl; rfl; omega) | (apply w_eqS2F; rfl; rfl; rfl; omega) | (apply w_neS2T; rfl; rfl; rfl; omega) | (apply w_neS2F; rfl; rfl; rfl; omega) | (apply w_eqS3T; rfl; rfl; rfl; omega) | (apply w_eqS3F; rfl; rfl; rfl; omega) | (apply w_neS3T; rfl; rfl; rfl; omega) | (apply w_neS3F; rfl; rfl; rfl; omega) | (apply w_eqS3; rfl; rfl; rfl) | (apply w_neS3; rfl; rfl; rfl) | (apply w_eqS2; rfl; rfl; rfl) | (apply w_neS2; rfl; rfl; rfl) | (apply w_maxL; rfl; rfl; rfl; omega) | (apply w_maxG; rfl; rfl; rfl; omega) | (apply w_max; rfl; rfl; rfl) | (apply w_neB; rfl; rfl; rfl; rfl) | (apply w_eqB; rfl; rfl; rfl; rfl) | (apply w_ld0; rfl; rfl; ((focus ((repeat (first | assumption | exact Rd.own | exact Rd.fl | exact hr1 _ | exact hr2 _ | exact hr3 _ | exact hr4 _ | apply Rd.there)); done)))) | (apply w_ld; rfl; rfl; ((focus ((repeat (first | assumption | exact Rd.own | exact Rd.fl | exact hr1 _ | exact hr2 _ | exact hr3 _ | exact hr4 _ | apply Rd.there)); done)))) | (apply w_st; rfl; rfl; rfl; ((focus ((repeat (first | exact hs1 _ | exact hs2 _ | exact hs3 _ | apply St.there)); done))); ((exact kmf))) | (apply w_cq; rfl; rfl; exact hFi _) | (apply w_cq; rfl; rfl; apply Called.at (h := hM); ((focus ((repeat (first | exact Rep.here | apply Rep.there)); done)))) | refine spl ?_ ?_ | intro hc)
    refine At_ret1 (by (first | exact .inl rfl | exact .inr rfl)) Try.results57 rfl ⟨rfl, rfl⟩ (fun w hs => ?_)
    exact hfold ⟨hwf2, by rw [List.length_set]; exact h1, by rw [List.length_set]; exact h2⟩ w hs
  · rw [if_neg h0] at *
    (repeat' first | refine stp ?_ | intro v' hv' | intro (b : Nat) | (apply w_convU; rfl; rfl; omega; omega) | (apply w_convI; rfl; rfl; omega; omega) | (apply w_quoU; rfl; rfl; rfl; omega; omega; omega) | (apply w_remU; rfl; rfl; rfl; omega; omega) | (apply w_minL; rfl; rfl; rfl; omega) | (apply w_minG; rfl; rfl; rfl; omega) | (apply w_min; rfl; rfl; rfl) | (apply w_mfR; rfl; rfl) | (apply w_cvp; rfl; rfl; exact inferInstance; rfl; rfl; assumption) | (apply w_eqS2T; rfl; rfl; rfl; omega) | (apply w_eqS2F; rfl; rfl; rfl; omega) | (apply w_neS2T; rfl; rfl; rfl; omega) | (apply w_neS2F; rfl; rfl; rfl; omega) | (apply w_eqS3T; rfl; rfl; rfl; omega) | (apply w_eqS3F; rfl; rfl; rfl; omega) | (apply w_neS3T; rfl; rfl; rfl; omega) | (apply w_neS3F; rfl; rfl; rfl; omega) | (apply w_eqS3; rfl; rfl; rfl) | (apply w_neS3; rfl; rfl; rfl) | (apply w_eqS2; rfl; rfl; rfl) | (apply w_neS2; rfl; rfl; rfl) | (apply w_maxL; rfl; rfl; rfl; omega) | (apply w_maxG; rfl; rfl; rfl; omega) | (apply w_max; rfl; rfl; rfl) | (apply w_neB; rfl; rfl; rfl; rfl) | (apply w_eqB; rfl; rfl; rfl; rfl) | (apply w_ld0; rfl; rfl; ((focus ((repeat (first | assumption | exact Rd.own | exact Rd.fl | exact hr1 _ | exact hr2 _ | exact hr3 _ | exact hr4 _ | apply Rd.there)); done)))) | (apply w_ld; rfl; rfl; ((focus ((repeat (first | assumption | exact Rd.own | exact Rd.fl | exact hr1 _ | exact hr2 _ | exact hr3 _ | exact hr4 _ | apply Rd.there)); done)))) | (apply w_st; rfl; rfl; rfl; ((focus ((repeat (first | exact hs1 _ | exact hs2 _ | exact hs3 _ | apply St.there)); done))); ((exact kmf))) | (apply w_cq; rfl; rfl; exact hFi _) | (apply w_cq; rfl; rfl; apply Called.at (h := hM); ((focus ((repeat (first | exact Rep.here | apply Rep.there)); done)))) | refine spl ?_ ?_ | intro hc)
    refine At_ret1 (by (first | exact .inl rfl | exact .inr rfl)) Try.results57 rfl ⟨rfl, rfl⟩ (fun w hs => ?_)
    exact hfold ⟨hwf2, by rw [List.length_set]; exact h1, by rw [List.length_set]; exact h2⟩ w hs
end Go.Proofs.Ytoaaoijdknbanaa
