/- MutexPlays: Chains and owners. Conditions: none. -/
import Derived.Test.YtoaaoijdknbanaaMutAI
set_option linter.all false
set_option linter.deprecated false
namespace Go.Proofs.Ytoaaoijdknbanaa
open Go.Sep
variable [B0 : Base]
theorem RdAll.srcJ {L : List HP} {x : Value} {n : Nat} {es : List (List Value)} (h : Sep.Src L x n es) {i : Nat} {e : List Value} (h1 : es[i]? = some e) : RdAll L (vb x) (vo x + i * n) e := RdAll.at fun k u hk => Rd.src h h1 hk
attribute [local irreducible] chI chO
set_option maxHeartbeats 8000000 in
theorem Chains_ok (tb : Nat) (M : List Lk) (R : List HP) : Called Try.prog 46 [ptr tb] (mtb tb M :: R) (fun u X => ∃ v, u = v ∧ IsSl v 64 ∧ X = sl 3 1 v ((chainsM M).map ioE) :: mtb tb M :: R) := by
  refine Fn1 Try.func46 rfl Try.ntmps46 rfl ?_
  refine C_mtb fun lv ls hok => ?_
  have hfold : ∀ {M'} {ls'} (h : MtOk M' lv ls') w, Sat w (pt tb 69 [lv] :: sl 66 3 lv (ls'.map lkE) :: qsH ls' :: R) → Sat w (mtb tb M' :: R) := fun h w hs => mtb_fold h hs
  have hl := hok.lisl
  have hlen := hok.len
  have hfew := hok.few
  have hwf := hok.wf
  (repeat' first | refine stp ?_ | intro v' hv' | intro (b : Nat) | (apply w_convU; rfl; rfl; omega; omega) | (apply w_convI; rfl; rfl; omega; omega) | (apply w_quoU; rfl; rfl; rfl; omega; omega; omega) | (apply w_remU; rfl; rfl; rfl; omega; omega) | (apply w_minL; rfl; rfl; rfl; omega) | (apply w_minG; rfl; rfl; rfl; omega) | (apply w_min; rfl; rfl; rfl) | (apply w_mfR; rfl; rfl) | (apply w_cvp; rfl; rfl; exact inferInstance; rfl; rfl; assumption) | (apply w_eqS2T; rfl; rfl; rfl; omega) | (apply w_eqS2F; rfl; rfl; rfl; omega) | (apply w_neS2T; rfl; rfl; rfl; omega) | (apply w_neS2F; rfl; rfl; rfl; omega) | (apply w_eqS3T; rfl; rfl; rfl; omega) | (apply w_eqS3F; rfl; rfl; rfl; omega) | (apply w_neS3T; rfl; rfl; rfl; omega) | (apply w_neS3F; rfl; rfl; rfl; omega) | (apply w_eqS3; rfl; rfl; rfl) | (apply w_neS3; rfl; rfl; rfl) | (apply w_eqS2; rfl; rfl; rfl) | (apply w_neS2; rfl; rfl; rfl) | (apply w_maxL; rfl; rfl; rfl; omega) | (apply w_maxG; rfl; rfl; rfl; omega) | (apply w_max; rfl; rfl; rfl) | (apply w_neB; rfl; rfl; rfl; rfl) | (apply w_eqB; rfl; rfl; rfl; rfl) | (apply w_ld0; rfl; rfl; ((focus ((repeat (first | assumption | exact hr1 _ | exact hr2 _ | exact .pt rfl | apply Rd.there)); done)))) | (apply w_ld; rfl; rfl; ((focus ((repeat (first | assumption | exact hr1 _ | exact hr2 _ | exact .pt rfl | apply Rd.there)); done)))) | (apply w_la0; rfl; rfl; ((focus ((repeat (first | exact hra _ | exact .pt | exact .sl ‹_› | apply RdAll.there)); done))); rfl) | (apply w_la; rfl; rfl; ((focus ((repeat (first | exact hra _ | exact .pt | exact .sl ‹_› | apply RdAll.there)); done))); rfl) | (apply w_sa; rfl; rfl; rfl; exact hoq; ((focus ((repeat (first | exact .pt rfl | apply StAll.there)); done))); ((exact kmf))) | (apply w_st; rfl; rfl; rfl; ((focus ((repeat (first | exact hs1 _ | apply St.there)); done))); ((exact kmf))) | refine spl ?_ ?_ | intro hc)
  apply w_clS
  rfl; rfl; exact Repeat_ok _ ‹_› _
  decide
  intro vO hvO
  have hvO : IsSl vO 64 := hvO
  refine ⟨by (exact kmf), ?_⟩
  have e0 : List.replicate 64 [int (-1)] = (chO M 0).map ioE := by
    have e1 : chO M 0 = List.replicate 64 (-1) := by unfold chO; rfl
    rw [e1, List.map_replicate]; rfl
  rw [e0]
  clear e0
  (repeat' first | refine stp ?_ | intro v' hv' | intro (b : Nat) | (apply w_convU; rfl; rfl; omega; omega) | (apply w_convI; rfl; rfl; omega; omega) | (apply w_quoU; rfl; rfl; rfl; omega; omega; omega) | (apply w_remU; rfl; rfl; rfl; omega; omega) | (apply w_minL; rfl; rfl; rfl; omega) | (apply w_minG; rfl; rfl; rfl; omega) | (apply w_min; rfl; rfl; rfl) | (apply w_mfR; rfl; rfl) | (apply w_cvp; rfl; rfl; exact inferInstance; rfl; rfl; assumption) | (apply w_eqS2T; rfl; rfl; rfl; omega) | (apply w_eqS2F; rfl; rfl; rfl; omega) | (apply w_neS2T; rfl; rfl; rfl; omega) | (apply w_neS2F; rfl; rfl; rfl; omega) | (apply w_eqS3T; rfl; rfl; rfl; omega) | (apply w_eqS3F; rfl; rfl; rfl; omega) | (apply w_neS3T; rfl; rfl; rfl; omega) | (apply w_neS3F; rfl; rfl; rfl; omega) | (apply w_eqS3; rfl; rfl; rfl) | (apply w_neS3; rfl; rfl; rfl) | (apply w_eqS2; rfl; rfl; rfl) | (apply w_neS2; rfl; rfl; rfl) | (apply w_maxL; rfl; rfl; rfl; omega) | (apply w_maxG; rfl; rfl; rfl; omega) | (apply w_max; rfl; rfl; rfl) | (apply w_neB; rfl; rfl; rfl; rfl) | (apply w_eqB; rfl; rfl; rfl; rfl) | (apply w_ld0; rfl; rfl; ((focus ((repeat (first | assumption | exact hr1 _ | exact hr2 _ | exact .pt rfl | apply Rd.there)); done)))) | (apply w_ld; rfl; rfl; ((focus ((repeat (first | assumption | exact hr1 _ | exact hr2 _ | exact .pt rfl | apply Rd.there)); done)))) | (apply w_la0; rfl; rfl; ((focus ((repeat (first | exact hra _ | exact .pt | exact .sl ‹_› | apply RdAll.there)); done))); rfl) | (apply w_la; rfl; rfl; ((focus ((repeat (first | exact hra _ | exact .pt | exact .sl ‹_› | apply RdAll.there)); done))); rfl) | (apply w_sa; rfl; rfl; rfl; exact hoq; ((focus ((repeat (first | exact .pt rfl | apply StAll.there)); done))); ((exact kmf))) | (apply w_st; rfl; rfl; rfl; ((focus ((repeat (first | exact hs1 _ | apply St.there)); done))); ((exact kmf))) | refine spl ?_ ?_ | intro hc)
  refine C_loopK (α := Nat) [5, 7, 17, 18, 19, 20, 21, 22, 23, 24, 25, 26, 27, 28, 29, 30, 31, 32, 33, 34, 35, 36] (fun x => ls.length - x) (fun x => [(17, int x)]) (fun x => sl 3 1 vO ((chO M x).map ioE) :: pt tb 69 [lv] :: sl 66 3 lv (ls.map lkE) :: qsH ls :: R) (fun x => x ≤ ls.length) 0 (Nat.zero_le _) (by (focus ((repeat (first | exact Keep.nil | apply Keep.drop rfl | apply Keep.keep rfl)); done))) (by (exact sbf)) (fun w hs => Sel.sat (by (focus ((repeat (first | exact Sel.refl | (apply Sel.cons; (focus ((repeat (first | exact Del.here | apply Del.there)); done))) | refine Sel.drop ?_)); done))) hs) ?_
  rintro i hi
  dsimp only [List.cons_append, List.nil_append] at *
  by_cases hlt : i < ls.length
  · have hp : ls[i]? = some ls[i] := List.getElem?_eq_getElem hlt
    obtain ⟨hMk, hlk, hpi, hp64, -, -⟩ := hok.get hp
    have hsq : ∀ X, Sep.Src (qsH ls :: X) ls[i].1 2 (ls[i].2.q.map kyE) := fun X => qsSrc hp
    have hra : ∀ X, RdAll (sl 66 3 lv (ls.map lkE) :: X) (vb lv) (vo lv + i * 3) (lkE ls[i]) := fun X => RdAll.sl (by rw [List.getElem?_map, hp]; rfl)
    have hoq : (lkE ls[i]).all Value.oneCell' = true := by unfold lkE; rw [List.all_cons, List.all_cons, List.all_cons, hpi.one]; rfl
    have hcs := chO_succ (M := M) (i := i) (by omega)
    have hcu := fun j x h => chI_succ (M := M) (i := i) (j := j) (x := x) h
    have hc0 : chI M i 0 = chO M i := by unfold chI; rfl
    have hcl := chI_len M i
    have hkb := hwf.keys _ (List.mem_of_getElem? hMk)
    rw [hlk] at hcs hcu
    generalize ls[i] = p at *
    obtain ⟨v, ⟨own, fl, q⟩⟩ := p
    dsimp only at *
    (repeat' first | refine stp ?_ | intro v' hv' | intro (b : Nat) | (apply w_convU; rfl; rfl; omega; omega) | (apply w_convI; rfl; rfl; omega; omega) | (apply w_quoU; rfl; rfl; rfl; omega; omega; omega) | (apply w_remU; rfl; rfl; rfl; omega; omega) | (apply w_minL; rfl; rfl; rfl; omega) | (apply w_minG; rfl; rfl; rfl; omega) | (apply w_min; rfl; rfl; rfl) | (apply w_mfR; rfl; rfl) | (apply w_cvp; rfl; rfl; exact inferInstance; rfl; rfl; assumption) | (apply w_eqS2T; rfl; rfl; rfl; omega) | (apply w_eqS2F; rfl; rfl; rfl; omega) | (apply w_neS2T; rfl; rfl; rfl; omega) | (apply w_neS2F; rfl; rfl; rfl; omega) | (apply w_eqS3T; rfl; rfl; rfl; omega) | (apply w_eqS3F; rfl; rfl; rfl; omega) | (apply w_neS3T; rfl; rfl; rfl; omega) | (apply w_neS3F; rfl; rfl; rfl; omega) | (apply w_eqS3; rfl; rfl; rfl) | (apply w_neS3; rfl; rfl; rfl) | (apply w_eqS2; rfl; rfl; rfl) | (apply w_neS2; rfl; rfl; rfl) | (apply w_maxL; rfl; rfl; rfl; omega) | (apply w_maxG; rfl; rfl; rfl; omega) | (apply w_max; rfl; rfl; rfl) | (apply w_neB; rfl; rfl; rfl; rfl) | (apply w_eqB; rfl; rfl; rfl; rfl) | (apply w_ld0; rfl; rfl; ((focus ((repeat (first | assumption | exact hr1 _ | exact hr2 _ | exact .pt rfl | apply Rd.there)); done)))) | (apply w_ld; rfl; rfl; ((focus ((repeat (first | assumption | exact hr1 _ | exact hr2 _ | exact .pt rfl | apply Rd.there)); done)))) | (apply w_la0; rfl; rfl; ((focus ((repeat (first | exact hra _ | exact .pt | exact .sl ‹_› | apply RdAll.there)); done))); rfl) | (apply w_la; rfl; rfl; ((focus ((repeat (first | exact hra _ | exact .pt | exact .sl ‹_› | apply RdAll.there)); done))); rfl) | (apply w_sa; rfl; rfl; rfl; exact hoq; ((focus ((repeat (first | exact .pt rfl | apply StAll.there)); done))); ((exact kmf))) | (apply w_st; rfl; rfl; rfl; ((focus ((repeat (first | exact hs1 _ | apply St.there)); done))); ((exact kmf))) | refine spl ?_ ?_ | intro hc)
    obtain ⟨b5, hb5⟩ : ∃ r, r = b := ⟨_, rfl⟩
    subst hb5
    clear hra hoq
    refine C_loopK (α := Nat) [7, 25, 26, 27, 28, 29, 30, 31, 32, 33, 34, 35] (fun x => q.length - x) (fun x => [(25, int x)]) (fun x => sl 3 1 vO ((chI M i x).map ioE) :: pt b5 66 (lkE (v, ⟨own, fl, q⟩)) :: pt tb 69 [lv] :: sl 66 3 lv (ls.map lkE) :: qsH ls :: R) (fun x => x ≤ q.length) 0 (Nat.zero_le _) (by (focus ((repeat (first | exact Keep.nil | apply Keep.drop rfl | apply Keep.keep rfl)); done))) (by (exact sbf)) (fun w hs => by rw [hc0]; exact Sel.sat (by (focus ((repeat (first | exact Sel.refl | (apply Sel.cons; (focus ((repeat (first | exact Del.here | apply Del.there)); done))) | refine Sel.drop ?_)); done))) hs) ?_
    rintro j hj
    dsimp only [List.cons_append, List.nil_append] at *
    by_cases hlj : j < q.length
    · have hx : q[j]? = some q[j] := List.getElem?_eq_getElem hlj
      have hxb := hkb _ (List.mem_of_getElem? hx)
      have hra : ∀ X, RdAll (qsH ls :: X) (vb v) (vo v + j * 2) (kyE q[j]) := fun X => RdAll.srcJ (hsq X) (by rw [List.getElem?_map, hx]; rfl)
      have hsu := hcu j _ hx
      have hclj := hcl j
      generalize q[j] = x at *
      obtain ⟨xa, xi⟩ := x
      dsimp only at *
      obtain ⟨jd, rfl⟩ := Int.eq_ofNat_of_zero_le hxb.1
      have hjd : jd < 64 := by omega
      have hs1 : ∀ L, St (sl 3 1 vO ((chI M i j).map ioE) :: L) ⟨vb vO, vo vO + jd * 1, none⟩ (int own) (sl 3 1 vO ((chI M i (j + 1)).map ioE) :: L) := fun L => by
        rw [hsu, Int.toNat_natCast]
        exact St.io (by rw [hclj]; exact hjd)
      have hoq : (kyE ⟨xa, (jd : Int)⟩).all Value.oneCell' = true := rfl
      (repeat' first | refine stp ?_ | intro v' hv' | intro (b : Nat) | (apply w_convU; rfl; rfl; omega; omega) | (apply w_convI; rfl; rfl; omega; omega) | (apply w_quoU; rfl; rfl; rfl; omega; omega; omega) | (apply w_remU; rfl; rfl; rfl; omega; omega) | (apply w_minL; rfl; rfl; rfl; omega) | (apply w_minG; rfl; rfl; rfl; omega) | (apply w_min; rfl; rfl; rfl) | (apply w_mfR; rfl; rfl) | (apply w_cvp; rfl; rfl; exact inferInstance; rfl; rfl; assumption) | (apply w_eqS2T; rfl; rfl; rfl; omega) | (apply w_eqS2F; rfl; rfl; rfl; omega) | (apply w_neS2T; rfl; rfl; rfl; omega) | (apply w_neS2F; rfl; rfl; rfl; omega) | (apply w_eqS3T; rfl; rfl; rfl; omega) | (apply w_eqS3F; rfl; rfl; rfl; omega) | (apply w_neS3T; rfl; rfl; rfl; omega) | (apply w_neS3F; rfl; rfl; rfl; omega) | (apply w_eqS3; rfl; rfl; rfl) | (apply w_neS3; rfl; rfl; rfl) | (apply w_eqS2; rfl; rfl; rfl) | (apply w_neS2; rfl; rfl; rfl) | (apply w_maxL; rfl; rfl; rfl; omega) | (apply w_maxG; rfl; rfl; rfl; omega) | (apply w_max; rfl; rfl; rfl) | (apply w_neB; rfl; rfl; rfl; rfl) | (apply w_eqB; rfl; rfl; rfl; rfl) | (apply w_ld0; rfl; rfl; ((focus ((repeat (first | assumption | exact hr1 _ | exact hr2 _ | exact .pt rfl | apply Rd.there)); done)))) | (apply w_ld; rfl; rfl; ((focus ((repeat (first | assumption | exact hr1 _ | exact hr2 _ | exact .pt rfl | apply Rd.there)); done)))) | (apply w_la0; rfl; rfl; ((focus ((repeat (first | exact hra _ | exact .pt | exact .sl ‹_› | apply RdAll.there)); done))); rfl) | (apply w_la; rfl; rfl; ((focus ((repeat (first | exact hra _ | exact .pt | exact .sl ‹_› | apply RdAll.there)); done))); rfl) | (apply w_sa; rfl; rfl; rfl; exact hoq; ((focus ((repeat (first | exact .pt rfl | apply StAll.there)); done))); ((exact kmf))) | (apply w_st; rfl; rfl; rfl; ((focus ((repeat (first | exact hs1 _ | apply St.there)); done))); ((exact kmf))) | refine spl ?_ ?_ | intro hc)
      exact At_againK (j + 1) hlj (by omega) (by (exact sbf)) (by (exact sbf)) (by (exact frm))
    · obtain rfl : j = q.length := by omega
      rw [← hcs]
      (repeat' first | refine stp ?_ | intro v' hv' | intro (b : Nat) | (apply w_convU; rfl; rfl; omega; omega) | (apply w_convI; rfl; rfl; omega; omega) | (apply w_quoU; rfl; rfl; rfl; omega; omega; omega) | (apply w_remU; rfl; rfl; rfl; omega; omega) | (apply w_minL; rfl; rfl; rfl; omega) | (apply w_minG; rfl; rfl; rfl; omega) | (apply w_min; rfl; rfl; rfl) | (apply w_mfR; rfl; rfl) | (apply w_cvp; rfl; rfl; exact inferInstance; rfl; rfl; assumption) | (apply w_eqS2T; rfl; rfl; rfl; omega) | (apply w_eqS2F; rfl; rfl; rfl; omega) | (apply w_neS2T; rfl; rfl; rfl; omega) | (apply w_neS2F; rfl; rfl; rfl; omega) | (apply w_eqS3T; rfl; rfl; rfl; omega) | (apply w_eqS3F; rfl; rfl; rfl; omega) | (apply w_neS3T; rfl; rfl; rfl; omega) | (apply w_neS3F; rfl; rfl; rfl; omega) | (apply w_eqS3; rfl; rfl; rfl) | (apply w_neS3; rfl; rfl; rfl) | (apply w_eqS2; rfl; rfl; rfl) | (apply w_neS2; rfl; rfl; rfl) | (apply w_maxL; rfl; rfl; rfl; omega) | (apply w_maxG; rfl; rfl; rfl; omega) | (apply w_max; rfl; rfl; rfl) | (apply w_neB; rfl; rfl; rfl; rfl) | (apply w_eqB; rfl; rfl; rfl; rfl) | (apply w_ld0; rfl; rfl; ((focus ((repeat (first | assumption | exact hr1 _ | exact hr2 _ | exact .pt rfl | apply Rd.there)); done)))) | (apply w_ld; rfl; rfl; ((focus ((repeat (first | assumption | exact hr1 _ | exact hr2 _ | exact .pt rfl | apply Rd.there)); done)))) | (apply w_la0; rfl; rfl; ((focus ((repeat (first | exact hra _ | exact .pt | exact .sl ‹_› | apply RdAll.there)); done))); rfl) | (apply w_la; rfl; rfl; ((focus ((repeat (first | exact hra _ | exact .pt | exact .sl ‹_› | apply RdAll.there)); done))); rfl) | (apply w_sa; rfl; rfl; rfl; exact hoq; ((focus ((repeat (first | exact .pt rfl | apply StAll.there)); done))); ((exact kmf))) | (apply w_st; rfl; rfl; rfl; ((focus ((repeat (first | exact hs1 _ | apply St.there)); done))); ((exact kmf))) | refine spl ?_ ?_ | intro hc)
      exact At_againK (i + 1) hlt (by omega) (by (exact sbf)) (by (exact sbf)) (fun w hs => Sel.sat (by (focus ((repeat (first | exact Sel.refl | (apply Sel.cons; (focus ((repeat (first | exact Del.here | apply Del.there)); done))) | refine Sel.drop ?_)); done))) hs)
  · obtain rfl : i = ls.length := by omega
    have e1 : chO M ls.length = chainsM M := by
      unfold chO chainsM
      rw [← hlen, List.take_length]; rfl
    rw [e1]
    (repeat' first | refine stp ?_ | intro v' hv' | intro (b : Nat) | (apply w_convU; rfl; rfl; omega; omega) | (apply w_convI; rfl; rfl; omega; omega) | (apply w_quoU; rfl; rfl; rfl; omega; omega; omega) | (apply w_remU; rfl; rfl; rfl; omega; omega) | (apply w_minL; rfl; rfl; rfl; omega) | (apply w_minG; rfl; rfl; rfl; omega) | (apply w_min; rfl; rfl; rfl) | (apply w_mfR; rfl; rfl) | (apply w_cvp; rfl; rfl; exact inferInstance; rfl; rfl; assumption) | (apply w_eqS2T; rfl; rfl; rfl; omega) | (apply w_eqS2F; rfl; rfl; rfl; omega) | (apply w_neS2T; rfl; rfl; rfl; omega) | (apply w_neS2F; rfl; rfl; rfl; omega) | (apply w_eqS3T; rfl; rfl; rfl; omega) | (apply w_eqS3F; rfl; rfl; rfl; omega) | (apply w_neS3T; rfl; rfl; rfl; omega) | (apply w_neS3F; rfl; rfl; rfl; omega) | (apply w_eqS3; rfl; rfl; rfl) | (apply w_neS3; rfl; rfl; rfl) | (apply w_eqS2; rfl; rfl; rfl) | (apply w_neS2; rfl; rfl; rfl) | (apply w_maxL; rfl; rfl; rfl; omega) | (apply w_maxG; rfl; rfl; rfl; omega) | (apply w_max; rfl; rfl; rfl) | (apply w_neB; rfl; rfl; rfl; rfl) | (apply w_eqB; rfl; rfl; rfl; rfl) | (apply w_ld0; rfl; rfl; ((focus ((repeat (first | assumption | exact hr1 _ | exact hr2 _ | exact .pt rfl | apply Rd.there)); done)))) | (apply w_ld; rfl; rfl; ((focus ((repeat (first | assumption | exact hr1 _ | exact hr2 _ | exact .pt rfl | apply Rd.there)); done)))) | (apply w_la0; rfl; rfl; ((focus ((repeat (first | exact hra _ | exact .pt | exact .sl ‹_› | apply RdAll.there)); done))); rfl) | (apply w_la; rfl; rfl; ((focus ((repeat (first | exact hra _ | exact .pt | exact .sl ‹_› | apply RdAll.there)); done))); rfl) | (apply w_sa; rfl; rfl; rfl; exact hoq; ((focus ((repeat (first | exact .pt rfl | apply StAll.there)); done))); ((exact kmf))) | (apply w_st; rfl; rfl; rfl; ((focus ((repeat (first | exact hs1 _ | apply St.there)); done))); ((exact kmf))) | refine spl ?_ ?_ | intro hc)
    refine At_ret1 (by (first | exact .inl rfl | exact .inr rfl)) Try.results46 rfl ⟨vO, rfl, hvO, rfl⟩ (fun w hs => ?_)
    have h1 : Sat w (pt tb 69 [lv] :: sl 66 3 lv (ls.map lkE) :: qsH ls :: sl 3 1 vO ((chainsM M).map ioE) :: R) := Sel.sat (by (focus ((repeat (first | exact Sel.refl | (apply Sel.cons; (focus ((repeat (first | exact Del.here | apply Del.there)); done))) | refine Sel.drop ?_)); done))) hs
    exact Sel.sat (by (focus ((repeat (first | exact Sel.refl | (apply Sel.cons; (focus ((repeat (first | exact Del.here | apply Del.there)); done))) | refine Sel.drop ?_)); done))) (mtb_fold hok h1)
end Go.Proofs.Ytoaaoijdknbanaa
