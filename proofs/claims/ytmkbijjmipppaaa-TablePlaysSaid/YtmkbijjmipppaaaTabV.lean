/- table's reference: Run, Done. Conditions: none. -/
import Derived.Test.YtmkbijjmipppaaaTabU
set_option linter.all false
set_option linter.deprecated false
namespace Go.Proofs.Ytmkbijjmipppaaa
open Go.Sep
variable [B0 : Base]
theorem cells_same {es : List RE} {i : Nat} {e e2 : RE} {lv : Value} (h : es[i]? = some e) (hq : quad e2 = quad e) : rcells lv (es.set i e2) = rcells lv es := by
  unfold rcells
  rw [List.map_set, hq]
  congr 2
  exact set_self (by rw [List.getElem?_map, h]; rfl)
theorem set_drop {α : Type} {l : List α} {k : Nat} {x y : α} (h : l[k]? = some x) : (l.set k y).drop k = y :: l.drop (k + 1) := by
  rw [set_at h, List.drop_append_of_le_length (by rw [List.length_take]; have := (List.getElem?_eq_some_iff.1 h).1; omega)]
  rw [List.drop_eq_nil_of_le (by rw [List.length_take]; omega)]; rfl
set_option maxHeartbeats 8000000 in
theorem rRun2_ok (b : Nat) (Z : RTab) (id n : Int) (hf : rfindZ Z id = 0) (ha : (ractZ Z id).1 = 1) (hn0 : 0 ≤ n) (hlt : n < (ractZ Z id).2) (R : List HP) : Called Try.prog 36 [ptr b, int id, int n] (rtbl b Z :: R) (is (.tuple #[int (rrunZ Z id n).1.1, int (rrunZ Z id n).1.2]) (rtbl b (rrunZ Z id n).2 :: R)) := by
  obtain ⟨h0, h1⟩ := rfind_0 hf
  refine Fn3 Try.func36 rfl Try.ntmps36 rfl ?_
  refine C_rtbl fun lv ys es hok => ?_
  have hF := rFindL_ok b Z lv ys es hok id
  rw [hf] at hF
  obtain ⟨e, he, hz⟩ := hok.get (i := id.toNat) (by omega)
  obtain ⟨q1, q3, q4, q5⟩ := hok.each e (List.mem_of_getElem? he)
  have hle := q1.le
  have hract : ∃ x r, e.todo = x :: r ∧ x.op = 1 ∧ (ractZ Z id).2 = x.n := by
    unfold ractZ at ha ⊢
    rw [hz] at ha ⊢
    have hab : (absR e).todo = e.todo := rfl
    dsimp only at ha ⊢
    rw [hab] at ha ⊢
    cases ht : e.todo with
    | nil => rw [ht] at ha; exact absurd ha (by decide)
    | cons x r => rw [ht] at ha; exact ⟨x, r, rfl, ha, rfl⟩
  obtain ⟨x, r, ht, hx1, hx2⟩ := hract
  have hfk : e.full[e.k]? = some x := by
    have := congrArg List.head? ht
    unfold RE.todo at this
    rw [List.head?_drop] at this; exact this
  have hkl := (List.getElem?_eq_some_iff.1 hfk).1
  have hxb := q5 x (List.mem_of_getElem? hfk)
  have hdr : e.full.drop (e.k + 1) = r := by
    unfold RE.todo at ht
    rw [← List.drop_drop, ht]; rfl
  have hsl := q1.isl
  have hone := hsl.one
  obtain ⟨p1, p2⟩ := q1.pos hkl
  have hA : ∀ R, Called Try.prog 39 [ptr b, int id] (pt b 85 (rcells lv es) :: sl 86 2 e.u (e.full.map insE) :: all ((es.eraseIdx id.toNat).map fun e => sl 86 2 e.u (e.full.map insE)) :: R) (is (.agg #[int 1, int x.n]) (pt b 85 (rcells lv es) :: sl 86 2 e.u (e.full.map insE) :: all ((es.eraseIdx id.toNat).map fun e => sl 86 2 e.u (e.full.map insE)) :: R)) := fun R => by
    have := rActL_ok b Z lv ys es hok id h0 h1 R
    rw [ha, hx2] at this
    refine this.sat (fun w h => ?_) (fun u M hM => ⟨_, ⟨hM.1, rfl⟩, fun w h => ?_⟩)
    · have h2 : Sat w (sl 86 2 e.u (e.full.map insE) :: all ((es.eraseIdx id.toNat).map fun e => sl 86 2 e.u (e.full.map insE)) :: pt b 85 (rcells lv es) :: R) := Sel.sat (by (focus ((repeat (first | exact Sel.refl | (apply Sel.cons; (focus ((repeat (first | exact Del.here | apply Del.there)); done))) | refine Sel.drop ?_)); done))) h
      have h3 := owns_close he (e2 := e) h2
      rw [set_self he] at h3
      exact h3.perm (.swap ..)
    · rw [hM.2] at h
      have h2 := owns_open he (h.perm (.swap ..))
      exact Sel.sat (by (focus ((repeat (first | exact Sel.refl | (apply Sel.cons; (focus ((repeat (first | exact Del.here | apply Del.there)); done))) | refine Sel.drop ?_)); done))) h2
  let e2 : RE := { e with full := e.full.set e.k ⟨1, x.n - n⟩ }
  have hq2 : TvOk e2.u e2.tv e2.full.length e2.k := by show TvOk e.u e.tv (e.full.set e.k ⟨1, x.n - n⟩).length e.k; rw [List.length_set]; exact q1
  have hok2 : RTabOk (Z.setZ id.toNat (absR e2)) lv ys (es.set id.toNat e2) := hok.set (e := e2) hq2 (by show (e.full.set e.k ⟨1, x.n - n⟩).length ≤ 64; rw [List.length_set]; exact q3) q4 (fun y hy => by
    rcases List.mem_or_eq_of_mem_set (show y ∈ e.full.set e.k ⟨1, x.n - n⟩ from hy) with hy | hy
    · exact q5 y hy
    · rw [hy]; dsimp only; omega)
  have hres : rrunZ Z id n = ((n, 0), Z.setZ id.toNat (absR e2)) := by
    unfold rrunZ
    rw [if_neg (show ¬ (rfindZ Z id ≠ 0) by simpa using hf), if_neg (show ¬ ((ractZ Z id).1 ≠ 1) by simpa using ha), if_neg (by omega), hz]
    dsimp only
    rw [if_neg (by omega), hx2]
    have : absR e2 = { absR e with todo := ⟨1, x.n - n⟩ :: (absR e).todo.tail } := by
      show RTm.mk e.is e.pr e.k ((e.full.set e.k ⟨1, x.n - n⟩).drop e.k) = RTm.mk e.is e.pr e.k (⟨1, x.n - n⟩ :: e.todo.tail)
      rw [set_drop hfk, hdr, ht]; rfl
    rw [this]
  have hcs : rcells lv (es.set id.toNat e2) = rcells lv es := cells_same he rfl
  rw [hres]
  refine C_sat (L' := pt b 85 (rcells lv es) :: sl 86 2 e.u (e.full.map insE) :: all ((es.eraseIdx id.toNat).map fun e => sl 86 2 e.u (e.full.map insE)) :: rlibH lv ys :: R) (fun w h => Sel.sat (by (focus ((repeat (first | exact Sel.refl | (apply Sel.cons; (focus ((repeat (first | exact Del.here | apply Del.there)); done))) | refine Sel.drop ?_)); done))) (owns_open he (h.perm (.swap ..)))) ?_
  have hr : Rd (pt b 85 (rcells lv es) :: sl 86 2 e.u (e.full.map insE) :: all ((es.eraseIdx id.toNat).map fun e => sl 86 2 e.u (e.full.map insE)) :: rlibH lv ys :: R) ⟨b, 1 + id.toNat * 4 + 3, none⟩ e.tv := Rd.ref he rfl
  have hr52 : Rd (sl 86 2 e.u (e.full.map insE) :: all ((es.eraseIdx id.toNat).map fun e => sl 86 2 e.u (e.full.map insE)) :: rlibH lv ys :: R) ⟨vb e.tv, vo e.tv + 0 * 2 + 1, none⟩ (int x.n) := Rd.src (q1.src (e.full.map insE) _ (by rw [List.length_map])) (i := 0) (k := 1) (e := insE x) (by rw [← List.map_drop]; show (e.todo.map insE)[0]? = _; rw [ht]; rfl) rfl
  have hSt : ∀ L, St (sl 86 2 e.u (e.full.map insE) :: L) ⟨vb e.tv, vo e.tv + 0 * 2 + 1, none⟩ (int (x.n - n)) (sl 86 2 e2.u (e2.full.map insE) :: L) := fun L => by
    have := St.sl (E := 86) (n := 2) (v := e.u) (cs := e.full.map insE) (L := L) (i := e.k) (k := 1) (e := insE x) (u := int (x.n - n)) (by rw [List.getElem?_map, hfk]; rfl) rfl
    rw [← p1, show vo e.u + e.k * 2 + 1 = vo e.tv + 0 * 2 + 1 by omega] at this
    have e3 : (e.full.map insE).set e.k ((insE x).set 1 (int (x.n - n))) = e2.full.map insE := by
      show _ = (e.full.set e.k ⟨1, x.n - n⟩).map insE
      rw [List.map_set]
      congr 1
      unfold insE
      rw [hx1]; rfl
    rwa [e3] at this
  rw [hx2] at hlt
  generalize hrest : all ((es.eraseIdx id.toNat).map fun e => sl 86 2 e.u (e.full.map insE)) = rest at *
  (repeat' first | refine stp ?_ | intro v' hv' | intro (b : Nat) | (apply w_convU; rfl; rfl; omega; omega) | (apply w_convI; rfl; rfl; omega; omega) | (apply w_quoU; rfl; rfl; rfl; omega; omega; omega) | (apply w_remU; rfl; rfl; rfl; omega; omega) | (apply w_minL; rfl; rfl; rfl; omega) | (apply w_minG; rfl; rfl; rfl; omega) | (apply w_min; rfl; rfl; rfl) | (apply w_mfR; rfl; rfl) | (apply w_cvp; rfl; rfl; exact inferInstance; rfl; rfl; assumption) | (apply w_eqS2T; rfl; rfl; rfl; omega) | (apply w_eqS2F; rfl; rfl; rfl; omega) | (apply w_neS2T; rfl; rfl; rfl; omega) | (apply w_neS2F; rfl; rfl; rfl; omega) | (apply w_eqS3T; rfl; rfl; rfl; omega) | (apply w_eqS3F; rfl; rfl; rfl; omega) | (apply w_neS3T; rfl; rfl; rfl; omega) | (apply w_neS3F; rfl; rfl; rfl; omega) | (apply w_eqS3; rfl; rfl; rfl) | (apply w_neS3; rfl; rfl; rfl) | (apply w_eqS2; rfl; rfl; rfl) | (apply w_neS2; rfl; rfl; rfl) | (apply w_maxL; rfl; rfl; rfl; omega) | (apply w_maxG; rfl; rfl; rfl; omega) | (apply w_max; rfl; rfl; rfl) | (apply w_neB; rfl; rfl; rfl; rfl) | (apply w_eqB; rfl; rfl; rfl; rfl) | (apply w_st; rfl; rfl; rfl; (focus ((repeat (first | exact hSt _ | apply St.there)); done)); ((exact kmf))) | (apply w_fldV; rfl; rfl; rfl) | (apply w_cq; rfl; rfl; apply Called.at (h := hF); ((focus ((repeat (first | exact Rep.here | apply Rep.there)); done)))) | (apply w_cq; rfl; rfl; exact hA _) | refine spl ?_ ?_ | intro hc)
  all_goals (apply At_retR (by (first | exact .inl rfl | exact .inr rfl)) Try.results36; ((focus ((repeat (first | exact ResR.nil | (apply ResR.tmp; rfl) | (apply ResR.one; rfl; (focus ((repeat (first | assumption | exact .pt rfl | exact .sl ‹_› rfl | exact .sl1 (by first | assumption | rfl) | apply Rd.there)); done))) | (apply ResR.agg; rfl; (focus ((repeat (first | assumption | exact .pt | exact .sl ‹_› | apply RdAll.there)); done)); rfl))); done))); (refine ⟨?_, rfl⟩; rfl); (exact fun w h => rtbl_fold hok2 (by rw [hcs]; exact (owns_close he (e2 := e2) (by rw [hrest]; exact Sel.sat (by (focus ((repeat (first | exact Sel.refl | (apply Sel.cons; (focus ((repeat (first | exact Del.here | apply Del.there)); done))) | refine Sel.drop ?_)); done))) h) : Sat w (ownsH (es.set id.toNat e2) :: pt b 85 (rcells lv es) :: rlibH lv ys :: R)).perm (.swap ..))))
theorem rRun_ok (b : Nat) (Z : RTab) (id n : Int) (hn : W64 n) (R : List HP) : Called Try.prog 36 [ptr b, int id, int n] (rtbl b Z :: R) (is (.tuple #[int (rrunZ Z id n).1.1, int (rrunZ Z id n).1.2]) (rtbl b (rrunZ Z id n).2 :: R)) := by
  by_cases h : rfindZ Z id = 0 ∧ (ractZ Z id).1 = 1 ∧ 0 ≤ n ∧ n < (ractZ Z id).2
  · exact rRun2_ok b Z id n h.1 h.2.1 h.2.2.1 h.2.2.2 R
  · exact rRun1_ok b Z id n hn h R
end Go.Proofs.Ytmkbijjmipppaaa
