/- table's reference: on, Run, Done. Conditions: none. -/
import Derived.Test.YtmkbijjmipppaaaTabT
set_option linter.all false
set_option linter.deprecated false
namespace Go.Proofs.Ytmkbijjmipppaaa
open Go.Sep
variable [B0 : Base]
def RTab.setZ (Z : RTab) (i : Nat) (t : RTm) : RTab := { Z with ths := Z.ths.set i t }
def onR (t : RTm) : RTm := { t with at' := t.at' + 1, todo := t.todo.tail }
theorem owns_same {es : List RE} {i : Nat} {e e2 : RE} (h : es[i]? = some e) (hu : e2.u = e.u) (hf : e2.full = e.full) : ownsH (es.set i e2) = ownsH es := by
  unfold ownsH
  rw [List.map_set, hu, hf]
  congr 1
  exact set_self (by rw [List.getElem?_map, h]; rfl)
theorem RTabOk.set {Z : RTab} {lv : Value} {ys : List (Value × List Ins)} {es : List RE} (h : RTabOk Z lv ys es) {i : Nat} {e : RE} (h1 : TvOk e.u e.tv e.full.length e.k) (h2 : e.full.length ≤ 64) (h3 : e.at' = e.k) (h4 : ∀ x ∈ e.full, -1099511627776 ≤ x.n ∧ x.n ≤ 1099511627776) : RTabOk (Z.setZ i (absR e)) lv ys (es.set i e) where
  n64 := by rw [List.length_set]; exact h.n64
  lisl := h.lisl
  few := h.few
  progs := h.progs
  isl := h.isl
  ths := by unfold RTab.setZ; rw [h.ths, List.map_set]
  each := fun x hx => by
    rcases List.mem_or_eq_of_mem_set hx with hx | hx
    · exact h.each x hx
    · subst hx; exact ⟨h1, h2, h3, h4⟩
set_option maxHeartbeats 4000000 in
theorem on_ok (b : Nat) (Z : RTab) (id : Int) (h0 : 0 ≤ id) (h1 : id ≤ 63) (t : RTm) (hz : Z.ths[id.toNat]? = some t) (hn : t.todo ≠ []) (R : List HP) : Called Try.prog 50 [ptr b, int id] (rtbl b Z :: R) (is (.tuple #[]) (rtbl b (Z.setZ id.toNat (onR t)) :: R)) := by
  refine Fn2 Try.func50 rfl Try.ntmps50 rfl ?_
  refine C_rtbl fun lv ys es hok => ?_
  obtain ⟨e, he, hz'⟩ := hok.get (i := id.toNat) (by omega)
  rw [hz] at hz'
  cases hz'
  obtain ⟨q1, q3, q4, q5⟩ := hok.each e (List.mem_of_getElem? he)
  have hle := q1.le
  have hk : e.k < e.full.length := by
    rcases Nat.lt_or_ge e.k e.full.length with h | h
    · exact h
    · exact absurd (show (absR e).todo = [] from List.drop_eq_nil_of_le h) hn
  have hsl := q1.isl
  have hone := hsl.one
  have q6 := q1.step hk
  have hone1 := q6.isl.one
  have hr : Rd (pt b 85 (rcells lv es) :: ownsH es :: rlibH lv ys :: R) ⟨b, 1 + id.toNat * 4 + 3, none⟩ e.tv := Rd.ref he rfl
  let tv1 := Sep.vsl e.tv 1 (e.full.length - e.k) (Sep.vcap e.tv) 2
  let e1 : RE := { e with tv := tv1 }
  let e2 : RE := { e1 with at' := e.at' + 1, k := e.k + 1 }
  have hlt : id.toNat < es.length := (List.getElem?_eq_some_iff.1 he).1
  have he1 : (es.set id.toNat e1)[id.toNat]? = some e1 := List.getElem?_set_self hlt
  have hr2 : Rd (pt b 85 (rcells lv (es.set id.toNat e1)) :: ownsH es :: rlibH lv ys :: R) ⟨b, 1 + id.toNat * 4 + 2, none⟩ (int e.at') := Rd.ref he1 rfl
  have hSt : ∀ L, St (pt b 85 (rcells lv es) :: L) ⟨b, 1 + id.toNat * 4 + 3, none⟩ (Sep.vsl e.tv 1 (e.full.length - e.k) (Sep.vcap e.tv) 2) (pt b 85 (rcells lv (es.set id.toNat e1)) :: L) := fun L => St.ref he (by omega) rfl
  have hSt2 : ∀ L, St (pt b 85 (rcells lv (es.set id.toNat e1)) :: L) ⟨b, 1 + id.toNat * 4 + 2, none⟩ (int (e.at' + 1)) (pt b 85 (rcells lv ((es.set id.toNat e1).set id.toNat e2)) :: L) := fun L => St.ref he1 (by omega) rfl
  have hok2 : RTabOk (Z.setZ id.toNat (absR e2)) lv ys (es.set id.toNat e2) := hok.set (e := e2) q6 q3 (show e.at' + 1 = ((e.k + 1 : Nat) : Int) by omega) q5
  have habs : absR e2 = onR (absR e) := by
    show RTm.mk e.is e.pr (e.k + 1) (e.full.drop (e.k + 1)) = RTm.mk e.is e.pr (e.k + 1) (e.full.drop e.k).tail
    rw [List.tail_drop]
  rw [habs] at hok2
  have how : ownsH (es.set id.toNat e2) = ownsH es := owns_same he rfl rfl
  rw [List.set_set] at hSt2
  (repeat' first | refine stp ?_ | intro v' hv' | intro (b : Nat) | (apply w_convU; rfl; rfl; omega; omega) | (apply w_convI; rfl; rfl; omega; omega) | (apply w_quoU; rfl; rfl; rfl; omega; omega; omega) | (apply w_remU; rfl; rfl; rfl; omega; omega) | (apply w_minL; rfl; rfl; rfl; omega) | (apply w_minG; rfl; rfl; rfl; omega) | (apply w_min; rfl; rfl; rfl) | (apply w_mfR; rfl; rfl) | (apply w_cvp; rfl; rfl; exact inferInstance; rfl; rfl; assumption) | (apply w_eqS2T; rfl; rfl; rfl; omega) | (apply w_eqS2F; rfl; rfl; rfl; omega) | (apply w_neS2T; rfl; rfl; rfl; omega) | (apply w_neS2F; rfl; rfl; rfl; omega) | (apply w_eqS3T; rfl; rfl; rfl; omega) | (apply w_eqS3F; rfl; rfl; rfl; omega) | (apply w_neS3T; rfl; rfl; rfl; omega) | (apply w_neS3F; rfl; rfl; rfl; omega) | (apply w_eqS3; rfl; rfl; rfl) | (apply w_neS3; rfl; rfl; rfl) | (apply w_eqS2; rfl; rfl; rfl) | (apply w_neS2; rfl; rfl; rfl) | (apply w_maxL; rfl; rfl; rfl; omega) | (apply w_maxG; rfl; rfl; rfl; omega) | (apply w_max; rfl; rfl; rfl) | (apply w_neB; rfl; rfl; rfl; rfl) | (apply w_eqB; rfl; rfl; rfl; rfl) | (apply w_st; rfl; rfl; (first | rfl | exact hone1); (focus ((repeat (first | exact hSt _ | exact hSt2 _ | apply St.there)); done)); ((exact kmf))) | (apply w_sll (h := 1); rfl; rfl; rfl; exact hsl; omega) | refine spl ?_ ?_ | intro hc)
  all_goals (apply At_retR (by (first | exact .inl rfl | exact .inr rfl)) Try.results50; ((focus ((repeat (first | exact ResR.nil | (apply ResR.tmp; rfl) | (apply ResR.one; rfl; (focus ((repeat (first | assumption | exact .pt rfl | exact .sl ‹_› rfl | exact .sl1 (by first | assumption | rfl) | apply Rd.there)); done))) | (apply ResR.agg; rfl; (focus ((repeat (first | assumption | exact .pt | exact .sl ‹_› | apply RdAll.there)); done)); rfl))); done))); (refine ⟨?_, rfl⟩; rfl); (exact fun w h => rtbl_fold hok2 (by rw [how]; exact Sel.sat (by (focus ((repeat (first | exact Sel.refl | (apply Sel.cons; (focus ((repeat (first | exact Del.here | apply Del.there)); done))) | refine Sel.drop ?_)); done))) h)))
/-! ### Run -/
instance : FieldOne Try.prog 86 0 0 := ⟨by kernel_rfl⟩
instance : FieldOne Try.prog 86 1 1 := ⟨by kernel_rfl⟩
def rrunZ (Z : RTab) (id n : Int) : (Int × Int) × RTab := if rfindZ Z id ≠ 0 then ((0, rfindZ Z id), Z) else if (ractZ Z id).1 ≠ 1 then ((0, 16), Z) else if n < 0 then ((0, 10), Z) else match Z.ths[id.toNat]? with
  | none => ((0, 0), Z)
  | some t => if (ractZ Z id).2 ≤ n then (((ractZ Z id).2, 0), Z.setZ id.toNat (onR t)) else ((n, 0), Z.setZ id.toNat { t with todo := ⟨1, (ractZ Z id).2 - n⟩ :: t.todo.tail })
theorem rfind_0 {Z : RTab} {id : Int} (h : rfindZ Z id = 0) : 0 ≤ id ∧ id ≤ 63 := by
  unfold rfindZ at h
  by_cases hi : id < 0 ∨ 63 < id
  · rw [if_pos hi] at h; exact absurd h (by decide)
  · omega
set_option maxHeartbeats 4000000 in
theorem rFindL_ok (b : Nat) (Z : RTab) (lv : Value) (ys : List (Value × List Ins)) (es : List RE) (hok : RTabOk Z lv ys es) (id : Int) (R : List HP) : Called Try.prog 38 [ptr b, int id] (pt b 85 (rcells lv es) :: R) (is (int (rfindZ Z id)) (pt b 85 (rcells lv es) :: R)) := by
  refine Fn2 Try.func38 rfl Try.ntmps38 rfl ?_
  unfold rfindZ
  by_cases hi : id < 0 ∨ 63 < id
  · rw [if_pos hi]
    (repeat' first | refine stp ?_ | intro v' hv' | intro (b : Nat) | (apply w_convU; rfl; rfl; omega; omega) | (apply w_convI; rfl; rfl; omega; omega) | (apply w_quoU; rfl; rfl; rfl; omega; omega; omega) | (apply w_remU; rfl; rfl; rfl; omega; omega) | (apply w_minL; rfl; rfl; rfl; omega) | (apply w_minG; rfl; rfl; rfl; omega) | (apply w_min; rfl; rfl; rfl) | (apply w_mfR; rfl; rfl) | (apply w_cvp; rfl; rfl; exact inferInstance; rfl; rfl; assumption) | (apply w_eqS2T; rfl; rfl; rfl; omega) | (apply w_eqS2F; rfl; rfl; rfl; omega) | (apply w_neS2T; rfl; rfl; rfl; omega) | (apply w_neS2F; rfl; rfl; rfl; omega) | (apply w_eqS3T; rfl; rfl; rfl; omega) | (apply w_eqS3F; rfl; rfl; rfl; omega) | (apply w_neS3T; rfl; rfl; rfl; omega) | (apply w_neS3F; rfl; rfl; rfl; omega) | (apply w_eqS3; rfl; rfl; rfl) | (apply w_neS3; rfl; rfl; rfl) | (apply w_eqS2; rfl; rfl; rfl) | (apply w_neS2; rfl; rfl; rfl) | (apply w_maxL; rfl; rfl; rfl; omega) | (apply w_maxG; rfl; rfl; rfl; omega) | (apply w_max; rfl; rfl; rfl) | (apply w_neB; rfl; rfl; rfl; rfl) | (apply w_eqB; rfl; rfl; rfl; rfl) | (apply w_fldV; rfl; rfl; rfl) | refine spl ?_ ?_ | intro hc)
    all_goals first | (exfalso; omega) | skip
    all_goals (refine At_ret1 (by (first | exact .inl rfl | exact .inr rfl)) Try.results38 rfl ⟨by rfl, rfl⟩ (by (exact frm)))
  · rw [if_neg hi]
    obtain ⟨e, he, hz⟩ := hok.get (i := id.toNat) (by omega)
    rw [hz]
    have hr : Rd (pt b 85 (rcells lv es) :: R) ⟨b, 1 + id.toNat * 4 + 0, none⟩ (.bool e.is) := Rd.ref he rfl
    have hab : (absR e).is = e.is := rfl
    dsimp only
    rw [hab]
    cases hb : e.is with
    | false =>
      rw [hb] at hr
      (repeat' first | refine stp ?_ | intro v' hv' | intro (b : Nat) | (apply w_convU; rfl; rfl; omega; omega) | (apply w_convI; rfl; rfl; omega; omega) | (apply w_quoU; rfl; rfl; rfl; omega; omega; omega) | (apply w_remU; rfl; rfl; rfl; omega; omega) | (apply w_minL; rfl; rfl; rfl; omega) | (apply w_minG; rfl; rfl; rfl; omega) | (apply w_min; rfl; rfl; rfl) | (apply w_mfR; rfl; rfl) | (apply w_cvp; rfl; rfl; exact inferInstance; rfl; rfl; assumption) | (apply w_eqS2T; rfl; rfl; rfl; omega) | (apply w_eqS2F; rfl; rfl; rfl; omega) | (apply w_neS2T; rfl; rfl; rfl; omega) | (apply w_neS2F; rfl; rfl; rfl; omega) | (apply w_eqS3T; rfl; rfl; rfl; omega) | (apply w_eqS3F; rfl; rfl; rfl; omega) | (apply w_neS3T; rfl; rfl; rfl; omega) | (apply w_neS3F; rfl; rfl; rfl; omega) | (apply w_eqS3; rfl; rfl; rfl) | (apply w_neS3; rfl; rfl; rfl) | (apply w_eqS2; rfl; rfl; rfl) | (apply w_neS2; rfl; rfl; rfl) | (apply w_maxL; rfl; rfl; rfl; omega) | (apply w_maxG; rfl; rfl; rfl; omega) | (apply w_max; rfl; rfl; rfl) | (apply w_neB; rfl; rfl; rfl; rfl) | (apply w_eqB; rfl; rfl; rfl; rfl) | (apply w_fldV; rfl; rfl; rfl) | refine spl ?_ ?_ | intro hc)
      all_goals (refine At_ret1 (by (first | exact .inl rfl | exact .inr rfl)) Try.results38 rfl ⟨by rfl, rfl⟩ (by (exact frm)))
    | true =>
      rw [hb] at hr
      (repeat' first | refine stp ?_ | intro v' hv' | intro (b : Nat) | (apply w_convU; rfl; rfl; omega; omega) | (apply w_convI; rfl; rfl; omega; omega) | (apply w_quoU; rfl; rfl; rfl; omega; omega; omega) | (apply w_remU; rfl; rfl; rfl; omega; omega) | (apply w_minL; rfl; rfl; rfl; omega) | (apply w_minG; rfl; rfl; rfl; omega) | (apply w_min; rfl; rfl; rfl) | (apply w_mfR; rfl; rfl) | (apply w_cvp; rfl; rfl; exact inferInstance; rfl; rfl; assumption) | (apply w_eqS2T; rfl; rfl; rfl; omega) | (apply w_eqS2F; rfl; rfl; rfl; omega) | (apply w_neS2T; rfl; rfl; rfl; omega) | (apply w_neS2F; rfl; rfl; rfl; omega) | (apply w_eqS3T; rfl; rfl; rfl; omega) | (apply w_eqS3F; rfl; rfl; rfl; omega) | (apply w_neS3T; rfl; rfl; rfl; omega) | (apply w_neS3F; rfl; rfl; rfl; omega) | (apply w_eqS3; rfl; rfl; rfl) | (apply w_neS3; rfl; rfl; rfl) | (apply w_eqS2; rfl; rfl; rfl) | (apply w_neS2; rfl; rfl; rfl) | (apply w_maxL; rfl; rfl; rfl; omega) | (apply w_maxG; rfl; rfl; rfl; omega) | (apply w_max; rfl; rfl; rfl) | (apply w_neB; rfl; rfl; rfl; rfl) | (apply w_eqB; rfl; rfl; rfl; rfl) | (apply w_fldV; rfl; rfl; rfl) | refine spl ?_ ?_ | intro hc)
      all_goals (refine At_ret1 (by (first | exact .inl rfl | exact .inr rfl)) Try.results38 rfl ⟨by rfl, rfl⟩ (by (exact frm)))
set_option maxHeartbeats 4000000 in
theorem rActL_ok (b : Nat) (Z : RTab) (lv : Value) (ys : List (Value × List Ins)) (es : List RE) (hok : RTabOk Z lv ys es) (id : Int) (h0 : 0 ≤ id) (h1 : id ≤ 63) (R : List HP) : Called Try.prog 39 [ptr b, int id] (pt b 85 (rcells lv es) :: ownsH es :: R) (is (.agg #[int (ractZ Z id).1, int (ractZ Z id).2]) (pt b 85 (rcells lv es) :: ownsH es :: R)) := by
  refine Fn2 Try.func39 rfl Try.ntmps39 rfl ?_
  obtain ⟨e, he, hz⟩ := hok.get (i := id.toNat) (by omega)
  obtain ⟨q1, q3, q4, q5⟩ := hok.each e (List.mem_of_getElem? he)
  have hr : Rd (pt b 85 (rcells lv es) :: ownsH es :: R) ⟨b, 1 + id.toNat * 4 + 3, none⟩ e.tv := Rd.ref he rfl
  have hsl : IsSl e.tv (e.full.length - e.k) := q1.isl
  have hsrc : Src (ownsH es :: R) e.tv 2 (e.todo.map insE) := owns_tv he q1
  have hlen : e.todo.length = e.full.length - e.k := by unfold RE.todo; rw [List.length_drop]
  have hone := hsl.one
  unfold ractZ
  rw [hz]
  have hab : (absR e).todo = e.todo := rfl
  dsimp only
  rw [hab]
  cases ht : e.todo with
  | nil =>
    rw [ht] at hlen
    have hlen' : e.full.length - e.k = 0 := hlen.symm
    rw [hlen'] at hsl
    generalize e.tv = tv at *
    (repeat' first | refine stp ?_ | intro v' hv' | intro (b : Nat) | (apply w_convU; rfl; rfl; omega; omega) | (apply w_convI; rfl; rfl; omega; omega) | (apply w_quoU; rfl; rfl; rfl; omega; omega; omega) | (apply w_remU; rfl; rfl; rfl; omega; omega) | (apply w_minL; rfl; rfl; rfl; omega) | (apply w_minG; rfl; rfl; rfl; omega) | (apply w_min; rfl; rfl; rfl) | (apply w_mfR; rfl; rfl) | (apply w_cvp; rfl; rfl; exact inferInstance; rfl; rfl; assumption) | (apply w_eqS2T; rfl; rfl; rfl; omega) | (apply w_eqS2F; rfl; rfl; rfl; omega) | (apply w_neS2T; rfl; rfl; rfl; omega) | (apply w_neS2F; rfl; rfl; rfl; omega) | (apply w_eqS3T; rfl; rfl; rfl; omega) | (apply w_eqS3F; rfl; rfl; rfl; omega) | (apply w_neS3T; rfl; rfl; rfl; omega) | (apply w_neS3F; rfl; rfl; rfl; omega) | (apply w_eqS3; rfl; rfl; rfl) | (apply w_neS3; rfl; rfl; rfl) | (apply w_eqS2; rfl; rfl; rfl) | (apply w_neS2; rfl; rfl; rfl) | (apply w_maxL; rfl; rfl; rfl; omega) | (apply w_maxG; rfl; rfl; rfl; omega) | (apply w_max; rfl; rfl; rfl) | (apply w_neB; rfl; rfl; rfl; rfl) | (apply w_eqB; rfl; rfl; rfl; rfl) | (apply w_fldV; rfl; rfl; rfl) | refine spl ?_ ?_ | intro hc)
    all_goals (apply At_retR (by (first | exact .inl rfl | exact .inr rfl)) Try.results39; ((focus ((repeat (first | exact ResR.nil | (apply ResR.tmp; rfl) | (apply ResR.one; rfl; (focus ((repeat (first | assumption | exact .pt rfl | exact .sl ‹_› rfl | exact .sl1 (by first | assumption | rfl) | apply Rd.there)); done))) | (apply ResR.agg; rfl; (focus ((repeat (first | assumption | exact .pt | exact .sl ‹_› | apply RdAll.there)); done)); rfl))); done))); (refine ⟨?_, rfl⟩; rfl); ((exact frm)))
  | cons x r =>
    obtain ⟨op, nn⟩ := x
    have hra : RdAll (ownsH es :: R) (vb e.tv) (vo e.tv + 0 * 2) [int op, int nn] := RdAll.srcI hsrc (i := 0) (by rw [ht]; rfl)
    rw [ht, List.length_cons] at hlen
    generalize e.tv = tv at *
    (repeat' first | refine stp ?_ | intro v' hv' | intro (b : Nat) | (apply w_convU; rfl; rfl; omega; omega) | (apply w_convI; rfl; rfl; omega; omega) | (apply w_quoU; rfl; rfl; rfl; omega; omega; omega) | (apply w_remU; rfl; rfl; rfl; omega; omega) | (apply w_minL; rfl; rfl; rfl; omega) | (apply w_minG; rfl; rfl; rfl; omega) | (apply w_min; rfl; rfl; rfl) | (apply w_mfR; rfl; rfl) | (apply w_cvp; rfl; rfl; exact inferInstance; rfl; rfl; assumption) | (apply w_eqS2T; rfl; rfl; rfl; omega) | (apply w_eqS2F; rfl; rfl; rfl; omega) | (apply w_neS2T; rfl; rfl; rfl; omega) | (apply w_neS2F; rfl; rfl; rfl; omega) | (apply w_eqS3T; rfl; rfl; rfl; omega) | (apply w_eqS3F; rfl; rfl; rfl; omega) | (apply w_neS3T; rfl; rfl; rfl; omega) | (apply w_neS3F; rfl; rfl; rfl; omega) | (apply w_eqS3; rfl; rfl; rfl) | (apply w_neS3; rfl; rfl; rfl) | (apply w_eqS2; rfl; rfl; rfl) | (apply w_neS2; rfl; rfl; rfl) | (apply w_maxL; rfl; rfl; rfl; omega) | (apply w_maxG; rfl; rfl; rfl; omega) | (apply w_max; rfl; rfl; rfl) | (apply w_neB; rfl; rfl; rfl; rfl) | (apply w_eqB; rfl; rfl; rfl; rfl) | (apply w_fldV; rfl; rfl; rfl) | refine spl ?_ ?_ | intro hc)
    all_goals (apply At_retR (by (first | exact .inl rfl | exact .inr rfl)) Try.results39; ((focus ((repeat (first | exact ResR.nil | (apply ResR.tmp; rfl) | (apply ResR.one; rfl; (focus ((repeat (first | assumption | exact .pt rfl | exact .sl ‹_› rfl | exact .sl1 (by first | assumption | rfl) | apply Rd.there)); done))) | (apply ResR.agg; rfl; (focus ((repeat (first | assumption | exact .pt | exact .sl ‹_› | apply RdAll.there)); done)); rfl))); done))); (refine ⟨?_, rfl⟩; rfl); ((exact frm)))
/-- One thread's row, out of them all. -/
theorem owns_open {es : List RE} {i : Nat} {e : RE} (h : es[i]? = some e) {w : World} {R : List HP} (hs : Sat w (ownsH es :: R)) : Sat w (sl 86 2 e.u (e.full.map insE) :: all ((es.eraseIdx i).map fun e => sl 86 2 e.u (e.full.map insE)) :: R) := by
  unfold ownsH at hs
  have h1 := Sat.all_iff.1 hs
  have hp : (es.map fun e => sl 86 2 e.u (e.full.map insE)).Perm (sl 86 2 e.u (e.full.map insE) :: (es.eraseIdx i).map fun e => sl 86 2 e.u (e.full.map insE)) := by
    conv => lhs; rw [cut_at h]
    rw [List.eraseIdx_eq_take_drop_succ, List.map_append, List.map_cons, List.map_append]
    exact List.perm_middle
  have h2 : Sat w (sl 86 2 e.u (e.full.map insE) :: (((es.eraseIdx i).map fun e => sl 86 2 e.u (e.full.map insE)) ++ R)) := h1.perm (hp.append_right R)
  have h3 : Sat w (all ((es.eraseIdx i).map fun e => sl 86 2 e.u (e.full.map insE)) :: sl 86 2 e.u (e.full.map insE) :: R) := Sat.all_iff.2 (h2.perm List.perm_middle.symm)
  exact h3.perm (.swap ..)
theorem owns_close {es : List RE} {i : Nat} {e e2 : RE} (h : es[i]? = some e) {w : World} {R : List HP} (hs : Sat w (sl 86 2 e2.u (e2.full.map insE) :: all ((es.eraseIdx i).map fun e => sl 86 2 e.u (e.full.map insE)) :: R)) : Sat w (ownsH (es.set i e2) :: R) := by
  unfold ownsH
  refine Sat.all_iff.2 ?_
  have h1 : Sat w (((es.eraseIdx i).map fun e => sl 86 2 e.u (e.full.map insE)) ++ sl 86 2 e2.u (e2.full.map insE) :: R) := Sat.all_iff.1 (hs.perm (.swap ..))
  have hp : ((es.set i e2).map fun e => sl 86 2 e.u (e.full.map insE)).Perm (sl 86 2 e2.u (e2.full.map insE) :: (es.eraseIdx i).map fun e => sl 86 2 e.u (e.full.map insE)) := by
    rw [set_at h, List.eraseIdx_eq_take_drop_succ, List.map_append, List.map_cons, List.map_append]
    exact List.perm_middle
  exact (h1.perm List.perm_middle).perm (hp.append_right R).symm
set_option maxHeartbeats 8000000 in
theorem rRun1_ok (b : Nat) (Z : RTab) (id n : Int) (hn : W64 n) (hnot : ¬ (rfindZ Z id = 0 ∧ (ractZ Z id).1 = 1 ∧ 0 ≤ n ∧ n < (ractZ Z id).2)) (R : List HP) : Called Try.prog 36 [ptr b, int id, int n] (rtbl b Z :: R) (is (.tuple #[int (rrunZ Z id n).1.1, int (rrunZ Z id n).1.2]) (rtbl b (rrunZ Z id n).2 :: R)) := by
  have hF := rFind_ok b Z id
  unfold rrunZ
  by_cases hf : rfindZ Z id = 0
  · rw [if_neg (show ¬ (rfindZ Z id ≠ 0) by simpa using hf)]
    rw [hf] at hF
    obtain ⟨h0, h1⟩ := rfind_0 hf
    have hA := rAct_ok b Z id h0 h1
    by_cases ha : (ractZ Z id).1 = 1
    · rw [if_neg (show ¬ ((ractZ Z id).1 ≠ 1) by simpa using ha)]
      rw [ha] at hA
      by_cases hn0 : n < 0
      · rw [if_pos hn0]
        refine Fn3 Try.func36 rfl Try.ntmps36 rfl ?_
        (repeat' first | refine stp ?_ | intro v' hv' | intro (b : Nat) | (apply w_convU; rfl; rfl; omega; omega) | (apply w_convI; rfl; rfl; omega; omega) | (apply w_quoU; rfl; rfl; rfl; omega; omega; omega) | (apply w_remU; rfl; rfl; rfl; omega; omega) | (apply w_minL; rfl; rfl; rfl; omega) | (apply w_minG; rfl; rfl; rfl; omega) | (apply w_min; rfl; rfl; rfl) | (apply w_mfR; rfl; rfl) | (apply w_cvp; rfl; rfl; exact inferInstance; rfl; rfl; assumption) | (apply w_eqS2T; rfl; rfl; rfl; omega) | (apply w_eqS2F; rfl; rfl; rfl; omega) | (apply w_neS2T; rfl; rfl; rfl; omega) | (apply w_neS2F; rfl; rfl; rfl; omega) | (apply w_eqS3T; rfl; rfl; rfl; omega) | (apply w_eqS3F; rfl; rfl; rfl; omega) | (apply w_neS3T; rfl; rfl; rfl; omega) | (apply w_neS3F; rfl; rfl; rfl; omega) | (apply w_eqS3; rfl; rfl; rfl) | (apply w_neS3; rfl; rfl; rfl) | (apply w_eqS2; rfl; rfl; rfl) | (apply w_neS2; rfl; rfl; rfl) | (apply w_maxL; rfl; rfl; rfl; omega) | (apply w_maxG; rfl; rfl; rfl; omega) | (apply w_max; rfl; rfl; rfl) | (apply w_neB; rfl; rfl; rfl; rfl) | (apply w_eqB; rfl; rfl; rfl; rfl) | (apply w_fldV; rfl; rfl; rfl) | (apply w_cq; rfl; rfl; apply Called.at (h := hF); ((focus ((repeat (first | exact Rep.here | apply Rep.there)); done)))) | (apply w_cq; rfl; rfl; apply Called.at (h := hA); ((focus ((repeat (first | exact Rep.here | apply Rep.there)); done)))) | (apply w_cd; rfl; rfl; apply Called.at (h := hO); ((focus ((repeat (first | exact Rep.here | apply Rep.there)); done))); ((exact kmf))) | refine spl ?_ ?_ | intro hc)
        all_goals (refine At_ret2 (by (first | exact .inl rfl | exact .inr rfl)) Try.results36 rfl rfl ⟨by rfl, rfl⟩ (by (exact frm)))
      · rw [if_neg hn0]
        have hge : (ractZ Z id).2 ≤ n := by
          rcases Int.lt_or_le n (ractZ Z id).2 with h | h
          · exact absurd ⟨hf, ha, by omega, h⟩ hnot
          · exact h
        cases hz : Z.ths[id.toNat]? with
        | none => unfold ractZ at ha; rw [hz] at ha; exact absurd ha (by decide)
        | some t =>
          have hne : t.todo ≠ [] := fun he => by unfold ractZ at ha; rw [hz] at ha; dsimp only at ha; rw [he] at ha; exact absurd ha (by decide)
          have hO := on_ok b Z id h0 h1 t hz hne
          dsimp only
          rw [if_pos hge]
          generalize (ractZ Z id).2 = a2 at *
          refine Fn3 Try.func36 rfl Try.ntmps36 rfl ?_
          (repeat' first | refine stp ?_ | intro v' hv' | intro (b : Nat) | (apply w_convU; rfl; rfl; omega; omega) | (apply w_convI; rfl; rfl; omega; omega) | (apply w_quoU; rfl; rfl; rfl; omega; omega; omega) | (apply w_remU; rfl; rfl; rfl; omega; omega) | (apply w_minL; rfl; rfl; rfl; omega) | (apply w_minG; rfl; rfl; rfl; omega) | (apply w_min; rfl; rfl; rfl) | (apply w_mfR; rfl; rfl) | (apply w_cvp; rfl; rfl; exact inferInstance; rfl; rfl; assumption) | (apply w_eqS2T; rfl; rfl; rfl; omega) | (apply w_eqS2F; rfl; rfl; rfl; omega) | (apply w_neS2T; rfl; rfl; rfl; omega) | (apply w_neS2F; rfl; rfl; rfl; omega) | (apply w_eqS3T; rfl; rfl; rfl; omega) | (apply w_eqS3F; rfl; rfl; rfl; omega) | (apply w_neS3T; rfl; rfl; rfl; omega) | (apply w_neS3F; rfl; rfl; rfl; omega) | (apply w_eqS3; rfl; rfl; rfl) | (apply w_neS3; rfl; rfl; rfl) | (apply w_eqS2; rfl; rfl; rfl) | (apply w_neS2; rfl; rfl; rfl) | (apply w_maxL; rfl; rfl; rfl; omega) | (apply w_maxG; rfl; rfl; rfl; omega) | (apply w_max; rfl; rfl; rfl) | (apply w_neB; rfl; rfl; rfl; rfl) | (apply w_eqB; rfl; rfl; rfl; rfl) | (apply w_fldV; rfl; rfl; rfl) | (apply w_cq; rfl; rfl; apply Called.at (h := hF); ((focus ((repeat (first | exact Rep.here | apply Rep.there)); done)))) | (apply w_cq; rfl; rfl; apply Called.at (h := hA); ((focus ((repeat (first | exact Rep.here | apply Rep.there)); done)))) | (apply w_cd; rfl; rfl; apply Called.at (h := hO); ((focus ((repeat (first | exact Rep.here | apply Rep.there)); done))); ((exact kmf))) | refine spl ?_ ?_ | intro hc)
          all_goals (refine At_ret2 (by (first | exact .inl rfl | exact .inr rfl)) Try.results36 rfl rfl ⟨by rfl, rfl⟩ (by (exact frm)))
    · rw [if_pos ha]
      refine Fn3 Try.func36 rfl Try.ntmps36 rfl ?_
      (repeat' first | refine stp ?_ | intro v' hv' | intro (b : Nat) | (apply w_convU; rfl; rfl; omega; omega) | (apply w_convI; rfl; rfl; omega; omega) | (apply w_quoU; rfl; rfl; rfl; omega; omega; omega) | (apply w_remU; rfl; rfl; rfl; omega; omega) | (apply w_minL; rfl; rfl; rfl; omega) | (apply w_minG; rfl; rfl; rfl; omega) | (apply w_min; rfl; rfl; rfl) | (apply w_mfR; rfl; rfl) | (apply w_cvp; rfl; rfl; exact inferInstance; rfl; rfl; assumption) | (apply w_eqS2T; rfl; rfl; rfl; omega) | (apply w_eqS2F; rfl; rfl; rfl; omega) | (apply w_neS2T; rfl; rfl; rfl; omega) | (apply w_neS2F; rfl; rfl; rfl; omega) | (apply w_eqS3T; rfl; rfl; rfl; omega) | (apply w_eqS3F; rfl; rfl; rfl; omega) | (apply w_neS3T; rfl; rfl; rfl; omega) | (apply w_neS3F; rfl; rfl; rfl; omega) | (apply w_eqS3; rfl; rfl; rfl) | (apply w_neS3; rfl; rfl; rfl) | (apply w_eqS2; rfl; rfl; rfl) | (apply w_neS2; rfl; rfl; rfl) | (apply w_maxL; rfl; rfl; rfl; omega) | (apply w_maxG; rfl; rfl; rfl; omega) | (apply w_max; rfl; rfl; rfl) | (apply w_neB; rfl; rfl; rfl; rfl) | (apply w_eqB; rfl; rfl; rfl; rfl) | (apply w_fldV; rfl; rfl; rfl) | (apply w_cq; rfl; rfl; apply Called.at (h := hF); ((focus ((repeat (first | exact Rep.here | apply Rep.there)); done)))) | (apply w_cq; rfl; rfl; apply Called.at (h := hA); ((focus ((repeat (first | exact Rep.here | apply Rep.there)); done)))) | (apply w_cd; rfl; rfl; apply Called.at (h := hO); ((focus ((repeat (first | exact Rep.here | apply Rep.there)); done))); ((exact kmf))) | refine spl ?_ ?_ | intro hc)
      all_goals (refine At_ret2 (by (first | exact .inl rfl | exact .inr rfl)) Try.results36 rfl rfl ⟨by rfl, rfl⟩ (by (exact frm)))
  · rw [if_pos hf]
    refine Fn3 Try.func36 rfl Try.ntmps36 rfl ?_
    (repeat' first | refine stp ?_ | intro v' hv' | intro (b : Nat) | (apply w_convU; rfl; rfl; omega; omega) | (apply w_convI; rfl; rfl; omega; omega) | (apply w_quoU; rfl; rfl; rfl; omega; omega; omega) | (apply w_remU; rfl; rfl; rfl; omega; omega) | (apply w_minL; rfl; rfl; rfl; omega) | (apply w_minG; rfl; rfl; rfl; omega) | (apply w_min; rfl; rfl; rfl) | (apply w_mfR; rfl; rfl) | (apply w_cvp; rfl; rfl; exact inferInstance; rfl; rfl; assumption) | (apply w_eqS2T; rfl; rfl; rfl; omega) | (apply w_eqS2F; rfl; rfl; rfl; omega) | (apply w_neS2T; rfl; rfl; rfl; omega) | (apply w_neS2F; rfl; rfl; rfl; omega) | (apply w_eqS3T; rfl; rfl; rfl; omega) | (apply w_eqS3F; rfl; rfl; rfl; omega) | (apply w_neS3T; rfl; rfl; rfl; omega) | (apply w_neS3F; rfl; rfl; rfl; omega) | (apply w_eqS3; rfl; rfl; rfl) | (apply w_neS3; rfl; rfl; rfl) | (apply w_eqS2; rfl; rfl; rfl) | (apply w_neS2; rfl; rfl; rfl) | (apply w_maxL; rfl; rfl; rfl; omega) | (apply w_maxG; rfl; rfl; rfl; omega) | (apply w_max; rfl; rfl; rfl) | (apply w_neB; rfl; rfl; rfl; rfl) | (apply w_eqB; rfl; rfl; rfl; rfl) | (apply w_fldV; rfl; rfl; rfl) | (apply w_cq; rfl; rfl; apply Called.at (h := hF); ((focus ((repeat (first | exact Rep.here | apply Rep.there)); done)))) | (apply w_cq; rfl; rfl; apply Called.at (h := hA); ((focus ((repeat (first | exact Rep.here | apply Rep.there)); done)))) | (apply w_cd; rfl; rfl; apply Called.at (h := hO); ((focus ((repeat (first | exact Rep.here | apply Rep.there)); done))); ((exact kmf))) | refine spl ?_ ?_ | intro hc)
    all_goals (refine At_ret2 (by (first | exact .inl rfl | exact .inr rfl)) Try.results36 rfl rfl ⟨by rfl, rfl⟩ (by (exact frm)))
end Go.Proofs.Ytmkbijjmipppaaa
