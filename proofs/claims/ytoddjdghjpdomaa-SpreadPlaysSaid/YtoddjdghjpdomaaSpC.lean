/- spread: how workers lie, and what reads them: first, put, least, last. Conditions: none. -/
import Derived.Test.YtoddjdghjpdomaaSpB
set_option linter.all false
set_option linter.deprecated false
namespace Go.Proofs.Ytoddjdghjpdomaa
open Go.Sep
variable [B0 : Base]
instance : NoIface Try.prog 36 := ⟨by kernel_rfl⟩
instance : MethT Try.prog 36 "Before" 19 := ⟨by kernel_rfl⟩
/-! ### As it lies -/
def wkE (p : Value × Wk) : List Value := [.bool p.2.runs, int p.2.k.at', int p.2.k.id, p.1]
def qsH (ls : List (Value × Wk)) : HP := all (ls.map fun p => sl 36 2 p.1 (p.2.q.map kyE))
theorem WfS.q64 {M : List Wk} (h : WfS M) {i : Nat} (hi : i < M.length) : (wkA M i).q.length ≤ 64 := by
  have hs := h.srt i hi
  have hnd := h.nodup
  rw [List.map_append] at hnd
  have h1 := ((fm_get hi (·.q)).map (·.id)).nodup_iff.1 (List.nodup_append.1 hnd).2.1
  rw [List.map_append] at h1
  have h2 := (List.nodup_append.1 h1).1
  have := nodup_len h2 (fun x hx => by
    obtain ⟨y, hy, rfl⟩ := List.mem_map.1 hx
    have := h.kb y (List.mem_append_right _ (wq_mem.2 ⟨i, hi, hy⟩))
    exact ⟨this.1, this.2.1⟩)
  simpa using this
structure MsOk (M : List Wk) (lv : Value) (ls : List (Value × Wk)) : Prop where
  eq : M = ls.map (·.2)
  lisl : IsSl lv ls.length
  pos : 1 ≤ ls.length
  few : ls.length ≤ 16
  isl : ∀ p ∈ ls, IsSl p.1 p.2.q.length
  wf : WfS M
theorem MsOk.len {M : List Wk} {lv : Value} {ls : List (Value × Wk)} (h : MsOk M lv ls) : M.length = ls.length := by rw [h.eq, List.length_map]
theorem MsOk.get {M : List Wk} {lv : Value} {ls : List (Value × Wk)} (h : MsOk M lv ls) {i : Nat} {p : Value × Wk} (hp : ls[i]? = some p) : M[i]? = some p.2 ∧ wkA M i = p.2 ∧ IsSl p.1 p.2.q.length ∧ p.2.q.length ≤ 64 := by
  have h1 : M[i]? = some p.2 := by rw [h.eq, List.getElem?_map, hp]; rfl
  have hl := (List.getElem?_eq_some_iff.1 h1).1
  refine ⟨h1, wkA_eq h1, h.isl p (List.mem_of_getElem? hp), ?_⟩
  have := h.wf.q64 hl
  rwa [wkA_eq h1] at this
theorem MsOk.at {M : List Wk} {lv : Value} {ls : List (Value × Wk)} (h : MsOk M lv ls) {i : Nat} (hi : i < M.length) : ∃ v, ls[i]? = some (v, wkA M i) ∧ IsSl v (wkA M i).q.length ∧ (wkA M i).q.length ≤ 64 := by
  have hi2 : i < ls.length := by rw [← h.len]; exact hi
  have hp : ls[i]? = some ls[i] := List.getElem?_eq_getElem hi2
  obtain ⟨h1, h2, h3, h4⟩ := h.get hp
  refine ⟨ls[i].1, ?_, ?_, ?_⟩
  · rw [h2]; exact hp
  · rw [h2]; exact h3
  · rw [h2]; exact h4
theorem MsOk.set {M : List Wk} {lv : Value} {ls : List (Value × Wk)} (h : MsOk M lv ls) {i : Nat} {v : Value} {k : Wk} (hv : IsSl v k.q.length) (hw : WfS (M.set i k)) : MsOk (M.set i k) lv (ls.set i (v, k)) where
  eq := by rw [h.eq, List.map_set]
  lisl := by rw [List.length_set]; exact h.lisl
  pos := by rw [List.length_set]; exact h.pos
  few := by rw [List.length_set]; exact h.few
  isl := fun p hp => by
    rcases List.mem_or_eq_of_mem_set hp with hp | rfl
    · exact h.isl p hp
    · exact hv
  wf := hw
def msb (b : Nat) (M : List Wk) : HP := ex fun x : Value × List (Value × Wk) => all [fact (MsOk M x.1 x.2), pt b 67 [x.1], sl 73 4 x.1 (x.2.map wkE), qsH x.2]
theorem msb_fold {b : Nat} {M : List Wk} {lv : Value} {ls : List (Value × Wk)} (h : MsOk M lv ls) {w : World} {R : List HP} (hs : Sat w (pt b 67 [lv] :: sl 73 4 lv (ls.map wkE) :: qsH ls :: R)) : Sat w (msb b M :: R) :=
  Sat.ex_iff.2 ⟨(lv, ls), Sat.all_iff.2 (Sat.fact_iff.2 ⟨h, hs⟩)⟩
theorem C_msb {P : Program} {ro : Option Nat} {Q : Exit → Act → World → Prop} {n : Nat} {F : Fr} {ds : List Deferred} {R : List HP} {cd : Code} {b : Nat} {M : List Wk}
    (h : ∀ lv ls, MsOk M lv ls → C P ro cd Q n F ds (pt b 67 [lv] :: sl 73 4 lv (ls.map wkE) :: qsH ls :: R)) : C P ro cd Q n F ds (msb b M :: R) := by
  unfold msb
  refine C_ex fun x => ?_
  refine C_sat (fun w h => Sat.all_iff.1 h) ?_
  exact C_fact fun hok => h x.1 x.2 hok
theorem msb_know {b : Nat} {M : List Wk} {R : List HP} {w : World} (hs : Sat w (msb b M :: R)) : WfS M ∧ 1 ≤ M.length ∧ M.length ≤ 16 := by
  unfold msb at hs
  obtain ⟨x, hx⟩ := Sat.ex_iff.1 hs
  have hok := (Sat.fact_iff.1 (Sat.all_iff.1 hx)).1
  rw [hok.len]
  exact ⟨hok.wf, hok.pos, hok.few⟩
theorem qs_perm {ls : List (Value × Wk)} {i : Nat} {p : Value × Wk} (h : ls[i]? = some p) : (ls.map fun p => sl 36 2 p.1 (p.2.q.map kyE)).Perm (sl 36 2 p.1 (p.2.q.map kyE) :: (ls.eraseIdx i).map fun p => sl 36 2 p.1 (p.2.q.map kyE)) := by
  obtain ⟨hi, rfl⟩ := List.getElem?_eq_some_iff.1 h
  conv => lhs; rw [← List.take_append_drop i ls, List.drop_eq_getElem_cons hi]
  rw [List.eraseIdx_eq_take_drop_succ, List.map_append, List.map_cons, List.map_append]
  exact List.perm_middle
theorem qs_open {ls : List (Value × Wk)} {i : Nat} {p : Value × Wk} (h : ls[i]? = some p) {w : World} {R : List HP} (hs : Sat w (qsH ls :: R)) : Sat w (sl 36 2 p.1 (p.2.q.map kyE) :: qsH (ls.eraseIdx i) :: R) := by
  unfold qsH at hs ⊢
  have h1 := (Sat.all_iff.1 hs).perm ((qs_perm h).append_right R)
  have h2 : Sat w (all ((ls.eraseIdx i).map fun p => sl 36 2 p.1 (p.2.q.map kyE)) :: sl 36 2 p.1 (p.2.q.map kyE) :: R) := Sat.all_iff.2 (h1.perm List.perm_middle.symm)
  exact h2.perm (.swap ..)
theorem qs_close {ls : List (Value × Wk)} {i : Nat} (hi : i < ls.length) {v : Value} {k : Wk} {w : World} {R : List HP} (hs : Sat w (sl 36 2 v (k.q.map kyE) :: qsH (ls.eraseIdx i) :: R)) : Sat w (qsH (ls.set i (v, k)) :: R) := by
  unfold qsH at hs ⊢
  have hg : (ls.set i (v, k))[i]? = some (v, k) := List.getElem?_set_self hi
  have he : (ls.set i (v, k)).eraseIdx i = ls.eraseIdx i := by
    rw [List.eraseIdx_eq_take_drop_succ, List.eraseIdx_eq_take_drop_succ, List.take_set_of_le (Nat.le_refl _), List.drop_set_of_lt (Nat.lt_succ_self _)]
  have hp := qs_perm hg
  rw [he] at hp
  refine Sat.all_iff.2 ?_
  have h1 := Sat.all_iff.1 (hs.perm (.swap ..))
  exact (h1.perm List.perm_middle).perm (hp.append_right R).symm
theorem qs_alike {ls : List (Value × Wk)} {i : Nat} (hi : i < ls.length) {v : Value} {k k' : Wk} (h : k.q = k'.q) : qsH (ls.set i (v, k)) = qsH (ls.set i (v, k')) := by
  unfold qsH
  congr 1
  refine List.ext_getElem? fun j => ?_
  rw [List.getElem?_map, List.getElem?_map, List.getElem?_set, List.getElem?_set]
  by_cases e : i = j
  · subst e; simp [hi, h]
  · simp [e]
theorem qsSrc {ls : List (Value × Wk)} {i : Nat} {p : Value × Wk} (h : ls[i]? = some p) {R : List HP} : Sep.Src (qsH ls :: R) p.1 2 (p.2.q.map kyE) :=
  ⟨fun w hs => (Sep.Src.sl (E := 36) (L := qsH (ls.eraseIdx i) :: R)).each w (qs_open h hs), fun w hs => (Sep.Src.sl (E := 36) (L := qsH (ls.eraseIdx i) :: R)).out w (qs_open h hs)⟩
theorem set_self' {α : Type} {l : List α} {i : Nat} {x : α} (h : l[i]? = some x) : l.set i x = l := by
  obtain ⟨hi, rfl⟩ := List.getElem?_eq_some_iff.1 h
  exact List.set_getElem_self hi
theorem Rd.wk {lv : Value} {ls : List (Value × Wk)} {L : List HP} {i k : Nat} {p : Value × Wk} {u : Value} (h : ls[i]? = some p) (hu : (wkE p)[k]? = some u) : Rd (sl 73 4 lv (ls.map wkE) :: L) ⟨vb lv, vo lv + i * 4 + k, none⟩ u :=
  Rd.sl (n := 4) (e := wkE p) (by rw [List.getElem?_map, h]; rfl) hu
theorem St.wk {lv : Value} {ls : List (Value × Wk)} {L : List HP} {i k : Nat} {p p' : Value × Wk} {u : Value} (h : ls[i]? = some p) (hk : k < 4) (hu : (wkE p).set k u = wkE p') : St (sl 73 4 lv (ls.map wkE) :: L) ⟨vb lv, vo lv + i * 4 + k, none⟩ u (sl 73 4 lv ((ls.set i p').map wkE) :: L) := by
  obtain ⟨hi, rfl⟩ := List.getElem?_eq_some_iff.1 h
  exact St.slm (f := wkE) p' hi (by show k < 4; exact hk) hu.symm
theorem StAll.wk {lv : Value} {ls : List (Value × Wk)} {L : List HP} {i : Nat} {v : Value} {x : Wk} {k : Ky} (h : ls[i]? = some (v, x)) : StAll (sl 73 4 lv (ls.map wkE) :: L) (vb lv) (vo lv + i * 4 + 1) (kyE k) (sl 73 4 lv ((ls.set i (v, { x with k := k })).map wkE) :: L) := by
  have hi := (List.getElem?_eq_some_iff.1 h).1
  refine ⟨_, St.wk (k := 1) (p' := (v, { x with k := ⟨k.at', x.k.id⟩ })) h (by decide) rfl, _, St.wk (k := 2) (p := (v, { x with k := ⟨k.at', x.k.id⟩ })) (p' := (v, { x with k := k })) (List.getElem?_set_self hi) (by decide) rfl, ?_⟩
  rw [List.set_set]; rfl
theorem RdAll.srcI {L : List HP} {x : Value} {n : Nat} {es : List (List Value)} (h : Sep.Src L x n es) {i : Nat} {e : List Value} (h1 : es[i]? = some e) : RdAll L (vb x) (vo x + i * n) e := RdAll.at fun k u hk => Rd.src h h1 hk
theorem RdAll.rd {L : List HP} {b : Nat} : ∀ {vs : List Value} {o k : Nat} {u : Value}, RdAll L b o vs → vs[k]? = some u → Rd L ⟨b, o + k, none⟩ u
  | [], _, _, _, _, h => by cases h
  | v :: vs, o, 0, u, hr, h => by simp only [List.getElem?_cons_zero, Option.some.injEq] at h; subst h; exact hr.1
  | v :: vs, o, k + 1, u, hr, h => by
    rw [List.getElem?_cons_succ] at h
    have := RdAll.rd hr.2 h
    rwa [Nat.add_assoc, Nat.add_comm 1 k] at this
theorem RdAll.mid {b o : Nat} {T : TypeId} {vs : List Value} {L : List HP} {a c : Value} (h0 : vs[o]? = some a) (h1 : vs[o + 1]? = some c) : RdAll (pt b T vs :: L) b o [a, c] := ⟨Rd.pt h0, Rd.pt h1, trivial⟩
/-- What may be read of workers. -/
structure SpR (L : List HP) (tb : Nat) (lv : Value) (ls : List (Value × Wk)) : Prop where
  t : Rd L ⟨tb, 0, none⟩ lv
  w : ∀ {i : Nat} {p : Value × Wk}, ls[i]? = some p → RdAll L (vb lv) (vo lv + i * 4) (wkE p)
  q : ∀ {i : Nat} {p : Value × Wk}, ls[i]? = some p → Sep.Src L p.1 2 (p.2.q.map kyE)
theorem SpR.there {A : HP} {L : List HP} {tb : Nat} {lv : Value} {ls : List (Value × Wk)} (h : SpR L tb lv ls) : SpR (A :: L) tb lv ls := ⟨h.t.there, fun hp => RdAll.there (h.w hp), fun hp => (h.q hp).there⟩
theorem SpR.here {L : List HP} {tb : Nat} {lv : Value} {ls : List (Value × Wk)} : SpR (pt tb 67 [lv] :: sl 73 4 lv (ls.map wkE) :: qsH ls :: L) tb lv ls :=
  ⟨Rd.pt rfl, fun {i p} hp => RdAll.there (RdAll.sl (by rw [List.getElem?_map, hp]; rfl)), fun hp => (qsSrc hp).there.there⟩
theorem SpR.rd {L : List HP} {tb : Nat} {lv : Value} {ls : List (Value × Wk)} (h : SpR L tb lv ls) {i k : Nat} {p : Value × Wk} {u : Value} (hp : ls[i]? = some p) (hu : (wkE p)[k]? = some u) : Rd L ⟨vb lv, vo lv + i * 4 + k, none⟩ u := RdAll.rd (h.w hp) hu
/-! ### put and first -/
set_option maxHeartbeats 4000000 in
theorem put_ok (bq o : Nat) (v : Value) (q : List Ky) (x : Ky) (hq : q.length ≤ 1000) (L : List HP) (L' : Value → List HP) (hv : IsSl v q.length) (hR : Rd L ⟨bq, o, none⟩ v) (hS : ∀ v', St L ⟨bq, o, none⟩ v' (L' v')) :
    Called Try.prog 27 [.pointer (some ⟨bq, o, none⟩), kyV x] (sl 36 2 v (q.map kyE) :: L) (fun u M => u = .tuple #[] ∧ ∃ v', IsSl v' (insK q x).length ∧ M = sl 36 2 v' ((insK q x).map kyE) :: L' v') := by
  have hI : ∀ M, Sep.Src M v 2 (q.map kyE) → Called Try.prog 38 [v, .func (.method "Before") #[.iface 36 (kyV x)] #[]] M (is (int (findI (kyB x) q)) M) :=
    fun M hM => KIndexFunc_ok v _ q (kyB x) M ⟨hv, hM⟩ (fun y _ => Does.meth (Before_ok x y M))
  have hR0 : Rd L ⟨bq, o + 0, none⟩ v := hR
  have hins : insK q x = q.take (insAt q x) ++ [x] ++ q.drop (insAt q x) := rfl
  have hle := insAt_le q x
  unfold kyV at hI ⊢
  unfold findI at hI
  have hat : insAt q x = (match q.findIdx? (kyB x) with | none => q.length | some k => k) := rfl
  cases hf : q.findIdx? (kyB x) with
  | none =>
    rw [hf] at hI hat
    dsimp only at hI hat
    refine Fn2 Try.func27 rfl Try.ntmps27 rfl ?_
    (repeat' first | refine stp ?_ | intro v' hv' | intro (b : Nat) | (apply w_convU; rfl; rfl; omega; omega) | (apply w_convI; rfl; rfl; omega; omega) | (apply w_quoU; rfl; rfl; rfl; omega; omega; omega) | (apply w_remU; rfl; rfl; rfl; omega; omega) | (apply w_minL; rfl; rfl; rfl; omega) | (apply w_minG; rfl; rfl; rfl; omega) | (apply w_min; rfl; rfl; rfl) | (apply w_mfR; rfl; rfl) | (apply w_cvp; rfl; rfl; exact inferInstance; rfl; rfl; assumption) | (apply w_eqS2T; rfl; rfl; rfl; omega) | (apply w_eqS2F; rfl; rfl; rfl; omega) | (apply w_neS2T; rfl; rfl; rfl; omega) | (apply w_neS2F; rfl; rfl; rfl; omega) | (apply w_eqS3T; rfl; rfl; rfl; omega) | (apply w_eqS3F; rfl; rfl; rfl; omega) | (apply w_neS3T; rfl; rfl; rfl; omega) | (apply w_neS3F; rfl; rfl; rfl; omega) | (apply w_eqS3; rfl; rfl; rfl) | (apply w_neS3; rfl; rfl; rfl) | (apply w_eqS2; rfl; rfl; rfl) | (apply w_neS2; rfl; rfl; rfl) | (apply w_maxL; rfl; rfl; rfl; omega) | (apply w_maxG; rfl; rfl; rfl; omega) | (apply w_max; rfl; rfl; rfl) | (apply w_neB; rfl; rfl; rfl; rfl) | (apply w_eqB; rfl; rfl; rfl; rfl) | (apply w_mki; rfl; rfl) | (apply w_cq; rfl; rfl; exact hI _ srf) | (apply w_st; rfl; rfl; (first | rfl | exact hv2.one); (focus ((repeat (first | exact hSt | apply St.there)); done)); ((exact kmf))) | refine spl ?_ ?_ | intro hc)
    apply w_clS
    rfl; rfl; exact (KInsert_ok v v' (q.map kyE) (kyE x) q.length (by simp) (ky_one q) rfl (by simp; omega) (pt b 36 (kyE x) :: L)).pre (fun w hs => Sel.sat (by (focus ((repeat (first | exact Sel.refl | (apply Sel.cons; (focus ((repeat (first | exact Del.here | apply Del.there)); done))) | refine Sel.drop ?_)); done))) hs)
    (simp; omega)
    intro v2 hv2
    have hSt : St L ⟨bq, o + 0, none⟩ v2 (L' v2) := hS v2
    refine ⟨by (exact kmf), ?_⟩
    (repeat' first | refine stp ?_ | intro v' hv' | intro (b : Nat) | (apply w_convU; rfl; rfl; omega; omega) | (apply w_convI; rfl; rfl; omega; omega) | (apply w_quoU; rfl; rfl; rfl; omega; omega; omega) | (apply w_remU; rfl; rfl; rfl; omega; omega) | (apply w_minL; rfl; rfl; rfl; omega) | (apply w_minG; rfl; rfl; rfl; omega) | (apply w_min; rfl; rfl; rfl) | (apply w_mfR; rfl; rfl) | (apply w_cvp; rfl; rfl; exact inferInstance; rfl; rfl; assumption) | (apply w_eqS2T; rfl; rfl; rfl; omega) | (apply w_eqS2F; rfl; rfl; rfl; omega) | (apply w_neS2T; rfl; rfl; rfl; omega) | (apply w_neS2F; rfl; rfl; rfl; omega) | (apply w_eqS3T; rfl; rfl; rfl; omega) | (apply w_eqS3F; rfl; rfl; rfl; omega) | (apply w_neS3T; rfl; rfl; rfl; omega) | (apply w_neS3F; rfl; rfl; rfl; omega) | (apply w_eqS3; rfl; rfl; rfl) | (apply w_neS3; rfl; rfl; rfl) | (apply w_eqS2; rfl; rfl; rfl) | (apply w_neS2; rfl; rfl; rfl) | (apply w_maxL; rfl; rfl; rfl; omega) | (apply w_maxG; rfl; rfl; rfl; omega) | (apply w_max; rfl; rfl; rfl) | (apply w_neB; rfl; rfl; rfl; rfl) | (apply w_eqB; rfl; rfl; rfl; rfl) | (apply w_mki; rfl; rfl) | (apply w_cq; rfl; rfl; exact hI _ srf) | (apply w_st; rfl; rfl; (first | rfl | exact hv2.one); (focus ((repeat (first | exact hSt | apply St.there)); done)); ((exact kmf))) | refine spl ?_ ?_ | intro hc)
    refine At_ret0 (by (first | exact .inl rfl | exact .inr rfl)) Try.results27 ⟨rfl, v2, ?_, rfl⟩ (fun w hs => ?_)
    · rw [insK_len]; simpa using hv2
    · rw [hins, hat, List.map_append, List.map_append, List.map_take, List.map_drop]
      exact Sel.sat (by (focus ((repeat (first | exact Sel.refl | (apply Sel.cons; (focus ((repeat (first | exact Del.here | apply Del.there)); done))) | refine Sel.drop ?_)); done))) hs
  | some k =>
    rw [hf] at hI hat
    dsimp only at hI hat
    rw [hat] at hle
    refine Fn2 Try.func27 rfl Try.ntmps27 rfl ?_
    (repeat' first | refine stp ?_ | intro v' hv' | intro (b : Nat) | (apply w_convU; rfl; rfl; omega; omega) | (apply w_convI; rfl; rfl; omega; omega) | (apply w_quoU; rfl; rfl; rfl; omega; omega; omega) | (apply w_remU; rfl; rfl; rfl; omega; omega) | (apply w_minL; rfl; rfl; rfl; omega) | (apply w_minG; rfl; rfl; rfl; omega) | (apply w_min; rfl; rfl; rfl) | (apply w_mfR; rfl; rfl) | (apply w_cvp; rfl; rfl; exact inferInstance; rfl; rfl; assumption) | (apply w_eqS2T; rfl; rfl; rfl; omega) | (apply w_eqS2F; rfl; rfl; rfl; omega) | (apply w_neS2T; rfl; rfl; rfl; omega) | (apply w_neS2F; rfl; rfl; rfl; omega) | (apply w_eqS3T; rfl; rfl; rfl; omega) | (apply w_eqS3F; rfl; rfl; rfl; omega) | (apply w_neS3T; rfl; rfl; rfl; omega) | (apply w_neS3F; rfl; rfl; rfl; omega) | (apply w_eqS3; rfl; rfl; rfl) | (apply w_neS3; rfl; rfl; rfl) | (apply w_eqS2; rfl; rfl; rfl) | (apply w_neS2; rfl; rfl; rfl) | (apply w_maxL; rfl; rfl; rfl; omega) | (apply w_maxG; rfl; rfl; rfl; omega) | (apply w_max; rfl; rfl; rfl) | (apply w_neB; rfl; rfl; rfl; rfl) | (apply w_eqB; rfl; rfl; rfl; rfl) | (apply w_mki; rfl; rfl) | (apply w_cq; rfl; rfl; exact hI _ srf) | (apply w_st; rfl; rfl; (first | rfl | exact hv2.one); (focus ((repeat (first | exact hSt | apply St.there)); done)); ((exact kmf))) | refine spl ?_ ?_ | intro hc)
    apply w_clS
    rfl; rfl; exact (KInsert_ok v v' (q.map kyE) (kyE x) k (by simpa using hle) (ky_one q) rfl (by simp; omega) (pt b 36 (kyE x) :: L)).pre (fun w hs => Sel.sat (by (focus ((repeat (first | exact Sel.refl | (apply Sel.cons; (focus ((repeat (first | exact Del.here | apply Del.there)); done))) | refine Sel.drop ?_)); done))) hs)
    (simp; omega)
    intro v2 hv2
    have hSt : St L ⟨bq, o + 0, none⟩ v2 (L' v2) := hS v2
    refine ⟨by (exact kmf), ?_⟩
    (repeat' first | refine stp ?_ | intro v' hv' | intro (b : Nat) | (apply w_convU; rfl; rfl; omega; omega) | (apply w_convI; rfl; rfl; omega; omega) | (apply w_quoU; rfl; rfl; rfl; omega; omega; omega) | (apply w_remU; rfl; rfl; rfl; omega; omega) | (apply w_minL; rfl; rfl; rfl; omega) | (apply w_minG; rfl; rfl; rfl; omega) | (apply w_min; rfl; rfl; rfl) | (apply w_mfR; rfl; rfl) | (apply w_cvp; rfl; rfl; exact inferInstance; rfl; rfl; assumption) | (apply w_eqS2T; rfl; rfl; rfl; omega) | (apply w_eqS2F; rfl; rfl; rfl; omega) | (apply w_neS2T; rfl; rfl; rfl; omega) | (apply w_neS2F; rfl; rfl; rfl; omega) | (apply w_eqS3T; rfl; rfl; rfl; omega) | (apply w_eqS3F; rfl; rfl; rfl; omega) | (apply w_neS3T; rfl; rfl; rfl; omega) | (apply w_neS3F; rfl; rfl; rfl; omega) | (apply w_eqS3; rfl; rfl; rfl) | (apply w_neS3; rfl; rfl; rfl) | (apply w_eqS2; rfl; rfl; rfl) | (apply w_neS2; rfl; rfl; rfl) | (apply w_maxL; rfl; rfl; rfl; omega) | (apply w_maxG; rfl; rfl; rfl; omega) | (apply w_max; rfl; rfl; rfl) | (apply w_neB; rfl; rfl; rfl; rfl) | (apply w_eqB; rfl; rfl; rfl; rfl) | (apply w_mki; rfl; rfl) | (apply w_cq; rfl; rfl; exact hI _ srf) | (apply w_st; rfl; rfl; (first | rfl | exact hv2.one); (focus ((repeat (first | exact hSt | apply St.there)); done)); ((exact kmf))) | refine spl ?_ ?_ | intro hc)
    refine At_ret0 (by (first | exact .inl rfl | exact .inr rfl)) Try.results27 ⟨rfl, v2, ?_, rfl⟩ (fun w hs => ?_)
    · rw [insK_len]; simp at hv2
      have e : min k q.length + (q.length - k + 1) = q.length + 1 := by omega
      rwa [e] at hv2
    · rw [hins, hat, List.map_append, List.map_append, List.map_take, List.map_drop]
      exact Sel.sat (by (focus ((repeat (first | exact Sel.refl | (apply Sel.cons; (focus ((repeat (first | exact Del.here | apply Del.there)); done))) | refine Sel.drop ?_)); done))) hs
set_option maxHeartbeats 4000000 in
theorem first_ok (bq o : Nat) (v : Value) (x : Ky) (q : List Ky) (hq : q.length ≤ 1000) (L : List HP) (L' : Value → List HP) (hv : IsSl v (q.length + 1)) (hR : Rd L ⟨bq, o, none⟩ v) (hS : ∀ v', St L ⟨bq, o, none⟩ v' (L' v')) :
    Called Try.prog 43 [.pointer (some ⟨bq, o, none⟩)] (sl 36 2 v ((x :: q).map kyE) :: L) (fun u M => ∃ v', u = kyV x ∧ IsSl v' q.length ∧ M = sl 36 2 v' (q.map kyE) :: L' v') := by
  have hR0 : Rd L ⟨bq, o + 0, none⟩ v := hR
  have hra : ∀ L, RdAll (sl 36 2 v ((x :: q).map kyE) :: L) (vb v) (vo v + 0 * 2) (kyE x) := fun L => RdAll.sl rfl
  refine Fn1 Try.func43 rfl Try.ntmps43 rfl ?_
  (repeat' first | refine stp ?_ | intro v' hv' | intro (b : Nat) | (apply w_convU; rfl; rfl; omega; omega) | (apply w_convI; rfl; rfl; omega; omega) | (apply w_quoU; rfl; rfl; rfl; omega; omega; omega) | (apply w_remU; rfl; rfl; rfl; omega; omega) | (apply w_minL; rfl; rfl; rfl; omega) | (apply w_minG; rfl; rfl; rfl; omega) | (apply w_min; rfl; rfl; rfl) | (apply w_mfR; rfl; rfl) | (apply w_cvp; rfl; rfl; exact inferInstance; rfl; rfl; assumption) | (apply w_eqS2T; rfl; rfl; rfl; omega) | (apply w_eqS2F; rfl; rfl; rfl; omega) | (apply w_neS2T; rfl; rfl; rfl; omega) | (apply w_neS2F; rfl; rfl; rfl; omega) | (apply w_eqS3T; rfl; rfl; rfl; omega) | (apply w_eqS3F; rfl; rfl; rfl; omega) | (apply w_neS3T; rfl; rfl; rfl; omega) | (apply w_neS3F; rfl; rfl; rfl; omega) | (apply w_eqS3; rfl; rfl; rfl) | (apply w_neS3; rfl; rfl; rfl) | (apply w_eqS2; rfl; rfl; rfl) | (apply w_neS2; rfl; rfl; rfl) | (apply w_maxL; rfl; rfl; rfl; omega) | (apply w_maxG; rfl; rfl; rfl; omega) | (apply w_max; rfl; rfl; rfl) | (apply w_neB; rfl; rfl; rfl; rfl) | (apply w_eqB; rfl; rfl; rfl; rfl) | (apply w_st; rfl; rfl; (first | rfl | exact hv2.one); (focus ((repeat (first | exact hSt | apply St.there)); done)); ((exact kmf))) | (apply w_la0; rfl; rfl; ((focus ((repeat (first | assumption | exact hra _ | exact .pt | apply RdAll.there)); done))); rfl) | (apply w_la; rfl; rfl; ((focus ((repeat (first | assumption | exact hra _ | exact .pt | apply RdAll.there)); done))); rfl; ((exact kmf))) | refine spl ?_ ?_ | intro hc)
  rename_i b0
  apply w_clS
  rfl; rfl; exact (KDelete_ok v ((x :: q).map kyE) 0 1 (by decide) (by simp) (ky_one _) (pt b 36 (kyE x) :: pt b0 36 [int 0, int 0] :: L)).pre (fun w hs => Sel.sat (by (focus ((repeat (first | exact Sel.refl | (apply Sel.cons; (focus ((repeat (first | exact Del.here | apply Del.there)); done))) | refine Sel.drop ?_)); done))) hs)
  (simp; omega)
  intro v2 hv2
  have hSt : St L ⟨bq, o + 0, none⟩ v2 (L' v2) := hS v2
  refine ⟨by (exact kmf), ?_⟩
  (repeat' first | refine stp ?_ | intro v' hv' | intro (b : Nat) | (apply w_convU; rfl; rfl; omega; omega) | (apply w_convI; rfl; rfl; omega; omega) | (apply w_quoU; rfl; rfl; rfl; omega; omega; omega) | (apply w_remU; rfl; rfl; rfl; omega; omega) | (apply w_minL; rfl; rfl; rfl; omega) | (apply w_minG; rfl; rfl; rfl; omega) | (apply w_min; rfl; rfl; rfl) | (apply w_mfR; rfl; rfl) | (apply w_cvp; rfl; rfl; exact inferInstance; rfl; rfl; assumption) | (apply w_eqS2T; rfl; rfl; rfl; omega) | (apply w_eqS2F; rfl; rfl; rfl; omega) | (apply w_neS2T; rfl; rfl; rfl; omega) | (apply w_neS2F; rfl; rfl; rfl; omega) | (apply w_eqS3T; rfl; rfl; rfl; omega) | (apply w_eqS3F; rfl; rfl; rfl; omega) | (apply w_neS3T; rfl; rfl; rfl; omega) | (apply w_neS3F; rfl; rfl; rfl; omega) | (apply w_eqS3; rfl; rfl; rfl) | (apply w_neS3; rfl; rfl; rfl) | (apply w_eqS2; rfl; rfl; rfl) | (apply w_neS2; rfl; rfl; rfl) | (apply w_maxL; rfl; rfl; rfl; omega) | (apply w_maxG; rfl; rfl; rfl; omega) | (apply w_max; rfl; rfl; rfl) | (apply w_neB; rfl; rfl; rfl; rfl) | (apply w_eqB; rfl; rfl; rfl; rfl) | (apply w_st; rfl; rfl; (first | rfl | exact hv2.one); (focus ((repeat (first | exact hSt | apply St.there)); done)); ((exact kmf))) | (apply w_la0; rfl; rfl; ((focus ((repeat (first | assumption | exact hra _ | exact .pt | apply RdAll.there)); done))); rfl) | (apply w_la; rfl; rfl; ((focus ((repeat (first | assumption | exact hra _ | exact .pt | apply RdAll.there)); done))); rfl; ((exact kmf))) | refine spl ?_ ?_ | intro hc)
  apply At_retR (by (first | exact .inl rfl | exact .inr rfl)) Try.results43; ((focus ((repeat (first | exact ResR.nil | (apply ResR.tmp; rfl) | (apply ResR.one; rfl; (focus ((repeat (first | assumption | exact .pt rfl | exact .sl ‹_› rfl | exact .sl1 (by first | assumption | rfl) | apply Rd.there)); done))) | (apply ResR.agg; rfl; (focus ((repeat (first | assumption | exact .pt | exact .sl ‹_› | apply RdAll.there)); done)); rfl))); done))); (refine ⟨v2, rfl, (show IsSl v2 q.length by simpa using hv2), rfl⟩); exact (fun w hs => Sel.sat (by (focus ((repeat (first | exact Sel.refl | (apply Sel.cons; (focus ((repeat (first | exact Del.here | apply Del.there)); done))) | refine Sel.drop ?_)); done))) hs)
end Go.Proofs.Ytoddjdghjpdomaa
