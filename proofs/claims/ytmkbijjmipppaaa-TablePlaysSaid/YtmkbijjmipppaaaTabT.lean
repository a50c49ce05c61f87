/- table's reference: what lies in it; Find, Act. Conditions: none. -/
import Derived.Test.YtmkbijjmipppaaaTabS
import Derived.Test.YtmkbijjmipppaaaSub
set_option linter.all false
set_option linter.deprecated false
namespace Go.Proofs.Ytmkbijjmipppaaa
open Go.Sep
variable [B0 : Base]
/-- A thread of the reference: whether it is, its program, where it is, and the row of which the end is what it has yet to do. -/
structure RE where
  is : Bool
  pr : Int
  at' : Int
  u : Value
  tv : Value
  full : List Ins
  k : Nat
def RE.todo (e : RE) : List Ins := e.full.drop e.k
def quad (e : RE) : List Value := [.bool e.is, int e.pr, int e.at', e.tv]
def rcells (lv : Value) (es : List RE) : List Value := lv :: (es.map quad).flatten
def ownsH (es : List RE) : HP := all (es.map fun e => sl 86 2 e.u (e.full.map insE))
/-- The reference's library. -/
def rlibH (lv : Value) (ys : List (Value × List Ins)) : HP := all (sl 59 1 lv (ys.map fun y => [y.1]) :: ys.map fun y => sl 86 2 y.1 (y.2.map insE))
/-- tv is u from its k-th element on. -/
structure TvOk (u tv : Value) (N k : Nat) : Prop where
  le : k ≤ N
  isu : IsSl u N
  isl : IsSl tv (N - k)
  src : ∀ (es : List (List Value)) (R : List HP), es.length = N → Src (sl 86 2 u es :: R) tv 2 (es.drop k)
  pos : k < N → vb tv = vb u ∧ vo tv = vo u + k * 2
theorem TvOk.start {u : Value} {N : Nat} (h : IsSl u N) : TvOk u u N 0 := ⟨Nat.zero_le _, h, h, fun es R _ => by rw [List.drop_zero]; exact Src.sl, fun _ => ⟨rfl, by omega⟩⟩
theorem TvOk.step {u tv : Value} {N k : Nat} (h : TvOk u tv N k) (hk : k < N) : TvOk u (Sep.vsl tv 1 (N - k) (Sep.vcap tv) 2) N (k + 1) where
  le := hk
  isu := h.isu
  isl := by rw [show N - (k + 1) = (N - k) - 1 by omega]; exact h.isl.dropS (by omega)
  src := fun es R hl => by
    have := (h.src es R hl).dropS (k := 1) (N := N - k) (by rw [List.length_drop]; omega) (by rw [List.length_drop, hl]) h.isl
    rwa [List.drop_drop] at this
  pos := fun hk2 => by
    obtain ⟨ao, c, e, h1, h2, h3, h4⟩ := h.isl
    obtain ⟨p1, p2⟩ := h.pos hk
    subst e
    rw [vsl_tail, if_neg (by omega)]
    cases ao with
    | none => have := h3 rfl; omega
    | some a =>
      have ha := h4 a rfl (by omega)
      obtain ⟨ab, ao, sp⟩ := a
      dsimp only at ha
      subst ha
      simp only [Option.map_some, Addr.add_off, vb, vo] at *
      exact ⟨p1, by omega⟩
theorem quads_len (es : List RE) : ∀ e ∈ es.map quad, e.length = 4 := fun e he => by obtain ⟨x, -, rfl⟩ := List.mem_map.1 he; rfl
theorem flatten_set {n : Nat} : ∀ {cs : List (List Value)}, (∀ e ∈ cs, e.length = n) → ∀ {i k : Nat} {e : List Value} {u : Value}, cs[i]? = some e → k < n → cs.flatten.set (i * n + k) u = (cs.set i (e.set k u)).flatten
  | [], _, _, _, _, _, h, _ => by simp at h
  | c :: cs, h, 0, k, e, u, h1, h2 => by
    simp at h1; subst h1
    simp only [List.flatten_cons, Nat.zero_mul, Nat.zero_add, List.set_cons_zero]
    rw [List.set_append_left _ _ (by rw [h c (by simp)]; exact h2)]
  | c :: cs, h, i + 1, k, e, u, h1, h2 => by
    have hc := h c (by simp)
    simp only [List.flatten_cons, List.set_cons_succ]
    rw [List.set_append_right _ _ (by rw [hc, Nat.add_mul]; omega), show (i + 1) * n + k - c.length = i * n + k by rw [hc, Nat.add_mul]; omega]
    rw [flatten_set (fun e he => h e (List.mem_cons_of_mem _ he)) (by simpa using h1) h2]
theorem Rd.ref {b : Nat} {lv : Value} {es : List RE} {R : List HP} {i f : Nat} {e : RE} {u : Value} (h : es[i]? = some e) (hf : (quad e)[f]? = some u) : Rd (pt b 85 (rcells lv es) :: R) ⟨b, 1 + i * 4 + f, none⟩ u :=
  Rd.pt (by
    rw [show 1 + i * 4 + f = (i * 4 + f) + 1 by omega]
    show (es.map quad).flatten[i * 4 + f]? = some u
    exact flatten_get (quads_len es) (by rw [List.getElem?_map, h]; rfl) hf)
theorem St.ref {b : Nat} {lv : Value} {es : List RE} {R : List HP} {i f : Nat} {e e' : RE} {u : Value} (h : es[i]? = some e) (hf : f < 4) (he : (quad e).set f u = quad e') : St (pt b 85 (rcells lv es) :: R) ⟨b, 1 + i * 4 + f, none⟩ u (pt b 85 (rcells lv (es.set i e')) :: R) := by
  rw [show 1 + i * 4 + f = (i * 4 + f) + 1 by omega]
  have hlt : i * 4 + f < (es.map quad).flatten.length := by
    rw [flatten_length (quads_len es), List.length_map]
    have := (List.getElem?_eq_some_iff.1 h).1; omega
  have := St.pt (b := b) (T := 85) (vs := rcells lv es) (L := R) (i := i * 4 + f + 1) (v := u) (by rw [Nat.blt_eq]; show i * 4 + f + 1 < (lv :: (es.map quad).flatten).length; rw [List.length_cons]; omega)
  have e1 : (rcells lv es).set (i * 4 + f + 1) u = rcells lv (es.set i e') := by
    show lv :: (es.map quad).flatten.set (i * 4 + f) u = lv :: ((es.set i e').map quad).flatten
    rw [flatten_set (quads_len es) (e := quad e) (by rw [List.getElem?_map, h]; rfl) hf, he, List.map_set]
  rwa [e1] at this
theorem St.q {b : Nat} {lv : Value} {qs : List (List Value)} {R : List HP} (hq : ∀ e ∈ qs, e.length = 4) {i f : Nat} {q : List Value} {u : Value} (h : qs[i]? = some q) (hf : f < 4) : St (pt b 85 (lv :: qs.flatten) :: R) ⟨b, 1 + i * 4 + f, none⟩ u (pt b 85 (lv :: (qs.set i (q.set f u)).flatten) :: R) := by
  rw [show 1 + i * 4 + f = (i * 4 + f) + 1 by omega]
  have hlt : i * 4 + f < qs.flatten.length := by
    rw [flatten_length hq]
    have := (List.getElem?_eq_some_iff.1 h).1; omega
  have := St.pt (b := b) (T := 85) (vs := lv :: qs.flatten) (L := R) (i := i * 4 + f + 1) (v := u) (by rw [Nat.blt_eq, List.length_cons]; omega)
  rw [List.set_cons_succ, flatten_set hq h hf] at this
  exact this
/-- All of one thread's cells. -/
theorem StAll.ref {b : Nat} {lv : Value} {es : List RE} {R : List HP} {i : Nat} {e e' : RE} {x0 x1 x2 x3 : Value} (h : es[i]? = some e) (he : quad e' = [x0, x1, x2, x3]) : StAll (pt b 85 (rcells lv es) :: R) b (1 + i * 4) [x0, x1, x2, x3] (pt b 85 (rcells lv (es.set i e')) :: R) := by
  have hi := (List.getElem?_eq_some_iff.1 h).1
  have hl := quads_len es
  have h0 : (es.map quad)[i]? = some (quad e) := by rw [List.getElem?_map, h]; rfl
  have hs : ∀ (qs : List (List Value)) (q : List Value), (∀ e ∈ qs, e.length = 4) → q.length = 4 → ∀ e ∈ qs.set i q, e.length = 4 := fun qs q h1 h2 e hm => by
    rcases List.mem_or_eq_of_mem_set hm with hm | hm
    · exact h1 e hm
    · rw [hm]; exact h2
  have hg : ∀ (qs : List (List Value)) (q : List Value), i < qs.length → (qs.set i q)[i]? = some q := fun qs q h => List.getElem?_set_self h
  have s0 := St.q (b := b) (lv := lv) (R := R) (u := x0) hl h0 (f := 0) (by omega)
  have l1 := hs _ ((quad e).set 0 x0) hl rfl
  have s1 := St.q (b := b) (lv := lv) (R := R) (u := x1) l1 (hg _ _ (by rw [List.length_map]; exact hi)) (f := 1) (by omega)
  rw [List.set_set] at s1
  have l2 := hs _ (((quad e).set 0 x0).set 1 x1) hl rfl
  have s2 := St.q (b := b) (lv := lv) (R := R) (u := x2) l2 (hg _ _ (by rw [List.length_map]; exact hi)) (f := 2) (by omega)
  rw [List.set_set] at s2
  have l3 := hs _ ((((quad e).set 0 x0).set 1 x1).set 2 x2) hl rfl
  have s3 := St.q (b := b) (lv := lv) (R := R) (u := x3) l3 (hg _ _ (by rw [List.length_map]; exact hi)) (f := 3) (by omega)
  rw [List.set_set] at s3
  have e4 : (((((quad e).set 0 x0).set 1 x1).set 2 x2).set 3 x3) = quad e' := by rw [he]; rfl
  rw [e4, ← List.map_set] at s3
  exact ⟨_, s0, _, s1, _, s2, _, s3, rfl⟩
theorem owns_rd {es : List RE} {i : Nat} {e : RE} (h : es[i]? = some e) {R : List HP} : Src (ownsH es :: R) e.u 2 (e.full.map insE) := by
  obtain ⟨a, c, rfl⟩ := List.append_of_mem (List.mem_of_getElem? h)
  refine Src.of (M := []) (A := sl 86 2 e.u (e.full.map insE)) (fun w hs => ?_) (fun R => Src.sl)
  unfold ownsH at hs
  have h1 := Sat.all_iff.1 hs
  simp only [List.map_append, List.map_cons, List.append_assoc] at h1
  exact ⟨_, h1.perm List.perm_middle⟩
theorem owns_tv {es : List RE} {i : Nat} {e : RE} (h : es[i]? = some e) (ht : TvOk e.u e.tv e.full.length e.k) {R : List HP} : Src (ownsH es :: R) e.tv 2 (e.todo.map insE) := by
  obtain ⟨a, c, rfl⟩ := List.append_of_mem (List.mem_of_getElem? h)
  refine Src.of (M := []) (A := sl 86 2 e.u (e.full.map insE)) (fun w hs => ?_) (fun R => by unfold RE.todo; rw [List.map_drop]; exact ht.src _ R (by rw [List.length_map]))
  unfold ownsH at hs
  have h1 := Sat.all_iff.1 hs
  simp only [List.map_append, List.map_cons, List.append_assoc] at h1
  exact ⟨_, h1.perm List.perm_middle⟩
/-! ### The reference's table in plain words -/
structure RTm where
  is : Bool
  pr : Int
  at' : Nat
  todo : List Ins
structure RTab where
  progs : List (List Ins)
  ths : List RTm
def absR (e : RE) : RTm := ⟨e.is, e.pr, e.k, e.todo⟩
structure RTabOk (Z : RTab) (lv : Value) (ys : List (Value × List Ins)) (es : List RE) : Prop where
  n64 : es.length = 64
  lisl : IsSl lv ys.length
  few : ys.length ≤ 64
  progs : Z.progs = ys.map fun y => y.2
  isl : ∀ y ∈ ys, IsSl y.1 y.2.length ∧ y.2.length ≤ 64 ∧ ∀ x ∈ y.2, -1099511627776 ≤ x.n ∧ x.n ≤ 1099511627776
  ths : Z.ths = es.map absR
  each : ∀ e ∈ es, TvOk e.u e.tv e.full.length e.k ∧ e.full.length ≤ 64 ∧ e.at' = e.k ∧ ∀ x ∈ e.full, -1099511627776 ≤ x.n ∧ x.n ≤ 1099511627776
def rtbl (b : Nat) (Z : RTab) : HP := ex fun x : Value × List (Value × List Ins) × List RE => all [fact (RTabOk Z x.1 x.2.1 x.2.2), pt b 85 (rcells x.1 x.2.2), ownsH x.2.2, rlibH x.1 x.2.1]
theorem rtbl_fold {b : Nat} {Z : RTab} {lv : Value} {ys : List (Value × List Ins)} {es : List RE} (h : RTabOk Z lv ys es) {w : World} {R : List HP} (hs : Sat w (pt b 85 (rcells lv es) :: ownsH es :: rlibH lv ys :: R)) : Sat w (rtbl b Z :: R) :=
  Sat.ex_iff.2 ⟨(lv, ys, es), Sat.all_iff.2 (Sat.fact_iff.2 ⟨h, hs⟩)⟩
theorem C_rtbl {P : Program} {ro : Option Nat} {Q : Exit → Act → World → Prop} {n : Nat} {F : Fr} {ds : List Deferred} {R : List HP} {cd : Code} {b : Nat} {Z : RTab}
    (h : ∀ lv ys es, RTabOk Z lv ys es → C P ro cd Q n F ds (pt b 85 (rcells lv es) :: ownsH es :: rlibH lv ys :: R)) : C P ro cd Q n F ds (rtbl b Z :: R) := by
  unfold rtbl
  refine C_ex fun x => ?_
  refine C_sat (fun w h => Sat.all_iff.1 h) ?_
  exact C_fact fun hok => h x.1 x.2.1 x.2.2 hok
attribute [irreducible] rtbl ownsH rlibH
theorem RTabOk.get {Z : RTab} {lv : Value} {ys : List (Value × List Ins)} {es : List RE} (h : RTabOk Z lv ys es) {i : Nat} (hi : i < 64) : ∃ e, es[i]? = some e ∧ Z.ths[i]? = some (absR e) := by
  have hlt : i < es.length := by rw [h.n64]; exact hi
  exact ⟨es[i], by simp [hlt], by rw [h.ths]; simp [hlt]⟩
def rfindZ (Z : RTab) (id : Int) : Int := if id < 0 ∨ 63 < id then 10 else match Z.ths[id.toNat]? with
  | some t => if t.is then 0 else 14
  | none => 14
def ractZ (Z : RTab) (id : Int) : Int × Int := match Z.ths[id.toNat]? with
  | some t => (match t.todo with
    | [] => (9, 0)
    | x :: _ => (x.op, x.n))
  | none => (9, 0)
set_option maxHeartbeats 4000000 in
theorem rFind_ok (b : Nat) (Z : RTab) (id : Int) (R : List HP) : Called Try.prog 38 [ptr b, int id] (rtbl b Z :: R) (is (int (rfindZ Z id)) (rtbl b Z :: R)) := by
  refine Fn2 Try.func38 rfl Try.ntmps38 rfl ?_
  refine C_rtbl fun lv ys es hok => ?_
  unfold rfindZ
  by_cases hi : id < 0 ∨ 63 < id
  · rw [if_pos hi]
    (repeat' first | refine stp ?_ | intro v' hv' | intro (b : Nat) | (apply w_convU; rfl; rfl; omega; omega) | (apply w_convI; rfl; rfl; omega; omega) | (apply w_quoU; rfl; rfl; rfl; omega; omega; omega) | (apply w_remU; rfl; rfl; rfl; omega; omega) | (apply w_minL; rfl; rfl; rfl; omega) | (apply w_minG; rfl; rfl; rfl; omega) | (apply w_min; rfl; rfl; rfl) | (apply w_mfR; rfl; rfl) | (apply w_cvp; rfl; rfl; exact inferInstance; rfl; rfl; assumption) | (apply w_eqS2T; rfl; rfl; rfl; omega) | (apply w_eqS2F; rfl; rfl; rfl; omega) | (apply w_neS2T; rfl; rfl; rfl; omega) | (apply w_neS2F; rfl; rfl; rfl; omega) | (apply w_eqS3T; rfl; rfl; rfl; omega) | (apply w_eqS3F; rfl; rfl; rfl; omega) | (apply w_neS3T; rfl; rfl; rfl; omega) | (apply w_neS3F; rfl; rfl; rfl; omega) | (apply w_eqS3; rfl; rfl; rfl) | (apply w_neS3; rfl; rfl; rfl) | (apply w_eqS2; rfl; rfl; rfl) | (apply w_neS2; rfl; rfl; rfl) | (apply w_maxL; rfl; rfl; rfl; omega) | (apply w_maxG; rfl; rfl; rfl; omega) | (apply w_max; rfl; rfl; rfl) | (apply w_neB; rfl; rfl; rfl; rfl) | (apply w_eqB; rfl; rfl; rfl; rfl) | refine spl ?_ ?_ | intro hc)
    all_goals first | (exfalso; omega) | skip
    all_goals (apply At_retR (by (first | exact .inl rfl | exact .inr rfl)) Try.results38; ((focus ((repeat (first | exact ResR.nil | (apply ResR.tmp; rfl) | (apply ResR.one; rfl; (focus ((repeat (first | assumption | exact .pt rfl | exact .sl ‹_› rfl | exact .sl1 (by first | assumption | rfl) | apply Rd.there)); done))) | (apply ResR.agg; rfl; (focus ((repeat (first | assumption | exact .pt | exact .sl ‹_› | apply RdAll.there)); done)); rfl))); done))); (refine ⟨?_, rfl⟩; rfl); (exact fun w h => rtbl_fold hok (Sel.sat (by (focus ((repeat (first | exact Sel.refl | (apply Sel.cons; (focus ((repeat (first | exact Del.here | apply Del.there)); done))) | refine Sel.drop ?_)); done))) h)))
  · rw [if_neg hi]
    obtain ⟨e, he, hz⟩ := hok.get (i := id.toNat) (by omega)
    rw [hz]
    have hr : Rd (pt b 85 (rcells lv es) :: ownsH es :: rlibH lv ys :: R) ⟨b, 1 + id.toNat * 4 + 0, none⟩ (.bool e.is) := Rd.ref he rfl
    have hab : (absR e).is = e.is := rfl
    dsimp only
    rw [hab]
    cases hb : e.is with
    | false =>
      rw [hb] at hr
      (repeat' first | refine stp ?_ | intro v' hv' | intro (b : Nat) | (apply w_convU; rfl; rfl; omega; omega) | (apply w_convI; rfl; rfl; omega; omega) | (apply w_quoU; rfl; rfl; rfl; omega; omega; omega) | (apply w_remU; rfl; rfl; rfl; omega; omega) | (apply w_minL; rfl; rfl; rfl; omega) | (apply w_minG; rfl; rfl; rfl; omega) | (apply w_min; rfl; rfl; rfl) | (apply w_mfR; rfl; rfl) | (apply w_cvp; rfl; rfl; exact inferInstance; rfl; rfl; assumption) | (apply w_eqS2T; rfl; rfl; rfl; omega) | (apply w_eqS2F; rfl; rfl; rfl; omega) | (apply w_neS2T; rfl; rfl; rfl; omega) | (apply w_neS2F; rfl; rfl; rfl; omega) | (apply w_eqS3T; rfl; rfl; rfl; omega) | (apply w_eqS3F; rfl; rfl; rfl; omega) | (apply w_neS3T; rfl; rfl; rfl; omega) | (apply w_neS3F; rfl; rfl; rfl; omega) | (apply w_eqS3; rfl; rfl; rfl) | (apply w_neS3; rfl; rfl; rfl) | (apply w_eqS2; rfl; rfl; rfl) | (apply w_neS2; rfl; rfl; rfl) | (apply w_maxL; rfl; rfl; rfl; omega) | (apply w_maxG; rfl; rfl; rfl; omega) | (apply w_max; rfl; rfl; rfl) | (apply w_neB; rfl; rfl; rfl; rfl) | (apply w_eqB; rfl; rfl; rfl; rfl) | refine spl ?_ ?_ | intro hc)
      all_goals (apply At_retR (by (first | exact .inl rfl | exact .inr rfl)) Try.results38; ((focus ((repeat (first | exact ResR.nil | (apply ResR.tmp; rfl) | (apply ResR.one; rfl; (focus ((repeat (first | assumption | exact .pt rfl | exact .sl ‹_› rfl | exact .sl1 (by first | assumption | rfl) | apply Rd.there)); done))) | (apply ResR.agg; rfl; (focus ((repeat (first | assumption | exact .pt | exact .sl ‹_› | apply RdAll.there)); done)); rfl))); done))); (refine ⟨?_, rfl⟩; rfl); (exact fun w h => rtbl_fold hok (Sel.sat (by (focus ((repeat (first | exact Sel.refl | (apply Sel.cons; (focus ((repeat (first | exact Del.here | apply Del.there)); done))) | refine Sel.drop ?_)); done))) h)))
    | true =>
      rw [hb] at hr
      (repeat' first | refine stp ?_ | intro v' hv' | intro (b : Nat) | (apply w_convU; rfl; rfl; omega; omega) | (apply w_convI; rfl; rfl; omega; omega) | (apply w_quoU; rfl; rfl; rfl; omega; omega; omega) | (apply w_remU; rfl; rfl; rfl; omega; omega) | (apply w_minL; rfl; rfl; rfl; omega) | (apply w_minG; rfl; rfl; rfl; omega) | (apply w_min; rfl; rfl; rfl) | (apply w_mfR; rfl; rfl) | (apply w_cvp; rfl; rfl; exact inferInstance; rfl; rfl; assumption) | (apply w_eqS2T; rfl; rfl; rfl; omega) | (apply w_eqS2F; rfl; rfl; rfl; omega) | (apply w_neS2T; rfl; rfl; rfl; omega) | (apply w_neS2F; rfl; rfl; rfl; omega) | (apply w_eqS3T; rfl; rfl; rfl; omega) | (apply w_eqS3F; rfl; rfl; rfl; omega) | (apply w_neS3T; rfl; rfl; rfl; omega) | (apply w_neS3F; rfl; rfl; rfl; omega) | (apply w_eqS3; rfl; rfl; rfl) | (apply w_neS3; rfl; rfl; rfl) | (apply w_eqS2; rfl; rfl; rfl) | (apply w_neS2; rfl; rfl; rfl) | (apply w_maxL; rfl; rfl; rfl; omega) | (apply w_maxG; rfl; rfl; rfl; omega) | (apply w_max; rfl; rfl; rfl) | (apply w_neB; rfl; rfl; rfl; rfl) | (apply w_eqB; rfl; rfl; rfl; rfl) | refine spl ?_ ?_ | intro hc)
      all_goals (apply At_retR (by (first | exact .inl rfl | exact .inr rfl)) Try.results38; ((focus ((repeat (first | exact ResR.nil | (apply ResR.tmp; rfl) | (apply ResR.one; rfl; (focus ((repeat (first | assumption | exact .pt rfl | exact .sl ‹_› rfl | exact .sl1 (by first | assumption | rfl) | apply Rd.there)); done))) | (apply ResR.agg; rfl; (focus ((repeat (first | assumption | exact .pt | exact .sl ‹_› | apply RdAll.there)); done)); rfl))); done))); (refine ⟨?_, rfl⟩; rfl); (exact fun w h => rtbl_fold hok (Sel.sat (by (focus ((repeat (first | exact Sel.refl | (apply Sel.cons; (focus ((repeat (first | exact Del.here | apply Del.there)); done))) | refine Sel.drop ?_)); done))) h)))
set_option maxHeartbeats 4000000 in
theorem rAct_ok (b : Nat) (Z : RTab) (id : Int) (h0 : 0 ≤ id) (h1 : id ≤ 63) (R : List HP) : Called Try.prog 39 [ptr b, int id] (rtbl b Z :: R) (is (.agg #[int (ractZ Z id).1, int (ractZ Z id).2]) (rtbl b Z :: R)) := by
  refine Fn2 Try.func39 rfl Try.ntmps39 rfl ?_
  refine C_rtbl fun lv ys es hok => ?_
  obtain ⟨e, he, hz⟩ := hok.get (i := id.toNat) (by omega)
  obtain ⟨q1, q3, q4, q5⟩ := hok.each e (List.mem_of_getElem? he)
  have hr : Rd (pt b 85 (rcells lv es) :: ownsH es :: rlibH lv ys :: R) ⟨b, 1 + id.toNat * 4 + 3, none⟩ e.tv := Rd.ref he rfl
  have hsl : IsSl e.tv (e.full.length - e.k) := q1.isl
  have hsrc : Src (ownsH es :: rlibH lv ys :: R) e.tv 2 (e.todo.map insE) := owns_tv he q1
  have hlen : e.todo.length = e.full.length - e.k := by unfold RE.todo; rw [List.length_drop]
  have hone := hsl.one
  unfold ractZ
  rw [hz]
  have hab : (absR e).todo = e.todo := rfl
  dsimp only
  rw [hab]
  cases ht : e.todo with
  | nil =>
    rw [ht] at hlen
    have hlen' : e.full.length - e.k = 0 := hlen.symm
    rw [hlen'] at hsl
    generalize e.tv = tv at *
    (repeat' first | refine stp ?_ | intro v' hv' | intro (b : Nat) | (apply w_convU; rfl; rfl; omega; omega) | (apply w_convI; rfl; rfl; omega; omega) | (apply w_quoU; rfl; rfl; rfl; omega; omega; omega) | (apply w_remU; rfl; rfl; rfl; omega; omega) | (apply w_minL; rfl; rfl; rfl; omega) | (apply w_minG; rfl; rfl; rfl; omega) | (apply w_min; rfl; rfl; rfl) | (apply w_mfR; rfl; rfl) | (apply w_cvp; rfl; rfl; exact inferInstance; rfl; rfl; assumption) | (apply w_eqS2T; rfl; rfl; rfl; omega) | (apply w_eqS2F; rfl; rfl; rfl; omega) | (apply w_neS2T; rfl; rfl; rfl; omega) | (apply w_neS2F; rfl; rfl; rfl; omega) | (apply w_eqS3T; rfl; rfl; rfl; omega) | (apply w_eqS3F; rfl; rfl; rfl; omega) | (apply w_neS3T; rfl; rfl; rfl; omega) | (apply w_neS3F; rfl; rfl; rfl; omega) | (apply w_eqS3; rfl; rfl; rfl) | (apply w_neS3; rfl; rfl; rfl) | (apply w_eqS2; rfl; rfl; rfl) | (apply w_neS2; rfl; rfl; rfl) | (apply w_maxL; rfl; rfl; rfl; omega) | (apply w_maxG; rfl; rfl; rfl; omega) | (apply w_max; rfl; rfl; rfl) | (apply w_neB; rfl; rfl; rfl; rfl) | (apply w_eqB; rfl; rfl; rfl; rfl) | refine spl ?_ ?_ | intro hc)
    all_goals (apply At_retR (by (first | exact .inl rfl | exact .inr rfl)) Try.results39; ((focus ((repeat (first | exact ResR.nil | (apply ResR.tmp; rfl) | (apply ResR.one; rfl; (focus ((repeat (first | assumption | exact .pt rfl | exact .sl ‹_› rfl | exact .sl1 (by first | assumption | rfl) | apply Rd.there)); done))) | (apply ResR.agg; rfl; (focus ((repeat (first | assumption | exact .pt | exact .sl ‹_› | apply RdAll.there)); done)); rfl))); done))); (refine ⟨?_, rfl⟩; rfl); (exact fun w h => rtbl_fold hok (Sel.sat (by (focus ((repeat (first | exact Sel.refl | (apply Sel.cons; (focus ((repeat (first | exact Del.here | apply Del.there)); done))) | refine Sel.drop ?_)); done))) h)))
  | cons x r =>
    obtain ⟨op, nn⟩ := x
    have hra : RdAll (ownsH es :: rlibH lv ys :: R) (vb e.tv) (vo e.tv + 0 * 2) [int op, int nn] := RdAll.srcI hsrc (i := 0) (by rw [ht]; rfl)
    rw [ht, List.length_cons] at hlen
    generalize e.tv = tv at *
    (repeat' first | refine stp ?_ | intro v' hv' | intro (b : Nat) | (apply w_convU; rfl; rfl; omega; omega) | (apply w_convI; rfl; rfl; omega; omega) | (apply w_quoU; rfl; rfl; rfl; omega; omega; omega) | (apply w_remU; rfl; rfl; rfl; omega; omega) | (apply w_minL; rfl; rfl; rfl; omega) | (apply w_minG; rfl; rfl; rfl; omega) | (apply w_min; rfl; rfl; rfl) | (apply w_mfR; rfl; rfl) | (apply w_cvp; rfl; rfl; exact inferInstance; rfl; rfl; assumption) | (apply w_eqS2T; rfl; rfl; rfl; omega) | (apply w_eqS2F; rfl; rfl; rfl; omega) | (apply w_neS2T; rfl; rfl; rfl; omega) | (apply w_neS2F; rfl; rfl; rfl; omega) | (apply w_eqS3T; rfl; rfl; rfl; omega) | (apply w_eqS3F; rfl; rfl; rfl; omega) | (apply w_neS3T; rfl; rfl; rfl; omega) | (apply w_neS3F; rfl; rfl; rfl; omega) | (apply w_eqS3; rfl; rfl; rfl) | (apply w_neS3; rfl; rfl; rfl) | (apply w_eqS2; rfl; rfl; rfl) | (apply w_neS2; rfl; rfl; rfl) | (apply w_maxL; rfl; rfl; rfl; omega) | (apply w_maxG; rfl; rfl; rfl; omega) | (apply w_max; rfl; rfl; rfl) | (apply w_neB; rfl; rfl; rfl; rfl) | (apply w_eqB; rfl; rfl; rfl; rfl) | refine spl ?_ ?_ | intro hc)
    all_goals (apply At_retR (by (first | exact .inl rfl | exact .inr rfl)) Try.results39; ((focus ((repeat (first | exact ResR.nil | (apply ResR.tmp; rfl) | (apply ResR.one; rfl; (focus ((repeat (first | assumption | exact .pt rfl | exact .sl ‹_› rfl | exact .sl1 (by first | assumption | rfl) | apply Rd.there)); done))) | (apply ResR.agg; rfl; (focus ((repeat (first | assumption | exact .pt | exact .sl ‹_› | apply RdAll.there)); done)); rfl))); done))); (refine ⟨?_, rfl⟩; rfl); (exact fun w h => rtbl_fold hok (Sel.sat (by (focus ((repeat (first | exact Sel.refl | (apply Sel.cons; (focus ((repeat (first | exact Del.here | apply Del.there)); done))) | refine Sel.drop ?_)); done))) h)))
end Go.Proofs.Ytmkbijjmipppaaa
