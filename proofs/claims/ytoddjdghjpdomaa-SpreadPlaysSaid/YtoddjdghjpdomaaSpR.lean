/- SpreadPlays: the document's answer: how it lies, Less, Least, Last, On, Idle. Conditions: none. -/
import Derived.Test.YtoddjdghjpdomaaSpQ
set_option linter.all false
set_option linter.deprecated false
namespace Go.Proofs.Ytoddjdghjpdomaa
open Go.Sep
variable [B0 : Base]
structure Sv where
  is : Bool
  k : Ky
  w : Int
  runs : Bool
def sv0 : Sv := ⟨false, ⟨0, 0⟩, 0, false⟩
def svE (s : Sv) : List Value := [.bool s.is, int s.k.at', int s.k.id, int s.w, .bool s.runs]
def svA (L : List Sv) (i : Nat) : Sv := L.getD i sv0
theorem svA_get {L : List Sv} {i : Nat} (h : i < L.length) : L[i]? = some (svA L i) := by
  unfold svA; rw [List.getD_eq_getElem?_getD, List.getElem?_eq_getElem h]; rfl
theorem svA_set {L : List Sv} {i j : Nat} {s : Sv} (h : i < L.length) : svA (L.set i s) j = if i = j then s else svA L j := by
  unfold svA
  rw [List.getD_eq_getElem?_getD, List.getD_eq_getElem?_getD, List.getElem?_set]
  by_cases e : i = j
  · subst e; simp [h]
  · simp [e]
def rcells (N : Nat) (L : List Sv) : List Value := int (N : Int) :: (L.map svE).flatten
theorem svs_len (es : List Sv) : ∀ e ∈ es.map svE, e.length = 5 := fun e he => by obtain ⟨x, -, rfl⟩ := List.mem_map.1 he; rfl
theorem flatten_set {n : Nat} : ∀ {cs : List (List Value)}, (∀ e ∈ cs, e.length = n) → ∀ {i k : Nat} {e : List Value} {u : Value}, cs[i]? = some e → k < n → cs.flatten.set (i * n + k) u = (cs.set i (e.set k u)).flatten
  | [], _, _, _, _, _, h, _ => by simp at h
  | c :: cs, h, 0, k, e, u, h1, h2 => by
    simp at h1; subst h1
    simp only [List.flatten_cons, Nat.zero_mul, Nat.zero_add, List.set_cons_zero]
    rw [List.set_append_left _ _ (by rw [h c (by simp)]; exact h2)]
  | c :: cs, h, i + 1, k, e, u, h1, h2 => by
    have hc := h c (by simp)
    simp only [List.flatten_cons, List.set_cons_succ]
    rw [List.set_append_right _ _ (by rw [hc, Nat.add_mul]; omega), show (i + 1) * n + k - c.length = i * n + k by rw [hc, Nat.add_mul]; omega]
    rw [flatten_set (fun e he => h e (List.mem_cons_of_mem _ he)) (by simpa using h1) h2]
theorem Rd.sv {b N : Nat} {es : List Sv} {R : List HP} {i f : Nat} {u : Value} (h : i < es.length) (hf : (svE (svA es i))[f]? = some u) : Rd (pt b 57 (rcells N es) :: R) ⟨b, 0 + 1 + i * 5 + f, none⟩ u :=
  Rd.pt (by
    rw [show 0 + 1 + i * 5 + f = (i * 5 + f) + 1 by omega]
    show (es.map svE).flatten[i * 5 + f]? = some u
    exact flatten_get (svs_len es) (by rw [List.getElem?_map, svA_get h]; rfl) hf)
theorem RdAll.sv {b N : Nat} {es : List Sv} {R : List HP} {i : Nat} (h : i < es.length) : RdAll (pt b 57 (rcells N es) :: R) b (0 + 1 + i * 5) (svE (svA es i)) :=
  RdAll.at fun f u hf => Rd.sv h hf
theorem RdAll.svk {b N : Nat} {es : List Sv} {R : List HP} {i : Nat} (h : i < es.length) : RdAll (pt b 57 (rcells N es) :: R) b (0 + 1 + i * 5 + 1) [int (svA es i).k.at', int (svA es i).k.id] :=
  ⟨Rd.sv (f := 1) h rfl, Rd.sv (f := 2) h rfl, trivial⟩
theorem St.svq {b N : Nat} {qs : List (List Value)} {R : List HP} (hq : ∀ e ∈ qs, e.length = 5) {i f : Nat} {q : List Value} {u : Value} (h : qs[i]? = some q) (hf : f < 5) : St (pt b 57 (int (N : Int) :: qs.flatten) :: R) ⟨b, 0 + 1 + i * 5 + f, none⟩ u (pt b 57 (int (N : Int) :: (qs.set i (q.set f u)).flatten) :: R) := by
  rw [show 0 + 1 + i * 5 + f = (i * 5 + f) + 1 by omega]
  have hlt : i * 5 + f < qs.flatten.length := by
    rw [flatten_length hq]
    have := (List.getElem?_eq_some_iff.1 h).1; omega
  have := St.pt (b := b) (T := 57) (vs := int (N : Int) :: qs.flatten) (L := R) (i := i * 5 + f + 1) (v := u) (by rw [Nat.blt_eq, List.length_cons]; omega)
  rw [List.set_cons_succ, flatten_set hq h hf] at this
  exact this
theorem St.sv {b N : Nat} {es : List Sv} {R : List HP} {i f : Nat} {e' : Sv} {u : Value} (h : i < es.length) (hf : f < 5) (he : (svE (svA es i)).set f u = svE e') : St (pt b 57 (rcells N es) :: R) ⟨b, 0 + 1 + i * 5 + f, none⟩ u (pt b 57 (rcells N (es.set i e')) :: R) := by
  have := St.svq (b := b) (N := N) (R := R) (u := u) (svs_len es) (i := i) (q := svE (svA es i)) (by rw [List.getElem?_map, svA_get h]; rfl) hf
  unfold rcells
  rwa [he, ← List.map_set] at this
/-- All of one server's cells. -/
theorem StAll.sv {b N : Nat} {es : List Sv} {R : List HP} {i : Nat} {e' : Sv} (h : i < es.length) : StAll (pt b 57 (rcells N es) :: R) b (0 + 1 + i * 5) (svE e') (pt b 57 (rcells N (es.set i e')) :: R) := by
  have hg : ∀ (x : Sv), svA (es.set i x) i = x := fun x => by rw [svA_set h, if_pos rfl]
  have hl : ∀ (x : Sv), i < (es.set i x).length := fun x => by rw [List.length_set]; exact h
  have s0 := St.sv (b := b) (N := N) (R := R) (f := 0) (u := .bool e'.is) (e' := ⟨e'.is, (svA es i).k, (svA es i).w, (svA es i).runs⟩) h (by omega) rfl
  have s1 := St.sv (b := b) (N := N) (R := R) (f := 1) (u := int e'.k.at') (e' := ⟨e'.is, ⟨e'.k.at', (svA es i).k.id⟩, (svA es i).w, (svA es i).runs⟩) (hl ⟨e'.is, (svA es i).k, (svA es i).w, (svA es i).runs⟩) (by omega) (by rw [hg]; rfl)
  rw [List.set_set] at s1
  have s2 := St.sv (b := b) (N := N) (R := R) (f := 2) (u := int e'.k.id) (e' := ⟨e'.is, e'.k, (svA es i).w, (svA es i).runs⟩) (hl ⟨e'.is, ⟨e'.k.at', (svA es i).k.id⟩, (svA es i).w, (svA es i).runs⟩) (by omega) (by rw [hg]; rfl)
  rw [List.set_set] at s2
  have s3 := St.sv (b := b) (N := N) (R := R) (f := 3) (u := int e'.w) (e' := ⟨e'.is, e'.k, e'.w, (svA es i).runs⟩) (hl ⟨e'.is, e'.k, (svA es i).w, (svA es i).runs⟩) (by omega) (by rw [hg]; rfl)
  rw [List.set_set] at s3
  have s4 := St.sv (b := b) (N := N) (R := R) (f := 4) (u := .bool e'.runs) (e' := e') (hl ⟨e'.is, e'.k, e'.w, (svA es i).runs⟩) (by omega) (by rw [hg]; rfl)
  rw [List.set_set] at s4
  exact ⟨_, s0, _, s1, _, s2, _, s3, _, s4, rfl⟩
def rsb (b N : Nat) (L : List Sv) : HP := pt b 57 (rcells N L)
/-! ### In plain words -/
def leastF (L : List Sv) (a : Int) (i : Nat) : Int := if (svA L i).is = true ∧ (svA L i).runs = false ∧ (a < 0 ∨ kyB (svA L i).k (svA L a.toNat).k = true) then (i : Int) else a
def leastR (L : List Sv) (k : Nat) : Int := (List.range k).foldl (leastF L) (-1)
theorem leastR_succ (L : List Sv) (k : Nat) : leastR L (k + 1) = leastF L (leastR L k) k := by
  unfold leastR; rw [List.range_succ, List.foldl_append]; rfl
def lastF (L : List Sv) (a : Int) (i : Nat) : Int := if (svA L i).is = true ∧ (svA L i).runs = true ∧ (a < 0 ∨ kyB (svA L a.toNat).k (svA L i).k = true) then (i : Int) else a
def lastR (L : List Sv) (k : Nat) : Int := (List.range k).foldl (lastF L) (-1)
theorem lastR_succ (L : List Sv) (k : Nat) : lastR L (k + 1) = lastF L (lastR L k) k := by
  unfold lastR; rw [List.range_succ, List.foldl_append]; rfl
theorem leastR_spec (L : List Sv) (k : Nat) : (leastR L k = -1 ∧ ∀ j, j < k → ¬ ((svA L j).is = true ∧ (svA L j).runs = false)) ∨
    (∃ i, i < k ∧ leastR L k = (i : Int) ∧ ((svA L i).is = true ∧ (svA L i).runs = false) ∧ ∀ j, j < k → (svA L j).is = true ∧ (svA L j).runs = false → kyB (svA L j).k (svA L i).k = false) := by
  induction k with
  | zero => exact .inl ⟨rfl, fun j hj => absurd hj (Nat.not_lt_zero j)⟩
  | succ k ih =>
    rw [leastR_succ]
    unfold leastF
    by_cases hP : (svA L k).is = true ∧ (svA L k).runs = false
    · rcases ih with ⟨h1, h2⟩ | ⟨i, hi, h1, h2, h3⟩
      · rw [h1, if_pos ⟨hP.1, hP.2, .inl (by decide)⟩]
        refine .inr ⟨k, Nat.lt_succ_self k, rfl, hP, fun j hj hj2 => ?_⟩
        by_cases e : j = k
        · subst e; exact kyB_irr _
        · exact absurd hj2 (h2 j (by omega))
      · rw [h1, Int.toNat_natCast]
        cases hk : kyB (svA L k).k (svA L i).k with
        | true =>
          rw [if_pos ⟨hP.1, hP.2, .inr rfl⟩]
          refine .inr ⟨k, Nat.lt_succ_self k, rfl, hP, fun j hj hj2 => ?_⟩
          by_cases e : j = k
          · subst e; exact kyB_irr _
          · cases hyz : kyB (svA L j).k (svA L k).k with
            | false => rfl
            | true => have := kyB_trans hyz hk; rw [h3 j (by omega) hj2] at this; cases this
        | false =>
          rw [if_neg (fun h => by rcases h.2.2 with h | h; (omega); (cases h))]
          refine .inr ⟨i, by omega, rfl, h2, fun j hj hj2 => ?_⟩
          by_cases e : j = k
          · subst e; exact hk
          · exact h3 j (by omega) hj2
    · rw [if_neg (fun h => hP ⟨h.1, h.2.1⟩)]
      rcases ih with ⟨h1, h2⟩ | ⟨i, hi, h1, h2, h3⟩
      · refine .inl ⟨h1, fun j hj hj2 => ?_⟩
        by_cases e : j = k
        · subst e; exact hP hj2
        · exact h2 j (by omega) hj2
      · refine .inr ⟨i, by omega, h1, h2, fun j hj hj2 => ?_⟩
        by_cases e : j = k
        · subst e; exact absurd hj2 hP
        · exact h3 j (by omega) hj2
theorem lastR_spec (L : List Sv) (k : Nat) : (lastR L k = -1 ∧ ∀ j, j < k → ¬ ((svA L j).is = true ∧ (svA L j).runs = true)) ∨
    (∃ i, i < k ∧ lastR L k = (i : Int) ∧ ((svA L i).is = true ∧ (svA L i).runs = true) ∧ ∀ j, j < k → (svA L j).is = true ∧ (svA L j).runs = true → kyB (svA L i).k (svA L j).k = false) := by
  induction k with
  | zero => exact .inl ⟨rfl, fun j hj => absurd hj (Nat.not_lt_zero j)⟩
  | succ k ih =>
    rw [lastR_succ]
    unfold lastF
    by_cases hP : (svA L k).is = true ∧ (svA L k).runs = true
    · rcases ih with ⟨h1, h2⟩ | ⟨i, hi, h1, h2, h3⟩
      · rw [h1, if_pos ⟨hP.1, hP.2, .inl (by decide)⟩]
        refine .inr ⟨k, Nat.lt_succ_self k, rfl, hP, fun j hj hj2 => ?_⟩
        by_cases e : j = k
        · subst e; exact kyB_irr _
        · exact absurd hj2 (h2 j (by omega))
      · rw [h1, Int.toNat_natCast]
        cases hk : kyB (svA L i).k (svA L k).k with
        | true =>
          rw [if_pos ⟨hP.1, hP.2, .inr rfl⟩]
          refine .inr ⟨k, Nat.lt_succ_self k, rfl, hP, fun j hj hj2 => ?_⟩
          by_cases e : j = k
          · subst e; exact kyB_irr _
          · cases hyz : kyB (svA L k).k (svA L j).k with
            | false => rfl
            | true => have := kyB_trans hk hyz; rw [h3 j (by omega) hj2] at this; cases this
        | false =>
          rw [if_neg (fun h => by rcases h.2.2 with h | h; (omega); (cases h))]
          refine .inr ⟨i, by omega, rfl, h2, fun j hj hj2 => ?_⟩
          by_cases e : j = k
          · subst e; exact hk
          · exact h3 j (by omega) hj2
    · rw [if_neg (fun h => hP ⟨h.1, h.2.1⟩)]
      rcases ih with ⟨h1, h2⟩ | ⟨i, hi, h1, h2, h3⟩
      · refine .inl ⟨h1, fun j hj hj2 => ?_⟩
        by_cases e : j = k
        · subst e; exact hP hj2
        · exact h2 j (by omega) hj2
      · refine .inr ⟨i, by omega, h1, h2, fun j hj hj2 => ?_⟩
        by_cases e : j = k
        · subst e; exact absurd hj2 hP
        · exact h3 j (by omega) hj2
def onB (w : Int) (s : Sv) : Bool := s.is && s.runs && decide (s.w = w)
def onR (L : List Sv) (w : Int) : Int := match L.findIdx? (onB w) with
  | none => -1
  | some i => (i : Int)
/-! ### The walks -/
set_option maxHeartbeats 2000000 in
theorem Less_ok (k l : Ky) (R : List HP) : Called Try.prog 34 [kyV k, kyV l] R (is (.bool (kyB k l)) R) := by
  obtain ⟨a, i⟩ := k
  obtain ⟨b, j⟩ := l
  unfold kyV kyE kyB
  dsimp only
  by_cases h1 : a < b
  · have e : decide (a < b ∨ a = b ∧ i < j) = true := by simp [h1]
    rw [e]
    refine Fn2 Try.func34 rfl Try.ntmps34 rfl ?_
    (repeat' first | refine stp ?_ | intro v' hv' | intro (b : Nat) | (apply w_convU; rfl; rfl; omega; omega) | (apply w_convI; rfl; rfl; omega; omega) | (apply w_quoU; rfl; rfl; rfl; omega; omega; omega) | (apply w_remU; rfl; rfl; rfl; omega; omega) | (apply w_minL; rfl; rfl; rfl; omega) | (apply w_minG; rfl; rfl; rfl; omega) | (apply w_min; rfl; rfl; rfl) | (apply w_mfR; rfl; rfl) | (apply w_cvp; rfl; rfl; exact inferInstance; rfl; rfl; assumption) | (apply w_eqS2T; rfl; rfl; rfl; omega) | (apply w_eqS2F; rfl; rfl; rfl; omega) | (apply w_neS2T; rfl; rfl; rfl; omega) | (apply w_neS2F; rfl; rfl; rfl; omega) | (apply w_eqS3T; rfl; rfl; rfl; omega) | (apply w_eqS3F; rfl; rfl; rfl; omega) | (apply w_neS3T; rfl; rfl; rfl; omega) | (apply w_neS3F; rfl; rfl; rfl; omega) | (apply w_eqS3; rfl; rfl; rfl) | (apply w_neS3; rfl; rfl; rfl) | (apply w_eqS2; rfl; rfl; rfl) | (apply w_neS2; rfl; rfl; rfl) | (apply w_maxL; rfl; rfl; rfl; omega) | (apply w_maxG; rfl; rfl; rfl; omega) | (apply w_max; rfl; rfl; rfl) | (apply w_neB; rfl; rfl; rfl; rfl) | (apply w_eqB; rfl; rfl; rfl; rfl) | refine spl ?_ ?_ | intro hc)
    all_goals (refine At_ret1 (by (first | exact .inl rfl | exact .inr rfl)) Try.results34 rfl ⟨by rfl, rfl⟩ (by (exact frm)))
  · by_cases h2 : a = b
    · have e : decide (a < b ∨ a = b ∧ i < j) = decide (i < j) := by congr 1; simp [h1, h2]
      rw [e]
      refine Fn2 Try.func34 rfl Try.ntmps34 rfl ?_
      (repeat' first | refine stp ?_ | intro v' hv' | intro (b : Nat) | (apply w_convU; rfl; rfl; omega; omega) | (apply w_convI; rfl; rfl; omega; omega) | (apply w_quoU; rfl; rfl; rfl; omega; omega; omega) | (apply w_remU; rfl; rfl; rfl; omega; omega) | (apply w_minL; rfl; rfl; rfl; omega) | (apply w_minG; rfl; rfl; rfl; omega) | (apply w_min; rfl; rfl; rfl) | (apply w_mfR; rfl; rfl) | (apply w_cvp; rfl; rfl; exact inferInstance; rfl; rfl; assumption) | (apply w_eqS2T; rfl; rfl; rfl; omega) | (apply w_eqS2F; rfl; rfl; rfl; omega) | (apply w_neS2T; rfl; rfl; rfl; omega) | (apply w_neS2F; rfl; rfl; rfl; omega) | (apply w_eqS3T; rfl; rfl; rfl; omega) | (apply w_eqS3F; rfl; rfl; rfl; omega) | (apply w_neS3T; rfl; rfl; rfl; omega) | (apply w_neS3F; rfl; rfl; rfl; omega) | (apply w_eqS3; rfl; rfl; rfl) | (apply w_neS3; rfl; rfl; rfl) | (apply w_eqS2; rfl; rfl; rfl) | (apply w_neS2; rfl; rfl; rfl) | (apply w_maxL; rfl; rfl; rfl; omega) | (apply w_maxG; rfl; rfl; rfl; omega) | (apply w_max; rfl; rfl; rfl) | (apply w_neB; rfl; rfl; rfl; rfl) | (apply w_eqB; rfl; rfl; rfl; rfl) | refine spl ?_ ?_ | intro hc)
      all_goals (refine At_ret1 (by (first | exact .inl rfl | exact .inr rfl)) Try.results34 rfl ⟨by (simp_all; done), rfl⟩ (by (exact frm)))
    · have e : decide (a < b ∨ a = b ∧ i < j) = false := by simp [h1, h2]
      rw [e]
      refine Fn2 Try.func34 rfl Try.ntmps34 rfl ?_
      (repeat' first | refine stp ?_ | intro v' hv' | intro (b : Nat) | (apply w_convU; rfl; rfl; omega; omega) | (apply w_convI; rfl; rfl; omega; omega) | (apply w_quoU; rfl; rfl; rfl; omega; omega; omega) | (apply w_remU; rfl; rfl; rfl; omega; omega) | (apply w_minL; rfl; rfl; rfl; omega) | (apply w_minG; rfl; rfl; rfl; omega) | (apply w_min; rfl; rfl; rfl) | (apply w_mfR; rfl; rfl) | (apply w_cvp; rfl; rfl; exact inferInstance; rfl; rfl; assumption) | (apply w_eqS2T; rfl; rfl; rfl; omega) | (apply w_eqS2F; rfl; rfl; rfl; omega) | (apply w_neS2T; rfl; rfl; rfl; omega) | (apply w_neS2F; rfl; rfl; rfl; omega) | (apply w_eqS3T; rfl; rfl; rfl; omega) | (apply w_eqS3F; rfl; rfl; rfl; omega) | (apply w_neS3T; rfl; rfl; rfl; omega) | (apply w_neS3F; rfl; rfl; rfl; omega) | (apply w_eqS3; rfl; rfl; rfl) | (apply w_neS3; rfl; rfl; rfl) | (apply w_eqS2; rfl; rfl; rfl) | (apply w_neS2; rfl; rfl; rfl) | (apply w_maxL; rfl; rfl; rfl; omega) | (apply w_maxG; rfl; rfl; rfl; omega) | (apply w_max; rfl; rfl; rfl) | (apply w_neB; rfl; rfl; rfl; rfl) | (apply w_eqB; rfl; rfl; rfl; rfl) | refine spl ?_ ?_ | intro hc)
      all_goals (refine At_ret1 (by (first | exact .inl rfl | exact .inr rfl)) Try.results34 rfl ⟨by rfl, rfl⟩ (by (exact frm)))
attribute [local irreducible] rcells
set_option maxHeartbeats 8000000 in
theorem rLeast_ok (bx N : Nat) (L : List Sv) (h64 : L.length = 64) (R : List HP) : Called Try.prog 48 [ptr bx] (rsb bx N L :: R) (is (int (leastR L 64)) (rsb bx N L :: R)) := by
  unfold rsb
  refine Fn1 Try.func48 rfl Try.ntmps48 rfl ?_
  (repeat' first | refine stp ?_ | intro v' hv' | intro (b : Nat) | (apply w_convU; rfl; rfl; omega; omega) | (apply w_convI; rfl; rfl; omega; omega) | (apply w_quoU; rfl; rfl; rfl; omega; omega; omega) | (apply w_remU; rfl; rfl; rfl; omega; omega) | (apply w_ld0; rfl; rfl; ((focus ((repeat (first | exact hr1 _ | exact hr2 _ | exact hr3 _ | exact Rd.pt rfl | apply Rd.there)); done)))) | (apply w_ld; rfl; rfl; ((focus ((repeat (first | exact hr1 _ | exact hr2 _ | exact hr3 _ | exact Rd.pt rfl | apply Rd.there)); done)))) | (apply w_la0; rfl; rfl; ((focus ((repeat (first | exact hra _ | exact hrb _ | apply RdAll.there)); done))); rfl) | (apply w_la; rfl; rfl; ((focus ((repeat (first | exact hra _ | exact hrb _ | apply RdAll.there)); done))); rfl) | (apply w_cp; rfl; rfl; exact hL) | (apply w_minL; rfl; rfl; rfl; omega) | (apply w_minG; rfl; rfl; rfl; omega) | (apply w_min; rfl; rfl; rfl) | (apply w_mfR; rfl; rfl) | (apply w_cvp; rfl; rfl; exact inferInstance; rfl; rfl; assumption) | (apply w_eqS2T; rfl; rfl; rfl; omega) | (apply w_eqS2F; rfl; rfl; rfl; omega) | (apply w_neS2T; rfl; rfl; rfl; omega) | (apply w_neS2F; rfl; rfl; rfl; omega) | (apply w_eqS3T; rfl; rfl; rfl; omega) | (apply w_eqS3F; rfl; rfl; rfl; omega) | (apply w_neS3T; rfl; rfl; rfl; omega) | (apply w_neS3F; rfl; rfl; rfl; omega) | (apply w_eqS3; rfl; rfl; rfl) | (apply w_neS3; rfl; rfl; rfl) | (apply w_eqS2; rfl; rfl; rfl) | (apply w_neS2; rfl; rfl; rfl) | (apply w_maxL; rfl; rfl; rfl; omega) | (apply w_maxG; rfl; rfl; rfl; omega) | (apply w_max; rfl; rfl; rfl) | (apply w_neB; rfl; rfl; rfl; rfl) | (apply w_eqB; rfl; rfl; rfl; rfl) | refine spl ?_ ?_ | intro hc)
  refine C_loopK [3, 4, 5, 6, 7, 8, 9, 10, 11, 12, 13, 14, 15, 16, 17, 18, 19, 20, 21, 22, 23, 24, 25, 26, 27, 28, 29, 30, 31, 32, 33, 34, 35, 36, 37, 38, 39, 40, 41, 42, 43, 44, 45, 46, 47] (fun x : Nat => 64 - x) (fun x => [(4, int x), (3, int (leastR L x))]) (fun _ => pt bx 57 (rcells N L) :: R) (fun x => x ≤ 64) 0 (Nat.zero_le _) (by (focus ((repeat (first | exact Keep.nil | apply Keep.drop rfl | apply Keep.keep rfl)); done))) (by (exact sbf)) (by (exact frm)) ?_
  rintro i hi
  dsimp only [List.cons_append, List.nil_append]
  by_cases hlt : i < 64
  · have hiL : i < L.length := by omega
    have hsu := leastR_succ L i
    have hsp := leastR_spec L i
    unfold leastF at hsu
    have hr1 : ∀ R, Rd (pt bx 57 (rcells N L) :: R) ⟨bx, 0 + 1 + i * 5 + 0, none⟩ (.bool (svA L i).is) := fun R => Rd.sv (f := 0) hiL rfl
    have hr2 : ∀ R, Rd (pt bx 57 (rcells N L) :: R) ⟨bx, 0 + 1 + i * 5 + 4, none⟩ (.bool (svA L i).runs) := fun R => Rd.sv (f := 4) hiL rfl
    have hra : ∀ R, RdAll (pt bx 57 (rcells N L) :: R) bx (0 + 1 + i * 5 + 1) [int (svA L i).k.at', int (svA L i).k.id] := fun R => RdAll.svk hiL
    cases c1 : (svA L i).is with
    | false =>
      rw [c1] at hr1 hsu
      rw [if_neg (by simp)] at hsu
      (repeat' first | refine stp ?_ | intro v' hv' | intro (b : Nat) | (apply w_convU; rfl; rfl; omega; omega) | (apply w_convI; rfl; rfl; omega; omega) | (apply w_quoU; rfl; rfl; rfl; omega; omega; omega) | (apply w_remU; rfl; rfl; rfl; omega; omega) | (apply w_ld0; rfl; rfl; ((focus ((repeat (first | exact hr1 _ | exact hr2 _ | exact hr3 _ | exact Rd.pt rfl | apply Rd.there)); done)))) | (apply w_ld; rfl; rfl; ((focus ((repeat (first | exact hr1 _ | exact hr2 _ | exact hr3 _ | exact Rd.pt rfl | apply Rd.there)); done)))) | (apply w_la0; rfl; rfl; ((focus ((repeat (first | exact hra _ | exact hrb _ | apply RdAll.there)); done))); rfl) | (apply w_la; rfl; rfl; ((focus ((repeat (first | exact hra _ | exact hrb _ | apply RdAll.there)); done))); rfl) | (apply w_cp; rfl; rfl; exact hL) | (apply w_minL; rfl; rfl; rfl; omega) | (apply w_minG; rfl; rfl; rfl; omega) | (apply w_min; rfl; rfl; rfl) | (apply w_mfR; rfl; rfl) | (apply w_cvp; rfl; rfl; exact inferInstance; rfl; rfl; assumption) | (apply w_eqS2T; rfl; rfl; rfl; omega) | (apply w_eqS2F; rfl; rfl; rfl; omega) | (apply w_neS2T; rfl; rfl; rfl; omega) | (apply w_neS2F; rfl; rfl; rfl; omega) | (apply w_eqS3T; rfl; rfl; rfl; omega) | (apply w_eqS3F; rfl; rfl; rfl; omega) | (apply w_neS3T; rfl; rfl; rfl; omega) | (apply w_neS3F; rfl; rfl; rfl; omega) | (apply w_eqS3; rfl; rfl; rfl) | (apply w_neS3; rfl; rfl; rfl) | (apply w_eqS2; rfl; rfl; rfl) | (apply w_neS2; rfl; rfl; rfl) | (apply w_maxL; rfl; rfl; rfl; omega) | (apply w_maxG; rfl; rfl; rfl; omega) | (apply w_max; rfl; rfl; rfl) | (apply w_neB; rfl; rfl; rfl; rfl) | (apply w_eqB; rfl; rfl; rfl; rfl) | refine spl ?_ ?_ | intro hc)
      exact At_againK (i + 1) hlt (by omega) (by rw [hsu]; (exact sbf)) (by (exact sbf)) (by (exact frm))
    | true =>
      cases c2 : (svA L i).runs with
      | true =>
        rw [c1] at hr1 hsu
        rw [c2] at hr2 hsu
        rw [if_neg (by simp)] at hsu
        (repeat' first | refine stp ?_ | intro v' hv' | intro (b : Nat) | (apply w_convU; rfl; rfl; omega; omega) | (apply w_convI; rfl; rfl; omega; omega) | (apply w_quoU; rfl; rfl; rfl; omega; omega; omega) | (apply w_remU; rfl; rfl; rfl; omega; omega) | (apply w_ld0; rfl; rfl; ((focus ((repeat (first | exact hr1 _ | exact hr2 _ | exact hr3 _ | exact Rd.pt rfl | apply Rd.there)); done)))) | (apply w_ld; rfl; rfl; ((focus ((repeat (first | exact hr1 _ | exact hr2 _ | exact hr3 _ | exact Rd.pt rfl | apply Rd.there)); done)))) | (apply w_la0; rfl; rfl; ((focus ((repeat (first | exact hra _ | exact hrb _ | apply RdAll.there)); done))); rfl) | (apply w_la; rfl; rfl; ((focus ((repeat (first | exact hra _ | exact hrb _ | apply RdAll.there)); done))); rfl) | (apply w_cp; rfl; rfl; exact hL) | (apply w_minL; rfl; rfl; rfl; omega) | (apply w_minG; rfl; rfl; rfl; omega) | (apply w_min; rfl; rfl; rfl) | (apply w_mfR; rfl; rfl) | (apply w_cvp; rfl; rfl; exact inferInstance; rfl; rfl; assumption) | (apply w_eqS2T; rfl; rfl; rfl; omega) | (apply w_eqS2F; rfl; rfl; rfl; omega) | (apply w_neS2T; rfl; rfl; rfl; omega) | (apply w_neS2F; rfl; rfl; rfl; omega) | (apply w_eqS3T; rfl; rfl; rfl; omega) | (apply w_eqS3F; rfl; rfl; rfl; omega) | (apply w_neS3T; rfl; rfl; rfl; omega) | (apply w_neS3F; rfl; rfl; rfl; omega) | (apply w_eqS3; rfl; rfl; rfl) | (apply w_neS3; rfl; rfl; rfl) | (apply w_eqS2; rfl; rfl; rfl) | (apply w_neS2; rfl; rfl; rfl) | (apply w_maxL; rfl; rfl; rfl; omega) | (apply w_maxG; rfl; rfl; rfl; omega) | (apply w_max; rfl; rfl; rfl) | (apply w_neB; rfl; rfl; rfl; rfl) | (apply w_eqB; rfl; rfl; rfl; rfl) | refine spl ?_ ?_ | intro hc)
        exact At_againK (i + 1) hlt (by omega) (by rw [hsu]; (exact sbf)) (by (exact sbf)) (by (exact frm))
      | false =>
        rw [c1] at hr1 hsu
        rw [c2] at hr2 hsu
        rcases hsp with ⟨h1, -⟩ | ⟨j, hj, h1, -⟩
        · rw [h1] at hsu ⊢
          rw [if_pos ⟨rfl, rfl, .inl (by decide)⟩] at hsu
          (repeat' first | refine stp ?_ | intro v' hv' | intro (b : Nat) | (apply w_convU; rfl; rfl; omega; omega) | (apply w_convI; rfl; rfl; omega; omega) | (apply w_quoU; rfl; rfl; rfl; omega; omega; omega) | (apply w_remU; rfl; rfl; rfl; omega; omega) | (apply w_ld0; rfl; rfl; ((focus ((repeat (first | exact hr1 _ | exact hr2 _ | exact hr3 _ | exact Rd.pt rfl | apply Rd.there)); done)))) | (apply w_ld; rfl; rfl; ((focus ((repeat (first | exact hr1 _ | exact hr2 _ | exact hr3 _ | exact Rd.pt rfl | apply Rd.there)); done)))) | (apply w_la0; rfl; rfl; ((focus ((repeat (first | exact hra _ | exact hrb _ | apply RdAll.there)); done))); rfl) | (apply w_la; rfl; rfl; ((focus ((repeat (first | exact hra _ | exact hrb _ | apply RdAll.there)); done))); rfl) | (apply w_cp; rfl; rfl; exact hL) | (apply w_minL; rfl; rfl; rfl; omega) | (apply w_minG; rfl; rfl; rfl; omega) | (apply w_min; rfl; rfl; rfl) | (apply w_mfR; rfl; rfl) | (apply w_cvp; rfl; rfl; exact inferInstance; rfl; rfl; assumption) | (apply w_eqS2T; rfl; rfl; rfl; omega) | (apply w_eqS2F; rfl; rfl; rfl; omega) | (apply w_neS2T; rfl; rfl; rfl; omega) | (apply w_neS2F; rfl; rfl; rfl; omega) | (apply w_eqS3T; rfl; rfl; rfl; omega) | (apply w_eqS3F; rfl; rfl; rfl; omega) | (apply w_neS3T; rfl; rfl; rfl; omega) | (apply w_neS3F; rfl; rfl; rfl; omega) | (apply w_eqS3; rfl; rfl; rfl) | (apply w_neS3; rfl; rfl; rfl) | (apply w_eqS2; rfl; rfl; rfl) | (apply w_neS2; rfl; rfl; rfl) | (apply w_maxL; rfl; rfl; rfl; omega) | (apply w_maxG; rfl; rfl; rfl; omega) | (apply w_max; rfl; rfl; rfl) | (apply w_neB; rfl; rfl; rfl; rfl) | (apply w_eqB; rfl; rfl; rfl; rfl) | refine spl ?_ ?_ | intro hc)
          exact At_againK (i + 1) hlt (by omega) (by rw [hsu]; (exact sbf)) (by (exact sbf)) (by (exact frm))
        · rw [h1] at hsu ⊢
          have hrb : ∀ R, RdAll (pt bx 57 (rcells N L) :: R) bx (0 + 1 + j * 5 + 1) [int (svA L j).k.at', int (svA L j).k.id] := fun R => RdAll.svk (by omega)
          have hL := Less_ok (svA L i).k (svA L j).k
          rw [Int.toNat_natCast] at hsu
          cases c3 : kyB (svA L i).k (svA L j).k with
          | true =>
            rw [c3] at hL hsu
            rw [if_pos ⟨rfl, rfl, .inr rfl⟩] at hsu
            (repeat' first | refine stp ?_ | intro v' hv' | intro (b : Nat) | (apply w_convU; rfl; rfl; omega; omega) | (apply w_convI; rfl; rfl; omega; omega) | (apply w_quoU; rfl; rfl; rfl; omega; omega; omega) | (apply w_remU; rfl; rfl; rfl; omega; omega) | (apply w_ld0; rfl; rfl; ((focus ((repeat (first | exact hr1 _ | exact hr2 _ | exact hr3 _ | exact Rd.pt rfl | apply Rd.there)); done)))) | (apply w_ld; rfl; rfl; ((focus ((repeat (first | exact hr1 _ | exact hr2 _ | exact hr3 _ | exact Rd.pt rfl | apply Rd.there)); done)))) | (apply w_la0; rfl; rfl; ((focus ((repeat (first | exact hra _ | exact hrb _ | apply RdAll.there)); done))); rfl) | (apply w_la; rfl; rfl; ((focus ((repeat (first | exact hra _ | exact hrb _ | apply RdAll.there)); done))); rfl) | (apply w_cp; rfl; rfl; exact hL) | (apply w_minL; rfl; rfl; rfl; omega) | (apply w_minG; rfl; rfl; rfl; omega) | (apply w_min; rfl; rfl; rfl) | (apply w_mfR; rfl; rfl) | (apply w_cvp; rfl; rfl; exact inferInstance; rfl; rfl; assumption) | (apply w_eqS2T; rfl; rfl; rfl; omega) | (apply w_eqS2F; rfl; rfl; rfl; omega) | (apply w_neS2T; rfl; rfl; rfl; omega) | (apply w_neS2F; rfl; rfl; rfl; omega) | (apply w_eqS3T; rfl; rfl; rfl; omega) | (apply w_eqS3F; rfl; rfl; rfl; omega) | (apply w_neS3T; rfl; rfl; rfl; omega) | (apply w_neS3F; rfl; rfl; rfl; omega) | (apply w_eqS3; rfl; rfl; rfl) | (apply w_neS3; rfl; rfl; rfl) | (apply w_eqS2; rfl; rfl; rfl) | (apply w_neS2; rfl; rfl; rfl) | (apply w_maxL; rfl; rfl; rfl; omega) | (apply w_maxG; rfl; rfl; rfl; omega) | (apply w_max; rfl; rfl; rfl) | (apply w_neB; rfl; rfl; rfl; rfl) | (apply w_eqB; rfl; rfl; rfl; rfl) | refine spl ?_ ?_ | intro hc)
            exact At_againK (i + 1) hlt (by omega) (by rw [hsu]; (exact sbf)) (by (exact sbf)) (by (exact frm))
          | false =>
            rw [c3] at hL hsu
            rw [if_neg (fun h => by rcases h.2.2 with h | h; (omega); (cases h))] at hsu
            (repeat' first | refine stp ?_ | intro v' hv' | intro (b : Nat) | (apply w_convU; rfl; rfl; omega; omega) | (apply w_convI; rfl; rfl; omega; omega) | (apply w_quoU; rfl; rfl; rfl; omega; omega; omega) | (apply w_remU; rfl; rfl; rfl; omega; omega) | (apply w_ld0; rfl; rfl; ((focus ((repeat (first | exact hr1 _ | exact hr2 _ | exact hr3 _ | exact Rd.pt rfl | apply Rd.there)); done)))) | (apply w_ld; rfl; rfl; ((focus ((repeat (first | exact hr1 _ | exact hr2 _ | exact hr3 _ | exact Rd.pt rfl | apply Rd.there)); done)))) | (apply w_la0; rfl; rfl; ((focus ((repeat (first | exact hra _ | exact hrb _ | apply RdAll.there)); done))); rfl) | (apply w_la; rfl; rfl; ((focus ((repeat (first | exact hra _ | exact hrb _ | apply RdAll.there)); done))); rfl) | (apply w_cp; rfl; rfl; exact hL) | (apply w_minL; rfl; rfl; rfl; omega) | (apply w_minG; rfl; rfl; rfl; omega) | (apply w_min; rfl; rfl; rfl) | (apply w_mfR; rfl; rfl) | (apply w_cvp; rfl; rfl; exact inferInstance; rfl; rfl; assumption) | (apply w_eqS2T; rfl; rfl; rfl; omega) | (apply w_eqS2F; rfl; rfl; rfl; omega) | (apply w_neS2T; rfl; rfl; rfl; omega) | (apply w_neS2F; rfl; rfl; rfl; omega) | (apply w_eqS3T; rfl; rfl; rfl; omega) | (apply w_eqS3F; rfl; rfl; rfl; omega) | (apply w_neS3T; rfl; rfl; rfl; omega) | (apply w_neS3F; rfl; rfl; rfl; omega) | (apply w_eqS3; rfl; rfl; rfl) | (apply w_neS3; rfl; rfl; rfl) | (apply w_eqS2; rfl; rfl; rfl) | (apply w_neS2; rfl; rfl; rfl) | (apply w_maxL; rfl; rfl; rfl; omega) | (apply w_maxG; rfl; rfl; rfl; omega) | (apply w_max; rfl; rfl; rfl) | (apply w_neB; rfl; rfl; rfl; rfl) | (apply w_eqB; rfl; rfl; rfl; rfl) | refine spl ?_ ?_ | intro hc)
            exact At_againK (i + 1) hlt (by omega) (by rw [hsu]; (exact sbf)) (by (exact sbf)) (by (exact frm))
  · obtain rfl : i = 64 := by omega
    (repeat' first | refine stp ?_ | intro v' hv' | intro (b : Nat) | (apply w_convU; rfl; rfl; omega; omega) | (apply w_convI; rfl; rfl; omega; omega) | (apply w_quoU; rfl; rfl; rfl; omega; omega; omega) | (apply w_remU; rfl; rfl; rfl; omega; omega) | (apply w_ld0; rfl; rfl; ((focus ((repeat (first | exact hr1 _ | exact hr2 _ | exact hr3 _ | exact Rd.pt rfl | apply Rd.there)); done)))) | (apply w_ld; rfl; rfl; ((focus ((repeat (first | exact hr1 _ | exact hr2 _ | exact hr3 _ | exact Rd.pt rfl | apply Rd.there)); done)))) | (apply w_la0; rfl; rfl; ((focus ((repeat (first | exact hra _ | exact hrb _ | apply RdAll.there)); done))); rfl) | (apply w_la; rfl; rfl; ((focus ((repeat (first | exact hra _ | exact hrb _ | apply RdAll.there)); done))); rfl) | (apply w_cp; rfl; rfl; exact hL) | (apply w_minL; rfl; rfl; rfl; omega) | (apply w_minG; rfl; rfl; rfl; omega) | (apply w_min; rfl; rfl; rfl) | (apply w_mfR; rfl; rfl) | (apply w_cvp; rfl; rfl; exact inferInstance; rfl; rfl; assumption) | (apply w_eqS2T; rfl; rfl; rfl; omega) | (apply w_eqS2F; rfl; rfl; rfl; omega) | (apply w_neS2T; rfl; rfl; rfl; omega) | (apply w_neS2F; rfl; rfl; rfl; omega) | (apply w_eqS3T; rfl; rfl; rfl; omega) | (apply w_eqS3F; rfl; rfl; rfl; omega) | (apply w_neS3T; rfl; rfl; rfl; omega) | (apply w_neS3F; rfl; rfl; rfl; omega) | (apply w_eqS3; rfl; rfl; rfl) | (apply w_neS3; rfl; rfl; rfl) | (apply w_eqS2; rfl; rfl; rfl) | (apply w_neS2; rfl; rfl; rfl) | (apply w_maxL; rfl; rfl; rfl; omega) | (apply w_maxG; rfl; rfl; rfl; omega) | (apply w_max; rfl; rfl; rfl) | (apply w_neB; rfl; rfl; rfl; rfl) | (apply w_eqB; rfl; rfl; rfl; rfl) | refine spl ?_ ?_ | intro hc)
    all_goals (refine At_ret1 (by (first | exact .inl rfl | exact .inr rfl)) Try.results48 rfl ⟨by rfl, rfl⟩ (by (exact frm)))
set_option maxHeartbeats 8000000 in
theorem rLast_ok (bx N : Nat) (L : List Sv) (h64 : L.length = 64) (R : List HP) : Called Try.prog 50 [ptr bx] (rsb bx N L :: R) (is (int (lastR L 64)) (rsb bx N L :: R)) := by
  unfold rsb
  refine Fn1 Try.func50 rfl Try.ntmps50 rfl ?_
  (repeat' first | refine stp ?_ | intro v' hv' | intro (b : Nat) | (apply w_convU; rfl; rfl; omega; omega) | (apply w_convI; rfl; rfl; omega; omega) | (apply w_quoU; rfl; rfl; rfl; omega; omega; omega) | (apply w_remU; rfl; rfl; rfl; omega; omega) | (apply w_ld0; rfl; rfl; ((focus ((repeat (first | exact hr1 _ | exact hr2 _ | exact hr3 _ | exact Rd.pt rfl | apply Rd.there)); done)))) | (apply w_ld; rfl; rfl; ((focus ((repeat (first | exact hr1 _ | exact hr2 _ | exact hr3 _ | exact Rd.pt rfl | apply Rd.there)); done)))) | (apply w_la0; rfl; rfl; ((focus ((repeat (first | exact hra _ | exact hrb _ | apply RdAll.there)); done))); rfl) | (apply w_la; rfl; rfl; ((focus ((repeat (first | exact hra _ | exact hrb _ | apply RdAll.there)); done))); rfl) | (apply w_cp; rfl; rfl; exact hL) | (apply w_minL; rfl; rfl; rfl; omega) | (apply w_minG; rfl; rfl; rfl; omega) | (apply w_min; rfl; rfl; rfl) | (apply w_mfR; rfl; rfl) | (apply w_cvp; rfl; rfl; exact inferInstance; rfl; rfl; assumption) | (apply w_eqS2T; rfl; rfl; rfl; omega) | (apply w_eqS2F; rfl; rfl; rfl; omega) | (apply w_neS2T; rfl; rfl; rfl; omega) | (apply w_neS2F; rfl; rfl; rfl; omega) | (apply w_eqS3T; rfl; rfl; rfl; omega) | (apply w_eqS3F; rfl; rfl; rfl; omega) | (apply w_neS3T; rfl; rfl; rfl; omega) | (apply w_neS3F; rfl; rfl; rfl; omega) | (apply w_eqS3; rfl; rfl; rfl) | (apply w_neS3; rfl; rfl; rfl) | (apply w_eqS2; rfl; rfl; rfl) | (apply w_neS2; rfl; rfl; rfl) | (apply w_maxL; rfl; rfl; rfl; omega) | (apply w_maxG; rfl; rfl; rfl; omega) | (apply w_max; rfl; rfl; rfl) | (apply w_neB; rfl; rfl; rfl; rfl) | (apply w_eqB; rfl; rfl; rfl; rfl) | refine spl ?_ ?_ | intro hc)
  refine C_loopK [3, 4, 5, 6, 7, 8, 9, 10, 11, 12, 13, 14, 15, 16, 17, 18, 19, 20, 21, 22, 23, 24, 25, 26, 27, 28, 29, 30, 31, 32, 33, 34, 35, 36, 37, 38, 39, 40, 41, 42, 43, 44, 45, 46] (fun x : Nat => 64 - x) (fun x => [(4, int x), (3, int (lastR L x))]) (fun _ => pt bx 57 (rcells N L) :: R) (fun x => x ≤ 64) 0 (Nat.zero_le _) (by (focus ((repeat (first | exact Keep.nil | apply Keep.drop rfl | apply Keep.keep rfl)); done))) (by (exact sbf)) (by (exact frm)) ?_
  rintro i hi
  dsimp only [List.cons_append, List.nil_append]
  by_cases hlt : i < 64
  · have hiL : i < L.length := by omega
    have hsu := lastR_succ L i
    have hsp := lastR_spec L i
    unfold lastF at hsu
    have hr1 : ∀ R, Rd (pt bx 57 (rcells N L) :: R) ⟨bx, 0 + 1 + i * 5 + 0, none⟩ (.bool (svA L i).is) := fun R => Rd.sv (f := 0) hiL rfl
    have hr2 : ∀ R, Rd (pt bx 57 (rcells N L) :: R) ⟨bx, 0 + 1 + i * 5 + 4, none⟩ (.bool (svA L i).runs) := fun R => Rd.sv (f := 4) hiL rfl
    have hra : ∀ R, RdAll (pt bx 57 (rcells N L) :: R) bx (0 + 1 + i * 5 + 1) [int (svA L i).k.at', int (svA L i).k.id] := fun R => RdAll.svk hiL
    cases c1 : (svA L i).is with
    | false =>
      rw [c1] at hr1 hsu
      rw [if_neg (by simp)] at hsu
      (repeat' first | refine stp ?_ | intro v' hv' | intro (b : Nat) | (apply w_convU; rfl; rfl; omega; omega) | (apply w_convI; rfl; rfl; omega; omega) | (apply w_quoU; rfl; rfl; rfl; omega; omega; omega) | (apply w_remU; rfl; rfl; rfl; omega; omega) | (apply w_ld0; rfl; rfl; ((focus ((repeat (first | exact hr1 _ | exact hr2 _ | exact hr3 _ | exact Rd.pt rfl | apply Rd.there)); done)))) | (apply w_ld; rfl; rfl; ((focus ((repeat (first | exact hr1 _ | exact hr2 _ | exact hr3 _ | exact Rd.pt rfl | apply Rd.there)); done)))) | (apply w_la0; rfl; rfl; ((focus ((repeat (first | exact hra _ | exact hrb _ | apply RdAll.there)); done))); rfl) | (apply w_la; rfl; rfl; ((focus ((repeat (first | exact hra _ | exact hrb _ | apply RdAll.there)); done))); rfl) | (apply w_cp; rfl; rfl; exact hL) | (apply w_minL; rfl; rfl; rfl; omega) | (apply w_minG; rfl; rfl; rfl; omega) | (apply w_min; rfl; rfl; rfl) | (apply w_mfR; rfl; rfl) | (apply w_cvp; rfl; rfl; exact inferInstance; rfl; rfl; assumption) | (apply w_eqS2T; rfl; rfl; rfl; omega) | (apply w_eqS2F; rfl; rfl; rfl; omega) | (apply w_neS2T; rfl; rfl; rfl; omega) | (apply w_neS2F; rfl; rfl; rfl; omega) | (apply w_eqS3T; rfl; rfl; rfl; omega) | (apply w_eqS3F; rfl; rfl; rfl; omega) | (apply w_neS3T; rfl; rfl; rfl; omega) | (apply w_neS3F; rfl; rfl; rfl; omega) | (apply w_eqS3; rfl; rfl; rfl) | (apply w_neS3; rfl; rfl; rfl) | (apply w_eqS2; rfl; rfl; rfl) | (apply w_neS2; rfl; rfl; rfl) | (apply w_maxL; rfl; rfl; rfl; omega) | (apply w_maxG; rfl; rfl; rfl; omega) | (apply w_max; rfl; rfl; rfl) | (apply w_neB; rfl; rfl; rfl; rfl) | (apply w_eqB; rfl; rfl; rfl; rfl) | refine spl ?_ ?_ | intro hc)
      exact At_againK (i + 1) hlt (by omega) (by rw [hsu]; (exact sbf)) (by (exact sbf)) (by (exact frm))
    | true =>
      cases c2 : (svA L i).runs with
      | false =>
        rw [c1] at hr1 hsu
        rw [c2] at hr2 hsu
        rw [if_neg (by simp)] at hsu
        (repeat' first | refine stp ?_ | intro v' hv' | intro (b : Nat) | (apply w_convU; rfl; rfl; omega; omega) | (apply w_convI; rfl; rfl; omega; omega) | (apply w_quoU; rfl; rfl; rfl; omega; omega; omega) | (apply w_remU; rfl; rfl; rfl; omega; omega) | (apply w_ld0; rfl; rfl; ((focus ((repeat (first | exact hr1 _ | exact hr2 _ | exact hr3 _ | exact Rd.pt rfl | apply Rd.there)); done)))) | (apply w_ld; rfl; rfl; ((focus ((repeat (first | exact hr1 _ | exact hr2 _ | exact hr3 _ | exact Rd.pt rfl | apply Rd.there)); done)))) | (apply w_la0; rfl; rfl; ((focus ((repeat (first | exact hra _ | exact hrb _ | apply RdAll.there)); done))); rfl) | (apply w_la; rfl; rfl; ((focus ((repeat (first | exact hra _ | exact hrb _ | apply RdAll.there)); done))); rfl) | (apply w_cp; rfl; rfl; exact hL) | (apply w_minL; rfl; rfl; rfl; omega) | (apply w_minG; rfl; rfl; rfl; omega) | (apply w_min; rfl; rfl; rfl) | (apply w_mfR; rfl; rfl) | (apply w_cvp; rfl; rfl; exact inferInstance; rfl; rfl; assumption) | (apply w_eqS2T; rfl; rfl; rfl; omega) | (apply w_eqS2F; rfl; rfl; rfl; omega) | (apply w_neS2T; rfl; rfl; rfl; omega) | (apply w_neS2F; rfl; rfl; rfl; omega) | (apply w_eqS3T; rfl; rfl; rfl; omega) | (apply w_eqS3F; rfl; rfl; rfl; omega) | (apply w_neS3T; rfl; rfl; rfl; omega) | (apply w_neS3F; rfl; rfl; rfl; omega) | (apply w_eqS3; rfl; rfl; rfl) | (apply w_neS3; rfl; rfl; rfl) | (apply w_eqS2; rfl; rfl; rfl) | (apply w_neS2; rfl; rfl; rfl) | (apply w_maxL; rfl; rfl; rfl; omega) | (apply w_maxG; rfl; rfl; rfl; omega) | (apply w_max; rfl; rfl; rfl) | (apply w_neB; rfl; rfl; rfl; rfl) | (apply w_eqB; rfl; rfl; rfl; rfl) | refine spl ?_ ?_ | intro hc)
        exact At_againK (i + 1) hlt (by omega) (by rw [hsu]; (exact sbf)) (by (exact sbf)) (by (exact frm))
      | true =>
        rw [c1] at hr1 hsu
        rw [c2] at hr2 hsu
        rcases hsp with ⟨h1, -⟩ | ⟨j, hj, h1, -⟩
        · rw [h1] at hsu ⊢
          rw [if_pos ⟨rfl, rfl, .inl (by decide)⟩] at hsu
          (repeat' first | refine stp ?_ | intro v' hv' | intro (b : Nat) | (apply w_convU; rfl; rfl; omega; omega) | (apply w_convI; rfl; rfl; omega; omega) | (apply w_quoU; rfl; rfl; rfl; omega; omega; omega) | (apply w_remU; rfl; rfl; rfl; omega; omega) | (apply w_ld0; rfl; rfl; ((focus ((repeat (first | exact hr1 _ | exact hr2 _ | exact hr3 _ | exact Rd.pt rfl | apply Rd.there)); done)))) | (apply w_ld; rfl; rfl; ((focus ((repeat (first | exact hr1 _ | exact hr2 _ | exact hr3 _ | exact Rd.pt rfl | apply Rd.there)); done)))) | (apply w_la0; rfl; rfl; ((focus ((repeat (first | exact hra _ | exact hrb _ | apply RdAll.there)); done))); rfl) | (apply w_la; rfl; rfl; ((focus ((repeat (first | exact hra _ | exact hrb _ | apply RdAll.there)); done))); rfl) | (apply w_cp; rfl; rfl; exact hL) | (apply w_minL; rfl; rfl; rfl; omega) | (apply w_minG; rfl; rfl; rfl; omega) | (apply w_min; rfl; rfl; rfl) | (apply w_mfR; rfl; rfl) | (apply w_cvp; rfl; rfl; exact inferInstance; rfl; rfl; assumption) | (apply w_eqS2T; rfl; rfl; rfl; omega) | (apply w_eqS2F; rfl; rfl; rfl; omega) | (apply w_neS2T; rfl; rfl; rfl; omega) | (apply w_neS2F; rfl; rfl; rfl; omega) | (apply w_eqS3T; rfl; rfl; rfl; omega) | (apply w_eqS3F; rfl; rfl; rfl; omega) | (apply w_neS3T; rfl; rfl; rfl; omega) | (apply w_neS3F; rfl; rfl; rfl; omega) | (apply w_eqS3; rfl; rfl; rfl) | (apply w_neS3; rfl; rfl; rfl) | (apply w_eqS2; rfl; rfl; rfl) | (apply w_neS2; rfl; rfl; rfl) | (apply w_maxL; rfl; rfl; rfl; omega) | (apply w_maxG; rfl; rfl; rfl; omega) | (apply w_max; rfl; rfl; rfl) | (apply w_neB; rfl; rfl; rfl; rfl) | (apply w_eqB; rfl; rfl; rfl; rfl) | refine spl ?_ ?_ | intro hc)
          exact At_againK (i + 1) hlt (by omega) (by rw [hsu]; (exact sbf)) (by (exact sbf)) (by (exact frm))
        · rw [h1] at hsu ⊢
          have hrb : ∀ R, RdAll (pt bx 57 (rcells N L) :: R) bx (0 + 1 + j * 5 + 1) [int (svA L j).k.at', int (svA L j).k.id] := fun R => RdAll.svk (by omega)
          have hL := Less_ok (svA L j).k (svA L i).k
          rw [Int.toNat_natCast] at hsu
          cases c3 : kyB (svA L j).k (svA L i).k with
          | true =>
            rw [c3] at hL hsu
            rw [if_pos ⟨rfl, rfl, .inr rfl⟩] at hsu
            (repeat' first | refine stp ?_ | intro v' hv' | intro (b : Nat) | (apply w_convU; rfl; rfl; omega; omega) | (apply w_convI; rfl; rfl; omega; omega) | (apply w_quoU; rfl; rfl; rfl; omega; omega; omega) | (apply w_remU; rfl; rfl; rfl; omega; omega) | (apply w_ld0; rfl; rfl; ((focus ((repeat (first | exact hr1 _ | exact hr2 _ | exact hr3 _ | exact Rd.pt rfl | apply Rd.there)); done)))) | (apply w_ld; rfl; rfl; ((focus ((repeat (first | exact hr1 _ | exact hr2 _ | exact hr3 _ | exact Rd.pt rfl | apply Rd.there)); done)))) | (apply w_la0; rfl; rfl; ((focus ((repeat (first | exact hra _ | exact hrb _ | apply RdAll.there)); done))); rfl) | (apply w_la; rfl; rfl; ((focus ((repeat (first | exact hra _ | exact hrb _ | apply RdAll.there)); done))); rfl) | (apply w_cp; rfl; rfl; exact hL) | (apply w_minL; rfl; rfl; rfl; omega) | (apply w_minG; rfl; rfl; rfl; omega) | (apply w_min; rfl; rfl; rfl) | (apply w_mfR; rfl; rfl) | (apply w_cvp; rfl; rfl; exact inferInstance; rfl; rfl; assumption) | (apply w_eqS2T; rfl; rfl; rfl; omega) | (apply w_eqS2F; rfl; rfl; rfl; omega) | (apply w_neS2T; rfl; rfl; rfl; omega) | (apply w_neS2F; rfl; rfl; rfl; omega) | (apply w_eqS3T; rfl; rfl; rfl; omega) | (apply w_eqS3F; rfl; rfl; rfl; omega) | (apply w_neS3T; rfl; rfl; rfl; omega) | (apply w_neS3F; rfl; rfl; rfl; omega) | (apply w_eqS3; rfl; rfl; rfl) | (apply w_neS3; rfl; rfl; rfl) | (apply w_eqS2; rfl; rfl; rfl) | (apply w_neS2; rfl; rfl; rfl) | (apply w_maxL; rfl; rfl; rfl; omega) | (apply w_maxG; rfl; rfl; rfl; omega) | (apply w_max; rfl; rfl; rfl) | (apply w_neB; rfl; rfl; rfl; rfl) | (apply w_eqB; rfl; rfl; rfl; rfl) | refine spl ?_ ?_ | intro hc)
            exact At_againK (i + 1) hlt (by omega) (by rw [hsu]; (exact sbf)) (by (exact sbf)) (by (exact frm))
          | false =>
            rw [c3] at hL hsu
            rw [if_neg (fun h => by rcases h.2.2 with h | h; (omega); (cases h))] at hsu
            (repeat' first | refine stp ?_ | intro v' hv' | intro (b : Nat) | (apply w_convU; rfl; rfl; omega; omega) | (apply w_convI; rfl; rfl; omega; omega) | (apply w_quoU; rfl; rfl; rfl; omega; omega; omega) | (apply w_remU; rfl; rfl; rfl; omega; omega) | (apply w_ld0; rfl; rfl; ((focus ((repeat (first | exact hr1 _ | exact hr2 _ | exact hr3 _ | exact Rd.pt rfl | apply Rd.there)); done)))) | (apply w_ld; rfl; rfl; ((focus ((repeat (first | exact hr1 _ | exact hr2 _ | exact hr3 _ | exact Rd.pt rfl | apply Rd.there)); done)))) | (apply w_la0; rfl; rfl; ((focus ((repeat (first | exact hra _ | exact hrb _ | apply RdAll.there)); done))); rfl) | (apply w_la; rfl; rfl; ((focus ((repeat (first | exact hra _ | exact hrb _ | apply RdAll.there)); done))); rfl) | (apply w_cp; rfl; rfl; exact hL) | (apply w_minL; rfl; rfl; rfl; omega) | (apply w_minG; rfl; rfl; rfl; omega) | (apply w_min; rfl; rfl; rfl) | (apply w_mfR; rfl; rfl) | (apply w_cvp; rfl; rfl; exact inferInstance; rfl; rfl; assumption) | (apply w_eqS2T; rfl; rfl; rfl; omega) | (apply w_eqS2F; rfl; rfl; rfl; omega) | (apply w_neS2T; rfl; rfl; rfl; omega) | (apply w_neS2F; rfl; rfl; rfl; omega) | (apply w_eqS3T; rfl; rfl; rfl; omega) | (apply w_eqS3F; rfl; rfl; rfl; omega) | (apply w_neS3T; rfl; rfl; rfl; omega) | (apply w_neS3F; rfl; rfl; rfl; omega) | (apply w_eqS3; rfl; rfl; rfl) | (apply w_neS3; rfl; rfl; rfl) | (apply w_eqS2; rfl; rfl; rfl) | (apply w_neS2; rfl; rfl; rfl) | (apply w_maxL; rfl; rfl; rfl; omega) | (apply w_maxG; rfl; rfl; rfl; omega) | (apply w_max; rfl; rfl; rfl) | (apply w_neB; rfl; rfl; rfl; rfl) | (apply w_eqB; rfl; rfl; rfl; rfl) | refine spl ?_ ?_ | intro hc)
            exact At_againK (i + 1) hlt (by omega) (by rw [hsu]; (exact sbf)) (by (exact sbf)) (by (exact frm))
  · obtain rfl : i = 64 := by omega
    (repeat' first | refine stp ?_ | intro v' hv' | intro (b : Nat) | (apply w_convU; rfl; rfl; omega; omega) | (apply w_convI; rfl; rfl; omega; omega) | (apply w_quoU; rfl; rfl; rfl; omega; omega; omega) | (apply w_remU; rfl; rfl; rfl; omega; omega) | (apply w_ld0; rfl; rfl; ((focus ((repeat (first | exact hr1 _ | exact hr2 _ | exact hr3 _ | exact Rd.pt rfl | apply Rd.there)); done)))) | (apply w_ld; rfl; rfl; ((focus ((repeat (first | exact hr1 _ | exact hr2 _ | exact hr3 _ | exact Rd.pt rfl | apply Rd.there)); done)))) | (apply w_la0; rfl; rfl; ((focus ((repeat (first | exact hra _ | exact hrb _ | apply RdAll.there)); done))); rfl) | (apply w_la; rfl; rfl; ((focus ((repeat (first | exact hra _ | exact hrb _ | apply RdAll.there)); done))); rfl) | (apply w_cp; rfl; rfl; exact hL) | (apply w_minL; rfl; rfl; rfl; omega) | (apply w_minG; rfl; rfl; rfl; omega) | (apply w_min; rfl; rfl; rfl) | (apply w_mfR; rfl; rfl) | (apply w_cvp; rfl; rfl; exact inferInstance; rfl; rfl; assumption) | (apply w_eqS2T; rfl; rfl; rfl; omega) | (apply w_eqS2F; rfl; rfl; rfl; omega) | (apply w_neS2T; rfl; rfl; rfl; omega) | (apply w_neS2F; rfl; rfl; rfl; omega) | (apply w_eqS3T; rfl; rfl; rfl; omega) | (apply w_eqS3F; rfl; rfl; rfl; omega) | (apply w_neS3T; rfl; rfl; rfl; omega) | (apply w_neS3F; rfl; rfl; rfl; omega) | (apply w_eqS3; rfl; rfl; rfl) | (apply w_neS3; rfl; rfl; rfl) | (apply w_eqS2; rfl; rfl; rfl) | (apply w_neS2; rfl; rfl; rfl) | (apply w_maxL; rfl; rfl; rfl; omega) | (apply w_maxG; rfl; rfl; rfl; omega) | (apply w_max; rfl; rfl; rfl) | (apply w_neB; rfl; rfl; rfl; rfl) | (apply w_eqB; rfl; rfl; rfl; rfl) | refine spl ?_ ?_ | intro hc)
    all_goals (refine At_ret1 (by (first | exact .inl rfl | exact .inr rfl)) Try.results50 rfl ⟨by rfl, rfl⟩ (by (exact frm)))
end Go.Proofs.Ytoddjdghjpdomaa
