/- mutex: what the calls make of a table, in plain words. Conditions: none. -/
import Derived.Test.YtoaaoijdknbanaaMutA
set_option linter.all false
set_option linter.deprecated false
namespace Go.Proofs.Ytoaaoijdknbanaa
open Go.Sep
def isK (n : Int) (x : Ky) : Bool := decide (x.id = n)
def hasB (n : Int) (k : Lk) : Bool := k.q.any (isK n)
def lkA (M : List Lk) (i : Nat) : Lk := M.getD i ⟨-1, false, []⟩
/-- Where a thread waits: the mutex, and its place there. -/
def waitAt (M : List Lk) (n : Int) : Option (Nat × Nat) := match M.findIdx? (hasB n) with
  | none => none
  | some i => some (i, ((lkA M i).q.findIdx? (isK n)).getD 0)
theorem lkA_eq {M : List Lk} {i : Nat} {k : Lk} (h : M[i]? = some k) : lkA M i = k := by
  unfold lkA; rw [List.getD_eq_getElem?_getD, h]; rfl
theorem waitAt_none {M : List Lk} {n : Int} : waitAt M n = none ↔ ∀ k ∈ M, ∀ x ∈ k.q, x.id ≠ n := by
  unfold waitAt
  constructor
  · intro h k hk x hx hn
    cases hf : M.findIdx? (hasB n) with
    | some i => rw [hf] at h; cases h
    | none =>
      have h1 := List.findIdx?_eq_none_iff.1 hf k hk
      unfold hasB at h1
      rw [List.any_eq_false] at h1
      exact h1 x hx (by simp [isK, hn])
  · intro h
    have : M.findIdx? (hasB n) = none := List.findIdx?_eq_none_iff.2 fun k hk => by
      unfold hasB
      rw [List.any_eq_false]
      intro x hx
      have := h k hk x hx
      simp [isK, this]
    rw [this]
theorem waitAt_some {M : List Lk} {n : Int} {i j : Nat} (h : waitAt M n = some (i, j)) : ∃ k x, M[i]? = some k ∧ k.q[j]? = some x ∧ x.id = n ∧ (∀ y ∈ k.q.take j, y.id ≠ n) ∧ (∀ k' ∈ M.take i, ∀ y ∈ k'.q, y.id ≠ n) := by
  unfold waitAt at h
  cases hf : M.findIdx? (hasB n) with
  | none => rw [hf] at h; cases h
  | some i' =>
    rw [hf] at h
    simp only [Option.some.injEq, Prod.mk.injEq] at h
    obtain ⟨rfl, hj⟩ := h
    obtain ⟨hi, h1, h2⟩ := List.findIdx?_eq_some_iff_getElem.1 hf
    have hk : M[i']? = some M[i'] := by simp [hi]
    rw [lkA_eq hk] at hj
    unfold hasB at h1
    obtain ⟨x0, hx0, hx1⟩ := List.any_eq_true.1 h1
    cases hg : M[i'].q.findIdx? (isK n) with
    | none =>
      have := List.findIdx?_eq_none_iff.1 hg x0 hx0
      rw [this] at hx1; cases hx1
    | some j' =>
      rw [hg] at hj
      simp only [Option.getD_some] at hj
      subst hj
      obtain ⟨hj1, hj2, hj3⟩ := List.findIdx?_eq_some_iff_getElem.1 hg
      refine ⟨M[i'], M[i'].q[j'], hk, by simp [hj1], by simpa [isK] using hj2, fun y hy => ?_, fun k' hk' y hy => ?_⟩
      · obtain ⟨a, ha, rfl⟩ := List.mem_iff_getElem.1 hy
        rw [List.length_take] at ha
        have := hj3 a (by omega)
        simpa [isK] using this
      · obtain ⟨a, ha, rfl⟩ := List.mem_iff_getElem.1 hk'
        rw [List.length_take] at ha
        have h3 := h2 a (by omega)
        unfold hasB at h3
        rw [Bool.not_eq_true, List.any_eq_false] at h3
        have := h3 y (by simpa using hy)
        simpa [isK] using this
def readyI (M : List Lk) (m n t : Int) : Int := if mayI M.length m n t ≠ 0 then mayI M.length m n t else if (waitAt M n).isSome then 16 else if (lkA M m.toNat).own = n then 15 else 0
def lockM (M : List Lk) (m n t : Int) : (Bool × Int) × List Lk := if readyI M m n t ≠ 0 then ((false, readyI M m n t), M) else if (lkA M m.toNat).own ≠ -1 then ((false, 0), M.set m.toNat { lkA M m.toNat with q := insK (lkA M m.toNat).q ⟨t, n⟩ }) else ((true, 0), M.set m.toNat { lkA M m.toNat with own := n })
def tryM (M : List Lk) (m n : Int) : Int × List Lk := if readyI M m n 0 ≠ 0 then (readyI M m n 0, M) else if (lkA M m.toNat).own ≠ -1 then (20, M) else (0, M.set m.toNat { lkA M m.toNat with own := n })
def unlockM (M : List Lk) (m n : Int) : (Int × Int) × List Lk := if mayI M.length m n 0 ≠ 0 then ((0, mayI M.length m n 0), M) else if (lkA M m.toNat).own ≠ n then ((0, 19), M) else (((handM (lkA M m.toNat) false).own, 0), M.set m.toNat (handM (lkA M m.toNat) false))
def rekeyM (M : List Lk) (n t : Int) : Int × List Lk := if mayI M.length 0 n t ≠ 0 then (mayI M.length 0 n t, M) else match waitAt M n with
  | none => (14, M)
  | some (i, j) => (0, M.set i { lkA M i with q := insK ((lkA M i).q.eraseIdx j) ⟨t, n⟩ })
def leaveM (M : List Lk) (n : Int) : Int × List Lk := if mayI M.length 0 n 0 ≠ 0 then (mayI M.length 0 n 0, M) else match waitAt M n with
  | none => (14, M)
  | some (i, j) => (0, M.set i { lkA M i with q := (lkA M i).q.eraseIdx j })
def heldN (M : List Lk) (n : Int) : List Nat := (List.range M.length).filter fun i => decide ((lkA M i).own = n)
def heldM (M : List Lk) (n : Int) : List Nat := if 0 ≤ n ∧ n < 64 then heldN M n else []
def quitS (s : List (Int × Int) × List Lk) (m : Nat) : List (Int × Int) × List Lk := (s.1 ++ [((m : Int), (handM (lkA s.2 m) true).own)], s.2.set m (handM (lkA s.2 m) true))
def quitM (M : List Lk) (n : Int) : (List (Int × Int) × Int) × List Lk := if mayI M.length 0 n 0 ≠ 0 then (([], mayI M.length 0 n 0), M) else
  ((((heldN (leaveM M n).2 n).foldl quitS ([], (leaveM M n).2)).1, 0), ((heldN (leaveM M n).2 n).foldl quitS ([], (leaveM M n).2)).2)
def ownerM (M : List Lk) (m : Int) : Int × Int := if mayI M.length m 0 0 ≠ 0 then (0, mayI M.length m 0 0) else if (lkA M m.toNat).own = -1 then (0, 14) else ((lkA M m.toNat).own, 0)
def flagM (M : List Lk) (m : Int) : Bool × Int := if mayI M.length m 0 0 ≠ 0 then (false, mayI M.length m 0 0) else ((lkA M m.toNat).flag, 0)
def waitersM (M : List Lk) (m : Int) : List Ky := if 0 ≤ m ∧ m < M.length then (lkA M m.toNat).q else []
def waitsM (M : List Lk) (n : Int) : Int × Int := if mayI M.length 0 n 0 ≠ 0 then (0, mayI M.length 0 n 0) else match waitAt M n with
  | none => (0, 14)
  | some (i, _) => ((i : Int), 0)
def chainS (out : List Int) (k : Lk) : List Int := k.q.foldl (fun o x => o.set x.id.toNat k.own) out
def chainsM (M : List Lk) : List Int := M.foldl chainS (List.replicate 64 (-1))
/-! ### What stays so -/
theorem set_perm {M : List Lk} {i : Nat} (hi : i < M.length) (k' : Lk) : ((M.set i k').flatMap (·.q)).Perm (k'.q ++ (M.eraseIdx i).flatMap (·.q)) := by
  have e : M.set i k' = M.take i ++ k' :: M.drop (i + 1) := by
    rw [List.set_eq_take_append_cons_drop, if_pos hi]
  rw [e, List.eraseIdx_eq_take_drop_succ, List.flatMap_append, List.flatMap_cons, List.flatMap_append]
  rw [← List.append_assoc, ← List.append_assoc]
  exact List.perm_append_comm.append_right _
theorem get_perm {M : List Lk} {i : Nat} {k : Lk} (h : M[i]? = some k) : (M.flatMap (·.q)).Perm (k.q ++ (M.eraseIdx i).flatMap (·.q)) := by
  obtain ⟨hi, rfl⟩ := List.getElem?_eq_some_iff.1 h
  have := set_perm hi M[i]
  rwa [List.set_getElem_self] at this
theorem WfM.upd {M : List Lk} (h : WfM M) {i : Nat} (hi : i < M.length) {k' : Lk} (ho : -1 ≤ k'.own ∧ k'.own < 64) (hq : ∀ x ∈ k'.q, 0 ≤ x.id ∧ x.id < 64 ∧ 0 ≤ x.at' ∧ x.at' < 1099511627776)
    (hn : (k'.q.map (·.id) ++ ((M.eraseIdx i).flatMap (·.q)).map (·.id)).Nodup) : WfM (M.set i k') where
  own := fun k hk => by
    rcases List.mem_or_eq_of_mem_set hk with hk | rfl
    · exact h.own k hk
    · exact ho
  keys := fun k hk => by
    rcases List.mem_or_eq_of_mem_set hk with hk | rfl
    · exact h.keys k hk
    · exact hq
  nodup := by
    have := ((set_perm hi k').map (·.id)).nodup_iff.2 (by rw [List.map_append]; exact hn)
    exact this
theorem WfM.nd {M : List Lk} (h : WfM M) {i : Nat} {k : Lk} (hk : M[i]? = some k) : (k.q.map (·.id) ++ ((M.eraseIdx i).flatMap (·.q)).map (·.id)).Nodup := by
  rw [← List.map_append]
  exact ((get_perm hk).map (·.id)).nodup_iff.1 h.nodup
theorem WfM.sub {M : List Lk} (h : WfM M) {i : Nat} {k k' : Lk} (hk : M[i]? = some k) (ho : -1 ≤ k'.own ∧ k'.own < 64) (hs : k'.q.Sublist k.q) : WfM (M.set i k') := by
  have hm := List.mem_of_getElem? hk
  refine h.upd (List.getElem?_eq_some_iff.1 hk).1 ho (fun x hx => h.keys k hm x (hs.subset hx)) ?_
  exact (h.nd hk).sublist ((hs.map _).append (List.Sublist.refl _))
theorem insK_perm (q : List Ky) (x : Ky) : (insK q x).Perm (x :: q) := by
  unfold insK
  conv => rhs; rw [← List.take_append_drop (insAt q x) q]
  rw [List.append_assoc]
  exact List.perm_middle
theorem WfM.ins {M : List Lk} (h : WfM M) {i : Nat} {k : Lk} (hk : M[i]? = some k) {q : List Ky} {x : Ky} (hs : q.Sublist k.q) (hx : 0 ≤ x.id ∧ x.id < 64 ∧ 0 ≤ x.at' ∧ x.at' < 1099511627776)
    (hn : ∀ y ∈ q, y.id ≠ x.id) (hn2 : ∀ y ∈ (M.eraseIdx i).flatMap (·.q), y.id ≠ x.id) : WfM (M.set i { k with q := insK q x }) := by
  have hm := List.mem_of_getElem? hk
  refine h.upd (List.getElem?_eq_some_iff.1 hk).1 (h.own k hm) (fun y hy => ?_) ?_
  · rcases List.mem_cons.1 ((insK_perm q x).subset hy) with rfl | hy
    · exact hx
    · exact h.keys k hm y (hs.subset hy)
  · have h1 := (h.nd hk).sublist ((hs.map (·.id)).append (List.Sublist.refl _))
    have h2 : (x.id :: (q.map (·.id) ++ ((M.eraseIdx i).flatMap (·.q)).map (·.id))).Nodup := by
      refine List.nodup_cons.2 ⟨fun hc => ?_, h1⟩
      rcases List.mem_append.1 hc with hc | hc
      · obtain ⟨y, hy, hyi⟩ := List.mem_map.1 hc; exact hn y hy hyi
      · obtain ⟨y, hy, hyi⟩ := List.mem_map.1 hc; exact hn2 y hy hyi
    exact ((((insK_perm q x).map (·.id)).append_right _)).nodup_iff.2 h2
theorem nodup_len {l : List Int} (h : l.Nodup) (hb : ∀ x ∈ l, 0 ≤ x ∧ x < 64) : l.length ≤ 64 := by
  have h1 : (l.map Int.toNat).Nodup := by
    refine List.Pairwise.map _ (fun a b hab => ?_) (List.Pairwise.and_mem.1 h)
    obtain ⟨ha, hb', hne⟩ := hab
    have := hb a ha
    have := hb b hb'
    intro e; apply hne; omega
  have h2 : (l.map Int.toNat).Subset (List.range 64) := fun x hx => by
    obtain ⟨y, hy, rfl⟩ := List.mem_map.1 hx
    have := hb y hy
    exact List.mem_range.2 (by omega)
  have := h1.length_le_of_subset h2
  simpa using this
theorem WfM.few {M : List Lk} (h : WfM M) : (M.flatMap (·.q)).length ≤ 64 := by
  have := nodup_len h.nodup (fun x hx => by
    obtain ⟨y, hy, rfl⟩ := List.mem_map.1 hx
    obtain ⟨k, hk, hyk⟩ := List.mem_flatMap.1 hy
    have := h.keys k hk y hyk
    exact ⟨this.1, this.2.1⟩)
  simpa using this
theorem WfM.q64 {M : List Lk} (h : WfM M) {k : Lk} (hk : k ∈ M) : k.q.length ≤ 64 := by
  obtain ⟨i, hi⟩ := List.getElem?_of_mem hk
  have h1 := (get_perm hi).length_eq
  have := h.few
  rw [List.length_append] at h1
  omega
theorem mayI_0 {N : Nat} {m n t : Int} : mayI N m n t = 0 ↔ 0 ≤ m ∧ m < N ∧ 0 ≤ n ∧ n < 64 ∧ 0 ≤ t ∧ t < 1099511627776 := by
  unfold mayI mayB
  by_cases h : 0 ≤ m ∧ m < (N : Int) ∧ 0 ≤ n ∧ n < 64 ∧ 0 ≤ t ∧ t < 1099511627776
  · obtain ⟨a, b, c, d, e, f⟩ := h
    simp [a, b, c, d, e, f]
  · rw [if_neg]
    · simp [h]
    · intro hc
      simp only [Bool.and_eq_true, decide_eq_true_eq] at hc
      omega
theorem waitAt_out {M : List Lk} {n : Int} (h : waitAt M n = none) {i : Nat} : ∀ y ∈ (M.eraseIdx i).flatMap (·.q), y.id ≠ n := by
  intro y hy
  obtain ⟨k, hk, hyk⟩ := List.mem_flatMap.1 hy
  exact waitAt_none.1 h k (List.mem_of_mem_eraseIdx hk) y hyk
theorem WfM.lock {M : List Lk} (h : WfM M) (m n t : Int) : WfM (lockM M m n t).2 := by
  unfold lockM
  split
  · exact h
  · rename_i h0
    have h0 : readyI M m n t = 0 := by simpa using h0
    unfold readyI at h0
    split at h0
    · rename_i hm; exact absurd h0 hm
    · rename_i hm
      obtain ⟨a, b, c, d, e, f⟩ := mayI_0.1 (show mayI M.length m n t = 0 by simpa using hm)
      split at h0
      · cases h0
      · rename_i hw
        have hw : waitAt M n = none := by simpa using hw
        have hk : M[m.toNat]? = some M[m.toNat] := List.getElem?_eq_getElem (by omega)
        rw [lkA_eq hk]
        split
        · exact h.ins hk (List.Sublist.refl _) ⟨c, d, e, f⟩ (fun y hy => waitAt_none.1 hw _ (List.mem_of_getElem? hk) y hy) (waitAt_out hw)
        · exact h.sub hk (by dsimp only; omega) (List.Sublist.refl _)
theorem WfM.try {M : List Lk} (h : WfM M) (m n : Int) : WfM (tryM M m n).2 := by
  unfold tryM
  split
  · exact h
  · rename_i h0
    have h0 : readyI M m n 0 = 0 := by simpa using h0
    unfold readyI at h0
    split at h0
    · rename_i hm; exact absurd h0 hm
    · rename_i hm
      obtain ⟨a, b, c, d, e, f⟩ := mayI_0.1 (show mayI M.length m n 0 = 0 by simpa using hm)
      have hk : M[m.toNat]? = some M[m.toNat] := List.getElem?_eq_getElem (by omega)
      rw [lkA_eq hk]
      split
      · exact h
      · exact h.sub hk (by dsimp only; omega) (List.Sublist.refl _)
theorem WfM.hand {M : List Lk} (h : WfM M) {i : Nat} (hi : i < M.length) (f : Bool) : WfM (M.set i (handM (lkA M i) f)) := by
  have hk : M[i]? = some M[i] := List.getElem?_eq_getElem hi
  rw [lkA_eq hk]
  have hm := List.mem_of_getElem? hk
  unfold handM
  cases hq : M[i].q with
  | nil => exact h.sub hk (by dsimp only; omega) (List.nil_sublist _)
  | cons x q =>
    have := h.keys _ hm x (by rw [hq]; exact List.mem_cons_self)
    refine h.sub hk (by dsimp only; omega) ?_
    rw [hq]; exact List.sublist_cons_self _ _
theorem WfM.unlock {M : List Lk} (h : WfM M) (m n : Int) : WfM (unlockM M m n).2 := by
  unfold unlockM
  split
  · exact h
  · rename_i hm
    obtain ⟨a, b, _⟩ := mayI_0.1 (show mayI M.length m n 0 = 0 by simpa using hm)
    split
    · exact h
    · exact h.hand (by omega) false
theorem erase_ne {q : List Ky} {j : Nat} {x : Ky} (hj : q[j]? = some x) (h : (q.map (·.id)).Nodup) : ∀ y ∈ q.eraseIdx j, y.id ≠ x.id := by
  obtain ⟨hlt, rfl⟩ := List.getElem?_eq_some_iff.1 hj
  have hp : q.Perm (q[j] :: q.eraseIdx j) := by
    conv => lhs; rw [← List.take_append_drop j q, List.drop_eq_getElem_cons hlt]
    rw [List.eraseIdx_eq_take_drop_succ]
    exact List.perm_middle
  have h1 := (hp.map (·.id)).nodup_iff.1 h
  rw [List.map_cons, List.nodup_cons] at h1
  intro y hy e
  exact h1.1 (List.mem_map.2 ⟨y, hy, e⟩)
theorem WfM.rekey {M : List Lk} (h : WfM M) (n t : Int) : WfM (rekeyM M n t).2 := by
  unfold rekeyM
  split
  · exact h
  · rename_i hm
    obtain ⟨a, b, c, d, e, f⟩ := mayI_0.1 (show mayI M.length 0 n t = 0 by simpa using hm)
    cases hw : waitAt M n with
    | none => exact h
    | some ij =>
      obtain ⟨i, j⟩ := ij
      obtain ⟨k, x, hk, hj, hx, -, -⟩ := waitAt_some hw
      dsimp only
      rw [lkA_eq hk]
      have hnd := h.nd hk
      refine h.ins hk (List.eraseIdx_sublist _ _) ⟨c, d, e, f⟩ (fun y hy => ?_) (fun y hy hyn => ?_)
      · have := erase_ne hj (List.nodup_append.1 hnd).1 y hy
        rw [hx] at this; exact this
      · have h2 := (List.nodup_append.1 hnd).2.2 n (List.mem_map.2 ⟨x, List.mem_of_getElem? hj, hx⟩) n (List.mem_map.2 ⟨y, hy, hyn⟩)
        exact h2 rfl
theorem WfM.leave {M : List Lk} (h : WfM M) (n : Int) : WfM (leaveM M n).2 := by
  unfold leaveM
  split
  · exact h
  · cases hw : waitAt M n with
    | none => exact h
    | some ij =>
      obtain ⟨i, j⟩ := ij
      obtain ⟨k, x, hk, hj, hx, -, -⟩ := waitAt_some hw
      dsimp only
      rw [lkA_eq hk]
      exact h.sub hk (h.own k (List.mem_of_getElem? hk)) (List.eraseIdx_sublist _ _)
theorem leave_len (M : List Lk) (n : Int) : (leaveM M n).2.length = M.length := by
  unfold leaveM
  split
  · rfl
  · split
    · rfl
    · simp
theorem WfM.quitF {l : List Nat} : ∀ {s : List (Int × Int) × List Lk}, WfM s.2 → (∀ m ∈ l, m < s.2.length) → WfM (l.foldl quitS s).2 ∧ (l.foldl quitS s).2.length = s.2.length := by
  induction l with
  | nil => intro s h _; exact ⟨h, rfl⟩
  | cons m l ih =>
    intro s h hm
    rw [List.foldl_cons]
    have h1 : WfM (quitS s m).2 := h.hand (hm m List.mem_cons_self) true
    have hl : (quitS s m).2.length = s.2.length := by show (s.2.set m _).length = _; rw [List.length_set]
    obtain ⟨h2, h3⟩ := ih h1 (fun m' hm' => by rw [hl]; exact hm m' (List.mem_cons_of_mem _ hm'))
    exact ⟨h2, by rw [h3, hl]⟩
theorem heldN_lt {M : List Lk} {n : Int} {m : Nat} (h : m ∈ heldN M n) : m < M.length := by
  unfold heldN at h
  exact List.mem_range.1 (List.mem_filter.1 h).1
theorem WfM.quit {M : List Lk} (h : WfM M) (n : Int) : WfM (quitM M n).2 := by
  unfold quitM
  split
  · exact h
  · exact (WfM.quitF (h.leave n) (fun m hm => heldN_lt hm)).1
end Go.Proofs.Ytoaaoijdknbanaa
