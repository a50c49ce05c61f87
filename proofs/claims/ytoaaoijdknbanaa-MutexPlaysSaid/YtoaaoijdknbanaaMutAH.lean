/- MutexPlays: the document's answer does as the table does, in plain words. Conditions: none. -/
import Derived.Test.YtoaaoijdknbanaaMutAE
set_option linter.all false
set_option linter.deprecated false
namespace Go.Proofs.Ytoaaoijdknbanaa
open Go.Sep
variable [B0 : Base]
/-! ### The first one -/
def fky (at' : List Int) (i : Nat) : Ky := ⟨gi at' i, (i : Int)⟩
theorem firstK_spec (fo at' : List Int) (m : Int) (no : List Bool) (k : Nat) :
    (firstK fo at' m no k = -1 ∧ ∀ j, j < k → ¬ (gi fo j = m ∧ gb no j = false)) ∨
    (∃ i, i < k ∧ firstK fo at' m no k = (i : Int) ∧ (gi fo i = m ∧ gb no i = false) ∧ ∀ j, j < k → gi fo j = m ∧ gb no j = false → j = i ∨ kyB (fky at' i) (fky at' j) = true) := by
  induction k with
  | zero => exact .inl ⟨rfl, fun j hj => absurd hj (Nat.not_lt_zero j)⟩
  | succ k ih =>
    rw [firstK_succ]
    by_cases hP : gi fo k = m ∧ gb no k = false
    · have hn : ¬ (gi fo k ≠ m ∨ gb no k = true) := by rw [hP.1, hP.2]; simp
      unfold firstS
      rw [if_neg hn]
      rcases ih with ⟨h1, h2⟩ | ⟨i, hi, h1, h2, h3⟩
      · rw [h1, if_pos (.inl (by decide))]
        refine .inr ⟨k, Nat.lt_succ_self k, rfl, hP, fun j hj hj2 => ?_⟩
        by_cases e : j = k
        · exact .inl e
        · exact absurd hj2 (h2 j (by omega))
      · rw [h1]
        by_cases hlt : gi at' k < gi at' i
        · rw [if_pos (.inr (by simpa using hlt))]
          refine .inr ⟨k, Nat.lt_succ_self k, rfl, hP, fun j hj hj2 => ?_⟩
          by_cases e : j = k
          · exact .inl e
          · have hki : kyB (fky at' k) (fky at' i) = true := kyB_iff.2 (.inl hlt)
            rcases h3 j (by omega) hj2 with rfl | h
            · exact .inr hki
            · exact .inr (kyB_trans hki h)
        · rw [if_neg (fun h => by rcases h with h | h; (omega); (exact hlt (by simpa using h)))]
          refine .inr ⟨i, by omega, rfl, h2, fun j hj hj2 => ?_⟩
          by_cases e : j = k
          · subst e
            refine .inr (kyB_iff.2 ?_)
            show gi at' i < gi at' j ∨ gi at' i = gi at' j ∧ (i : Int) < j
            omega
          · exact h3 j (by omega) hj2
    · have hn : gi fo k ≠ m ∨ gb no k = true := by
        by_cases e : gi fo k = m
        · right
          cases hb : gb no k with
          | true => rfl
          | false => exact absurd ⟨e, hb⟩ hP
        · exact .inl e
      unfold firstS
      rw [if_pos hn]
      rcases ih with ⟨h1, h2⟩ | ⟨i, hi, h1, h2, h3⟩
      · refine .inl ⟨h1, fun j hj hj2 => ?_⟩
        by_cases e : j = k
        · subst e; exact hP hj2
        · exact h2 j (by omega) hj2
      · refine .inr ⟨i, by omega, h1, h2, fun j hj hj2 => ?_⟩
        by_cases e : j = k
        · subst e; exact absurd hj2 hP
        · exact h3 j (by omega) hj2
structure Rel (M : List Lk) (X : RT) : Prop where
  len : X.own.length = M.length
  own : ∀ i, i < M.length → gi X.own i = (lkA M i).own
  fl : ∀ i, i < M.length → gb X.fl i = (lkA M i).flag
  q : ∀ i, i < M.length → ∀ x : Ky, 0 ≤ x.id → x.id < 64 → (x ∈ (lkA M i).q ↔ gi X.fo x.id.toNat = (i : Int) ∧ gi X.at' x.id.toNat = x.at')
theorem kyB_irr (x : Ky) : kyB x x = false := by
  cases h : kyB x x with
  | false => rfl
  | true => have := kyB_iff.1 h; omega
theorem Srt.ids {q : List Ky} (h : Srt q) (hid : (q.map (·.id)).Nodup) {a : Nat} {x : Ky} (hx : q[a]? = some x) : x.id ∉ (q.take a).map (·.id) := by
  obtain ⟨ha, rfl⟩ := List.getElem?_eq_some_iff.1 hx
  intro hm
  obtain ⟨b, hb, he⟩ := List.mem_iff_getElem.1 hm
  rw [List.length_map, List.length_take] at hb
  simp only [List.getElem_map, List.getElem_take] at he
  have hb2 : b < q.length := by omega
  have h1 : (q.map (·.id))[b]'(by rw [List.length_map]; exact hb2) = (q.map (·.id))[a]'(by rw [List.length_map]; exact ha) := by
    rw [List.getElem_map, List.getElem_map]; exact he
  have := (List.getElem_inj hid).1 h1
  omega
theorem lkq_nodup {M : List Lk} (h : WfM M) {i : Nat} (hi : i < M.length) : ((lkA M i).q.map (·.id)).Nodup := (List.nodup_append.1 (h.nd (lk_some hi))).1
theorem lkq_b {M : List Lk} (h : WfM M) {i : Nat} (hi : i < M.length) {x : Ky} (hx : x ∈ (lkA M i).q) : 0 ≤ x.id ∧ x.id < 64 ∧ 0 ≤ x.at' ∧ x.at' < 1099511627776 := h.keys _ (List.mem_of_getElem? (lk_some hi)) x hx
/-- The first of those behind the first few. -/
theorem first_rel {M : List Lk} {X : RT} (hI : Inv2 M) (hR : Rel M X) {m : Nat} (hm : m < M.length) {no : List Bool} {a : Nat}
    (hno : ∀ j : Nat, j < 64 → (gb no j = true ↔ (j : Int) ∈ ((lkA M m).q.take a).map (·.id))) :
    firstR X.fo X.at' m no = (match (lkA M m).q[a]? with | some x => x.id | none => -1) := by
  have hs := (hI.lk hm).srt
  have hq := hR.q m hm
  have hnd := lkq_nodup hI.wf hm
  have hb := fun x (hx : x ∈ (lkA M m).q) => lkq_b hI.wf hm hx
  generalize (lkA M m).q = q at *
  unfold firstR
  have hfk : ∀ j : Nat, j < 64 → gi X.fo j = (m : Int) → fky X.at' j ∈ q := fun j hj hf => (hq (fky X.at' j) (by unfold fky; dsimp only; omega) (by unfold fky; dsimp only; omega)).2 ⟨by unfold fky; exact hf, by unfold fky; rfl⟩
  cases hx : q[a]? with
  | none =>
    have hle : q.length ≤ a := List.getElem?_eq_none_iff.1 hx
    rw [List.take_of_length_le hle] at hno
    rcases firstK_spec X.fo X.at' m no 64 with ⟨h1, -⟩ | ⟨i, hi, h1, ⟨h2, h3⟩, -⟩
    · exact h1
    · have := (hno i hi).2 (List.mem_map.2 ⟨_, hfk i hi h2, rfl⟩)
      rw [this] at h3; cases h3
  | some x =>
    dsimp only
    have hxm := List.mem_of_getElem? hx
    have hxb := hb x hxm
    have hxn := hs.ids hnd hx
    obtain ⟨hf, ha⟩ := (hq x hxb.1 hxb.2.1).1 hxm
    have hxi : ((x.id.toNat : Nat) : Int) = x.id := by omega
    have hPx : gi X.fo x.id.toNat = (m : Int) ∧ gb no x.id.toNat = false := ⟨hf, by
      cases hbb : gb no x.id.toNat with
      | false => rfl
      | true => exact absurd ((hno _ (by omega)).1 hbb) (by rw [hxi]; exact hxn)⟩
    rcases firstK_spec X.fo X.at' m no 64 with ⟨h1, h2⟩ | ⟨i, hi, h1, ⟨h2, h3⟩, h4⟩
    · exact absurd hPx (h2 _ (by omega))
    · rw [h1]
      rcases h4 x.id.toNat (by omega) hPx with e | e
      · omega
      · exfalso
        have hfx : fky X.at' x.id.toNat = x := by
          unfold fky; rw [hxi, ha]
        rw [hfx] at e
        have hmi := hfk i hi h2
        have hnt : fky X.at' i ∉ q.take a := fun hmt => by
          have := (hno i hi).2 (List.mem_map.2 ⟨_, hmt, rfl⟩)
          rw [this] at h3; cases h3
        have hsp : q = q.take a ++ q.drop a := (List.take_append_drop a q).symm
        obtain ⟨hal, hxe⟩ := List.getElem?_eq_some_iff.1 hx
        have hdr : q.drop a = x :: q.drop (a + 1) := by rw [List.drop_eq_getElem_cons hal, hxe]
        rw [hsp] at hmi
        rcases List.mem_append.1 hmi with h | h
        · exact hnt h
        · rw [hdr] at h
          rcases List.mem_cons.1 h with h | h
          · rw [h, kyB_irr] at e; cases e
          · have hs2 : Srt (q.drop a) := hs.sublist (List.drop_sublist a q)
            rw [hdr] at hs2
            have := kyB_asymm ((List.pairwise_cons.1 hs2).1 _ h)
            rw [this] at e; cases e
theorem gb_no0 (j : Nat) : gb no0 j = false := by
  unfold gb no0
  rw [List.getD_eq_getElem?_getD, List.getElem?_replicate]
  split <;> rfl
theorem first_no0 {M : List Lk} {X : RT} (hI : Inv2 M) (hR : Rel M X) {m : Nat} (hm : m < M.length) : firstR X.fo X.at' m no0 = (match (lkA M m).q with | [] => -1 | x :: _ => x.id) := by
  rw [first_rel (a := 0) hI hR hm (fun j _ => by rw [gb_no0]; simp)]
  cases (lkA M m).q <;> rfl
/-! ### Who waits -/
theorem Rel.none {M : List Lk} {X : RT} (hI : Inv2 M) (hR : Rel M X) (hX : WfR X) {n : Int} (hn : 0 ≤ n ∧ n < 64) (h : waitAt M n = none) : gi X.fo n.toNat = -1 := by
  have hb := hX.fb _ (gi_mem (l := X.fo) (i := n.toNat) (by rw [hX.l2]; omega))
  rw [hR.len] at hb
  by_cases e : gi X.fo n.toNat = -1
  · exact e
  · exfalso
    have hi : (gi X.fo n.toNat).toNat < M.length := by omega
    have hm := (hR.q _ hi ⟨gi X.at' n.toNat, n⟩ hn.1 hn.2).2 ⟨by dsimp only; omega, rfl⟩
    exact waitAt_none.1 h _ (List.mem_of_getElem? (lk_some hi)) _ hm rfl
theorem Rel.some {M : List Lk} {X : RT} (hI : Inv2 M) (hR : Rel M X) {n : Int} {i j : Nat} (h : waitAt M n = some (i, j)) : i < M.length ∧ ∃ x, (lkA M i).q[j]? = some x ∧ x.id = n ∧ gi X.fo n.toNat = (i : Int) ∧ gi X.at' n.toNat = x.at' := by
  obtain ⟨k, x, hk, hj, hx, -, -⟩ := waitAt_some h
  have hi := (List.getElem?_eq_some_iff.1 hk).1
  rw [← lkA_eq hk] at hj
  have hb := lkq_b hI.wf hi (List.mem_of_getElem? hj)
  have := (hR.q i hi x hb.1 hb.2.1).1 (List.mem_of_getElem? hj)
  rw [hx] at this
  exact ⟨hi, x, hj, hx, this⟩
theorem gb_set {l : List Bool} {i j : Nat} {x : Bool} (h : i < l.length) : gb (l.set i x) j = if i = j then x else gb l j := by
  unfold gb
  rw [List.getD_eq_getElem?_getD, List.getD_eq_getElem?_getD, List.getElem?_set]
  by_cases e : i = j
  · subst e; simp [h]
  · simp [e]
theorem Rel.at {M : List Lk} {X : RT} (hI : Inv2 M) (hR : Rel M X) {i : Nat} (hi : i < M.length) {x : Ky} (hx : x ∈ (lkA M i).q) : gi X.fo x.id.toNat = (i : Int) ∧ gi X.at' x.id.toNat = x.at' :=
  (hR.q i hi x (lkq_b hI.wf hi hx).1 (lkq_b hI.wf hi hx).2.1).1 hx
/-! ### The calls -/
theorem Rel.take {M : List Lk} {X : RT} (hR : Rel M X) (hX : WfR X) {m : Nat} (hm : m < M.length) (n : Int) : Rel (M.set m { lkA M m with own := n }) { X with own := X.own.set m n } where
  len := by dsimp only; rw [List.length_set, List.length_set]; exact hR.len
  own i hi := by
    rw [List.length_set] at hi
    dsimp only
    rw [gi_set (by rw [hR.len]; exact hm), lkA_set hm]
    by_cases e : m = i
    · rw [if_pos e, if_pos e]
    · rw [if_neg e, if_neg e]; exact hR.own i hi
  fl i hi := by
    rw [List.length_set] at hi
    rw [lkA_set hm]
    by_cases e : m = i
    · subst e; rw [if_pos rfl]; exact hR.fl m hi
    · rw [if_neg e]; exact hR.fl i hi
  q i hi x h0 h1 := by
    rw [List.length_set] at hi
    rw [lkA_set hm]
    by_cases e : m = i
    · subst e; rw [if_pos rfl]; exact hR.q m hi x h0 h1
    · rw [if_neg e]; exact hR.q i hi x h0 h1
/-- The keys of one mutex, and what is told of one thread, are made anew. -/
theorem Rel.key {M : List Lk} {X : RT} (hI : Inv2 M) (hR : Rel M X) {m : Nat} (hm : m < M.length) {n : Int} {q : List Ky} {fo at' : List Int}
    (h1 : ∀ i : Nat, (i : Int) ≠ n → i < 64 → gi fo i = gi X.fo i ∧ gi at' i = gi X.at' i)
    (h2 : ∀ x : Ky, 0 ≤ x.id → x.id < 64 → x.id ≠ n → (x ∈ q ↔ x ∈ (lkA M m).q))
    (h3 : ∀ x : Ky, 0 ≤ x.id → x.id < 64 → x.id = n → (x ∈ q ↔ gi fo x.id.toNat = (m : Int) ∧ gi at' x.id.toNat = x.at'))
    (h4 : ∀ i, i < M.length → i ≠ m → ∀ x : Ky, 0 ≤ x.id → x.id < 64 → x.id = n → x ∉ (lkA M i).q ∧ gi fo x.id.toNat ≠ (i : Int)) :
    Rel (M.set m { lkA M m with q := q }) { X with fo := fo, at' := at' } where
  len := by rw [List.length_set]; exact hR.len
  own i hi := by
    rw [List.length_set] at hi
    rw [lkA_set hm]
    by_cases e : m = i
    · subst e; rw [if_pos rfl]; exact hR.own m hi
    · rw [if_neg e]; exact hR.own i hi
  fl i hi := by
    rw [List.length_set] at hi
    rw [lkA_set hm]
    by_cases e : m = i
    · subst e; rw [if_pos rfl]; exact hR.fl m hi
    · rw [if_neg e]; exact hR.fl i hi
  q i hi x a b := by
    rw [List.length_set] at hi
    rw [lkA_set hm]
    dsimp only
    by_cases en : x.id = n
    · by_cases e : m = i
      · subst e; rw [if_pos rfl]; exact h3 x a b en
      · rw [if_neg e]
        have := h4 i hi (fun h => e h.symm) x a b en
        exact ⟨fun h => absurd h this.1, fun h => absurd h.1 this.2⟩
    · have ht := h1 x.id.toNat (by omega) (by omega)
      rw [ht.1, ht.2]
      by_cases e : m = i
      · subst e; rw [if_pos rfl]; exact (h2 x a b en).trans (hR.q m hi x a b)
      · rw [if_neg e]; exact hR.q i hi x a b
theorem Rel.flag {M : List Lk} {X : RT} (hR : Rel M X) (hX : WfR X) {m : Nat} (hm : m < M.length) (f : Bool) : Rel (M.set m { lkA M m with flag := f }) { X with fl := X.fl.set m f } where
  len := by dsimp only; rw [List.length_set]; exact hR.len
  own i hi := by
    rw [List.length_set] at hi
    dsimp only
    rw [lkA_set hm]
    by_cases e : m = i
    · subst e; rw [if_pos rfl]; exact hR.own m hi
    · rw [if_neg e]; exact hR.own i hi
  fl i hi := by
    rw [List.length_set] at hi
    rw [gb_set (by rw [hX.l1, hR.len]; exact hm), lkA_set hm]
    by_cases e : m = i
    · rw [if_pos e, if_pos e]
    · rw [if_neg e, if_neg e]; exact hR.fl i hi
  q i hi x h0 h1 := by
    rw [List.length_set] at hi
    rw [lkA_set hm]
    by_cases e : m = i
    · subst e; rw [if_pos rfl]; exact hR.q m hi x h0 h1
    · rw [if_neg e]; exact hR.q i hi x h0 h1
theorem hand_rel {M : List Lk} {X : RT} (hI : Inv2 M) (hR : Rel M X) (hX : WfR X) {m : Nat} (hm : m < M.length) (f : Bool) : (handR X m f).1 = (handM (lkA M m) f).own ∧ Rel (M.set m (handM (lkA M m) f)) (handR X m f).2 := by
  have hf := first_no0 hI hR hm
  have hlo : m < X.own.length := by rw [hR.len]; exact hm
  have hlf : m < X.fl.length := by rw [hX.l1]; exact hlo
  unfold handR handM
  rw [hf]
  cases hq : (lkA M m).q with
  | nil =>
    dsimp only
    refine ⟨rfl, ⟨by dsimp only; rw [List.length_set, List.length_set]; exact hR.len, fun i hi => ?_, fun i hi => ?_, fun i hi x a b => ?_⟩⟩
    all_goals rw [List.length_set] at hi
    · dsimp only; rw [gi_set hlo, lkA_set hm]
      by_cases e : m = i
      · rw [if_pos e, if_pos e]
      · rw [if_neg e, if_neg e]; exact hR.own i hi
    · dsimp only; rw [gb_set hlf, lkA_set hm]
      by_cases e : m = i
      · rw [if_pos e, if_pos e]
      · rw [if_neg e, if_neg e]; exact hR.fl i hi
    · dsimp only
      rw [if_neg (by decide), lkA_set hm]
      by_cases e : m = i
      · subst e; rw [if_pos rfl]
        have := hR.q m hi x a b
        rw [hq] at this
        exact this
      · rw [if_neg e]; exact hR.q i hi x a b
  | cons x q =>
    dsimp only
    have hxm : x ∈ (lkA M m).q := by rw [hq]; exact List.mem_cons_self
    have hxb := lkq_b hI.wf hm hxm
    have hxa := hR.at hI hm hxm
    have hlx : x.id.toNat < X.fo.length := by rw [hX.l2]; omega
    have hnd := lkq_nodup hI.wf hm
    rw [hq, List.map_cons, List.nodup_cons] at hnd
    refine ⟨rfl, ⟨by dsimp only; rw [List.length_set, List.length_set]; exact hR.len, fun i hi => ?_, fun i hi => ?_, fun i hi y a b => ?_⟩⟩
    all_goals rw [List.length_set] at hi
    · dsimp only; rw [gi_set hlo, lkA_set hm]
      by_cases e : m = i
      · rw [if_pos e, if_pos e]
      · rw [if_neg e, if_neg e]; exact hR.own i hi
    · dsimp only; rw [gb_set hlf, lkA_set hm]
      by_cases e : m = i
      · rw [if_pos e, if_pos e]
      · rw [if_neg e, if_neg e]; exact hR.fl i hi
    · dsimp only
      rw [if_pos hxb.1, gi_set hlx, lkA_set hm]
      by_cases en : x.id = y.id
      · rw [if_pos (show x.id.toNat = y.id.toNat by rw [en])]
        have hr : ¬ ((-1 : Int) = (i : Int) ∧ gi X.at' y.id.toNat = y.at') := fun h => by have := h.1; omega
        refine ⟨fun hy => absurd ?_ hr, fun h => absurd h hr⟩
        exfalso
        by_cases e : m = i
        · subst e; rw [if_pos rfl] at hy
          exact hnd.1 (List.mem_map.2 ⟨y, hy, en.symm⟩)
        · rw [if_neg e] at hy
          have := hR.at hI hi hy
          rw [← en, hxa.1] at this
          exact e (by have := this.1; omega)
      · rw [if_neg (show ¬ x.id.toNat = y.id.toNat by omega)]
        by_cases e : m = i
        · subst e; rw [if_pos rfl]
          have := hR.q m hi y a b
          rw [hq, List.mem_cons] at this
          dsimp only
          rw [← this]
          exact ⟨.inr, fun h => h.resolve_left fun h => en (by rw [h])⟩
        · rw [if_neg e]; exact hR.q i hi y a b
theorem mayI_eq (N : Nat) (m n t : Int) : mayI N m n t = if mayB N m n t then 0 else 10 := rfl
theorem lock_rel {M : List Lk} {X : RT} (hI : Inv2 M) (hR : Rel M X) (hX : WfR X) (m n t : Int) : (lockM M m n t).1 = (lockR X m n t).1 ∧ Rel (lockM M m n t).2 (lockR X m n t).2 := by
  unfold lockM lockR readyI
  rw [hR.len, mayI_eq]
  cases hmay : mayB M.length m n t with
  | false => exact ⟨rfl, hR⟩
  | true =>
    obtain ⟨a, b, c, d, e, f⟩ := mayB_iff.1 hmay
    have hm : m.toNat < M.length := by omega
    have hmi : ((m.toNat : Nat) : Int) = m := by omega
    have hni : ((n.toNat : Nat) : Int) = n := by omega
    have ho := hR.own _ hm
    have how := hI.wf.own _ (List.mem_of_getElem? (lk_some hm))
    simp only [if_true, ne_eq, not_true_eq_false, if_false, Bool.true_eq_false]
    cases hw : waitAt M n with
    | some ij =>
      obtain ⟨i, j⟩ := ij
      obtain ⟨hi, x, hx, hxn, hfo, hat⟩ := Rel.some hI hR hw
      rw [if_pos (show 0 ≤ gi X.fo n.toNat by rw [hfo]; omega)]
      exact ⟨rfl, hR⟩
    | none =>
      have hfo := Rel.none hI hR hX ⟨c, d⟩ hw
      rw [hfo]
      simp only [Option.isSome_none, Bool.false_eq_true, if_false]
      rw [if_neg (show ¬ ((0 : Int) ≤ -1) by decide), ho]
      by_cases h1 : (lkA M m.toNat).own = n
      · rw [if_pos h1, if_pos h1, if_pos (by decide)]; exact ⟨rfl, hR⟩
      · rw [if_neg h1, if_neg h1, if_neg (by simp)]
        by_cases h2 : (lkA M m.toNat).own = -1
        · rw [if_neg (by simpa using h2), if_neg (by omega)]
          exact ⟨rfl, hR.take hX hm n⟩
        · rw [if_pos (by simpa using h2), if_pos (by omega)]
          refine ⟨rfl, ?_⟩
          have hnl : n.toNat < X.fo.length := by rw [hX.l2]; omega
          have hnl2 : n.toNat < X.at'.length := by rw [hX.l3]; omega
          have hwn := waitAt_none.1 hw
          refine hR.key hI hm (n := n) (fun i hi _ => ?_) (fun x x0 x1 hx => ?_) (fun x x0 x1 hx => ?_) (fun i hi him x x0 x1 hx => ?_)
          · rw [gi_set hnl, gi_set hnl2, if_neg (by omega), if_neg (by omega)]; exact ⟨rfl, rfl⟩
          · rw [insK_mem]
            exact ⟨fun h => h.resolve_left fun h => hx (by rw [h]), .inr⟩
          · rw [insK_mem, hx, gi_set hnl, gi_set hnl2, if_pos rfl, if_pos rfl, hmi]
            refine ⟨fun h => ⟨rfl, ?_⟩, fun h => .inl ?_⟩
            · rcases h with rfl | h
              · rfl
              · exact absurd hx (hwn _ (List.mem_of_getElem? (lk_some hm)) x h)
            · obtain ⟨xa, xi⟩ := x
              dsimp only at *
              rw [hx, h.2]
          · refine ⟨fun h => hwn _ (List.mem_of_getElem? (lk_some hi)) x h hx, ?_⟩
            rw [hx, gi_set hnl, if_pos rfl]
            omega
theorem try_rel {M : List Lk} {X : RT} (hI : Inv2 M) (hR : Rel M X) (hX : WfR X) (m n : Int) : (tryM M m n).1 = (tryR X m n).1 ∧ Rel (tryM M m n).2 (tryR X m n).2 := by
  have hL := lock_rel hI hR hX m n 0
  unfold tryR
  by_cases hc : mayB X.own.length m n 0 = true ∧ gi X.fo n.toNat < 0 ∧ 0 ≤ gi X.own m.toNat ∧ gi X.own m.toNat ≠ n
  · rw [if_pos hc]
    obtain ⟨h1, h2, h3, h4⟩ := hc
    rw [hR.len] at h1
    obtain ⟨a, b, c, d, e, f⟩ := mayB_iff.1 h1
    have hm : m.toNat < M.length := by omega
    rw [hR.own _ hm] at h3 h4
    have hw : waitAt M n = none := by
      cases hw : waitAt M n with
      | none => rfl
      | some ij =>
        obtain ⟨i, j⟩ := ij
        obtain ⟨hi, x, hx, hxn, hfo, hat⟩ := Rel.some hI hR hw
        omega
    have hr : readyI M m n 0 = 0 := by
      unfold readyI
      rw [mayI_eq, h1, hw]
      simp [h4]
    unfold tryM
    rw [hr, if_neg (by simp), if_pos (by omega)]
    exact ⟨rfl, hR⟩
  · rw [if_neg hc]
    have hM : tryM M m n = ((lockM M m n 0).1.2, (lockM M m n 0).2) := by
      unfold tryM lockM
      by_cases hr : readyI M m n 0 = 0
      · obtain ⟨⟨a, b, c, d, e, f⟩, hw, ho⟩ := readyI_0 hr
        have hm : m.toNat < M.length := by omega
        have hfo := Rel.none hI hR hX ⟨c, d⟩ hw
        have how := hI.wf.own _ (List.mem_of_getElem? (lk_some hm))
        have h1 : (lkA M m.toNat).own = -1 := by
          by_cases h2 : (lkA M m.toNat).own = -1
          · exact h2
          · refine absurd ⟨?_, ?_, ?_, ?_⟩ hc
            · rw [hR.len]; exact mayB_iff.2 ⟨a, b, c, d, e, f⟩
            · rw [hfo]; decide
            · rw [hR.own _ hm]; omega
            · rw [hR.own _ hm]; exact ho
        simp [hr, h1]
      · simp [hr]
    rw [hM]
    exact ⟨by rw [hL.1], hL.2⟩
theorem unlock_rel {M : List Lk} {X : RT} (hI : Inv2 M) (hR : Rel M X) (hX : WfR X) (m n : Int) : (unlockM M m n).1 = (unlockR X m n).1 ∧ Rel (unlockM M m n).2 (unlockR X m n).2 := by
  unfold unlockM unlockR
  rw [hR.len, mayI_eq]
  cases hmay : mayB M.length m n 0 with
  | false => exact ⟨rfl, hR⟩
  | true =>
    obtain ⟨a, b, c, d, e, f⟩ := mayB_iff.1 hmay
    have hm : m.toNat < M.length := by omega
    simp only [if_true, ne_eq, not_true_eq_false, if_false, Bool.true_eq_false]
    rw [hR.own _ hm]
    by_cases h : (lkA M m.toNat).own = n
    · rw [if_neg (by simpa using h), if_neg (by simpa using h)]
      obtain ⟨h1, h2⟩ := hand_rel hI hR hX hm false
      exact ⟨by rw [h1], h2⟩
    · rw [if_pos (by simpa using h), if_pos (by simpa using h)]; exact ⟨rfl, hR⟩
theorem lkq_erase {M : List Lk} (hI : Inv2 M) {i j : Nat} {x : Ky} (hi : i < M.length) (hx : (lkA M i).q[j]? = some x) : (∀ y ∈ (lkA M i).q.eraseIdx j, y.id ≠ x.id) ∧ ∀ y : Ky, y.id ≠ x.id → (y ∈ (lkA M i).q.eraseIdx j ↔ y ∈ (lkA M i).q) := by
  refine ⟨erase_ne hx (lkq_nodup hI.wf hi), fun y hy => ⟨List.mem_of_mem_eraseIdx, fun h => ?_⟩⟩
  obtain ⟨b, hb⟩ := List.getElem?_of_mem h
  refine List.mem_eraseIdx_iff_getElem?.2 ⟨b, fun e => hy ?_, hb⟩
  subst e
  rw [hx] at hb
  cases hb
  rfl
theorem rekey_rel {M : List Lk} {X : RT} (hI : Inv2 M) (hR : Rel M X) (hX : WfR X) (n t : Int) : (rekeyM M n t).1 = (rekeyR X n t).1 ∧ Rel (rekeyM M n t).2 (rekeyR X n t).2 := by
  unfold rekeyM rekeyR
  rw [hR.len, mayI_eq]
  cases hmay : mayB M.length 0 n t with
  | false => exact ⟨rfl, hR⟩
  | true =>
    obtain ⟨a, b, c, d, e, f⟩ := mayB_iff.1 hmay
    have hni : ((n.toNat : Nat) : Int) = n := by omega
    simp only [if_true, ne_eq, not_true_eq_false, if_false, Bool.true_eq_false]
    cases hw : waitAt M n with
    | none => rw [Rel.none hI hR hX ⟨c, d⟩ hw]; exact ⟨rfl, hR⟩
    | some ij =>
      obtain ⟨i, j⟩ := ij
      obtain ⟨hi, x, hx, hxn, hfo, hat⟩ := Rel.some hI hR hw
      rw [if_neg (by omega)]
      dsimp only
      refine ⟨rfl, ?_⟩
      obtain ⟨he1, he2⟩ := lkq_erase hI hi hx
      rw [hxn] at he1 he2
      have hnl2 : n.toNat < X.at'.length := by rw [hX.l3]; omega
      refine hR.key hI hi (n := n) (fun k hk _ => ?_) (fun y x0 x1 hy => ?_) (fun y x0 x1 hy => ?_) (fun k hk hki y x0 x1 hy => ?_)
      · rw [gi_set hnl2, if_neg (by omega)]; exact ⟨rfl, rfl⟩
      · rw [insK_mem, he2 y hy]
        exact ⟨fun h => h.resolve_left fun h => hy (by rw [h]), .inr⟩
      · rw [insK_mem, hy, gi_set hnl2, if_pos rfl]
        refine ⟨fun h => ⟨hfo, ?_⟩, fun h => .inl ?_⟩
        · rcases h with rfl | h
          · rfl
          · exact absurd hy (he1 y h)
        · obtain ⟨xa, xi⟩ := y
          dsimp only at *
          rw [hy, h.2]
      · refine ⟨fun h => ?_, ?_⟩
        · have := (hR.at hI hk h).1
          rw [hy] at this; omega
        · rw [hy]; omega
theorem leave_rel {M : List Lk} {X : RT} (hI : Inv2 M) (hR : Rel M X) (hX : WfR X) (n : Int) : (leaveM M n).1 = (leaveR X n).1 ∧ Rel (leaveM M n).2 (leaveR X n).2 ∧ (mayB M.length 0 n 0 = true → Rel (leaveM M n).2 { X with fo := X.fo.set n.toNat (-1) }) := by
  unfold leaveM leaveR
  rw [hR.len, mayI_eq]
  cases hmay : mayB M.length 0 n 0 with
  | false => exact ⟨rfl, hR, fun h => by cases h⟩
  | true =>
    obtain ⟨a, b, c, d, e, f⟩ := mayB_iff.1 hmay
    have hni : ((n.toNat : Nat) : Int) = n := by omega
    have hnl : n.toNat < X.fo.length := by rw [hX.l2]; omega
    simp only [if_true, ne_eq, not_true_eq_false, if_false, Bool.true_eq_false]
    cases hw : waitAt M n with
    | none =>
      have hfo := Rel.none hI hR hX ⟨c, d⟩ hw
      rw [hfo, if_pos (by decide)]
      refine ⟨rfl, hR, fun _ => ?_⟩
      have : X.fo.set n.toNat (-1) = X.fo := by
        refine List.ext_getElem? fun k => ?_
        rw [List.getElem?_set]
        by_cases e : n.toNat = k
        · subst e; rw [if_pos rfl, if_pos hnl, gi_get hnl, hfo]
        · rw [if_neg e]
      rw [this]; exact hR
    | some ij =>
      obtain ⟨i, j⟩ := ij
      obtain ⟨hi, x, hx, hxn, hfo, hat⟩ := Rel.some hI hR hw
      rw [if_neg (by omega)]
      dsimp only
      obtain ⟨he1, he2⟩ := lkq_erase hI hi hx
      rw [hxn] at he1 he2
      have key : Rel (M.set i { lkA M i with q := (lkA M i).q.eraseIdx j }) { X with fo := X.fo.set n.toNat (-1) } := by
        refine hR.key hI hi (n := n) (fun k hk _ => ?_) (fun y x0 x1 hy => ?_) (fun y x0 x1 hy => ?_) (fun k hk hki y x0 x1 hy => ?_)
        · rw [gi_set hnl, if_neg (by omega)]; exact ⟨rfl, rfl⟩
        · exact he2 y hy
        · rw [hy, gi_set hnl, if_pos rfl]
          exact ⟨fun h => absurd hy (he1 y h), fun h => by have := h.1; omega⟩
        · refine ⟨fun h => ?_, ?_⟩
          · have := (hR.at hI hk h).1
            rw [hy] at this; omega
          · rw [hy, gi_set hnl, if_pos rfl]; omega
      exact ⟨rfl, key, fun _ => key⟩
theorem quit_rel {M : List Lk} {X : RT} (hI : Inv2 M) (hR : Rel M X) (hX : WfR X) (n : Int) :
    ((quitM M n).1.2 = (quitR X n).1.2 ∧ (quitM M n).1.1.map (·.1) = (quitR X n).1.1.1 ∧ (quitM M n).1.1.map (·.2) = (quitR X n).1.1.2) ∧ Rel (quitM M n).2 (quitR X n).2 := by
  obtain ⟨-, -, hlr⟩ := leave_rel hI hR hX n
  unfold quitM quitR
  rw [hR.len, mayI_eq]
  cases hmay : mayB M.length 0 n 0 with
  | false => exact ⟨⟨rfl, rfl, rfl⟩, hR⟩
  | true =>
    obtain ⟨a, b, c, d, e, f⟩ := mayB_iff.1 hmay
    have hR0 := hlr hmay
    have hI0 := hI.leave n
    have hl0 := leave_len M n
    generalize (leaveM M n).2 = M0 at *
    rw [if_neg (by simp), if_neg (by simp)]
    have hX0 : WfR { X with fo := X.fo.set n.toNat (-1) } := hX.foSet (by have := hX.pos; omega)
    have hN : heldN M0 n = heldK M0 n M.length := by unfold heldN heldK; rw [hl0]
    rw [hN]
    have key : ∀ k, k ≤ M.length → Rel ((heldK M0 n k).foldl quitS ([], M0)).2 (quitRK X n k).2 ∧ Inv2 ((heldK M0 n k).foldl quitS ([], M0)).2 ∧ ((heldK M0 n k).foldl quitS ([], M0)).2.length = M.length
        ∧ ((heldK M0 n k).foldl quitS ([], M0)).1.map (·.1) = (quitRK X n k).1.1 ∧ ((heldK M0 n k).foldl quitS ([], M0)).1.map (·.2) = (quitRK X n k).1.2
        ∧ ∀ i, k ≤ i → lkA ((heldK M0 n k).foldl quitS ([], M0)).2 i = lkA M0 i := by
      intro k
      induction k with
      | zero => intro _; exact ⟨hR0, hI0, hl0, rfl, rfl, fun i _ => rfl⟩
      | succ k ih =>
        intro hk
        obtain ⟨r1, r2, r3, r4, r5, r6⟩ := ih (by omega)
        have hXk := (hX.quitK n k).1
        rw [heldK_succ, quitRK_succ, List.foldl_append]
        have hat := r6 k (Nat.le_refl k)
        generalize (heldK M0 n k).foldl quitS ([], M0) = S at *
        generalize quitRK X n k = T at *
        have hkS : k < S.2.length := by omega
        unfold quitRS
        rw [r1.own k hkS, hat]
        by_cases ho : (lkA M0 k).own = n
        · rw [if_pos ho, if_pos ho, List.foldl_cons, List.foldl_nil]
          obtain ⟨h1, h2⟩ := hand_rel r2 r1 hXk hkS true
          unfold quitS
          dsimp only
          refine ⟨h2, r2.hand hkS true, by rw [List.length_set]; exact r3, by rw [List.map_append, r4]; rfl, by rw [List.map_append, r5, h1]; rfl, fun i hi => ?_⟩
          rw [lkA_set hkS, if_neg (by omega)]
          exact r6 i (by omega)
        · rw [if_neg ho, if_neg ho, List.foldl_nil]
          exact ⟨r1, r2, r3, r4, r5, fun i hi => r6 i (by omega)⟩
    obtain ⟨r1, r2, r3, r4, r5, r6⟩ := key M.length (Nat.le_refl _)
    exact ⟨⟨rfl, r4, r5⟩, r1⟩
theorem does_rel {M : List Lk} {X : RT} (hI : Inv2 M) (hR : Rel M X) (hX : WfR X) (o : OpT) : doesP M X o ∧ Rel (doesM M o) (doesX X o) := by
  unfold doesP doesM doesX
  by_cases h0 : o.ask = 0
  · simp only [h0, if_true]; exact lock_rel hI hR hX o.m o.n o.t
  by_cases h1 : o.ask = 1
  · simp only [h0, h1, if_true, if_false]; exact try_rel hI hR hX o.m o.n
  by_cases h2 : o.ask = 2
  · simp only [h0, h1, h2, if_true, if_false]; exact unlock_rel hI hR hX o.m o.n
  by_cases h3 : o.ask = 3
  · simp only [h0, h1, h2, h3, if_true, if_false]; exact rekey_rel hI hR hX o.n o.t
  by_cases h4 : o.ask = 4
  · simp only [h0, h1, h2, h3, h4, if_true, if_false]; exact ⟨(leave_rel hI hR hX o.n).1, (leave_rel hI hR hX o.n).2.1⟩
  simp only [h0, h1, h2, h3, h4, if_false]
  exact quit_rel hI hR hX o.n
theorem new_rel {N : Nat} (h1 : 1 ≤ N) (h2 : N ≤ 32) : Rel (new0 N) (newR N) where
  len := by unfold newR new0; simp
  own i hi := by
    rw [new0_len] at hi
    unfold newR new0 gi lkA
    dsimp only
    rw [List.getD_eq_getElem?_getD, List.getD_eq_getElem?_getD, List.getElem?_replicate, List.getElem?_replicate, if_pos hi, if_pos hi]
    rfl
  fl i hi := by
    rw [new0_len] at hi
    unfold newR new0 gb lkA
    dsimp only
    rw [List.getD_eq_getElem?_getD, List.getD_eq_getElem?_getD, List.getElem?_replicate, List.getElem?_replicate, if_pos hi, if_pos hi]
    rfl
  q i hi x a b := by
    rw [new0_len] at hi
    have e1 : (lkA (new0 N) i).q = [] := by
      unfold new0 lkA
      rw [List.getD_eq_getElem?_getD, List.getElem?_replicate, if_pos hi]
      rfl
    have e3 : (newR N).fo = List.replicate 64 (-1) := by
      unfold newR foK
      dsimp only
      rw [Nat.sub_self, List.replicate_zero, List.append_nil]
    have e2 : gi (newR N).fo x.id.toNat = -1 := by
      rw [e3]
      unfold gi
      rw [List.getD_eq_getElem?_getD, List.getElem?_replicate, if_pos (by omega)]
      rfl
    rw [e1, e2]
    exact ⟨fun h => (by cases h), fun h => by have := h.1; omega⟩
end Go.Proofs.Ytoaaoijdknbanaa
