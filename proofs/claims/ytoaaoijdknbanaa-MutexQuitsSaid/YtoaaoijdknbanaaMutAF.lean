/- MutexQuits: what Quit makes of a table, in plain words. Conditions: none. -/
import Derived.Test.YtoaaoijdknbanaaMutAE
set_option linter.all false
set_option linter.deprecated false
namespace Go.Proofs.Ytoaaoijdknbanaa
open Go.Sep
variable [B0 : Base]
def quitL (M : List Lk) (n : Int) : List Lk := M.map fun k => if k.own = n then handM k true else k
theorem quitL_len (M : List Lk) (n : Int) : (quitL M n).length = M.length := by unfold quitL; simp
theorem quitL_get {M : List Lk} {n : Int} {i : Nat} (hi : i < M.length) : lkA (quitL M n) i = if (lkA M i).own = n then handM (lkA M i) true else lkA M i := by
  apply lkA_eq
  unfold quitL
  rw [List.getElem?_map, lk_some hi]; rfl
theorem lk_ext {M M' : List Lk} (hl : M.length = M'.length) (h : ∀ i, i < M.length → lkA M i = lkA M' i) : M = M' := by
  apply List.ext_getElem?
  intro i
  by_cases hi : i < M.length
  · rw [lk_some hi, lk_some (by omega), h i hi]
  · rw [List.getElem?_eq_none_iff.2 (by omega), List.getElem?_eq_none_iff.2 (by omega)]
theorem quitF_eq {l : List Nat} : ∀ (s : List (Int × Int) × List Lk), l.Nodup → (∀ m ∈ l, m < s.2.length) →
    (l.foldl quitS s).1 = s.1 ++ l.map (fun m : Nat => ((m : Int), (handM (lkA s.2 m) true).own)) ∧ (l.foldl quitS s).2.length = s.2.length ∧ ∀ i, i < s.2.length → lkA (l.foldl quitS s).2 i = if i ∈ l then handM (lkA s.2 i) true else lkA s.2 i := by
  induction l with
  | nil => intro s _ _; simp
  | cons m l ih =>
    intro s hn hl
    obtain ⟨h1, h2⟩ := List.nodup_cons.1 hn
    have hm := hl m List.mem_cons_self
    have hlen : (quitS s m).2.length = s.2.length := by unfold quitS; simp
    obtain ⟨a, b, c⟩ := ih (quitS s m) h2 (fun m' hm' => by rw [hlen]; exact hl m' (List.mem_cons_of_mem _ hm'))
    have hset : ∀ j, lkA (quitS s m).2 j = if m = j then handM (lkA s.2 m) true else lkA s.2 j := fun j => lkA_set hm _
    rw [List.foldl_cons]
    refine ⟨?_, by rw [b, hlen], fun i hi => ?_⟩
    · rw [a]
      have : (quitS s m).1 = s.1 ++ [((m : Int), (handM (lkA s.2 m) true).own)] := rfl
      rw [this, List.append_assoc, List.map_cons]
      congr 1
      rw [List.singleton_append]
      congr 1
      apply List.map_congr_left
      intro m' hm'
      rw [hset, if_neg (fun e => h1 (by rw [e]; exact hm'))]
    · rw [c i (by rw [hlen]; exact hi), hset]
      by_cases e : m = i
      · subst e
        rw [if_pos rfl, if_neg h1, if_pos List.mem_cons_self]
      · rw [if_neg e]
        by_cases e2 : i ∈ l
        · rw [if_pos e2, if_pos (List.mem_cons_of_mem _ e2)]
        · rw [if_neg e2, if_neg (by intro h; rcases List.mem_cons.1 h with h | h; exact e h.symm; exact e2 h)]
theorem leave_own {M : List Lk} {n : Int} (i : Nat) : (lkA (leaveM M n).2 i).own = (lkA M i).own ∧ (lkA (leaveM M n).2 i).flag = (lkA M i).flag := by
  unfold leaveM
  split
  · exact ⟨rfl, rfl⟩
  · cases hw : waitAt M n with
    | none => exact ⟨rfl, rfl⟩
    | some ij =>
      obtain ⟨a, b⟩ := ij
      obtain ⟨k, x, hk, -⟩ := waitAt_some hw
      dsimp only
      rw [lkA_set (List.getElem?_eq_some_iff.1 hk).1]
      by_cases e : a = i
      · subst e; rw [if_pos rfl]; exact ⟨rfl, rfl⟩
      · rw [if_neg e]; exact ⟨rfl, rfl⟩
theorem leave_ow {M : List Lk} {n : Int} {i : Nat} : (lkA (leaveM M n).2 i).own = (lkA M i).own := (leave_own i).1
theorem heldN_leave (M : List Lk) (n : Int) : heldN (leaveM M n).2 n = heldN M n := by
  unfold heldN
  rw [leave_len]
  apply List.filter_congr
  intro i _
  rw [leave_ow]
theorem heldN_nodup (M : List Lk) (n : Int) : (heldN M n).Nodup := List.nodup_range.filter _
theorem leave_none {M : List Lk} (h : WfM M) {n : Int} (hl : 1 ≤ M.length) (hn : 0 ≤ n ∧ n < 64) : waitAt (leaveM M n).2 n = none := by
  have : mayI M.length 0 n 0 = 0 := mayI_0.2 ⟨by omega, by omega, by omega, by omega, by decide, by decide⟩
  unfold leaveM
  rw [if_neg (by simp [this])]
  cases hw : waitAt M n with
  | none => exact hw
  | some ij =>
    obtain ⟨a, b⟩ := ij
    obtain ⟨k, x, hk, hj, hx, -, -⟩ := waitAt_some hw
    have ha := (List.getElem?_eq_some_iff.1 hk).1
    dsimp only
    rw [lkA_eq hk]
    have hnd := h.nd hk
    refine waitAt_none.2 fun k' hk' y hy e => ?_
    obtain ⟨i, hi⟩ := List.getElem?_of_mem hk'
    rw [List.getElem?_set] at hi
    by_cases e2 : a = i
    · subst e2
      rw [if_pos rfl, if_pos ha] at hi
      cases hi
      exact erase_ne hj (List.nodup_append.1 hnd).1 y hy (e.trans hx.symm)
    · rw [if_neg e2] at hi
      exact (List.nodup_append.1 hnd).2.2 n (List.mem_map.2 ⟨x, List.mem_of_getElem? hj, hx⟩) n (List.mem_map.2 ⟨y, List.mem_flatMap.2 ⟨k', List.mem_eraseIdx_iff_getElem?.2 ⟨i, fun h => e2 h.symm, hi⟩, hy⟩, e⟩) rfl
/-- Behind Quit. -/
def quitT (M : List Lk) (n : Int) : List Lk := quitL (leaveM M n).2 n
theorem quit_eq {M : List Lk} {n : Int} (hl : 1 ≤ M.length) (hn : 0 ≤ n ∧ n < 64) : quitM M n = (((heldN M n).map (fun m : Nat => ((m : Int), (lkA (quitT M n) m).own)), 0), quitT M n) := by
  have : mayI M.length 0 n 0 = 0 := mayI_0.2 ⟨by omega, by omega, by omega, by omega, by decide, by decide⟩
  unfold quitM
  rw [if_neg (by simp [this]), heldN_leave]
  have hmem : ∀ m ∈ heldN M n, m < (leaveM M n).2.length := fun m hm => by rw [leave_len]; exact (heldN_mem.1 hm).1
  obtain ⟨a, b, c⟩ := quitF_eq (l := heldN M n) ([], (leaveM M n).2) (heldN_nodup M n) hmem
  have e2 : ((heldN M n).foldl quitS ([], (leaveM M n).2)).2 = quitT M n := by
    unfold quitT
    refine lk_ext (by rw [b, quitL_len]) fun i hi => ?_
    rw [b] at hi
    rw [c i hi, quitL_get hi]
    have : i ∈ heldN M n ↔ (lkA (leaveM M n).2 i).own = n := by
      rw [heldN_mem, leave_ow]
      rw [leave_len] at hi
      exact ⟨fun h => h.2, fun h => ⟨hi, h⟩⟩
    by_cases e : i ∈ heldN M n
    · rw [if_pos e, if_pos (this.1 e)]
    · rw [if_neg e, if_neg (fun h => e (this.2 h))]
  rw [e2, a]
  refine Prod.ext (Prod.ext ?_ rfl) rfl
  dsimp only
  rw [List.nil_append]
  apply List.map_congr_left
  intro m hm
  rw [← e2, c m (hmem m hm), if_pos hm]
theorem quitT_len (M : List Lk) (n : Int) : (quitT M n).length = M.length := by unfold quitT; rw [quitL_len, leave_len]
theorem hand_q (k : Lk) (f : Bool) : ∀ x ∈ (handM k f).q, x ∈ k.q := by
  intro x hx
  unfold handM at hx
  cases hq : k.q with
  | nil => rw [hq] at hx; cases hx
  | cons y q => rw [hq] at hx; exact List.mem_cons_of_mem _ hx
theorem hand_flag (k : Lk) (f : Bool) : (handM k f).flag = f := by unfold handM; split <;> rfl
theorem hand_own (k : Lk) (f : Bool) : (handM k f).own = -1 ∨ ∃ x ∈ k.q, (handM k f).own = x.id := by
  unfold handM
  cases hq : k.q with
  | nil => exact .inl rfl
  | cons y q => exact .inr ⟨y, List.mem_cons_self, rfl⟩
structure QuitK (M M' : List Lk) (n : Int) : Prop where
  len : M'.length = M.length
  inv : Inv2 M'
  out : quitM M n = (((heldN M n).map (fun m : Nat => ((m : Int), (lkA M' m).own)), 0), M')
  wait : waitAt M' n = none
  held : heldN M' n = []
  again : quitM M' n = (([], 0), M')
  flag : ∀ m ∈ heldN M n, (lkA M' m).flag = true
  ne : ∀ m, m < M.length → (lkA M' m).own ≠ n
  same : ∀ m, m < M.length → m ∉ heldN M n → (lkA M' m).own = (lkA M m).own
theorem quitK_of {M : List Lk} {n : Int} (h : Inv2 M) (hl : 1 ≤ M.length) (hn : 0 ≤ n ∧ n < 64) : QuitK M (quitT M n) n := by
  have h1 := h.leave n
  have hnone := leave_none h.wf hl hn
  have hgl : ∀ m, m < M.length → m < (leaveM M n).2.length := fun m hm => by rw [leave_len]; exact hm
  have hout := quit_eq hl hn
  have hinv : Inv2 (quitT M n) := by have := h.quit n; rw [hout] at this; exact this
  have hq : ∀ m, m < M.length → ∀ x ∈ (lkA (quitT M n) m).q, x ∈ (lkA (leaveM M n).2 m).q := fun m hm x hx => by
    unfold quitT at hx
    rw [quitL_get (hgl m hm)] at hx
    split at hx
    · exact hand_q _ _ x hx
    · exact hx
  have hnq : ∀ m, m < M.length → ∀ x ∈ (lkA (leaveM M n).2 m).q, x.id ≠ n := fun m hm x hx => waitAt_none.1 hnone _ (List.mem_of_getElem? (lk_some (hgl m hm))) x hx
  have hwait : waitAt (quitT M n) n = none := by
    refine waitAt_none.2 fun k hk x hx => ?_
    obtain ⟨i, hi⟩ := List.getElem?_of_mem hk
    have hi2 := (List.getElem?_eq_some_iff.1 hi).1
    rw [quitT_len] at hi2
    have := lkA_eq hi
    rw [← this] at hx
    exact hnq i hi2 x (hq i hi2 x hx)
  have hne : ∀ m, m < M.length → (lkA (quitT M n) m).own ≠ n := fun m hm => by
    unfold quitT
    rw [quitL_get (hgl m hm)]
    split
    · rcases hand_own (lkA (leaveM M n).2 m) true with e | ⟨x, hx, e⟩
      · rw [e]; omega
      · rw [e]; exact hnq m hm x hx
    · assumption
  have hheld : heldN (quitT M n) n = [] := by
    rw [List.eq_nil_iff_forall_not_mem]
    intro m hm
    obtain ⟨a, b⟩ := heldN_mem.1 hm
    rw [quitT_len] at a
    exact hne m a b
  have hlv : leaveM (quitT M n) n = (14, quitT M n) := by
    have : mayI (quitT M n).length 0 n 0 = 0 := mayI_0.2 ⟨by omega, by rw [quitT_len]; omega, by omega, by omega, by decide, by decide⟩
    unfold leaveM
    rw [if_neg (by simp [this]), hwait]
  refine ⟨quitT_len M n, hinv, hout, hwait, hheld, ?_, fun m hm => ?_, hne, fun m hm hnm => ?_⟩
  · have : mayI (quitT M n).length 0 n 0 = 0 := mayI_0.2 ⟨by omega, by rw [quitT_len]; omega, by omega, by omega, by decide, by decide⟩
    unfold quitM
    rw [if_neg (by simp [this]), hlv]
    dsimp only
    rw [hheld]; rfl
  · obtain ⟨a, b⟩ := heldN_mem.1 hm
    unfold quitT
    rw [quitL_get (hgl m a), if_pos (by rw [leave_ow]; exact b)]
    exact hand_flag ..
  · unfold quitT
    rw [quitL_get (hgl m hm), if_neg (by rw [leave_ow]; exact fun e => hnm (heldN_mem.2 ⟨hm, e⟩)), leave_ow]
/-! ### Numbers of the four -/
def flL (f : Nat → Int) : List Int := (List.range 4).map f
theorem flL_len (f : Nat → Int) : (flL f).length = 4 := by unfold flL; simp
theorem flL_gi {f : Nat → Int} {j : Nat} (h : j < 4) : gi (flL f) j = f j := by
  unfold gi flL; rw [List.getD_eq_getElem?_getD, List.getElem?_map, List.getElem?_range h]; rfl
theorem flL_take {f : Nat → Int} {k : Nat} (h : k < 4) : (flL f).take (k + 1) = (flL f).take k ++ [f k] := by
  have : (flL f)[k]? = some (f k) := by unfold flL; rw [List.getElem?_map, List.getElem?_range h]; rfl
  rw [List.take_add_one, this]; rfl
theorem flL_set {f g : Nat → Int} {m : Nat} {y : Int} (hm : m < 4) (h1 : g m = y) (h2 : ∀ j, j ≠ m → g j = f j) : (flL f).set m y = flL g := by
  unfold flL
  apply List.ext_getElem?
  intro i
  rw [List.getElem?_set]
  by_cases hi : i < 4
  · rw [List.getElem?_map, List.getElem?_range hi, List.getElem?_map, List.getElem?_range hi]
    by_cases e : m = i
    · subst e; simp [hm, h1]
    · simp [e, h2 i (fun h => e h.symm)]
  · have e1 : ((List.range 4).map f)[i]? = none := by rw [List.getElem?_eq_none_iff]; simp; omega
    have e2 : ((List.range 4).map g)[i]? = none := by rw [List.getElem?_eq_none_iff]; simp; omega
    rw [e1, e2]
    have : ¬ m = i := by omega
    simp [this]
theorem flL_congr {f g : Nat → Int} (h : ∀ j, j < 4 → f j = g j) : flL f = flL g := by
  unfold flL
  apply List.map_congr_left
  intro j hj
  exact h j (List.mem_range.1 hj)
/-! ### Unlocked, one by one -/
def unK (M' : List Lk) (hh : List Nat) : Nat → List Lk
  | 0 => M'
  | i + 1 => match hh[i]? with
    | none => unK M' hh i
    | some m => if (lkA M' m).own < 0 then unK M' hh i else (unK M' hh i).set m (handM (lkA (unK M' hh i) m) false)
theorem unK_len (M' : List Lk) (hh : List Nat) (i : Nat) : (unK M' hh i).length = M'.length := by
  induction i with
  | zero => rfl
  | succ i ih =>
    unfold unK
    split
    · exact ih
    · split
      · exact ih
      · rw [List.length_set]; exact ih
theorem unK_at {M' : List Lk} {hh : List Nat} (hn : hh.Nodup) (hb : ∀ m ∈ hh, m < M'.length) {i j : Nat} {m : Nat} (hij : i ≤ j) (hm : hh[j]? = some m) : lkA (unK M' hh i) m = lkA M' m := by
  induction i with
  | zero => rfl
  | succ i ih =>
    have ih := ih (by omega)
    unfold unK
    split
    · exact ih
    · rename_i m' hm'
      split
      · exact ih
      · rw [lkA_set (by rw [unK_len]; exact hb m' (List.mem_of_getElem? hm'))]
        rw [if_neg, ih]
        rintro rfl
        obtain ⟨a1, a2⟩ := List.getElem?_eq_some_iff.1 hm
        obtain ⟨b1, b2⟩ := List.getElem?_eq_some_iff.1 hm'
        have := (List.getElem_inj (h₀ := a1) (h₁ := b1) hn).1 (a2.trans b2.symm)
        omega
end Go.Proofs.Ytoaaoijdknbanaa
