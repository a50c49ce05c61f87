/- mutex: what is always so of a table, in plain words. Conditions: none. -/
import Derived.Test.YtoaaoijdknbanaaMutAB
set_option linter.all false
set_option linter.deprecated false
namespace Go.Proofs.Ytoaaoijdknbanaa
open Go.Sep
variable [B0 : Base]
theorem kyB_iff {x y : Ky} : kyB x y = true ↔ x.at' < y.at' ∨ x.at' = y.at' ∧ x.id < y.id := by unfold kyB; exact decide_eq_true_iff
theorem kyB_trans {x y z : Ky} (h1 : kyB x y = true) (h2 : kyB y z = true) : kyB x z = true := by
  rw [kyB_iff] at *; omega
theorem kyB_total {x y : Ky} (h : x.id ≠ y.id) (hn : kyB x y = false) : kyB y x = true := by
  have : ¬ kyB x y = true := by simp [hn]
  rw [kyB_iff] at *; omega
theorem kyB_asymm {x y : Ky} (h : kyB x y = true) : kyB y x = false := by
  have : ¬ kyB y x = true := by rw [kyB_iff] at *; omega
  simpa using this
theorem insK_cons (y : Ky) (q : List Ky) (x : Ky) : insK (y :: q) x = if kyB x y = true then x :: y :: q else y :: insK q x := by
  unfold insK insAt
  rw [List.findIdx?_cons]
  cases h : kyB x y with
  | true => rfl
  | false =>
    simp only [Bool.false_eq_true, if_false]
    cases List.findIdx? (kyB x) q with
    | none => simp
    | some k => simp
def Srt (q : List Ky) : Prop := q.Pairwise fun x y => kyB x y = true
theorem insK_mem {q : List Ky} {x y : Ky} : y ∈ insK q x ↔ y = x ∨ y ∈ q := by rw [(insK_perm q x).mem_iff]; exact List.mem_cons
theorem insK_srt {q : List Ky} {x : Ky} (h : Srt q) (hn : ∀ y ∈ q, y.id ≠ x.id) : Srt (insK q x) := by
  induction q with
  | nil => exact List.pairwise_singleton ..
  | cons y q ih =>
    rw [insK_cons]
    obtain ⟨h1, h2⟩ := List.pairwise_cons.1 h
    cases hk : kyB x y with
    | true =>
      rw [if_pos rfl]
      exact List.pairwise_cons.2 ⟨fun z hz => by
        rcases List.mem_cons.1 hz with rfl | hz
        · exact hk
        · exact kyB_trans hk (h1 z hz), h⟩
    | false =>
      rw [if_neg (by simp)]
      refine List.pairwise_cons.2 ⟨fun z hz => ?_, ih h2 fun z hz => hn z (List.mem_cons_of_mem _ hz)⟩
      rcases insK_mem.1 hz with rfl | hz
      · exact kyB_total (fun e => hn y List.mem_cons_self e.symm) hk
      · exact h1 z hz
structure InvL (k : Lk) : Prop where
  srt : Srt k.q
  own : k.q ≠ [] → k.own ≠ -1
  ne : ∀ x ∈ k.q, x.id ≠ k.own
structure Inv2 (M : List Lk) : Prop where
  wf : WfM M
  inv : ∀ k ∈ M, InvL k
theorem Inv2.set {M : List Lk} (h : Inv2 M) {i : Nat} {k : Lk} (hw : WfM (M.set i k)) (hk : InvL k) : Inv2 (M.set i k) :=
  ⟨hw, fun k' hk' => by
    rcases List.mem_or_eq_of_mem_set hk' with h' | rfl
    · exact h.inv _ h'
    · exact hk⟩
theorem InvL.empty {o : Int} {f : Bool} : InvL ⟨o, f, []⟩ := ⟨List.Pairwise.nil, fun h => absurd rfl h, fun _ h => by cases h⟩
theorem InvL.sub {k : Lk} (h : InvL k) {q : List Ky} {f : Bool} (hs : q.Sublist k.q) : InvL ⟨k.own, f, q⟩ :=
  ⟨h.srt.sublist hs, fun hq => h.own fun e => hq (by rw [e] at hs; exact List.sublist_nil.1 hs), fun x hx => h.ne x (hs.subset hx)⟩
theorem InvL.hand {M : List Lk} (hw : WfM M) {i : Nat} {k : Lk} (hk : M[i]? = some k) (h : InvL k) (f : Bool) : InvL (handM k f) := by
  have hm := List.mem_of_getElem? hk
  unfold handM
  cases hq : k.q with
  | nil => exact .empty
  | cons x q =>
    have hs := h.srt
    rw [hq] at hs
    obtain ⟨h1, h2⟩ := List.pairwise_cons.1 hs
    have hx := hw.keys k hm x (by rw [hq]; exact List.mem_cons_self)
    have hnd := (List.nodup_append.1 (hw.nd hk)).1
    rw [hq, List.map_cons, List.nodup_cons] at hnd
    exact ⟨h2, fun _ => by dsimp only; omega, fun y hy e => hnd.1 (List.mem_map.2 ⟨y, hy, e⟩)⟩
theorem lk_some {M : List Lk} {i : Nat} (h : i < M.length) : M[i]? = some (lkA M i) := by
  have hk : M[i]? = some M[i] := List.getElem?_eq_getElem h
  rw [lkA_eq hk]; exact hk
theorem Inv2.lk {M : List Lk} (h : Inv2 M) {i : Nat} (hi : i < M.length) : InvL (lkA M i) := h.inv _ (List.mem_of_getElem? (lk_some hi))
theorem Inv2.lock {M : List Lk} (h : Inv2 M) (m n t : Int) : Inv2 (lockM M m n t).2 := by
  have hw := h.wf.lock m n t
  unfold lockM at *
  by_cases h0 : readyI M m n t = 0
  · have hnn : ¬ (readyI M m n t ≠ 0) := by simp [h0]
    rw [if_neg hnn] at *
    obtain ⟨⟨a, b, c, d, e, f⟩, hwt, ho⟩ := readyI_0 h0
    have hi : m.toNat < M.length := by omega
    have hl := h.lk hi
    by_cases h1 : (lkA M m.toNat).own = -1
    · rw [if_neg (by simp [h1])] at *
      refine h.set hw ?_
      have hq : (lkA M m.toNat).q = [] := by
        cases hq : (lkA M m.toNat).q with
        | nil => rfl
        | cons x q => exact absurd h1 (hl.own (by rw [hq]; simp))
      show InvL ⟨n, (lkA M m.toNat).flag, (lkA M m.toNat).q⟩
      rw [hq]; exact .empty
    · rw [if_pos h1] at *
      refine h.set hw ⟨insK_srt hl.srt fun y hy => waitAt_none.1 hwt _ (List.mem_of_getElem? (lk_some hi)) y hy, fun _ => h1, fun x hx => ?_⟩
      rcases insK_mem.1 hx with rfl | hx
      · exact fun e => ho e.symm
      · exact hl.ne x hx
  · rw [if_pos h0] at *; exact h
theorem Inv2.try {M : List Lk} (h : Inv2 M) (m n : Int) : Inv2 (tryM M m n).2 := by
  have hw := h.wf.try m n
  unfold tryM at *
  by_cases h0 : readyI M m n 0 = 0
  · have hnn : ¬ (readyI M m n 0 ≠ 0) := by simp [h0]
    rw [if_neg hnn] at *
    obtain ⟨⟨a, b, c, d, e, f⟩, hwt, ho⟩ := readyI_0 h0
    have hi : m.toNat < M.length := by omega
    have hl := h.lk hi
    by_cases h1 : (lkA M m.toNat).own = -1
    · rw [if_neg (by simp [h1])] at *
      refine h.set hw ?_
      have hq : (lkA M m.toNat).q = [] := by
        cases hq : (lkA M m.toNat).q with
        | nil => rfl
        | cons x q => exact absurd h1 (hl.own (by rw [hq]; simp))
      show InvL ⟨n, (lkA M m.toNat).flag, (lkA M m.toNat).q⟩
      rw [hq]; exact .empty
    · rw [if_pos h1] at *; exact h
  · rw [if_pos h0] at *; exact h
theorem Inv2.hand {M : List Lk} (h : Inv2 M) {i : Nat} (hi : i < M.length) (f : Bool) : Inv2 (M.set i (handM (lkA M i) f)) :=
  h.set (h.wf.hand hi f) (InvL.hand h.wf (lk_some hi) (h.lk hi) f)
theorem Inv2.unlock {M : List Lk} (h : Inv2 M) (m n : Int) : Inv2 (unlockM M m n).2 := by
  unfold unlockM
  split
  · exact h
  · rename_i hm
    obtain ⟨a, b, _⟩ := mayI_0.1 (show mayI M.length m n 0 = 0 by simpa using hm)
    split
    · exact h
    · exact h.hand (by omega) false
theorem Inv2.rekey {M : List Lk} (h : Inv2 M) (n t : Int) : Inv2 (rekeyM M n t).2 := by
  have hw := h.wf.rekey n t
  unfold rekeyM at *
  split
  · exact h
  · rename_i hm
    rw [if_neg hm] at hw
    cases hwt : waitAt M n with
    | none => exact h
    | some ij =>
      obtain ⟨i, j⟩ := ij
      obtain ⟨k, x, hk, hj, hx, -, -⟩ := waitAt_some hwt
      rw [hwt] at hw
      dsimp only at hw ⊢
      rw [lkA_eq hk] at hw ⊢
      have hl := h.inv k (List.mem_of_getElem? hk)
      have hxm := List.mem_of_getElem? hj
      refine h.set hw ⟨insK_srt (hl.srt.sublist (List.eraseIdx_sublist ..)) fun y hy => ?_, fun _ => hl.own (List.ne_nil_of_mem hxm), fun y hy => ?_⟩
      · have := erase_ne hj (List.nodup_append.1 (h.wf.nd hk)).1 y hy
        rw [hx] at this; exact this
      · rcases insK_mem.1 hy with rfl | hy
        · have := hl.ne x hxm
          rw [hx] at this; exact this
        · exact hl.ne y ((List.eraseIdx_sublist ..).subset hy)
theorem Inv2.leave {M : List Lk} (h : Inv2 M) (n : Int) : Inv2 (leaveM M n).2 := by
  have hw := h.wf.leave n
  unfold leaveM at *
  split
  · exact h
  · rename_i hm
    rw [if_neg hm] at hw
    cases hwt : waitAt M n with
    | none => exact h
    | some ij =>
      obtain ⟨i, j⟩ := ij
      obtain ⟨k, x, hk, hj, hx, -, -⟩ := waitAt_some hwt
      rw [hwt] at hw
      dsimp only at hw ⊢
      rw [lkA_eq hk] at hw ⊢
      exact h.set hw ((h.inv k (List.mem_of_getElem? hk)).sub (List.eraseIdx_sublist ..))
theorem heldN_mem {M : List Lk} {n : Int} {m : Nat} : m ∈ heldN M n ↔ m < M.length ∧ (lkA M m).own = n := by
  unfold heldN; rw [List.mem_filter, List.mem_range, decide_eq_true_eq]
theorem Inv2.quitF {l : List Nat} : ∀ {s : List (Int × Int) × List Lk}, Inv2 s.2 → (∀ m ∈ l, m < s.2.length) → Inv2 (l.foldl quitS s).2 := by
  induction l with
  | nil => intro s h _; exact h
  | cons m l ih =>
    intro s h hl
    rw [List.foldl_cons]
    exact ih (h.hand (hl m List.mem_cons_self) true) fun m' hm' => by
      show m' < (s.2.set m _).length
      rw [List.length_set]; exact hl m' (List.mem_cons_of_mem _ hm')
theorem Inv2.quit {M : List Lk} (h : Inv2 M) (n : Int) : Inv2 (quitM M n).2 := by
  unfold quitM
  split
  · exact h
  · exact (h.leave n).quitF fun m hm => (heldN_mem.1 hm).1
theorem Inv2.does {M : List Lk} (h : Inv2 M) (o : OpT) : Inv2 (doesM M o) := by
  unfold doesM
  split
  · exact h.lock ..
  split
  · exact h.try ..
  split
  · exact h.unlock ..
  split
  · exact h.rekey ..
  split
  · exact h.leave ..
  · exact h.quit ..
theorem new0_inv (N : Nat) : Inv2 (new0 N) := ⟨new0_wf N, fun k hk => by rw [List.eq_of_mem_replicate hk]; exact .empty⟩
theorem run_inv (ops : List OpT) : Inv2 (runM ops) := by
  have key : ∀ (ops : List OpT) (M : List Lk), Inv2 M → Inv2 (ops.foldl doesM M) := by
    intro ops
    induction ops with
    | nil => intro M h; exact h
    | cons o ops ih => intro M h; exact ih _ (h.does o)
  exact key ops _ (new0_inv 4)
end Go.Proofs.Ytoaaoijdknbanaa
