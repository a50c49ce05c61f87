/- script, of prog: the plain laws of the reference's reading. Conditions: none. -/
import Derived.Test.YteggkdlgailfoaaDoorQsA
set_option linter.all false
set_option linter.deprecated false
namespace Go.Proofs.YteggkdlgailfoaaDoor
open Go.Sep
variable [B0 : Base]
theorem snoc_ind {α : Type} {p : List α → Prop} (h0 : p []) (h1 : ∀ l c, p l → p (l ++ [c])) (l : List α) : p l := by
  have key : ∀ m : List α, p m.reverse := by
    intro m
    induction m with
    | nil => exact h0
    | cons c m ih => rw [List.reverse_cons]; exact h1 _ _ ih
  have := key l.reverse
  rwa [List.reverse_reverse] at this
/-- What digits tell. -/
def valD (l : List UInt8) : Nat := l.foldl (fun n c => 10 * n + (c.toNat - 48)) 0
theorem valD_snoc (l : List UInt8) (c : UInt8) : valD (l ++ [c]) = 10 * valD l + (c.toNat - 48) := by unfold valD; rw [List.foldl_append]; rfl
theorem valD_lt (l : List UInt8) : (∀ c ∈ l, isDig c) → valD l < 10 ^ l.length := by
  refine snoc_ind (p := fun l => (∀ c ∈ l, isDig c) → valD l < 10 ^ l.length) (fun _ => by simp [valD]) (fun l c ih h => ?_) l
  · have h1 := ih fun x hx => h x (List.mem_append_left _ hx)
    have h2 := h c (by simp)
    unfold isDig at h2
    rw [valD_snoc, List.length_append, List.length_singleton, Nat.pow_succ]
    omega
theorem valD_dd (u : Nat) : valD (Lib.decDigits u) = u := by
  induction u using Nat.strongRecOn with
  | _ u ih =>
    by_cases h : u < 10
    · rw [dd_one h]
      have := (dig_ofNat h).2
      simp only [valD, List.foldl_cons, List.foldl_nil]
      omega
    · rw [dd_step h, valD_snoc, ih (u / 10) (by omega)]
      have := (dig_ofNat (m := u % 10) (by omega)).2
      omega
theorem digit_back {c : UInt8} (h : isDig c) : UInt8.ofNat (48 + (c.toNat - 48)) = c := by
  unfold isDig at h
  apply UInt8.toNat_inj.1
  rw [UInt8.toNat_ofNat']
  have := c.toNat_lt
  omega
theorem dd_val (l : List UInt8) : l ≠ [] → (∀ c ∈ l, isDig c) → (l.head? ≠ some 48 ∨ l.length = 1) → Lib.decDigits (valD l) = l ∧ (l.head? ≠ some 48 → 1 ≤ valD l) := by
  refine snoc_ind (p := fun l => l ≠ [] → (∀ c ∈ l, isDig c) → (l.head? ≠ some 48 ∨ l.length = 1) → Lib.decDigits (valD l) = l ∧ (l.head? ≠ some 48 → 1 ≤ valD l)) (fun h => absurd rfl h) (fun l c ih _ hd hh => ?_) l
  · skip
    have hc := hd c (by simp)
    have hc2 := hc
    unfold isDig at hc2
    rw [valD_snoc]
    cases l with
    | nil =>
      have e0 : valD [] = 0 := rfl
      rw [e0, Nat.mul_zero, Nat.zero_add, dd_one (by omega), digit_back hc]
      refine ⟨rfl, fun h => ?_⟩
      simp at h
      have : c.toNat ≠ 48 := fun e => h (UInt8.toNat_inj.1 e)
      omega
    | cons d l =>
      have hne : (d :: l ++ [c]).head? ≠ some 48 := by
        rcases hh with hh | hh
        · exact hh
        · simp at hh
      have hne2 : (d :: l).head? ≠ some 48 := by simpa using hne
      obtain ⟨i1, i2⟩ := ih (by simp) (fun x hx => hd x (List.mem_append_left _ hx)) (.inl hne2)
      have i3 := i2 hne2
      generalize hv : valD (d :: l) = v at *
      refine ⟨?_, fun _ => by omega⟩
      rw [dd_step (by omega), show (10 * v + (c.toNat - 48)) / 10 = v by omega, show (10 * v + (c.toNat - 48)) % 10 = c.toNat - 48 by omega, i1, digit_back hc]
theorem dd_head {u : Nat} (h : 1 ≤ u) : (Lib.decDigits u).head? ≠ some 48 := by
  induction u using Nat.strongRecOn with
  | _ u ih =>
    by_cases h1 : u < 10
    · rw [dd_one h1]
      have := (dig_ofNat h1).2
      intro e
      rw [List.head?_cons, Option.some.injEq] at e
      rw [e] at this
      simp at this
      omega
    · rw [dd_step h1]
      have := ih (u / 10) (by omega) (by omega)
      cases hd : Lib.decDigits (u / 10) with
      | nil => exact absurd hd (dd_ne _)
      | cons c r => rw [hd] at this; simpa using this
theorem dd_zero_len {u : Nat} (h : (Lib.decDigits u).head? = some 48) : (Lib.decDigits u).length = 1 := by
  rcases Nat.lt_or_ge u 1 with h1 | h1
  · have : u = 0 := by omega
    subst this
    rw [dd_one (by omega)]; rfl
  · exact absurd h (dd_head h1)
/-- The instruction of a line. -/
def can (s : List UInt8) (x : Ins) : Prop := mayE x = 0 ∧ bodyB x = s
theorem can_split {s w d : List UInt8} {y : Ins} (h : can s y) (hs : s = w ++ 32 :: d) (hw : (32 : UInt8) ∉ w) : kHi y.op ≠ 0 ∧ kW y.op.toNat = w ∧ Lib.decDigits y.n.toNat = d := by
  obtain ⟨h1, h2⟩ := h
  obtain ⟨m1, m2, m3, m4, -⟩ := may_n h1
  have hk := kW_plain (i := y.op.toNat) (by omega) (by omega)
  have hc := cut_hit w d 32 hw
  rw [← hs, ← h2] at hc
  unfold bodyB at hc
  by_cases h0 : kHi y.op = 0
  · rw [if_pos h0, cut_miss _ _ hk.1] at hc
    simp at hc
  · rw [if_neg h0] at hc
    have e : kW y.op.toNat ++ [32] ++ Lib.itoa y.n = kW y.op.toNat ++ 32 :: Lib.itoa y.n := by simp
    rw [e, cut_hit _ _ _ hk.1, itoa_nn m1] at hc
    simp only [Prod.mk.injEq, and_true] at hc
    exact ⟨h0, hc.1, hc.2⟩
theorem can_word {s : List UInt8} {y : Ins} (h : can s y) (h0 : kHi y.op = 0) : s = kW y.op.toNat := by
  have := h.2
  unfold bodyB at this
  rw [if_pos h0] at this
  exact this.symm
theorem can_num {s : List UInt8} {y : Ins} (h : can s y) (h0 : kHi y.op ≠ 0) : s = kW y.op.toNat ++ 32 :: Lib.decDigits y.n.toNat := by
  have h2 := h.2
  obtain ⟨m1, -⟩ := may_n h.1
  unfold bodyB at h2
  rw [if_neg h0, itoa_nn m1] at h2
  rw [← h2]; simp
theorem ins_eq {y : Ins} {o n : Int} (h1 : y.op = o) (h2 : y.n = n) : y = ⟨o, n⟩ := by cases y; simp at h1 h2; simp [h1, h2]
/-- What the reference's reading of a line comes to. -/
def oneS (s : List UInt8) (x : Ins) (b : Bool) : Prop := (b = true → can s x) ∧ (b = false → ∀ y, ¬ can s y)
/-! ### Lines of a text that goes on -/
theorem lines_text_app : ∀ {q : List Ins} (r : List UInt8), (∀ x ∈ q, mayE x = 0) → linesL (textB q ++ r) = q.map lineB ++ linesL r
  | [], r, _ => rfl
  | x :: q, r, h => by
    have e : textB (x :: q) ++ r = bodyB x ++ 10 :: (textB q ++ r) := by unfold textB; simp [lineB_body]
    rw [e, lines_hit _ _ (body_nl (h x List.mem_cons_self)), lines_text_app r fun y hy => h y (List.mem_cons_of_mem _ hy), List.map_cons, lineB_body]
    rfl
theorem no_text {s ln rest : List UInt8} {q : List Ins} (hq : ∀ x ∈ q, mayE x = 0) (hs : s = textB q ++ (ln ++ 10 :: rest)) (hn : (10 : UInt8) ∉ ln) (hno : ∀ y, ¬ can ln y) (l : List Ins) (hl : progE l = 0) : textB l ≠ s := fun e => by
  have hm := (progE_may hl).2
  have h1 := lines_text hm
  rw [e, hs, lines_text_app _ hq, lines_hit _ _ hn] at h1
  have h2 : (ln ++ [10]) ∈ l.map lineB := by rw [← h1]; simp
  obtain ⟨y, hy, hb⟩ := List.mem_map.1 h2
  rw [lineB_body] at hb
  exact hno y ⟨hm y hy, List.append_cancel_right hb⟩
theorem no_text_end {s ln : List UInt8} {q : List Ins} (hq : ∀ x ∈ q, mayE x = 0) (hs : s = textB q ++ ln) (hn : (10 : UInt8) ∉ ln) (hne : ln ≠ []) (l : List Ins) (hl : progE l = 0) : textB l ≠ s := fun e => by
  have hm := (progE_may hl).2
  have h1 := lines_text hm
  rw [e, hs, lines_text_app _ hq, lines_miss _ hn hne] at h1
  have h2 : ln ∈ l.map lineB := by rw [← h1]; simp
  obtain ⟨y, hy, hb⟩ := List.mem_map.1 h2
  rw [lineB_body] at hb
  exact hn (by rw [← hb]; simp)
end Go.Proofs.YteggkdlgailfoaaDoor
