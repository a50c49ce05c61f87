/- script, of prog: the text's plain laws: numbers, words, lines. Conditions: none. -/
import Derived.Test.YteggkdlgailfoaaDoorQO
import Derived.Lib.AtoiAllCases
import Derived.Lib.IndexMore
import Derived.Lib.Bytealg
set_option linter.all false
set_option linter.deprecated false
namespace Go.Proofs.YteggkdlgailfoaaDoor
open Go.Sep
variable [B0 : Base]
/-! ### Numbers -/
def isDig (c : UInt8) : Prop := 48 ≤ c.toNat ∧ c.toNat ≤ 57
theorem dig_ofNat {m : Nat} (h : m < 10) : isDig (UInt8.ofNat (48 + m)) ∧ (UInt8.ofNat (48 + m)).toNat - 48 = m := by
  rcases (show m = 0 ∨ m = 1 ∨ m = 2 ∨ m = 3 ∨ m = 4 ∨ m = 5 ∨ m = 6 ∨ m = 7 ∨ m = 8 ∨ m = 9 by omega) with rfl | rfl | rfl | rfl | rfl | rfl | rfl | rfl | rfl | rfl <;> (unfold isDig; decide)
theorem dd_step {u : Nat} (h : ¬ u < 10) : Lib.decDigits u = Lib.decDigits (u / 10) ++ [UInt8.ofNat (48 + u % 10)] := by rw [Lib.decDigits, dif_neg h]
theorem dd_one {u : Nat} (h : u < 10) : Lib.decDigits u = [UInt8.ofNat (48 + u)] := by rw [Lib.decDigits, dif_pos h]
theorem dd_dig (u : Nat) : ∀ c ∈ Lib.decDigits u, isDig c := by
  induction u using Nat.strongRecOn with
  | _ u ih =>
    intro c hc
    by_cases h : u < 10
    · rw [dd_one h, List.mem_singleton] at hc; subst hc; exact (dig_ofNat h).1
    · rw [dd_step h] at hc
      rcases List.mem_append.1 hc with hc | hc
      · exact ih (u / 10) (by omega) c hc
      · rw [List.mem_singleton] at hc; subst hc; exact (dig_ofNat (by omega)).1
theorem dd_ne (u : Nat) : Lib.decDigits u ≠ [] := by
  by_cases h : u < 10
  · rw [dd_one h]; simp
  · rw [dd_step h]; simp
theorem dd_len : ∀ (k u : Nat), u < 10 ^ (k + 1) → (Lib.decDigits u).length ≤ k + 1 := by
  intro k
  induction k with
  | zero => intro u h; rw [dd_one (by simpa using h)]; simp
  | succ k ih =>
    intro u h
    by_cases h1 : u < 10
    · rw [dd_one h1]; simp
    · rw [dd_step h1, List.length_append, List.length_singleton]
      have := ih (u / 10) (by rw [Nat.pow_succ] at h; omega)
      omega
theorem pu_append (l : List UInt8) (c : UInt8) : ∀ acc v, Lib.parseUint10 acc l = .ok v → Lib.parseUint10 acc (l ++ [c]) = Lib.parseUint10 v [c] := by
  induction l with
  | nil => intro acc v h; simp only [Lib.parseUint10] at h; injection h with h; subst h; rfl
  | cons x l ih =>
    intro acc v h
    rw [List.cons_append]
    simp only [Lib.parseUint10] at h ⊢
    split at h
    · rename_i h1
      rw [if_pos h1]
      split at h
      · cases h
      · rename_i h2
        rw [if_neg h2]
        split at h
        · cases h
        · rename_i h3
          rw [if_neg h3]
          exact ih _ _ h
    · cases h
theorem pu_dd (u : Nat) : u < 10000000000000 → Lib.parseUint10 0 (Lib.decDigits u) = .ok u := by
  induction u using Nat.strongRecOn with
  | _ u ih =>
    intro hu
    by_cases h : u < 10
    · rw [dd_one h]
      obtain ⟨⟨h1, h2⟩, h3⟩ := dig_ofNat h
      simp only [Lib.parseUint10]
      rw [if_pos ⟨h1, h2⟩, if_neg (by omega), if_neg (by omega), h3, Nat.zero_mul, Nat.zero_add]
    · rw [dd_step h]
      have h4 := ih (u / 10) (by omega) (by omega)
      rw [pu_append _ _ _ _ h4]
      obtain ⟨⟨h1, h2⟩, h3⟩ := dig_ofNat (m := u % 10) (by omega)
      simp only [Lib.parseUint10]
      rw [if_pos ⟨h1, h2⟩, if_neg (by omega), if_neg (by omega), h3]
      congr 1; omega
/-- What a word may tell as a number. -/
def atoiV (r : List UInt8) : Int := match Lib.atoiAll r with
  | .ok v => v
  | .range => Lib.atoiSat r
  | _ => 0
theorem itoa_nn {n : Int} (h : 0 ≤ n) : Lib.itoa n = Lib.decDigits n.toNat := by unfold Lib.itoa; rw [if_neg (by omega)]
theorem atoi_itoa {n : Int} (h : 0 ≤ n) (h2 : n < 10000000000000) : atoiV (Lib.itoa n) = n := by
  rw [itoa_nn h]
  unfold atoiV
  have h3 := pu_dd n.toNat (by omega)
  have h4 := dd_dig n.toNat
  cases hd : Lib.decDigits n.toNat with
  | nil => exact absurd hd (dd_ne _)
  | cons c r =>
    rw [hd] at h3 h4
    have hc := h4 c List.mem_cons_self
    unfold isDig at hc
    rw [Lib.atoiAll_plain c r (by omega) (by omega)]
    unfold Lib.parseMag
    rw [if_neg (by simp), h3]
    simp only [Lib.signless]
    rw [if_neg (by omega)]
    show ((n.toNat : Nat) : Int) = n
    omega
/-! ### Words -/
theorem index_hit (w r : List UInt8) (c : UInt8) (h : c ∉ w) : Lib.index (w ++ c :: r) [c] = w.length := by
  induction w with
  | nil => simp [Lib.index]
  | cons b w ih =>
    have hb : (c == b) = false := by simp; exact fun e => h (by simp [e])
    have hw := ih (fun hh => h (List.mem_cons_of_mem _ hh))
    rw [List.cons_append]
    simp only [Lib.index, List.isPrefixOf, hb, Bool.false_and, hw]
    rw [if_neg (by simp), if_neg (by simp)]
    simp
theorem index_miss (w : List UInt8) (c : UInt8) (h : c ∉ w) : Lib.index w [c] = -1 := by
  induction w with
  | nil => simp [Lib.index]
  | cons b w ih =>
    have hb : (c == b) = false := by simp; exact fun e => h (by simp [e])
    have hw := ih (fun hh => h (List.mem_cons_of_mem _ hh))
    simp only [Lib.index, List.isPrefixOf, hb, Bool.false_and, hw]
    rfl
theorem cut_hit (w r : List UInt8) (c : UInt8) (h : c ∉ w) : Lib.cut (w ++ c :: r) [c] = (w, r, true) := by
  unfold Lib.cut
  rw [index_hit w r c h, if_pos (by omega)]
  simp
theorem cut_miss (w : List UInt8) (c : UInt8) (h : c ∉ w) : Lib.cut w [c] = (w, [], false) := by
  unfold Lib.cut
  rw [index_miss w c h, if_neg (by decide)]
theorem kW_plain {i : Nat} (h : 1 ≤ i) (h2 : i ≤ 9) : (32 : UInt8) ∉ kW i ∧ (10 : UInt8) ∉ kW i ∧ kW i ≠ [] := by
  rcases (show i = 1 ∨ i = 2 ∨ i = 3 ∨ i = 4 ∨ i = 5 ∨ i = 6 ∨ i = 7 ∨ i = 8 ∨ i = 9 by omega) with rfl | rfl | rfl | rfl | rfl | rfl | rfl | rfl | rfl <;> decide
theorem kW_inj {i j : Nat} (h : 1 ≤ i) (h2 : i ≤ 9) (h3 : 1 ≤ j) (h4 : j ≤ 9) (e : kW i = kW j) : i = j := by
  rcases (show i = 1 ∨ i = 2 ∨ i = 3 ∨ i = 4 ∨ i = 5 ∨ i = 6 ∨ i = 7 ∨ i = 8 ∨ i = 9 by omega) with rfl | rfl | rfl | rfl | rfl | rfl | rfl | rfl | rfl <;>
  rcases (show j = 1 ∨ j = 2 ∨ j = 3 ∨ j = 4 ∨ j = 5 ∨ j = 6 ∨ j = 7 ∨ j = 8 ∨ j = 9 by omega) with rfl | rfl | rfl | rfl | rfl | rfl | rfl | rfl | rfl <;> first | rfl | exact absurd e (by decide)
/-- The first of the kinds from one on that bears the word. -/
def fop (w : List UInt8) : Nat → Nat → Option Nat
  | _, 0 => none
  | k, m + 1 => if kW k = w ∧ 0 < k then some k else fop w (k + 1) m
theorem fop_none {w : List UInt8} : ∀ {m k : Nat}, (∀ j, k ≤ j → j < k + m → ¬ (kW j = w ∧ 0 < j)) → fop w k m = none := by
  intro m
  induction m with
  | zero => intro k h; rfl
  | succ m ih =>
    intro k h
    unfold fop
    rw [if_neg (h k (Nat.le_refl _) (by omega))]
    exact ih fun j h1 h2 => h j (by omega) (by omega)
theorem fop_kW {i : Nat} (h : 1 ≤ i) (h2 : i ≤ 9) : fop (kW i) 0 10 = some i := by
  rcases (show i = 1 ∨ i = 2 ∨ i = 3 ∨ i = 4 ∨ i = 5 ∨ i = 6 ∨ i = 7 ∨ i = 8 ∨ i = 9 by omega) with rfl | rfl | rfl | rfl | rfl | rfl | rfl | rfl | rfl <;> decide
/-- The instruction that a line may tell. -/
def toldM (s : List UInt8) : Ins := match fop (Lib.cut s [32]).1 0 10 with
  | some k => ⟨(k : Int), atoiV (Lib.cut s [32]).2.1⟩
  | none => ⟨0, 0⟩
/-- An instruction's line, without its end. -/
def bodyB (x : Ins) : List UInt8 := if kHi x.op = 0 then kW x.op.toNat else kW x.op.toNat ++ [32] ++ Lib.itoa x.n
theorem lineB_body (x : Ins) : lineB x = bodyB x ++ [10] := by unfold lineB bodyB; split <;> simp
theorem body_nl {x : Ins} (h : mayE x = 0) : (10 : UInt8) ∉ bodyB x := by
  obtain ⟨h1, h2, h3, h4, -⟩ := may_n h
  have hk := kW_plain (i := x.op.toNat) (by omega) (by omega)
  unfold bodyB
  split
  · exact hk.2.1
  · rw [itoa_nn h1]
    simp only [List.mem_append, List.mem_singleton, not_or]
    refine ⟨⟨hk.2.1, by decide⟩, fun hc => ?_⟩
    have := dd_dig _ _ hc
    unfold isDig at this
    simp at this
theorem kHi_zero {x : Ins} (h : mayE x = 0) (h0 : kHi x.op = 0) : x.n = 0 := by
  unfold mayE at h
  split at h
  · exact absurd h (by decide)
  · split at h
    · exact absurd h (by decide)
    · rename_i h1
      have h2 : kLo x.op = 0 ∨ kLo x.op = 1 := by unfold kLo; split <;> simp
      have h3 : kLo x.op = 1 → kHi x.op ≠ 0 := by unfold kLo kHi; (repeat' split) <;> simp
      omega
theorem told_body {x : Ins} (h : mayE x = 0) : toldM (bodyB x) = x := by
  obtain ⟨h1, h2, h3, h4, -⟩ := may_n h
  have hk := kW_plain (i := x.op.toNat) (by omega) (by omega)
  have hf := fop_kW (i := x.op.toNat) (by omega) (by omega)
  have ho : ((x.op.toNat : Nat) : Int) = x.op := by omega
  unfold toldM bodyB
  by_cases h0 : kHi x.op = 0
  · rw [if_pos h0, cut_miss _ _ hk.1]
    dsimp only
    rw [hf]
    dsimp only
    rw [ho]
    have : atoiV [] = 0 := rfl
    rw [this, ← kHi_zero h h0]
  · rw [if_neg h0]
    have e : kW x.op.toNat ++ [32] ++ Lib.itoa x.n = kW x.op.toNat ++ 32 :: Lib.itoa x.n := by simp
    rw [e, cut_hit _ _ _ hk.1]
    dsimp only
    rw [hf]
    dsimp only
    rw [ho, atoi_itoa h1 (by omega)]
/-! ### Lines -/
def linesL : List UInt8 → List (List UInt8)
  | [] => []
  | c :: s => if c = 10 then [10] :: linesL s else match linesL s with
    | [] => [[c]]
    | l :: ls => (c :: l) :: ls
theorem lines_hit (b rest : List UInt8) (h : (10 : UInt8) ∉ b) : linesL (b ++ 10 :: rest) = (b ++ [10]) :: linesL rest := by
  induction b with
  | nil => simp [linesL]
  | cons c b ih =>
    have hc : c ≠ 10 := fun e => h (by simp [e])
    rw [List.cons_append, linesL, if_neg hc, ih (fun hh => h (List.mem_cons_of_mem _ hh))]
    rfl
theorem lines_miss (b : List UInt8) (h : (10 : UInt8) ∉ b) (hne : b ≠ []) : linesL b = [b] := by
  induction b with
  | nil => exact absurd rfl hne
  | cons c b ih =>
    have hc : c ≠ 10 := fun e => h (by simp [e])
    rw [linesL, if_neg hc]
    cases b with
    | nil => rfl
    | cons d b => rw [ih (fun hh => h (List.mem_cons_of_mem _ hh)) (by simp)]
theorem lines_text : ∀ {l : List Ins}, (∀ x ∈ l, mayE x = 0) → linesL (textB l) = l.map lineB
  | [], _ => rfl
  | x :: l, h => by
    have e : textB (x :: l) = bodyB x ++ 10 :: textB l := by unfold textB; simp [lineB_body]
    rw [e, lines_hit _ _ (body_nl (h x List.mem_cons_self)), lines_text fun y hy => h y (List.mem_cons_of_mem _ hy), List.map_cons, lineB_body]
theorem count_text : ∀ {l : List Ins}, (∀ x ∈ l, mayE x = 0) → (textB l).count 10 = l.length
  | [], _ => rfl
  | x :: l, h => by
    have e : textB (x :: l) = bodyB x ++ 10 :: textB l := by unfold textB; simp [lineB_body]
    rw [e, List.count_append, List.count_cons_self, count_text fun y hy => h y (List.mem_cons_of_mem _ hy), List.count_eq_zero.2 (body_nl (h x List.mem_cons_self))]
    simp
theorem trim_line (b : List UInt8) : Lib.trimSuffix (b ++ [10]) [10] = b := by
  unfold Lib.trimSuffix
  have : Lib.hasSuffix (b ++ [10]) [10] = true := by
    unfold Lib.hasSuffix
    rw [List.isSuffixOf_iff_suffix]
    exact ⟨b, rfl⟩
  rw [if_pos this]
  simp
theorem lines_len : ∀ s : List UInt8, (linesL s).length ≤ s.count 10 + 1
  | [] => by simp [linesL]
  | c :: s => by
    have h := lines_len s
    rw [linesL]
    by_cases hc : c = 10
    · rw [if_pos hc, hc, List.count_cons_self, List.length_cons]; omega
    · rw [if_neg hc, List.count_cons_of_ne (by simpa using hc)]
      cases hl : linesL s with
      | nil => simp
      | cons l ls => rw [hl] at h; simpa using h
theorem lines_le : ∀ (s : List UInt8) (t : List UInt8), t ∈ linesL s → t.length ≤ s.length
  | [], t, h => by simp [linesL] at h
  | c :: s, t, h => by
    rw [linesL] at h
    by_cases hc : c = 10
    · rw [if_pos hc] at h
      rcases List.mem_cons.1 h with rfl | h
      · simp
      · have := lines_le s t h; simp; omega
    · rw [if_neg hc] at h
      cases hl : linesL s with
      | nil => rw [hl] at h; simp at h; subst h; simp
      | cons l ls =>
        rw [hl] at h
        rcases List.mem_cons.1 h with rfl | h
        · have := lines_le s l (by rw [hl]; exact List.mem_cons_self); simp; omega
        · have := lines_le s t (by rw [hl]; exact List.mem_cons_of_mem _ h); simp; omega
/-! ### The program of a text -/
def outM (s : List UInt8) : List Ins := (linesL s).map fun t => toldM (Lib.trimSuffix t [10])
def parseM (s : List UInt8) : List Ins × Int := if 64 < s.count 10 then ([], 13) else if progE (outM s) ≠ 0 ∨ textB (outM s) ≠ s then ([], 22) else (outM s, 0)
theorem out_text {l : List Ins} (h : ∀ x ∈ l, mayE x = 0) : outM (textB l) = l := by
  unfold outM
  rw [lines_text h, List.map_map]
  conv => rhs; rw [← List.map_id l]
  apply List.map_congr_left
  intro x hx
  show toldM (Lib.trimSuffix (lineB x) [10]) = x
  rw [lineB_body, trim_line, told_body (h x hx)]
theorem parse_text {l : List Ins} (h : progE l = 0) : parseM (textB l) = (l, 0) := by
  obtain ⟨h1, h2⟩ := progE_may h
  unfold parseM
  rw [count_text h2, if_neg (by omega), out_text h2, if_neg (by rintro (hh | hh); exact hh h; exact hh rfl)]
theorem parse_ok {s : List UInt8} (h : (parseM s).2 = 0) : progE (parseM s).1 = 0 ∧ textB (parseM s).1 = s := by
  unfold parseM at h ⊢
  split at h
  · cases h
  · split at h
    · cases h
    · rename_i h1 h2
      rw [if_neg h1, if_neg h2]
      exact ⟨Classical.byContradiction fun hh => h2 (.inl hh), Classical.byContradiction fun hh => h2 (.inr hh)⟩
end Go.Proofs.YteggkdlgailfoaaDoor
