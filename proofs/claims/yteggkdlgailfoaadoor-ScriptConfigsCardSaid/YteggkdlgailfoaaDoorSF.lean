/- script: the steps of a text. Conditions: none. -/
import Derived.Test.YteggkdlgailfoaaDoorSE
set_option linter.all false
set_option linter.deprecated false
namespace Go.Proofs.YteggkdlgailfoaaDoor
open Go.Sep
variable [B0 : Base]
/-- A run over a list that may stop. -/
def foldS {σ α : Type} (nx : σ → α → Option Code × σ) : List α → σ → σ × Option Code
  | [], s => (s, none)
  | x :: l, s => match nx s x with
    | (none, s') => foldS nx l s'
    | (some c, s') => (s', some c)
theorem goes_stop {σ α : Type} (ll : List α) (enc : Nat → α → List Value) (nx : σ → α → Option Code × σ) (step : σ → List Value → Option Code × σ) (dom : σ → List Value → Prop) (Inv : Nat → σ → Prop) (s0 : σ) (h0 : Inv 0 s0)
    (h : ∀ i x s, ll[i]? = some x → Inv i s → dom s (enc i x) ∧ step s (enc i x) = nx s x ∧ ((nx s x).1 = none → Inv (i + 1) (nx s x).2)) :
    Goes (fun (s : σ × Option Code) xs => ((step s.1 xs).1.isNone, ((step s.1 xs).2, (step s.1 xs).1))) (fun s xs => s.2 = none ∧ dom s.1 xs) (fun i => ll[i]?.map (enc i)) 0 (s0, none) (foldS nx ll s0) := by
  have key : ∀ m i s, i + m = ll.length → Inv i s → Goes (fun (s : σ × Option Code) xs => ((step s.1 xs).1.isNone, ((step s.1 xs).2, (step s.1 xs).1))) (fun s xs => s.2 = none ∧ dom s.1 xs) (fun i => ll[i]?.map (enc i)) i (s, none) (foldS nx (ll.drop i) s) := by
    intro m
    induction m with
    | zero =>
      intro i s hi _
      obtain rfl : i = ll.length := by omega
      rw [List.drop_eq_nil_of_le (Nat.le_refl _)]
      exact .stop (by simp)
    | succ m ih =>
      intro i s hi hv
      have hlt : i < ll.length := by omega
      have hx : ll[i]? = some ll[i] := by simp [hlt]
      obtain ⟨h1, h2, h3⟩ := h i _ s hx hv
      rw [List.drop_eq_getElem_cons hlt, foldS]
      cases hn : nx s ll[i] with
      | mk c s' =>
        rw [hn] at h2 h3
        cases c with
        | none =>
          refine .next (x := enc i ll[i]) (by simp [hlt]) ⟨rfl, h1⟩ (s' := (s', none)) ?_ (ih (i + 1) s' (by omega) (h3 rfl))
          show ((step s (enc i ll[i])).1.isNone, ((step s (enc i ll[i])).2, (step s (enc i ll[i])).1)) = _
          rw [h2]; rfl
        | some c =>
          refine .quit (x := enc i ll[i]) (by simp [hlt]) ⟨rfl, h1⟩ (s' := (s', some c)) ?_
          show ((step s (enc i ll[i])).1.isNone, ((step s (enc i ll[i])).2, (step s (enc i ll[i])).1)) = _
          rw [h2]; rfl
  exact key ll.length 0 s0 (by omega) h0
/-- What a word does, among the kinds below k. -/
def dofK (w : List UInt8) : Nat → Nat
  | 0 => 0
  | k + 1 => if 0 < k ∧ sW k = w then k else dofK w k
theorem dofK_le (w : List UInt8) (k : Nat) : dofK w k ≤ k := by
  induction k with
  | zero => exact Nat.le_refl _
  | succ k ih => unfold dofK; split <;> omega
theorem dofK_sW {i : Nat} (h1 : 1 ≤ i) (h2 : i ≤ 7) : dofK (sW i) 8 = i := by
  rcases (show i = 1 ∨ i = 2 ∨ i = 3 ∨ i = 4 ∨ i = 5 ∨ i = 6 ∨ i = 7 by omega) with rfl | rfl | rfl | rfl | rfl | rfl | rfl <;> decide
/-- The step that a line may tell. -/
def stepM (t : List UInt8) : Stp := ⟨(dofK ((lw t).getD 0 []) 8 : Nat), atW (lw t) 0, atW (lw t) 1, atW (lw t) 2, atW (lw t) 3, atW (lw t) 4, atW (lw t) 5⟩
def okL (t : List UInt8) : Prop := chkB (stepM t) = true ∧ sLine (stepM t) = t
instance (t : List UInt8) : Decidable (okL t) := by unfold okL; exact inferInstance
def parseS (s : List UInt8) : List Stp × Int := if ∀ t ∈ linesL s, okL t then ((linesL s).map stepM, 0) else ([], 22)
def psNx (x : List Stp × Int) (t : List UInt8) : Option Code × (List Stp × Int) := if okL t then (none, (x.1 ++ [stepM t], x.2)) else (some .ret, (x.1, 22))
theorem ps_good : ∀ {ll : List (List UInt8)} {x : List Stp × Int}, (∀ t ∈ ll, okL t) → foldS psNx ll x = ((x.1 ++ ll.map stepM, x.2), none)
  | [], x, _ => by simp [foldS]
  | t :: ll, x, h => by
    have h1 : psNx x t = (none, (x.1 ++ [stepM t], x.2)) := if_pos (h t List.mem_cons_self)
    rw [foldS, h1]
    dsimp only
    rw [ps_good fun y hy => h y (List.mem_cons_of_mem _ hy)]
    simp
theorem ps_bad : ∀ {ll : List (List UInt8)} {x : List Stp × Int}, (¬ ∀ t ∈ ll, okL t) → ∃ o, foldS psNx ll x = ((o, 22), some .ret)
  | [], x, h => absurd (fun t ht => by cases ht) h
  | t :: ll, x, h => by
    by_cases h1 : okL t
    · have h2 : psNx x t = (none, (x.1 ++ [stepM t], x.2)) := if_pos h1
      obtain ⟨o, ho⟩ := ps_bad (ll := ll) (x := (x.1 ++ [stepM t], x.2)) fun hh => h fun y hy => by
        rcases List.mem_cons.1 hy with rfl | hy
        · exact h1
        · exact hh y hy
      exact ⟨o, by rw [foldS, h2]; exact ho⟩
    · have h2 : psNx x t = (some .ret, (x.1, 22)) := if_neg h1
      exact ⟨x.1, by rw [foldS, h2]⟩
/-! ### What is printed is read -/
theorem itoa_dig {n : Int} (h : 0 ≤ n) : ∀ c ∈ Lib.itoa n, isDig c := by rw [itoa_nn h]; exact dd_dig _
theorem dig_ne {c : UInt8} (h : isDig c) : c ≠ 32 ∧ c ≠ 10 := by
  unfold isDig at h
  constructor <;> (rintro rfl; simp at h)
theorem sW_plain {i : Nat} (h : 1 ≤ i) (h2 : i ≤ 7) : (32 : UInt8) ∉ sW i ∧ (10 : UInt8) ∉ sW i ∧ sW i ≠ [] := by
  rcases (show i = 1 ∨ i = 2 ∨ i = 3 ∨ i = 4 ∨ i = 5 ∨ i = 6 ∨ i = 7 by omega) with rfl | rfl | rfl | rfl | rfl | rfl | rfl <;> decide
theorem lnN_nl {w : List UInt8} (hw : (10 : UInt8) ∉ w) : ∀ {l : List Int}, (∀ n ∈ l, 0 ≤ n) → (10 : UInt8) ∉ lnN w l := by
  intro l hl
  unfold lnN
  rw [List.mem_append]
  rintro (h | h)
  · exact hw h
  · obtain ⟨p, hp, hm⟩ := List.mem_flatten.1 h
    obtain ⟨n, hn, rfl⟩ := List.mem_map.1 hp
    rcases List.mem_cons.1 hm with h | h
    · cases h
    · exact (dig_ne (itoa_dig (hl n hn) _ h)).2 rfl
theorem wrds_lnN {w : List UInt8} (hw : (32 : UInt8) ∉ w) : ∀ {l : List Int}, (∀ n ∈ l, 0 ≤ n) → wrds (lnN w l) = w :: l.map Lib.itoa := by
  intro l
  induction l generalizing w with
  | nil => intro _; unfold lnN; simp only [List.map_nil, List.flatten_nil, List.append_nil]; exact wrds_miss hw
  | cons n l ih =>
    intro hl
    have e : lnN w (n :: l) = w ++ 32 :: lnN (Lib.itoa n) l := by unfold lnN; simp
    rw [e, wrds_hit hw, ih (fun h => (dig_ne (itoa_dig (hl n List.mem_cons_self) _ h)).1 rfl) fun y hy => hl y (List.mem_cons_of_mem _ hy)]
    rfl
theorem lw_sLine {x : Stp} (h : chkB x = true) : lw (sLine x) = sW x.op.toNat :: ((nums x).take (sMany x.op.toNat)).map Lib.itoa := by
  obtain ⟨⟨h1, h2⟩, -, -⟩ := chkB_iff.1 h
  unfold lw sLine lnB
  rw [trim_line, wrds_lnN (sW_plain (by omega) (by omega)).1]
  exact fun n hn => (numB_iff.1 (chk_nums h n (List.mem_of_mem_take hn))).1
theorem atW_itoa {w : List UInt8} {l : List Int} {j : Nat} {n : Int} (hn : l[j]? = some n) (h : numB n = true) : atW (w :: l.map Lib.itoa) j = n := by
  obtain ⟨h0, h1⟩ := numB_iff.1 h
  unfold atW
  rw [List.getD_eq_getElem?_getD, List.getElem?_cons_succ, List.getElem?_map, hn]
  exact atoi_itoa h0 (by omega)
theorem atW_none {w : List UInt8} {l : List Int} {j : Nat} (hn : l[j]? = none) : atW (w :: l.map Lib.itoa) j = 0 := by
  unfold atW
  rw [List.getD_eq_getElem?_getD, List.getElem?_cons_succ, List.getElem?_map, hn]
  rfl
theorem rest_zero {x : Stp} (h : chkB x = true) {j : Nat} {n : Int} (hj : sMany x.op.toNat ≤ j) (hn : (nums x)[j]? = some n) : n = 0 := by
  have h1 := (chkB_iff.1 h).2.2
  unfold restB at h1
  have h2 : n ∈ (nums x).drop (sMany x.op.toNat) := List.mem_iff_getElem?.2 ⟨j - sMany x.op.toNat, by rw [List.getElem?_drop, Nat.add_sub_cancel' hj]; exact hn⟩
  have h3 := List.any_eq_false.1 h1 n h2
  simpa using h3
theorem atW_nums {x : Stp} (h : chkB x = true) {j : Nat} {n : Int} (hn : (nums x)[j]? = some n) : atW (sW x.op.toNat :: ((nums x).take (sMany x.op.toNat)).map Lib.itoa) j = n := by
  by_cases hj : j < sMany x.op.toNat
  · exact atW_itoa (by rw [List.getElem?_take, if_pos hj]; exact hn) (chk_nums h n (List.mem_of_getElem? hn))
  · rw [rest_zero h (by omega) hn]
    exact atW_none (by rw [List.getElem?_take, if_neg hj])
theorem step_line {x : Stp} (h : chkB x = true) : stepM (sLine x) = x := by
  obtain ⟨⟨h1, h2⟩, -, -⟩ := chkB_iff.1 h
  unfold stepM
  rw [lw_sLine h]
  have hd : dofK ((sW x.op.toNat :: ((nums x).take (sMany x.op.toNat)).map Lib.itoa).getD 0 []) 8 = x.op.toNat := dofK_sW (by omega) (by omega)
  rw [hd, atW_nums h (j := 0) (n := x.a0) rfl, atW_nums h (j := 1) (n := x.a1) rfl, atW_nums h (j := 2) (n := x.a2) rfl, atW_nums h (j := 3) (n := x.a3) rfl, atW_nums h (j := 4) (n := x.a4) rfl, atW_nums h (j := 5) (n := x.a5) rfl]
  have : ((x.op.toNat : Nat) : Int) = x.op := by omega
  rw [this]
theorem lines_sText : ∀ {l : List Stp}, (∀ x ∈ l, chkB x = true) → linesL (sText l) = l.map sLine
  | [], _ => rfl
  | x :: l, h => by
    have hx := h x List.mem_cons_self
    obtain ⟨⟨h1, h2⟩, -, -⟩ := chkB_iff.1 hx
    have e : sText (x :: l) = lnN (sW x.op.toNat) ((nums x).take (sMany x.op.toNat)) ++ 10 :: sText l := by unfold sText; simp [sLine, lnB]
    rw [e, lines_hit _ _ (lnN_nl (sW_plain (by omega) (by omega)).2.1 fun n hn => (numB_iff.1 (chk_nums hx n (List.mem_of_mem_take hn))).1), lines_sText fun y hy => h y (List.mem_cons_of_mem _ hy), List.map_cons]
    rfl
theorem parse_sText {l : List Stp} (h : ∀ x ∈ l, chkB x = true) : parseS (sText l) = (l, 0) := by
  unfold parseS
  rw [lines_sText h, if_pos, List.map_map]
  · congr 1
    conv => rhs; rw [← List.map_id l]
    exact List.map_congr_left fun x hx => step_line (h x hx)
  · intro t ht
    obtain ⟨x, hx, rfl⟩ := List.mem_map.1 ht
    unfold okL
    rw [step_line (h x hx)]
    exact ⟨h x hx, rfl⟩
theorem lines_flat : ∀ s : List UInt8, (linesL s).flatten = s
  | [] => rfl
  | c :: s => by
    have h := lines_flat s
    rw [linesL]
    by_cases hc : c = 10
    · rw [if_pos hc, List.flatten_cons, h, hc]; rfl
    · rw [if_neg hc]
      cases hl : linesL s with
      | nil => rw [hl] at h; simp at h; subst h; rfl
      | cons l ls => rw [hl] at h; rw [← h]; rfl
theorem parseS_ok {s : List UInt8} (h : (parseS s).2 = 0) : (∀ x ∈ (parseS s).1, chkB x = true) ∧ sText (parseS s).1 = s := by
  unfold parseS at h ⊢
  split at h
  · rename_i h1
    rw [if_pos h1]
    refine ⟨fun x hx => ?_, ?_⟩
    · obtain ⟨t, ht, rfl⟩ := List.mem_map.1 hx
      exact (h1 t ht).1
    · unfold sText
      rw [List.map_map]
      conv => rhs; rw [← lines_flat s, ← List.map_id (linesL s)]
      congr 1
      exact List.map_congr_left fun t ht => (h1 t ht).2
  · cases h
theorem parseS_bad {s : List UInt8} (h : (parseS s).2 ≠ 0) : (parseS s).1 = [] := by
  unfold parseS at h ⊢
  split at h
  · exact absurd rfl h
  · rename_i h1
    rw [if_neg h1]
theorem parseS_len (s : List UInt8) : (parseS s).1.length ≤ s.length + 1 := by
  unfold parseS
  split
  · have h1 := lines_len s
    have h2 := List.count_le_length (a := (10 : UInt8)) (l := s)
    simp only [List.length_map]; omega
  · simp
end Go.Proofs.YteggkdlgailfoaaDoor
