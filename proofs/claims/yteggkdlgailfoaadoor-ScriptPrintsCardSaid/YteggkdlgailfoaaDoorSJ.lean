/- script: the plain laws of the reference's reading. Conditions: none. -/
import Derived.Test.YteggkdlgailfoaaDoorSI
import Derived.Test.YteggkdlgailfoaaDoorQsF
set_option linter.all false
set_option linter.deprecated false
namespace Go.Proofs.YteggkdlgailfoaaDoor
open Go.Sep
variable [B0 : Base]
/-! ### Words -/
theorem at_blank {p : List UInt8} (h : (32 : UInt8) ∈ p) : ∃ w r, p = w ++ 32 :: r ∧ (32 : UInt8) ∉ w := by
  obtain ⟨a, b, e, h⟩ := List.eq_append_cons_of_mem h
  exact ⟨a, b, e, h⟩
theorem blank_ind {P : List UInt8 → Prop} (h0 : ∀ p, (32 : UInt8) ∉ p → P p) (h1 : ∀ w r, (32 : UInt8) ∉ w → P r → P (w ++ 32 :: r)) (p : List UInt8) : P p := by
  have key : ∀ (n : Nat) (p : List UInt8), p.length ≤ n → P p := by
    intro n
    induction n with
    | zero =>
      intro p hp
      have : p = [] := List.eq_nil_of_length_eq_zero (by omega)
      subst this
      exact h0 [] (by simp)
    | succ n ih =>
      intro p hp
      by_cases h : (32 : UInt8) ∈ p
      · obtain ⟨w, r, rfl, hw⟩ := at_blank h
        exact h1 w r hw (ih r (by simp at hp; omega))
      · exact h0 p h
  exact key p.length p (Nat.le_refl _)
theorem wrds_blank (p : List UInt8) : wrds (p ++ [32]) = wrds p ++ [[]] := by
  refine blank_ind (P := fun p => wrds (p ++ [32]) = wrds p ++ [[]]) (fun p h => ?_) (fun w r h ih => ?_) p
  · rw [wrds_miss h, wrds_hit (r := []) h, wrds_miss (by simp)]; rfl
  · rw [wrds_hit h, show w ++ 32 :: r ++ [32] = w ++ 32 :: (r ++ [32]) by simp, wrds_hit h, ih]; rfl
theorem wrds_char (p : List UInt8) {c : UInt8} (hc : c ≠ 32) : ∃ a b, wrds p = a ++ [b] ∧ wrds (p ++ [c]) = a ++ [b ++ [c]] := by
  refine blank_ind (P := fun p => ∃ a b, wrds p = a ++ [b] ∧ wrds (p ++ [c]) = a ++ [b ++ [c]]) (fun p h => ?_) (fun w r h ih => ?_) p
  · exact ⟨[], p, wrds_miss h, wrds_miss (by simp; exact ⟨h, fun e => hc e.symm⟩)⟩
  · obtain ⟨a, b, e1, e2⟩ := ih
    exact ⟨w :: a, b, by rw [wrds_hit h, e1]; rfl, by rw [show w ++ 32 :: r ++ [c] = w ++ 32 :: (r ++ [c]) by simp, wrds_hit h, e2]; rfl⟩
def joinW (ds : List (List UInt8)) : List UInt8 := (ds.map fun d => 32 :: d).flatten
theorem wrds_join (s : List UInt8) : ∃ w ds, wrds s = w :: ds ∧ s = w ++ joinW ds := by
  refine blank_ind (P := fun s => ∃ w ds, wrds s = w :: ds ∧ s = w ++ joinW ds) (fun p h => ⟨p, [], wrds_miss h, by simp [joinW]⟩) (fun w r h ih => ?_) s
  obtain ⟨w2, ds, e1, e2⟩ := ih
  refine ⟨w, w2 :: ds, by rw [wrds_hit h, e1], ?_⟩
  conv => lhs; rw [e2]
  simp [joinW]
/-! ### Numbers -/
def isNum (t : List UInt8) : Prop := t ≠ [] ∧ t.length ≤ 13 ∧ (∀ c ∈ t, isDig c) ∧ ¬ (t.head? = some 48 ∧ 1 < t.length)
open Classical in
noncomputable def rnumM (t : List UInt8) : Int := if isNum t then (valD t : Nat) else -1
theorem rnum_yes {t : List UInt8} (h : isNum t) : rnumM t = (valD t : Nat) := if_pos h
theorem rnum_no {t : List UInt8} (h : ¬ isNum t) : rnumM t = -1 := if_neg h
theorem num_back {t : List UInt8} (h0 : 0 ≤ rnumM t) : Lib.itoa (rnumM t) = t := by
  by_cases h : isNum t
  · rw [rnum_yes h, itoa_nn (by omega)]
    obtain ⟨h1, h2, h3, h4⟩ := h
    have hl := List.length_pos_iff.2 h1
    exact (dd_val t h1 h3 (by
      by_cases h48 : t.head? = some 48
      · right
        have : ¬ 1 < t.length := fun hh => h4 ⟨h48, hh⟩
        omega
      · exact .inl h48)).1
  · rw [rnum_no h] at h0; omega
theorem num_itoa {n : Int} (h : numB n = true) : rnumM (Lib.itoa n) = n := by
  obtain ⟨h0, h1⟩ := numB_iff.1 h
  rw [itoa_nn h0]
  have hn : isNum (Lib.decDigits n.toNat) := by
    refine ⟨dd_ne _, dd_len 12 _ (by omega), dd_dig _, fun ⟨h2, h3⟩ => ?_⟩
    have := dd_zero_len h2
    omega
  rw [rnum_yes hn, valD_dd]
  omega
/-! ### The step of a line -/
def sCan (s : List UInt8) (y : Stp) : Prop := chkB y = true ∧ lnN (sW y.op.toNat) ((nums y).take (sMany y.op.toNat)) = s
theorem sCan_line {s : List UInt8} {y : Stp} (h : sCan s y) : sLine y = s ++ [10] := by unfold sLine lnB; rw [h.2]
theorem sCan_wrds {s : List UInt8} {y : Stp} (h : sCan s y) : wrds s = sW y.op.toNat :: ((nums y).take (sMany y.op.toNat)).map Lib.itoa := by
  obtain ⟨h1, h2⟩ := h
  obtain ⟨⟨h3, h4⟩, -, -⟩ := chkB_iff.1 h1
  rw [← h2]
  exact wrds_lnN (sW_plain (by omega) (by omega)).1 fun n hn => (numB_iff.1 (chk_nums h1 n (List.mem_of_mem_take hn))).1
theorem sW_inj {i j : Nat} (h : 1 ≤ i) (h2 : i ≤ 7) (h3 : 1 ≤ j) (h4 : j ≤ 7) (e : sW i = sW j) : i = j := by
  have := dofK_sW h h2
  rw [e, dofK_sW h3 h4] at this
  exact this.symm
theorem sCan_len {s : List UInt8} {y : Stp} (h : sCan s y) : (wrds s).length = sMany y.op.toNat + 1 := by
  rw [sCan_wrds h, List.length_cons, List.length_map, List.length_take]
  have := sMany_le y.op.toNat
  show min _ 6 + 1 = _
  omega
theorem sCan_num {s : List UInt8} {y : Stp} (h : sCan s y) {j : Nat} {d : List UInt8} (hd : (wrds s)[j + 1]? = some d) : 0 ≤ rnumM d ∧ rnumM d < 1099511627776 := by
  rw [sCan_wrds h, List.getElem?_cons_succ, List.getElem?_map] at hd
  cases hn : ((nums y).take (sMany y.op.toNat))[j]? with
  | none => rw [hn] at hd; cases hd
  | some n =>
    rw [hn] at hd
    obtain rfl := Option.some.inj hd
    have hb := chk_nums h.1 n (List.mem_of_mem_take (List.mem_of_getElem? hn))
    rw [num_itoa hb]
    exact numB_iff.1 hb
noncomputable def gN (l : List (List UInt8)) (k j : Nat) : Int := if j < k then rnumM (l.getD (j + 1) []) else 0
noncomputable def yK (o : Nat) (l : List (List UInt8)) (k : Nat) : Stp := ⟨o, gN l k 0, gN l k 1, gN l k 2, gN l k 3, gN l k 4, gN l k 5⟩
theorem nums_yK {o : Nat} {l : List (List UInt8)} {k j : Nat} {n : Int} (h : (nums (yK o l k))[j]? = some n) : j < 6 ∧ n = gN l k j := by
  have hj : j < 6 := (List.getElem?_eq_some_iff.1 h).1
  refine ⟨hj, ?_⟩
  rcases (show j = 0 ∨ j = 1 ∨ j = 2 ∨ j = 3 ∨ j = 4 ∨ j = 5 by omega) with rfl | rfl | rfl | rfl | rfl | rfl <;> exact (Option.some.inj h).symm
theorem nums_yK2 (o : Nat) (l : List (List UInt8)) (k : Nat) {j : Nat} (hj : j < 6) : (nums (yK o l k))[j]? = some (gN l k j) := by
  rcases (show j = 0 ∨ j = 1 ∨ j = 2 ∨ j = 3 ∨ j = 4 ∨ j = 5 by omega) with rfl | rfl | rfl | rfl | rfl | rfl <;> rfl
theorem yK_set {o : Nat} {l : List (List UInt8)} {k : Nat} (hk : k < 6) : (stE (yK o l k)).set (1 + k) (int (rnumM (l.getD (k + 1) []))) = stE (yK o l (k + 1)) := by
  rcases (show k = 0 ∨ k = 1 ∨ k = 2 ∨ k = 3 ∨ k = 4 ∨ k = 5 by omega) with rfl | rfl | rfl | rfl | rfl | rfl <;> simp [stE, yK, gN]
theorem one_can {s : List UInt8} {o : Nat} (h1 : 1 ≤ o) (h2 : o ≤ 7) (hw : (wrds s).getD 0 [] = sW o) (hl : (wrds s).length = sMany o + 1) (hv : ∀ j, j < sMany o → 0 ≤ rnumM ((wrds s).getD (j + 1) []) ∧ rnumM ((wrds s).getD (j + 1) []) < 1099511627776) : sCan s (yK o (wrds s) (sMany o)) := by
  have hm := sMany_le o
  have hop : (yK o (wrds s) (sMany o)).op.toNat = o := by show ((o : Nat) : Int).toNat = o; omega
  obtain ⟨w, ds, e1, e2⟩ := wrds_join s
  refine ⟨chkB_iff.2 ⟨⟨by show (1 : Int) ≤ (o : Nat); omega, by show ((o : Nat) : Int) ≤ 7; omega⟩, List.all_eq_true.2 fun n hn => ?_, ?_⟩, ?_⟩
  · obtain ⟨j, hj⟩ := List.mem_iff_getElem?.1 hn
    obtain ⟨hj6, rfl⟩ := nums_yK hj
    unfold gN
    split
    · rename_i h; exact numB_iff.2 (hv j h)
    · decide
  · unfold restB
    rw [List.any_eq_false]
    intro n hn
    obtain ⟨j, hj⟩ := List.mem_iff_getElem?.1 hn
    rw [hop, List.getElem?_drop] at hj
    obtain ⟨hj6, rfl⟩ := nums_yK hj
    unfold gN
    rw [if_neg (by omega)]
    simp
  · rw [hop]
    conv => rhs; rw [e2]
    rw [e1] at hw hl
    have hw2 : w = sW o := hw
    have hdl : ds.length = sMany o := by simpa using hl
    unfold lnN
    rw [hw2]
    congr 1
    unfold joinW
    congr 1
    apply List.ext_getElem?
    intro j
    rw [List.getElem?_map, List.getElem?_map, List.getElem?_take]
    split
    · rename_i hj
      rw [nums_yK2 _ _ _ (by omega)]
      have hdj : ds[j]? = some (ds[j]'(by omega)) := List.getElem?_eq_getElem _
      rw [hdj]
      have hg : gN (wrds s) (sMany o) j = rnumM (ds[j]'(by omega)) := by
        unfold gN
        rw [if_pos hj, e1, List.getD_eq_getElem?_getD, List.getElem?_cons_succ, hdj]; rfl
      have hv2 := hv j hj
      rw [e1, List.getD_eq_getElem?_getD, List.getElem?_cons_succ, hdj] at hv2
      rw [hg]
      show some (32 :: Lib.itoa (rnumM _)) = _
      have hv3 : 0 ≤ rnumM (ds[j]'(by omega)) := hv2.1
      rw [num_back hv3]
      rfl
    · rename_i hj
      rw [List.getElem?_eq_none (by omega : ds.length ≤ j)]
      rfl
/-! ### Lines of a text that goes on -/
theorem sText_app : ∀ {q : List Stp} (r : List UInt8), (∀ x ∈ q, chkB x = true) → linesL (sText q ++ r) = q.map sLine ++ linesL r
  | [], r, _ => rfl
  | x :: q, r, h => by
    have hx := h x List.mem_cons_self
    obtain ⟨⟨h1, h2⟩, -, -⟩ := chkB_iff.1 hx
    have e : sText (x :: q) ++ r = lnN (sW x.op.toNat) ((nums x).take (sMany x.op.toNat)) ++ 10 :: (sText q ++ r) := by unfold sText; simp [sLine, lnB]
    rw [e, lines_hit _ _ (lnN_nl (sW_plain (by omega) (by omega)).2.1 fun n hn => (numB_iff.1 (chk_nums hx n (List.mem_of_mem_take hn))).1), sText_app r fun y hy => h y (List.mem_cons_of_mem _ hy), List.map_cons]
    rfl
theorem no_sText {s ln rest : List UInt8} {q : List Stp} (hq : ∀ x ∈ q, chkB x = true) (hs : s = sText q ++ (ln ++ 10 :: rest)) (hn : (10 : UInt8) ∉ ln) (hno : ∀ y, ¬ sCan ln y) (l : List Stp) (hl : ∀ x ∈ l, chkB x = true) : sText l ≠ s := fun e => by
  have h1 := lines_sText hl
  rw [e, hs, sText_app _ hq, lines_hit _ _ hn] at h1
  have h2 : (ln ++ [10]) ∈ l.map sLine := by rw [← h1]; simp
  obtain ⟨y, hy, hb⟩ := List.mem_map.1 h2
  unfold sLine lnB at hb
  exact hno y ⟨hl y hy, List.append_cancel_right hb⟩
theorem no_sText_end {s ln : List UInt8} {q : List Stp} (hq : ∀ x ∈ q, chkB x = true) (hs : s = sText q ++ ln) (hn : (10 : UInt8) ∉ ln) (hne : ln ≠ []) (l : List Stp) (hl : ∀ x ∈ l, chkB x = true) : sText l ≠ s := fun e => by
  have h1 := lines_sText hl
  rw [e, hs, sText_app _ hq, lines_miss _ hn hne] at h1
  have h2 : ln ∈ l.map sLine := by rw [← h1]; simp
  obtain ⟨y, hy, hb⟩ := List.mem_map.1 h2
  unfold sLine lnB at hb
  exact hn (by rw [← hb]; simp)
/-- What the reference's reading comes to. -/
def rpS (s : List UInt8) (q : List Stp) (b : Bool) : Prop := (b = true → (∀ x ∈ q, chkB x = true) ∧ sText q = s) ∧ (b = false → ∀ l, (∀ x ∈ l, chkB x = true) → sText l ≠ s)
theorem rpS_t {s : List UInt8} {q : List Stp} (h : ∀ x ∈ q, chkB x = true) (h2 : sText q = s) : rpS s q true := ⟨fun _ => ⟨h, h2⟩, fun h => by cases h⟩
theorem rpS_f {s : List UInt8} {q : List Stp} (h : ∀ l, (∀ x ∈ l, chkB x = true) → sText l ≠ s) : rpS s q false := ⟨fun h => (by cases h), fun _ => h⟩
theorem rpS_law_t {s : List UInt8} {q : List Stp} (h : rpS s q true) : parseS s = (q, 0) := by
  obtain ⟨h1, h2⟩ := h.1 rfl
  rw [← h2]; exact parse_sText h1
theorem rpS_law_f {s : List UInt8} {q : List Stp} (h : rpS s q false) : parseS s = ([], 22) := by
  have h2 := h.2 rfl
  by_cases h0 : (parseS s).2 = 0
  · obtain ⟨h3, h4⟩ := parseS_ok h0
    exact absurd h4 (h2 _ h3)
  · unfold parseS at h0 ⊢
    split at h0
    · exact absurd rfl h0
    · rename_i h1
      rw [if_neg h1]
end Go.Proofs.YteggkdlgailfoaaDoor
