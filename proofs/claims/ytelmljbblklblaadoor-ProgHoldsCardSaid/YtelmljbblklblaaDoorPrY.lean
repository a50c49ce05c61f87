/- prog: what is in a list, and not in another one; a long program as the document's answer has it. Conditions: none. -/
import Derived.Test.YtelmljbblklblaaDoorPrW
set_option linter.all false
set_option linter.deprecated false
namespace Go.Proofs.YtelmljbblklblaaDoor
open Go.Sep
variable [B0 : Base]
set_option maxHeartbeats 4000000 in
theorem Plain_ok2 (v : Value) (l : List Ins) (R : List HP) (h : PrIn R v l) (hb : l.length * 16 ≤ 140737488355328) : Called Tryd.prog 13 [v] R (retSl 29 2 (l.map insE) R) := by
  have hv := h.isl
  have hs := h.src
  refine Called.isl ?_
  refine Fn1 Tryd.func13 rfl Tryd.ntmps13 rfl ?_
  (repeat' first | refine stp ?_ | intro v' hv' | intro (b : Nat) | (apply w_convU; rfl; rfl; omega; omega) | (apply w_convI; rfl; rfl; omega; omega) | (apply w_quoU; rfl; rfl; rfl; omega; omega; omega) | (apply w_remU; rfl; rfl; rfl; omega; omega) | (apply w_minL; rfl; rfl; rfl; omega) | (apply w_minG; rfl; rfl; rfl; omega) | (apply w_min; rfl; rfl; rfl) | (apply w_mfR; rfl; rfl) | (apply w_cvp; rfl; rfl; exact inferInstance; rfl; rfl; assumption) | (apply w_eqS2T; rfl; rfl; rfl; omega) | (apply w_eqS2F; rfl; rfl; rfl; omega) | (apply w_neS2T; rfl; rfl; rfl; omega) | (apply w_neS2F; rfl; rfl; rfl; omega) | (apply w_eqS3T; rfl; rfl; rfl; omega) | (apply w_eqS3F; rfl; rfl; rfl; omega) | (apply w_neS3T; rfl; rfl; rfl; omega) | (apply w_neS3F; rfl; rfl; rfl; omega) | (apply w_eqS3; rfl; rfl; rfl) | (apply w_neS3; rfl; rfl; rfl) | (apply w_eqS2; rfl; rfl; rfl) | (apply w_neS2; rfl; rfl; rfl) | (apply w_maxL; rfl; rfl; rfl; omega) | (apply w_maxG; rfl; rfl; rfl; omega) | (apply w_max; rfl; rfl; rfl) | (apply w_neB; rfl; rfl; rfl; rfl) | (apply w_eqB; rfl; rfl; rfl; rfl) | refine spl ?_ ?_ | intro hc)
  refine C_loopK (α := Nat × Value) [3, 4, 5, 6, 7, 8, 9, 10, 11, 12, 13, 14, 15, 16, 17, 18, 19, 20, 21, 22, 23, 24] (fun x => l.length - x.1) (fun x => [(4, int x.1), (3, x.2)]) (fun x => sl 29 2 x.2 ((l.take x.1).map insE) :: R) (fun x => x.1 ≤ l.length ∧ IsSl x.2 x.1) (0, .slice none 0 0) ⟨Nat.zero_le _, IsSl.nil⟩ (by (focus ((repeat (first | exact Keep.nil | apply Keep.drop rfl | apply Keep.keep rfl)); done))) (by (exact sbf)) (fun w h => h.sl_nil) ?_
  rintro ⟨k, u⟩ ⟨hk, hu⟩
  dsimp only [List.cons_append, List.nil_append] at *
  by_cases hlt : k < l.length
  · have hr0 : Rd R ⟨vb v, vo v + k * 2 + 0, none⟩ (int l[k].op) := Rd.src hs (i := k) (k := 0) (e := insE l[k]) (by simp [hlt]) rfl
    have hr1 : Rd R ⟨vb v, vo v + k * 2 + 1, none⟩ (int l[k].n) := Rd.src hs (i := k) (k := 1) (e := insE l[k]) (by simp [hlt]) rfl
    have htk : (l.take (k + 1)).map insE = (l.take k).map insE ++ [insE l[k]] := by rw [List.take_add_one, List.getElem?_eq_getElem hlt, List.map_append]; rfl
    have hlk : ((l.take k).map insE).length = k := by simp; omega
    (repeat' first | refine stp ?_ | intro v' hv' | intro (b : Nat) | (apply w_convU; rfl; rfl; omega; omega) | (apply w_convI; rfl; rfl; omega; omega) | (apply w_quoU; rfl; rfl; rfl; omega; omega; omega) | (apply w_remU; rfl; rfl; rfl; omega; omega) | (apply w_minL; rfl; rfl; rfl; omega) | (apply w_minG; rfl; rfl; rfl; omega) | (apply w_min; rfl; rfl; rfl) | (apply w_mfR; rfl; rfl) | (apply w_cvp; rfl; rfl; exact inferInstance; rfl; rfl; assumption) | (apply w_eqS2T; rfl; rfl; rfl; omega) | (apply w_eqS2F; rfl; rfl; rfl; omega) | (apply w_neS2T; rfl; rfl; rfl; omega) | (apply w_neS2F; rfl; rfl; rfl; omega) | (apply w_eqS3T; rfl; rfl; rfl; omega) | (apply w_eqS3F; rfl; rfl; rfl; omega) | (apply w_neS3T; rfl; rfl; rfl; omega) | (apply w_neS3F; rfl; rfl; rfl; omega) | (apply w_eqS3; rfl; rfl; rfl) | (apply w_neS3; rfl; rfl; rfl) | (apply w_eqS2; rfl; rfl; rfl) | (apply w_neS2; rfl; rfl; rfl) | (apply w_maxL; rfl; rfl; rfl; omega) | (apply w_maxG; rfl; rfl; rfl; omega) | (apply w_max; rfl; rfl; rfl) | (apply w_neB; rfl; rfl; rfl; rfl) | (apply w_eqB; rfl; rfl; rfl; rfl) | refine spl ?_ ?_ | intro hc)
    apply w_ap (es := [insE l[k]])
    rfl; rfl; rfl; ((focus ((repeat (first | exact Del.here | apply Del.there)); done))); ((exact srf)); rfl; (rw [hlk]; simp; omega); (rw [hlk]; simp; omega)
    intro v2 hv2
    refine ⟨by (exact kmf), ?_⟩
    have hv3 : IsSl v2 (k + 1) := by rw [List.length_append, hlk] at hv2; exact hv2
    (repeat' first | refine stp ?_ | intro v' hv' | intro (b : Nat) | (apply w_convU; rfl; rfl; omega; omega) | (apply w_convI; rfl; rfl; omega; omega) | (apply w_quoU; rfl; rfl; rfl; omega; omega; omega) | (apply w_remU; rfl; rfl; rfl; omega; omega) | (apply w_minL; rfl; rfl; rfl; omega) | (apply w_minG; rfl; rfl; rfl; omega) | (apply w_min; rfl; rfl; rfl) | (apply w_mfR; rfl; rfl) | (apply w_cvp; rfl; rfl; exact inferInstance; rfl; rfl; assumption) | (apply w_eqS2T; rfl; rfl; rfl; omega) | (apply w_eqS2F; rfl; rfl; rfl; omega) | (apply w_neS2T; rfl; rfl; rfl; omega) | (apply w_neS2F; rfl; rfl; rfl; omega) | (apply w_eqS3T; rfl; rfl; rfl; omega) | (apply w_eqS3F; rfl; rfl; rfl; omega) | (apply w_neS3T; rfl; rfl; rfl; omega) | (apply w_neS3F; rfl; rfl; rfl; omega) | (apply w_eqS3; rfl; rfl; rfl) | (apply w_neS3; rfl; rfl; rfl) | (apply w_eqS2; rfl; rfl; rfl) | (apply w_neS2; rfl; rfl; rfl) | (apply w_maxL; rfl; rfl; rfl; omega) | (apply w_maxG; rfl; rfl; rfl; omega) | (apply w_max; rfl; rfl; rfl) | (apply w_neB; rfl; rfl; rfl; rfl) | (apply w_eqB; rfl; rfl; rfl; rfl) | refine spl ?_ ?_ | intro hc)
    refine At_againK (k + 1, v2) ⟨hlt, hv3⟩ (by show l.length - (k + 1) < l.length - k; omega) (by (exact sbf)) (by (exact sbf)) (fun w hs => ?_)
    show Sat w (sl 29 2 v2 ((l.take (k + 1)).map insE) :: R)
    rw [htk]
    exact Sel.sat (by (focus ((repeat (first | exact Sel.refl | (apply Sel.cons; (focus ((repeat (first | exact Del.here | apply Del.there)); done))) | refine Sel.drop ?_)); done))) hs
  · have hk' : k = l.length := by omega
    subst hk'
    rw [List.take_length]
    (repeat' first | refine stp ?_ | intro v' hv' | intro (b : Nat) | (apply w_convU; rfl; rfl; omega; omega) | (apply w_convI; rfl; rfl; omega; omega) | (apply w_quoU; rfl; rfl; rfl; omega; omega; omega) | (apply w_remU; rfl; rfl; rfl; omega; omega) | (apply w_minL; rfl; rfl; rfl; omega) | (apply w_minG; rfl; rfl; rfl; omega) | (apply w_min; rfl; rfl; rfl) | (apply w_mfR; rfl; rfl) | (apply w_cvp; rfl; rfl; exact inferInstance; rfl; rfl; assumption) | (apply w_eqS2T; rfl; rfl; rfl; omega) | (apply w_eqS2F; rfl; rfl; rfl; omega) | (apply w_neS2T; rfl; rfl; rfl; omega) | (apply w_neS2F; rfl; rfl; rfl; omega) | (apply w_eqS3T; rfl; rfl; rfl; omega) | (apply w_eqS3F; rfl; rfl; rfl; omega) | (apply w_neS3T; rfl; rfl; rfl; omega) | (apply w_neS3F; rfl; rfl; rfl; omega) | (apply w_eqS3; rfl; rfl; rfl) | (apply w_neS3; rfl; rfl; rfl) | (apply w_eqS2; rfl; rfl; rfl) | (apply w_neS2; rfl; rfl; rfl) | (apply w_maxL; rfl; rfl; rfl; omega) | (apply w_maxG; rfl; rfl; rfl; omega) | (apply w_max; rfl; rfl; rfl) | (apply w_neB; rfl; rfl; rfl; rfl) | (apply w_eqB; rfl; rfl; rfl; rfl) | refine spl ?_ ?_ | intro hc)
    exact At_ret1 (.inl rfl) Tryd.results13 rfl rfl (fun w h => h)
/-- What is in a list, and not in another one. -/
def wo (a b : List Int) : List Int := a.filter fun x => decide (x ∉ b)
theorem wo_len (a b : List Int) : (wo a b).length ≤ a.length := List.length_filter_le _ _
theorem wo_sorted {a : List Int} (h : a.Pairwise (· < ·)) (b : List Int) : (wo a b).Pairwise (· < ·) := h.sublist List.filter_sublist
theorem wo_mem (a b : List Int) (y : Int) : y ∈ wo a b ↔ y ∈ a ∧ y ∉ b := by unfold wo; simp
theorem wo_turn {h : List Int} (ho : h.Pairwise (· < ·)) (x : Ins) :
    wo (turn h x) h = (if (x.op = 2 ∨ x.op = 3) ∧ x.n ∉ h then [x.n] else []) ∧ wo h (turn h x) = (if x.op = 4 ∧ x.n ∈ h then [x.n] else []) := by
  have ht := turn_sorted ho x
  constructor
  · refine sorted_ext (wo_sorted ht h) (by split <;> simp) fun y => ?_
    rw [wo_mem, mem_turn ho]
    by_cases h23 : x.op = 2 ∨ x.op = 3
    · rw [if_pos h23]
      by_cases hn : x.n ∈ h
      · rw [if_neg (fun hh => hh.2 hn)]
        simp only [List.not_mem_nil, iff_false]
        rintro ⟨rfl | h1, h2⟩
        · exact h2 hn
        · exact h2 h1
      · rw [if_pos ⟨h23, hn⟩, List.mem_singleton]
        constructor
        · rintro ⟨h1 | h1, h2⟩
          · exact h1
          · exact absurd h1 h2
        · rintro rfl; exact ⟨.inl rfl, hn⟩
    · rw [if_neg h23, if_neg (show ¬ ((x.op = 2 ∨ x.op = 3) ∧ x.n ∉ h) from fun hh => h23 hh.1)]
      simp only [List.not_mem_nil, iff_false]
      by_cases h4 : x.op = 4
      · rw [if_pos h4]; exact fun hh => hh.2 hh.1.1
      · rw [if_neg h4]; exact fun hh => hh.2 hh.1
  · refine sorted_ext (wo_sorted ho _) (by split <;> simp) fun y => ?_
    rw [wo_mem, mem_turn ho]
    by_cases h23 : x.op = 2 ∨ x.op = 3
    · rw [if_pos h23, if_neg (show ¬ (x.op = 4 ∧ x.n ∈ h) from fun hh => by omega)]
      simp only [List.not_mem_nil, iff_false]
      exact fun hh => hh.2 (.inr hh.1)
    · rw [if_neg h23]
      by_cases h4 : x.op = 4
      · rw [if_pos h4]
        by_cases hn : x.n ∈ h
        · rw [if_pos ⟨h4, hn⟩, List.mem_singleton]
          constructor
          · rintro ⟨h1, h2⟩
            exact Classical.byContradiction fun hne => h2 ⟨h1, hne⟩
          · rintro rfl; exact ⟨hn, fun hh => hh.2 rfl⟩
        · rw [if_neg (fun hh => hn hh.2)]
          simp only [List.not_mem_nil, iff_false]
          exact fun hh => hh.2 ⟨hh.1, fun e => hn (e ▸ hh.1)⟩
      · rw [if_neg h4, if_neg (show ¬ (x.op = 4 ∧ x.n ∈ h) from fun hh => h4 hh.1)]
        simp only [List.not_mem_nil, iff_false]
        exact fun hh => hh.2 hh.1
theorem foldS_none {l : List Ins} : ∀ {s h : List Int}, foldS balNx l s = (h, none) → h = l.foldl turn s := by
  induction l with
  | nil => intro s h e; simp [foldS] at e; exact e.symm
  | cons x l ih =>
    intro s h e
    simp only [foldS, balNx] at e
    by_cases hc : x.op = 2 ∧ x.n ∈ s ∨ x.op = 4 ∧ x.n ∉ s
    · rw [if_pos hc] at e; simp at e
    · rw [if_neg hc] at e; exact ih e
theorem balM_empty {l : List Ins} (h : balM l = true) : (listed l).foldl turn [] = [] := by
  unfold balM at h
  simp only [Bool.and_eq_true] at h
  have h2 := h.2
  cases hr : balR (listed l) with
  | mk hh c =>
    rw [hr] at h2
    cases c with
    | some c => simp at h2
    | none =>
      have := foldS_none hr
      rw [← this]
      simp at h2
      exact h2
theorem InIn.nil {R : List HP} : InIn R (.slice none 0 0) [] := ⟨IsSl.nil, ⟨(fun _ _ _ h => by cases h), fun _ _ => ⟨none, 0, rfl, .inl rfl⟩⟩⟩
set_option maxHeartbeats 4000000 in
theorem without_ok (a b : Value) (la lb : List Int) (R : List HP) (ha : InIn R a la) (hb : InIn R b lb) (h6 : la.length ≤ 1000000) : Called Tryd.prog 28 [a, b] R (retSl 3 1 ((wo la lb).map iE) R) := by
  refine Called.isl ?_
  have hva := ha.isl
  have hvb := hb.isl
  have hsa := ha.src
  have hsb := hb.src
  have hN := hva.len
  have hNb := hvb.len
  refine Fn2 Tryd.func28 rfl Tryd.ntmps28 rfl ?_
  (repeat' first | refine stp ?_ | intro v' hv' | intro (b : Nat) | (apply w_convU; rfl; rfl; omega; omega) | (apply w_convI; rfl; rfl; omega; omega) | (apply w_quoU; rfl; rfl; rfl; omega; omega; omega) | (apply w_remU; rfl; rfl; rfl; omega; omega) | (apply w_minL; rfl; rfl; rfl; omega) | (apply w_minG; rfl; rfl; rfl; omega) | (apply w_min; rfl; rfl; rfl) | (apply w_mfR; rfl; rfl) | (apply w_cvp; rfl; rfl; exact inferInstance; rfl; rfl; assumption) | (apply w_eqS2T; rfl; rfl; rfl; omega) | (apply w_eqS2F; rfl; rfl; rfl; omega) | (apply w_neS2T; rfl; rfl; rfl; omega) | (apply w_neS2F; rfl; rfl; rfl; omega) | (apply w_eqS3T; rfl; rfl; rfl; omega) | (apply w_eqS3F; rfl; rfl; rfl; omega) | (apply w_neS3T; rfl; rfl; rfl; omega) | (apply w_neS3F; rfl; rfl; rfl; omega) | (apply w_eqS3; rfl; rfl; rfl) | (apply w_neS3; rfl; rfl; rfl) | (apply w_eqS2; rfl; rfl; rfl) | (apply w_neS2; rfl; rfl; rfl) | (apply w_maxL; rfl; rfl; rfl; omega) | (apply w_maxG; rfl; rfl; rfl; omega) | (apply w_max; rfl; rfl; rfl) | (apply w_neB; rfl; rfl; rfl; rfl) | (apply w_eqB; rfl; rfl; rfl; rfl) | refine spl ?_ ?_ | intro hc)
  refine C_loopK (α := Nat × Value) [5, 6, 7, 8, 9, 10, 11, 12, 13, 14, 15, 16, 17, 18, 19, 20, 21, 22, 23, 24, 25, 26, 27, 28, 29, 30, 31, 32, 33, 34, 35, 36, 37, 38, 39, 40, 41] (fun x => la.length - x.1) (fun x => [(6, int x.1), (5, x.2)]) (fun x => sl 3 1 x.2 ((wo (la.take x.1) lb).map iE) :: R) (fun x => x.1 ≤ la.length ∧ IsSl x.2 (wo (la.take x.1) lb).length) (0, .slice none 0 0) ⟨Nat.zero_le _, IsSl.nil⟩ (by (focus ((repeat (first | exact Keep.nil | apply Keep.drop rfl | apply Keep.keep rfl)); done))) (by (exact sbf)) (fun w h => h.sl_nil) ?_
  rintro ⟨k, u⟩ ⟨hk, hu⟩
  dsimp only [List.cons_append, List.nil_append] at *
  by_cases hlt : k < la.length
  · have hxa : la[k]? = some la[k] := by simp [hlt]
    have hr0 : Rd R ⟨vb a, vo a + k * 1, none⟩ (int la[k]) := (Rd.src hsa (i := k) (k := 0) (e := iE la[k]) (by simp [hlt]) rfl : Rd R ⟨vb a, vo a + k * 1 + 0, none⟩ _)
    have hwk : wo (la.take (k + 1)) lb = if la[k] ∉ lb then wo (la.take k) lb ++ [la[k]] else wo (la.take k) lb := by
      unfold wo
      rw [List.take_add_one, hxa, List.filter_append]
      by_cases hh : la[k] ∉ lb
      · rw [if_pos hh]; simp [hh]
      · rw [if_neg hh]; simp at hh; simp [hh]
    have hwl := wo_len (la.take k) lb
    rw [List.length_take] at hwl
    generalize la[k] = x at *
    (repeat' first | refine stp ?_ | intro v' hv' | intro (b : Nat) | (apply w_convU; rfl; rfl; omega; omega) | (apply w_convI; rfl; rfl; omega; omega) | (apply w_quoU; rfl; rfl; rfl; omega; omega; omega) | (apply w_remU; rfl; rfl; rfl; omega; omega) | (apply w_minL; rfl; rfl; rfl; omega) | (apply w_minG; rfl; rfl; rfl; omega) | (apply w_min; rfl; rfl; rfl) | (apply w_mfR; rfl; rfl) | (apply w_cvp; rfl; rfl; exact inferInstance; rfl; rfl; assumption) | (apply w_eqS2T; rfl; rfl; rfl; omega) | (apply w_eqS2F; rfl; rfl; rfl; omega) | (apply w_neS2T; rfl; rfl; rfl; omega) | (apply w_neS2F; rfl; rfl; rfl; omega) | (apply w_eqS3T; rfl; rfl; rfl; omega) | (apply w_eqS3F; rfl; rfl; rfl; omega) | (apply w_neS3T; rfl; rfl; rfl; omega) | (apply w_neS3F; rfl; rfl; rfl; omega) | (apply w_eqS3; rfl; rfl; rfl) | (apply w_neS3; rfl; rfl; rfl) | (apply w_eqS2; rfl; rfl; rfl) | (apply w_neS2; rfl; rfl; rfl) | (apply w_maxL; rfl; rfl; rfl; omega) | (apply w_maxG; rfl; rfl; rfl; omega) | (apply w_max; rfl; rfl; rfl) | (apply w_neB; rfl; rfl; rfl; rfl) | (apply w_eqB; rfl; rfl; rfl; rfl) | refine spl ?_ ?_ | intro hc)
    refine C_loopK [7, 8, 15, 16, 17, 18, 19, 20, 21, 22, 23, 24, 25, 26, 27, 28, 29, 30, 31, 32] (fun j : Nat => lb.length - j) (fun j => [(8, int j), (7, .bool (decide (x ∈ lb.take j)))]) (fun _ => sl 3 1 u ((wo (la.take k) lb).map iE) :: R) (fun j => j ≤ lb.length) 0 (Nat.zero_le _) (by (focus ((repeat (first | exact Keep.nil | apply Keep.drop rfl | apply Keep.keep rfl)); done))) (by (exact sbf)) (fun w h => h) ?_
    intro j hj
    dsimp only [List.cons_append, List.nil_append] at *
    by_cases hlj : j < lb.length
    · have hr1 : Rd R ⟨vb b, vo b + j * 1, none⟩ (int lb[j]) := (Rd.src hsb (i := j) (k := 0) (e := iE lb[j]) (by simp [hlj]) rfl : Rd R ⟨vb b, vo b + j * 1 + 0, none⟩ _)
      have hdj : decide (x ∈ lb.take (j + 1)) = (decide (x ∈ lb.take j) || decide (x = lb[j])) := by
        rw [List.take_add_one, List.getElem?_eq_getElem hlj]
        simp only [List.mem_append, Option.toList, List.mem_singleton, Bool.decide_or]
      generalize lb[j] = y at *
      by_cases hin : x ∈ lb.take j
      · rw [decide_eq_true hin] at hdj ⊢
        (repeat' first | refine stp ?_ | intro v' hv' | intro (b : Nat) | (apply w_convU; rfl; rfl; omega; omega) | (apply w_convI; rfl; rfl; omega; omega) | (apply w_quoU; rfl; rfl; rfl; omega; omega; omega) | (apply w_remU; rfl; rfl; rfl; omega; omega) | (apply w_minL; rfl; rfl; rfl; omega) | (apply w_minG; rfl; rfl; rfl; omega) | (apply w_min; rfl; rfl; rfl) | (apply w_mfR; rfl; rfl) | (apply w_cvp; rfl; rfl; exact inferInstance; rfl; rfl; assumption) | (apply w_eqS2T; rfl; rfl; rfl; omega) | (apply w_eqS2F; rfl; rfl; rfl; omega) | (apply w_neS2T; rfl; rfl; rfl; omega) | (apply w_neS2F; rfl; rfl; rfl; omega) | (apply w_eqS3T; rfl; rfl; rfl; omega) | (apply w_eqS3F; rfl; rfl; rfl; omega) | (apply w_neS3T; rfl; rfl; rfl; omega) | (apply w_neS3F; rfl; rfl; rfl; omega) | (apply w_eqS3; rfl; rfl; rfl) | (apply w_neS3; rfl; rfl; rfl) | (apply w_eqS2; rfl; rfl; rfl) | (apply w_neS2; rfl; rfl; rfl) | (apply w_maxL; rfl; rfl; rfl; omega) | (apply w_maxG; rfl; rfl; rfl; omega) | (apply w_max; rfl; rfl; rfl) | (apply w_neB; rfl; rfl; rfl; rfl) | (apply w_eqB; rfl; rfl; rfl; rfl) | refine spl ?_ ?_ | intro hc)
        all_goals first | (exfalso; omega) | skip
        all_goals exact At_againK (j + 1) hlj (by omega) (by rw [hdj]; (exact sbf)) (by (exact sbf)) (by (exact frm))
      · rw [decide_eq_false hin] at hdj ⊢
        (repeat' first | refine stp ?_ | intro v' hv' | intro (b : Nat) | (apply w_convU; rfl; rfl; omega; omega) | (apply w_convI; rfl; rfl; omega; omega) | (apply w_quoU; rfl; rfl; rfl; omega; omega; omega) | (apply w_remU; rfl; rfl; rfl; omega; omega) | (apply w_minL; rfl; rfl; rfl; omega) | (apply w_minG; rfl; rfl; rfl; omega) | (apply w_min; rfl; rfl; rfl) | (apply w_mfR; rfl; rfl) | (apply w_cvp; rfl; rfl; exact inferInstance; rfl; rfl; assumption) | (apply w_eqS2T; rfl; rfl; rfl; omega) | (apply w_eqS2F; rfl; rfl; rfl; omega) | (apply w_neS2T; rfl; rfl; rfl; omega) | (apply w_neS2F; rfl; rfl; rfl; omega) | (apply w_eqS3T; rfl; rfl; rfl; omega) | (apply w_eqS3F; rfl; rfl; rfl; omega) | (apply w_neS3T; rfl; rfl; rfl; omega) | (apply w_neS3F; rfl; rfl; rfl; omega) | (apply w_eqS3; rfl; rfl; rfl) | (apply w_neS3; rfl; rfl; rfl) | (apply w_eqS2; rfl; rfl; rfl) | (apply w_neS2; rfl; rfl; rfl) | (apply w_maxL; rfl; rfl; rfl; omega) | (apply w_maxG; rfl; rfl; rfl; omega) | (apply w_max; rfl; rfl; rfl) | (apply w_neB; rfl; rfl; rfl; rfl) | (apply w_eqB; rfl; rfl; rfl; rfl) | refine spl ?_ ?_ | intro hc)
        all_goals first | (exfalso; omega) | skip
        all_goals exact At_againK (j + 1) hlj (by omega) (by rw [hdj]; (exact sbf)) (by (exact sbf)) (by (exact frm))
    · have hj' : j = lb.length := by omega
      subst hj'
      rw [List.take_length]
      by_cases hin : x ∈ lb
      · rw [decide_eq_true hin]
        rw [if_neg (fun h => h hin)] at hwk
        (repeat' first | refine stp ?_ | intro v' hv' | intro (b : Nat) | (apply w_convU; rfl; rfl; omega; omega) | (apply w_convI; rfl; rfl; omega; omega) | (apply w_quoU; rfl; rfl; rfl; omega; omega; omega) | (apply w_remU; rfl; rfl; rfl; omega; omega) | (apply w_minL; rfl; rfl; rfl; omega) | (apply w_minG; rfl; rfl; rfl; omega) | (apply w_min; rfl; rfl; rfl) | (apply w_mfR; rfl; rfl) | (apply w_cvp; rfl; rfl; exact inferInstance; rfl; rfl; assumption) | (apply w_eqS2T; rfl; rfl; rfl; omega) | (apply w_eqS2F; rfl; rfl; rfl; omega) | (apply w_neS2T; rfl; rfl; rfl; omega) | (apply w_neS2F; rfl; rfl; rfl; omega) | (apply w_eqS3T; rfl; rfl; rfl; omega) | (apply w_eqS3F; rfl; rfl; rfl; omega) | (apply w_neS3T; rfl; rfl; rfl; omega) | (apply w_neS3F; rfl; rfl; rfl; omega) | (apply w_eqS3; rfl; rfl; rfl) | (apply w_neS3; rfl; rfl; rfl) | (apply w_eqS2; rfl; rfl; rfl) | (apply w_neS2; rfl; rfl; rfl) | (apply w_maxL; rfl; rfl; rfl; omega) | (apply w_maxG; rfl; rfl; rfl; omega) | (apply w_max; rfl; rfl; rfl) | (apply w_neB; rfl; rfl; rfl; rfl) | (apply w_eqB; rfl; rfl; rfl; rfl) | refine spl ?_ ?_ | intro hc)
        all_goals exact At_againK (k + 1, u) ⟨hlt, by rw [hwk]; exact hu⟩ (by show la.length - (k + 1) < la.length - k; omega) (by (exact sbf)) (by (exact sbf)) (fun w hs => by show Sat w (sl 3 1 u ((wo (la.take (k + 1)) lb).map iE) :: R); rw [hwk]; exact hs)
      · rw [decide_eq_false hin]
        rw [if_pos hin] at hwk
        have hle : ((wo (la.take k) lb).map iE).length ≤ 1000000 := by rw [List.length_map]; omega
        (repeat' first | refine stp ?_ | intro v' hv' | intro (b : Nat) | (apply w_convU; rfl; rfl; omega; omega) | (apply w_convI; rfl; rfl; omega; omega) | (apply w_quoU; rfl; rfl; rfl; omega; omega; omega) | (apply w_remU; rfl; rfl; rfl; omega; omega) | (apply w_minL; rfl; rfl; rfl; omega) | (apply w_minG; rfl; rfl; rfl; omega) | (apply w_min; rfl; rfl; rfl) | (apply w_mfR; rfl; rfl) | (apply w_cvp; rfl; rfl; exact inferInstance; rfl; rfl; assumption) | (apply w_eqS2T; rfl; rfl; rfl; omega) | (apply w_eqS2F; rfl; rfl; rfl; omega) | (apply w_neS2T; rfl; rfl; rfl; omega) | (apply w_neS2F; rfl; rfl; rfl; omega) | (apply w_eqS3T; rfl; rfl; rfl; omega) | (apply w_eqS3F; rfl; rfl; rfl; omega) | (apply w_neS3T; rfl; rfl; rfl; omega) | (apply w_neS3F; rfl; rfl; rfl; omega) | (apply w_eqS3; rfl; rfl; rfl) | (apply w_neS3; rfl; rfl; rfl) | (apply w_eqS2; rfl; rfl; rfl) | (apply w_neS2; rfl; rfl; rfl) | (apply w_maxL; rfl; rfl; rfl; omega) | (apply w_maxG; rfl; rfl; rfl; omega) | (apply w_max; rfl; rfl; rfl) | (apply w_neB; rfl; rfl; rfl; rfl) | (apply w_eqB; rfl; rfl; rfl; rfl) | refine spl ?_ ?_ | intro hc)
        apply w_ap (es := [iE x])
        rfl; rfl; rfl; ((focus ((repeat (first | exact Del.here | apply Del.there)); done))); ((exact srf)); rfl; (simp; omega); (simp; omega)
        intro v2 hv2
        refine ⟨by (exact kmf), ?_⟩
        have hv3 : IsSl v2 (wo (la.take (k + 1)) lb).length := by rw [hwk]; simpa using hv2
        (repeat' first | refine stp ?_ | intro v' hv' | intro (b : Nat) | (apply w_convU; rfl; rfl; omega; omega) | (apply w_convI; rfl; rfl; omega; omega) | (apply w_quoU; rfl; rfl; rfl; omega; omega; omega) | (apply w_remU; rfl; rfl; rfl; omega; omega) | (apply w_minL; rfl; rfl; rfl; omega) | (apply w_minG; rfl; rfl; rfl; omega) | (apply w_min; rfl; rfl; rfl) | (apply w_mfR; rfl; rfl) | (apply w_cvp; rfl; rfl; exact inferInstance; rfl; rfl; assumption) | (apply w_eqS2T; rfl; rfl; rfl; omega) | (apply w_eqS2F; rfl; rfl; rfl; omega) | (apply w_neS2T; rfl; rfl; rfl; omega) | (apply w_neS2F; rfl; rfl; rfl; omega) | (apply w_eqS3T; rfl; rfl; rfl; omega) | (apply w_eqS3F; rfl; rfl; rfl; omega) | (apply w_neS3T; rfl; rfl; rfl; omega) | (apply w_neS3F; rfl; rfl; rfl; omega) | (apply w_eqS3; rfl; rfl; rfl) | (apply w_neS3; rfl; rfl; rfl) | (apply w_eqS2; rfl; rfl; rfl) | (apply w_neS2; rfl; rfl; rfl) | (apply w_maxL; rfl; rfl; rfl; omega) | (apply w_maxG; rfl; rfl; rfl; omega) | (apply w_max; rfl; rfl; rfl) | (apply w_neB; rfl; rfl; rfl; rfl) | (apply w_eqB; rfl; rfl; rfl; rfl) | refine spl ?_ ?_ | intro hc)
        refine At_againK (k + 1, v2) ⟨hlt, hv3⟩ (by show la.length - (k + 1) < la.length - k; omega) (by (exact sbf)) (by (exact sbf)) (fun w hs => ?_)
        show Sat w (sl 3 1 v2 ((wo (la.take (k + 1)) lb).map iE) :: R)
        rw [hwk, List.map_append]
        exact Sel.sat (by (focus ((repeat (first | exact Sel.refl | (apply Sel.cons; (focus ((repeat (first | exact Del.here | apply Del.there)); done))) | refine Sel.drop ?_)); done))) hs
  · have hk' : k = la.length := by omega
    subst hk'
    rw [List.take_length] at hu ⊢
    (repeat' first | refine stp ?_ | intro v' hv' | intro (b : Nat) | (apply w_convU; rfl; rfl; omega; omega) | (apply w_convI; rfl; rfl; omega; omega) | (apply w_quoU; rfl; rfl; rfl; omega; omega; omega) | (apply w_remU; rfl; rfl; rfl; omega; omega) | (apply w_minL; rfl; rfl; rfl; omega) | (apply w_minG; rfl; rfl; rfl; omega) | (apply w_min; rfl; rfl; rfl) | (apply w_mfR; rfl; rfl) | (apply w_cvp; rfl; rfl; exact inferInstance; rfl; rfl; assumption) | (apply w_eqS2T; rfl; rfl; rfl; omega) | (apply w_eqS2F; rfl; rfl; rfl; omega) | (apply w_neS2T; rfl; rfl; rfl; omega) | (apply w_neS2F; rfl; rfl; rfl; omega) | (apply w_eqS3T; rfl; rfl; rfl; omega) | (apply w_eqS3F; rfl; rfl; rfl; omega) | (apply w_neS3T; rfl; rfl; rfl; omega) | (apply w_neS3F; rfl; rfl; rfl; omega) | (apply w_eqS3; rfl; rfl; rfl) | (apply w_neS3; rfl; rfl; rfl) | (apply w_eqS2; rfl; rfl; rfl) | (apply w_neS2; rfl; rfl; rfl) | (apply w_maxL; rfl; rfl; rfl; omega) | (apply w_maxG; rfl; rfl; rfl; omega) | (apply w_max; rfl; rfl; rfl) | (apply w_neB; rfl; rfl; rfl; rfl) | (apply w_eqB; rfl; rfl; rfl; rfl) | refine spl ?_ ?_ | intro hc)
    exact At_ret1 (.inl rfl) Tryd.results28 rfl rfl (by (exact frm))
end Go.Proofs.YtelmljbblklblaaDoor
