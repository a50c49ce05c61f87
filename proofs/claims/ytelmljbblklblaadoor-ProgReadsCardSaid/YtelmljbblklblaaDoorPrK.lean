/- prog: the mutexes that are held: turned, Balanced. Conditions: none. -/
import Derived.Test.YtelmljbblklblaaDoorPrJ
import Derived.Test.YtelmljbblklblaaDoorPrD
import Derived.Test.YtelmljbblklblaaDoorFork
set_option linter.all false
set_option linter.deprecated false
namespace Go.Proofs.YtelmljbblklblaaDoor
open Go.Sep
variable [B0 : Base]
/-- Mutexes behind an instruction. -/
def turn (h : List Int) (x : Ins) : List Int :=
  if (x.op = 2 ∨ x.op = 3) ∧ x.n ∉ h then h.take (h.countP (· < x.n)) ++ [x.n] ++ h.drop (h.countP (· < x.n))
  else if x.op = 4 ∧ x.n ∈ h then h.take (h.countP (· < x.n)) ++ h.drop (h.countP (· < x.n) + 1) else h
theorem countP_le {α : Type} (p : α → Bool) (l : List α) : l.countP p ≤ l.length := List.countP_le_length
theorem countP_lt {h : List Int} {x : Int} (hx : x ∈ h) : h.countP (· < x) < h.length := by
  rcases Nat.lt_or_ge (h.countP (· < x)) h.length with h1 | h1
  · exact h1
  · have := List.countP_eq_length.1 (Nat.le_antisymm List.countP_le_length h1) x hx
    simp at this
theorem turn_len (h : List Int) (x : Ins) : (turn h x).length ≤ h.length + 1 := by
  have h1 := countP_le (fun k => decide (k < x.n)) h
  unfold turn
  split
  · simp; omega
  · split
    · simp; omega
    · omega
/-- In order, a number put in, or taken out, where it belongs. -/
theorem sorted_split {h : List Int} (ho : h.Pairwise (· < ·)) (x : Int) : (∀ y ∈ h.take (h.countP (· < x)), y < x) ∧ ∀ y ∈ h.drop (h.countP (· < x)), x ≤ y := by
  induction h with
  | nil => exact ⟨fun y hy => by simp at hy, fun y hy => by simp at hy⟩
  | cons z h ih =>
    obtain ⟨h1, h2⟩ := List.pairwise_cons.1 ho
    by_cases hz : z < x
    · rw [List.countP_cons_of_pos (by simpa using hz)]
      obtain ⟨i1, i2⟩ := ih h2
      refine ⟨fun y hy => ?_, fun y hy => ?_⟩
      · rw [List.take_succ_cons] at hy
        rcases List.mem_cons.1 hy with rfl | hy
        · exact hz
        · exact i1 y hy
      · rw [List.drop_succ_cons] at hy; exact i2 y hy
    · have h0 : h.countP (· < x) = 0 := by
        rw [List.countP_eq_zero]
        intro y hy
        have := h1 y hy
        simp; omega
      rw [List.countP_cons_of_neg (by simpa using hz), h0]
      refine ⟨fun y hy => by simp at hy, fun y hy => ?_⟩
      rcases List.mem_cons.1 hy with rfl | hy
      · omega
      · have := h1 y hy; omega
theorem drop_head {h : List Int} (ho : h.Pairwise (· < ·)) {x : Int} (hx : x ∈ h) : h.drop (h.countP (· < x)) = x :: h.drop (h.countP (· < x) + 1) ∧ ∀ y ∈ h.drop (h.countP (· < x) + 1), x < y := by
  obtain ⟨h1, h2⟩ := sorted_split ho x
  have hlt := countP_lt hx
  have ht := List.take_append_drop (h.countP (· < x)) h
  generalize h.countP (· < x) = c at *
  have hd : h.drop c = h[c] :: h.drop (c + 1) := List.drop_eq_getElem_cons hlt
  have hm : x ∈ h.drop c := by
    rw [← ht] at hx
    rcases List.mem_append.1 hx with hx | hx
    · have := h1 x hx; omega
    · exact hx
  have hp : (h.drop c).Pairwise (· < ·) := ho.sublist (List.drop_sublist c h)
  rw [hd] at hm hp h2 ⊢
  obtain ⟨p1, p2⟩ := List.pairwise_cons.1 hp
  have hle := h2 _ List.mem_cons_self
  have he : h[c] = x := by
    rcases List.mem_cons.1 hm with hm | hm
    · exact hm.symm
    · have := p1 x hm; omega
  rw [he] at p1 ⊢
  exact ⟨rfl, p1⟩
theorem turn_sorted {h : List Int} (ho : h.Pairwise (· < ·)) (x : Ins) : (turn h x).Pairwise (· < ·) := by
  obtain ⟨h1, h2⟩ := sorted_split ho x.n
  have ht := List.take_append_drop (h.countP (· < x.n)) h
  unfold turn
  generalize h.countP (· < x.n) = c at *
  split
  · rename_i hc
    have ho' := ho
    rw [← ht, List.pairwise_append] at ho'
    obtain ⟨o1, o2, o3⟩ := ho'
    rw [List.append_assoc, List.pairwise_append]
    have hgt : ∀ y ∈ h.drop c, x.n < y := fun y hy => by
      have := h2 y hy
      have hne : y ≠ x.n := fun e => hc.2 (e ▸ List.mem_of_mem_drop hy)
      omega
    refine ⟨o1, ?_, fun a ha b hb => ?_⟩
    · rw [List.singleton_append, List.pairwise_cons]; exact ⟨hgt, o2⟩
    · rw [List.singleton_append] at hb
      rcases List.mem_cons.1 hb with rfl | hb
      · exact h1 a ha
      · exact o3 a ha b hb
  · split
    · refine ho.sublist ?_
      have hs : (h.drop (c + 1)).Sublist (h.drop c) := by rw [← List.drop_drop]; exact List.drop_sublist _ _
      have := (List.Sublist.refl (h.take c)).append hs
      rwa [ht] at this
    · exact ho
theorem mem_turn {h : List Int} (ho : h.Pairwise (· < ·)) (x : Ins) (y : Int) : y ∈ turn h x ↔ (if x.op = 2 ∨ x.op = 3 then y = x.n ∨ y ∈ h else if x.op = 4 then y ∈ h ∧ y ≠ x.n else y ∈ h) := by
  have ht : y ∈ h ↔ y ∈ h.take (h.countP (· < x.n)) ∨ y ∈ h.drop (h.countP (· < x.n)) := by rw [← List.mem_append, List.take_append_drop]
  have hs := sorted_split ho x.n
  have hdh := fun hx : x.n ∈ h => drop_head ho hx
  unfold turn
  generalize h.countP (· < x.n) = c at *
  by_cases h23 : x.op = 2 ∨ x.op = 3
  · rw [if_pos h23]
    by_cases hn : x.n ∈ h
    · rw [if_neg (fun hh => hh.2 hn), if_neg (fun hh => by omega)]
      exact ⟨fun hy => .inr hy, fun hy => by rcases hy with rfl | hy; exact hn; exact hy⟩
    · rw [if_pos ⟨h23, hn⟩]
      simp only [List.mem_append, List.mem_singleton]
      rw [ht]
      constructor
      · rintro ((h | h) | h)
        · exact .inr (.inl h)
        · exact .inl h
        · exact .inr (.inr h)
      · rintro (h | h | h)
        · exact .inl (.inr h)
        · exact .inl (.inl h)
        · exact .inr h
  · rw [if_neg h23, if_neg (fun hh => h23 hh.1)]
    by_cases h4 : x.op = 4
    · rw [if_pos h4]
      by_cases hn : x.n ∈ h
      · rw [if_pos ⟨h4, hn⟩]
        obtain ⟨d1, d2⟩ := hdh hn
        rw [d1] at ht
        simp only [List.mem_append, List.mem_cons] at ht ⊢
        rw [ht]
        constructor
        · rintro (h | h)
          · have := hs.1 y h; exact ⟨.inl h, by omega⟩
          · have := d2 y h; exact ⟨.inr (.inr h), by omega⟩
        · rintro ⟨h | h | h, hne⟩
          · exact .inl h
          · exact absurd h hne
          · exact .inr h
      · rw [if_neg (fun hh => hn hh.2)]
        exact ⟨fun hy => ⟨hy, fun e => hn (e ▸ hy)⟩, fun hy => hy.1⟩
    · rw [if_neg h4, if_neg (fun hh => h4 hh.1)]
theorem sorted_le {h : List Int} (ho : h.Pairwise (· < ·)) : h.Pairwise (· ≤ ·) := ho.imp fun h => Int.le_of_lt h
set_option maxHeartbeats 4000000 in
theorem turned_ok (v : Value) (h : List Int) (x : Ins) (R : List HP) (hl : h.length ≤ 100000) (ho : h.Pairwise (· < ·)) :
    Called Tryd.prog 40 [v, .agg (insE x).toArray] (sl 3 1 v (h.map iE) :: R) (retSl 3 1 ((turn h x).map iE) R) := by
  obtain ⟨op, n⟩ := x
  refine Called.isl ?_
  unfold insE turn
  dsimp only
  have hcle := countP_le (fun k => decide (k < n)) h
  have hlt : n ∈ h → h.countP (· < n) < h.length := countP_lt
  have hmem : h.contains n = decide (n ∈ h) := by simp
  have hB := fun (w : Value) (R : List HP) (hi : InIn R w h) => IBin_ok w h n R hi (by omega) (sorted_le ho)
  generalize h.countP (· < n) = c at *
  have e1 : (h.take c ++ [n] ++ h.drop c).map iE = (h.map iE).take c ++ [iE n] ++ (h.map iE).drop c := by simp
  have e2 : (h.take c ++ h.drop (c + 1)).map iE = (h.map iE).take c ++ (h.map iE).drop (c + 1) := by simp
  by_cases h1 : (op = 2 ∨ op = 3) ∧ n ∉ h
  · rw [if_pos h1, e1]
    have hm : h.contains n = false := by rw [hmem]; simp [h1.2]
    rw [hm] at hB
    refine Fn2 Tryd.func40 rfl Tryd.ntmps40 rfl ?_
    refine C_isl (v := v) (by (focus ((repeat (first | assumption | exact Len.of ‹_› | exact .slm | exact .sl | apply Len.there)); done))) fun hv hN => ?_
    repeat' first | (refine C_fork [] [0, 2, 3, 4] 1 5 [5, 6, 7] [1, 6, 7] (by kernel_rfl) (by kernel_rfl) (by kernel_rfl) rfl rfl rfl ?_) | refine stp ?_ | intro v' hv' | intro (b : Nat) | (apply w_convU; rfl; rfl; omega; omega) | (apply w_convI; rfl; rfl; omega; omega) | (apply w_quoU; rfl; rfl; rfl; omega; omega; omega) | (apply w_remU; rfl; rfl; rfl; omega; omega) | (apply w_minL; rfl; rfl; rfl; omega) | (apply w_minG; rfl; rfl; rfl; omega) | (apply w_min; rfl; rfl; rfl) | (apply w_mfR; rfl; rfl) | (apply w_cvp; rfl; rfl; exact inferInstance; rfl; rfl; assumption) | (apply w_eqS2T; rfl; rfl; rfl; omega) | (apply w_eqS2F; rfl; rfl; rfl; omega) | (apply w_neS2T; rfl; rfl; rfl; omega) | (apply w_neS2F; rfl; rfl; rfl; omega) | (apply w_eqS3T; rfl; rfl; rfl; omega) | (apply w_eqS3F; rfl; rfl; rfl; omega) | (apply w_neS3T; rfl; rfl; rfl; omega) | (apply w_neS3F; rfl; rfl; rfl; omega) | (apply w_eqS3; rfl; rfl; rfl) | (apply w_neS3; rfl; rfl; rfl) | (apply w_eqS2; rfl; rfl; rfl) | (apply w_neS2; rfl; rfl; rfl) | (apply w_maxL; rfl; rfl; rfl; omega) | (apply w_maxG; rfl; rfl; rfl; omega) | (apply w_max; rfl; rfl; rfl) | (apply w_neB; rfl; rfl; rfl; rfl) | (apply w_eqB; rfl; rfl; rfl; rfl) | (apply w_cd; rfl; rfl; exact hB _ _ (InIn.sl hv).there; ((exact kmf))) | (apply w_clM; rfl; rfl; (first | exact IClone_ok _ h _ (InIn.sl hv).there (by omega) | exact IClone_ok _ h _ (InIn.sl hv).there.there (by omega)); (first | omega | (simp; omega) | simp); intro v' hv'; refine ⟨by (exact kmf), ?_⟩) | refine spl ?_ ?_ | intro hc
    all_goals first | (exfalso; omega) | skip
    all_goals refine dk_pure rfl rfl (fun _ => mv rfl) ?_
    all_goals refine dk_pure rfl rfl (fun _ => mv rfl) ?_
    all_goals refine dk_pure rfl rfl (fun _ => fa rfl) ?_
    all_goals refine dk_read rfl rfl (ld rfl (by (focus ((repeat (first | assumption | exact .pt rfl | exact .sl ‹_› rfl | exact .sl1 (by first | assumption | rfl) | apply Rd.there)); done)))) ?_
    all_goals refine ⟨?_, ?_⟩
    all_goals (repeat' first | refine C_drawI (id := 3) [some 28] [0, 2, 3, 4, 1, 5, 6, 7] (by kernel_rfl) (by kernel_rfl) (by kernel_rfl) rfl ?_ | refine stp ?_ | intro v' hv' | intro (b : Nat) | (apply w_convU; rfl; rfl; omega; omega) | (apply w_convI; rfl; rfl; omega; omega) | (apply w_quoU; rfl; rfl; rfl; omega; omega; omega) | (apply w_remU; rfl; rfl; rfl; omega; omega) | (apply w_minL; rfl; rfl; rfl; omega) | (apply w_minG; rfl; rfl; rfl; omega) | (apply w_min; rfl; rfl; rfl) | (apply w_mfR; rfl; rfl) | (apply w_cvp; rfl; rfl; exact inferInstance; rfl; rfl; assumption) | (apply w_eqS2T; rfl; rfl; rfl; omega) | (apply w_eqS2F; rfl; rfl; rfl; omega) | (apply w_neS2T; rfl; rfl; rfl; omega) | (apply w_neS2F; rfl; rfl; rfl; omega) | (apply w_eqS3T; rfl; rfl; rfl; omega) | (apply w_eqS3F; rfl; rfl; rfl; omega) | (apply w_neS3T; rfl; rfl; rfl; omega) | (apply w_neS3F; rfl; rfl; rfl; omega) | (apply w_eqS3; rfl; rfl; rfl) | (apply w_neS3; rfl; rfl; rfl) | (apply w_eqS2; rfl; rfl; rfl) | (apply w_neS2; rfl; rfl; rfl) | (apply w_maxL; rfl; rfl; rfl; omega) | (apply w_maxG; rfl; rfl; rfl; omega) | (apply w_max; rfl; rfl; rfl) | (apply w_neB; rfl; rfl; rfl; rfl) | (apply w_eqB; rfl; rfl; rfl; rfl) | (apply w_cd; rfl; rfl; exact hB _ _ (InIn.sl hv).there; ((exact kmf))) | (apply w_clM; rfl; rfl; (first | exact IClone_ok _ h _ (InIn.sl hv).there (by omega) | exact IClone_ok _ h _ (InIn.sl hv).there.there (by omega)); (first | omega | (simp; omega) | simp); intro v' hv'; refine ⟨by (exact kmf), ?_⟩) | refine spl ?_ ?_ | intro hc)
    all_goals apply w_clS
    all_goals first | rfl | skip
    all_goals first | exact (IInsert_ok _ _ (h.map iE) (iE n) c (by simpa using hcle) (int_one h) rfl (by simp; omega) (pt b 27 [int op, int n] :: sl 3 1 v (h.map iE) :: R)).pre (fun w hs => Sel.sat (by (focus ((repeat (first | exact Sel.refl | (apply Sel.cons; (focus ((repeat (first | exact Del.here | apply Del.there)); done))) | refine Sel.drop ?_)); done))) hs) | skip
    all_goals first | (simp; omega) | skip
    all_goals intro v2 hv2
    all_goals refine ⟨by (exact kmf), ?_⟩
    all_goals (repeat' first | refine C_drawI (id := 3) [some 28] [0, 2, 3, 4, 1, 5, 6, 7] (by kernel_rfl) (by kernel_rfl) (by kernel_rfl) rfl ?_ | refine stp ?_ | intro v' hv' | intro (b : Nat) | (apply w_convU; rfl; rfl; omega; omega) | (apply w_convI; rfl; rfl; omega; omega) | (apply w_quoU; rfl; rfl; rfl; omega; omega; omega) | (apply w_remU; rfl; rfl; rfl; omega; omega) | (apply w_minL; rfl; rfl; rfl; omega) | (apply w_minG; rfl; rfl; rfl; omega) | (apply w_min; rfl; rfl; rfl) | (apply w_mfR; rfl; rfl) | (apply w_cvp; rfl; rfl; exact inferInstance; rfl; rfl; assumption) | (apply w_eqS2T; rfl; rfl; rfl; omega) | (apply w_eqS2F; rfl; rfl; rfl; omega) | (apply w_neS2T; rfl; rfl; rfl; omega) | (apply w_neS2F; rfl; rfl; rfl; omega) | (apply w_eqS3T; rfl; rfl; rfl; omega) | (apply w_eqS3F; rfl; rfl; rfl; omega) | (apply w_neS3T; rfl; rfl; rfl; omega) | (apply w_neS3F; rfl; rfl; rfl; omega) | (apply w_eqS3; rfl; rfl; rfl) | (apply w_neS3; rfl; rfl; rfl) | (apply w_eqS2; rfl; rfl; rfl) | (apply w_neS2; rfl; rfl; rfl) | (apply w_maxL; rfl; rfl; rfl; omega) | (apply w_maxG; rfl; rfl; rfl; omega) | (apply w_max; rfl; rfl; rfl) | (apply w_neB; rfl; rfl; rfl; rfl) | (apply w_eqB; rfl; rfl; rfl; rfl) | (apply w_cd; rfl; rfl; exact hB _ _ (InIn.sl hv).there; ((exact kmf))) | (apply w_clM; rfl; rfl; (first | exact IClone_ok _ h _ (InIn.sl hv).there (by omega) | exact IClone_ok _ h _ (InIn.sl hv).there.there (by omega)); (first | omega | (simp; omega) | simp); intro v' hv'; refine ⟨by (exact kmf), ?_⟩) | refine spl ?_ ?_ | intro hc)
    all_goals exact At_ret1 (.inl rfl) Tryd.results40 rfl rfl (by (exact frm))
  · rw [if_neg h1]
    by_cases h4 : op = 4 ∧ n ∈ h
    · rw [if_pos h4, e2]
      have hm : h.contains n = true := by rw [hmem]; simp [h4.2]
      rw [hm] at hB
      have hlt' := hlt h4.2
      have hD : ∀ (w : Value) (R : List HP), Called Tryd.prog 53 [w, int c, .int .i64 ((c : Int) + 1)] (sl 3 1 w (h.map iE) :: R) (retSl 3 1 ((h.map iE).take c ++ (h.map iE).drop (c + 1)) R) := fun w R => IDelete_ok w (h.map iE) c (c + 1) (by omega) (by rw [List.length_map]; omega) (int_one h) R
      refine Fn2 Tryd.func40 rfl Tryd.ntmps40 rfl ?_
      refine C_isl (v := v) (by (focus ((repeat (first | assumption | exact Len.of ‹_› | exact .slm | exact .sl | apply Len.there)); done))) fun hv hN => ?_
      (repeat' first | refine C_drawI (id := 3) [some 28] [0, 2, 3, 4, 1, 5, 6, 7] (by kernel_rfl) (by kernel_rfl) (by kernel_rfl) rfl ?_ | refine stp ?_ | intro v' hv' | intro (b : Nat) | (apply w_convU; rfl; rfl; omega; omega) | (apply w_convI; rfl; rfl; omega; omega) | (apply w_quoU; rfl; rfl; rfl; omega; omega; omega) | (apply w_remU; rfl; rfl; rfl; omega; omega) | (apply w_minL; rfl; rfl; rfl; omega) | (apply w_minG; rfl; rfl; rfl; omega) | (apply w_min; rfl; rfl; rfl) | (apply w_mfR; rfl; rfl) | (apply w_cvp; rfl; rfl; exact inferInstance; rfl; rfl; assumption) | (apply w_eqS2T; rfl; rfl; rfl; omega) | (apply w_eqS2F; rfl; rfl; rfl; omega) | (apply w_neS2T; rfl; rfl; rfl; omega) | (apply w_neS2F; rfl; rfl; rfl; omega) | (apply w_eqS3T; rfl; rfl; rfl; omega) | (apply w_eqS3F; rfl; rfl; rfl; omega) | (apply w_neS3T; rfl; rfl; rfl; omega) | (apply w_neS3F; rfl; rfl; rfl; omega) | (apply w_eqS3; rfl; rfl; rfl) | (apply w_neS3; rfl; rfl; rfl) | (apply w_eqS2; rfl; rfl; rfl) | (apply w_neS2; rfl; rfl; rfl) | (apply w_maxL; rfl; rfl; rfl; omega) | (apply w_maxG; rfl; rfl; rfl; omega) | (apply w_max; rfl; rfl; rfl) | (apply w_neB; rfl; rfl; rfl; rfl) | (apply w_eqB; rfl; rfl; rfl; rfl) | (apply w_cd; rfl; rfl; exact hB _ _ (InIn.sl hv).there; ((exact kmf))) | (apply w_clM; rfl; rfl; (first | exact IClone_ok _ h _ (InIn.sl hv).there (by omega) | exact IClone_ok _ h _ (InIn.sl hv).there.there (by omega)); (first | omega | (simp; omega) | simp); intro v' hv'; refine ⟨by (exact kmf), ?_⟩) | refine spl ?_ ?_ | intro hc)
      all_goals first | (exfalso; omega) | skip
      all_goals apply w_clS
      all_goals first | rfl | skip
      all_goals first | exact hD _ (pt b 27 [int op, int n] :: sl 3 1 v (h.map iE) :: R) | skip
      all_goals first | (simp; omega) | skip
      all_goals intro v2 hv2
      all_goals refine ⟨by (exact kmf), ?_⟩
      all_goals (repeat' first | refine C_drawI (id := 3) [some 28] [0, 2, 3, 4, 1, 5, 6, 7] (by kernel_rfl) (by kernel_rfl) (by kernel_rfl) rfl ?_ | refine stp ?_ | intro v' hv' | intro (b : Nat) | (apply w_convU; rfl; rfl; omega; omega) | (apply w_convI; rfl; rfl; omega; omega) | (apply w_quoU; rfl; rfl; rfl; omega; omega; omega) | (apply w_remU; rfl; rfl; rfl; omega; omega) | (apply w_minL; rfl; rfl; rfl; omega) | (apply w_minG; rfl; rfl; rfl; omega) | (apply w_min; rfl; rfl; rfl) | (apply w_mfR; rfl; rfl) | (apply w_cvp; rfl; rfl; exact inferInstance; rfl; rfl; assumption) | (apply w_eqS2T; rfl; rfl; rfl; omega) | (apply w_eqS2F; rfl; rfl; rfl; omega) | (apply w_neS2T; rfl; rfl; rfl; omega) | (apply w_neS2F; rfl; rfl; rfl; omega) | (apply w_eqS3T; rfl; rfl; rfl; omega) | (apply w_eqS3F; rfl; rfl; rfl; omega) | (apply w_neS3T; rfl; rfl; rfl; omega) | (apply w_neS3F; rfl; rfl; rfl; omega) | (apply w_eqS3; rfl; rfl; rfl) | (apply w_neS3; rfl; rfl; rfl) | (apply w_eqS2; rfl; rfl; rfl) | (apply w_neS2; rfl; rfl; rfl) | (apply w_maxL; rfl; rfl; rfl; omega) | (apply w_maxG; rfl; rfl; rfl; omega) | (apply w_max; rfl; rfl; rfl) | (apply w_neB; rfl; rfl; rfl; rfl) | (apply w_eqB; rfl; rfl; rfl; rfl) | (apply w_cd; rfl; rfl; exact hB _ _ (InIn.sl hv).there; ((exact kmf))) | (apply w_clM; rfl; rfl; (first | exact IClone_ok _ h _ (InIn.sl hv).there (by omega) | exact IClone_ok _ h _ (InIn.sl hv).there.there (by omega)); (first | omega | (simp; omega) | simp); intro v' hv'; refine ⟨by (exact kmf), ?_⟩) | refine spl ?_ ?_ | intro hc)
      all_goals exact At_ret1 (.inl rfl) Tryd.results40 rfl rfl (by (exact frm))
    · rw [if_neg h4]
      rw [hmem] at hB
      refine Fn2 Tryd.func40 rfl Tryd.ntmps40 rfl ?_
      refine C_isl (v := v) (by (focus ((repeat (first | assumption | exact Len.of ‹_› | exact .slm | exact .sl | apply Len.there)); done))) fun hv hN => ?_
      by_cases hmm : n ∈ h
      · rw [decide_eq_true hmm] at hB
        have h2 : ¬ op = 4 := fun e => h4 ⟨e, hmm⟩
        (repeat' first | refine C_drawI (id := 3) [some 28] [0, 2, 3, 4, 1, 5, 6, 7] (by kernel_rfl) (by kernel_rfl) (by kernel_rfl) rfl ?_ | refine stp ?_ | intro v' hv' | intro (b : Nat) | (apply w_convU; rfl; rfl; omega; omega) | (apply w_convI; rfl; rfl; omega; omega) | (apply w_quoU; rfl; rfl; rfl; omega; omega; omega) | (apply w_remU; rfl; rfl; rfl; omega; omega) | (apply w_minL; rfl; rfl; rfl; omega) | (apply w_minG; rfl; rfl; rfl; omega) | (apply w_min; rfl; rfl; rfl) | (apply w_mfR; rfl; rfl) | (apply w_cvp; rfl; rfl; exact inferInstance; rfl; rfl; assumption) | (apply w_eqS2T; rfl; rfl; rfl; omega) | (apply w_eqS2F; rfl; rfl; rfl; omega) | (apply w_neS2T; rfl; rfl; rfl; omega) | (apply w_neS2F; rfl; rfl; rfl; omega) | (apply w_eqS3T; rfl; rfl; rfl; omega) | (apply w_eqS3F; rfl; rfl; rfl; omega) | (apply w_neS3T; rfl; rfl; rfl; omega) | (apply w_neS3F; rfl; rfl; rfl; omega) | (apply w_eqS3; rfl; rfl; rfl) | (apply w_neS3; rfl; rfl; rfl) | (apply w_eqS2; rfl; rfl; rfl) | (apply w_neS2; rfl; rfl; rfl) | (apply w_maxL; rfl; rfl; rfl; omega) | (apply w_maxG; rfl; rfl; rfl; omega) | (apply w_max; rfl; rfl; rfl) | (apply w_neB; rfl; rfl; rfl; rfl) | (apply w_eqB; rfl; rfl; rfl; rfl) | (apply w_cd; rfl; rfl; exact hB _ _ (InIn.sl hv).there; ((exact kmf))) | (apply w_clM; rfl; rfl; (first | exact IClone_ok _ h _ (InIn.sl hv).there (by omega) | exact IClone_ok _ h _ (InIn.sl hv).there.there (by omega)); (first | omega | (simp; omega) | simp); intro v' hv'; refine ⟨by (exact kmf), ?_⟩) | refine spl ?_ ?_ | intro hc)
        all_goals first | (exfalso; omega) | skip
        all_goals exact At_ret1 (.inl rfl) Tryd.results40 rfl rfl (by (exact frm))
      · rw [decide_eq_false hmm] at hB
        have h2 : ¬ (op = 2 ∨ op = 3) := fun e => h1 ⟨e, hmm⟩
        (repeat' first | refine C_drawI (id := 3) [some 28] [0, 2, 3, 4, 1, 5, 6, 7] (by kernel_rfl) (by kernel_rfl) (by kernel_rfl) rfl ?_ | refine stp ?_ | intro v' hv' | intro (b : Nat) | (apply w_convU; rfl; rfl; omega; omega) | (apply w_convI; rfl; rfl; omega; omega) | (apply w_quoU; rfl; rfl; rfl; omega; omega; omega) | (apply w_remU; rfl; rfl; rfl; omega; omega) | (apply w_minL; rfl; rfl; rfl; omega) | (apply w_minG; rfl; rfl; rfl; omega) | (apply w_min; rfl; rfl; rfl) | (apply w_mfR; rfl; rfl) | (apply w_cvp; rfl; rfl; exact inferInstance; rfl; rfl; assumption) | (apply w_eqS2T; rfl; rfl; rfl; omega) | (apply w_eqS2F; rfl; rfl; rfl; omega) | (apply w_neS2T; rfl; rfl; rfl; omega) | (apply w_neS2F; rfl; rfl; rfl; omega) | (apply w_eqS3T; rfl; rfl; rfl; omega) | (apply w_eqS3F; rfl; rfl; rfl; omega) | (apply w_neS3T; rfl; rfl; rfl; omega) | (apply w_neS3F; rfl; rfl; rfl; omega) | (apply w_eqS3; rfl; rfl; rfl) | (apply w_neS3; rfl; rfl; rfl) | (apply w_eqS2; rfl; rfl; rfl) | (apply w_neS2; rfl; rfl; rfl) | (apply w_maxL; rfl; rfl; rfl; omega) | (apply w_maxG; rfl; rfl; rfl; omega) | (apply w_max; rfl; rfl; rfl) | (apply w_neB; rfl; rfl; rfl; rfl) | (apply w_eqB; rfl; rfl; rfl; rfl) | (apply w_cd; rfl; rfl; exact hB _ _ (InIn.sl hv).there; ((exact kmf))) | (apply w_clM; rfl; rfl; (first | exact IClone_ok _ h _ (InIn.sl hv).there (by omega) | exact IClone_ok _ h _ (InIn.sl hv).there.there (by omega)); (first | omega | (simp; omega) | simp); intro v' hv'; refine ⟨by (exact kmf), ?_⟩) | refine spl ?_ ?_ | intro hc)
        all_goals first | (exfalso; omega) | skip
        all_goals exact At_ret1 (.inl rfl) Tryd.results40 rfl rfl (by (exact frm))
end Go.Proofs.YtelmljbblklblaaDoor
