/- slices.Insert at numbers. Conditions: none. -/
import Derived.Test.YtelmljbblklblaaDoorPrI
set_option linter.all false
set_option linter.deprecated false
namespace Go.Proofs.YtelmljbblklblaaDoor
open Go.Sep
variable [B0 : Base]
theorem ins_e1 {α : Type} (cs : List α) (x z : α) {i : Nat} (hi : i < cs.length) : (cs.take i ++ List.replicate (cs.length + 1 - i) z).take i ++ [x].take (min [x].length (cs.length + 1 - i)) ++ (cs.take i ++ List.replicate (cs.length + 1 - i) z).drop (i + min [x].length (cs.length + 1 - i)) = cs.take i ++ [x] ++ List.replicate (cs.length - i) z := by
  have a1 : (cs.take i).length = i := by rw [List.length_take]; omega
  have a2 : min [x].length (cs.length + 1 - i) = 1 := by simp; omega
  have a3 : (cs.take i ++ List.replicate (cs.length + 1 - i) z).take i = cs.take i := by
    conv => lhs; arg 1; rw [← a1]
    exact List.take_left
  have a4 : (cs.take i ++ List.replicate (cs.length + 1 - i) z).drop (i + 1) = List.replicate (cs.length - i) z := by
    rw [List.drop_append, List.drop_eq_nil_of_le (by omega), a1, List.nil_append, List.drop_replicate]
    congr 1; omega
  rw [a2, a3, a4]; rfl
theorem ins_e2 {α : Type} (cs : List α) (x z : α) {i : Nat} (hi : i < cs.length) : (cs.take i ++ [x] ++ List.replicate (cs.length - i) z).take (i + 1) ++ (cs.drop i).take (min (cs.drop i).length (cs.length + 1 - (i + 1))) ++ (cs.take i ++ [x] ++ List.replicate (cs.length - i) z).drop (i + 1 + min (cs.drop i).length (cs.length + 1 - (i + 1))) = cs.take i ++ [x] ++ cs.drop i := by
  have a1 : (cs.take i ++ [x]).length = i + 1 := by rw [List.length_append, List.length_take]; simp; omega
  have a2 : min (cs.drop i).length (cs.length + 1 - (i + 1)) = (cs.drop i).length := by rw [List.length_drop]; omega
  have a3 : (cs.take i ++ [x] ++ List.replicate (cs.length - i) z).take (i + 1) = cs.take i ++ [x] := by
    conv => lhs; arg 1; rw [← a1]
    exact List.take_left
  have a4 : (cs.take i ++ [x] ++ List.replicate (cs.length - i) z).drop (i + 1 + (cs.drop i).length) = [] := by
    apply List.drop_eq_nil_of_le
    simp; omega
  rw [a2, a3, a4, List.take_length, List.append_nil]
theorem ins_e3 {α : Type} (cs js : List α) {i : Nat} (hi : i < cs.length) (hj : js.length = 1) : ((cs ++ js).drop i).take (min ((cs ++ js).drop i).length (cs.length + 1 - (i + 1))) = cs.drop i := by
  have a1 : min ((cs ++ js).drop i).length (cs.length + 1 - (i + 1)) = (cs.drop i).length := by simp; omega
  rw [a1, List.drop_append_of_le_length (by omega)]
  exact List.take_left
theorem ins_e4 {α : Type} (cs js : List α) {i : Nat} (hi : i < cs.length) (hj : js.length = 1) : (cs ++ js).take (i + 1) ++ cs.drop i ++ (cs ++ js).drop (i + 1 + min ((cs ++ js).drop i).length (cs.length + 1 - (i + 1))) = (cs ++ js).take (i + 1) ++ cs.drop i := by
  have a1 : (cs ++ js).drop (i + 1 + min ((cs ++ js).drop i).length (cs.length + 1 - (i + 1))) = [] := by
    apply List.drop_eq_nil_of_le
    simp; omega
  rw [a1, List.append_nil]
theorem ins_e5 {α : Type} (cs js : List α) (x : α) {i : Nat} (hi : i < cs.length) (hj : js.length = 1) : ((cs ++ js).take (i + 1) ++ cs.drop i).take i ++ [x].take (min [x].length (cs.length + 1 - i)) ++ ((cs ++ js).take (i + 1) ++ cs.drop i).drop (i + min [x].length (cs.length + 1 - i)) = cs.take i ++ [x] ++ cs.drop i := by
  have a0 : ((cs ++ js).take (i + 1)).length = i + 1 := by simp; omega
  have a2 : min [x].length (cs.length + 1 - i) = 1 := by simp; omega
  have a3 : ((cs ++ js).take (i + 1) ++ cs.drop i).take i = cs.take i := by
    rw [List.take_append_of_le_length (by omega), List.take_take, Nat.min_eq_left (by omega), List.take_append_of_le_length (by omega)]
  have a4 : ((cs ++ js).take (i + 1) ++ cs.drop i).drop (i + 1) = cs.drop i := by
    conv => lhs; arg 1; rw [← a0]
    exact List.drop_left
  rw [a2, a3, a4]; rfl
set_option maxHeartbeats 4000000 in
theorem IInsert_ok (v u : Value) (cs : List (List Value)) (x : List Value) (i : Nat) (hi : i ≤ cs.length) (h1 : cs.all (fun l => l.all Value.oneCell') = true) (h2 : x.all Value.oneCell' = true) (hb : cs.length ≤ 1000000) (R : List HP) :
    Called Tryd.prog 52 [v, int i, u] (sl 3 1 v cs :: sl 3 1 u [x] :: R) (retSl 3 1 (cs.take i ++ [x] ++ cs.drop i) R) := by
  refine Called.isl ?_
  have h2' : [x].all (fun l => l.all Value.oneCell') = true := by simp at h2 ⊢; exact h2
  refine Fn3 Tryd.func52 rfl Tryd.ntmps52 rfl ?_
  refine C_isl (v := v) (by (focus ((repeat (first | assumption | exact Len.of ‹_› | exact .slm | exact .sl | apply Len.there)); done))) fun hv hN => ?_
  refine C_isl (v := u) (by (focus ((repeat (first | assumption | exact Len.of ‹_› | exact .slm | exact .sl | apply Len.there)); done))) fun hu hNu => ?_
  have hu : IsSl u 1 := hu
  by_cases hin : i = cs.length
  · subst hin
    have e : cs.take cs.length ++ [x] ++ cs.drop cs.length = cs ++ [x] := by simp
    rw [e]
    (repeat' first | refine stp ?_ | intro v' hv' | intro (b : Nat) | (apply w_convU; rfl; rfl; omega; omega) | (apply w_convI; rfl; rfl; omega; omega) | (apply w_quoU; rfl; rfl; rfl; omega; omega; omega) | (apply w_remU; rfl; rfl; rfl; omega; omega) | (apply w_minL; rfl; rfl; rfl; omega) | (apply w_minG; rfl; rfl; rfl; omega) | (apply w_min; rfl; rfl; rfl) | (apply w_mfR; rfl; rfl) | (apply w_cvp; rfl; rfl; exact inferInstance; rfl; rfl; assumption) | (apply w_eqS2T; rfl; rfl; rfl; omega) | (apply w_eqS2F; rfl; rfl; rfl; omega) | (apply w_neS2T; rfl; rfl; rfl; omega) | (apply w_neS2F; rfl; rfl; rfl; omega) | (apply w_eqS3T; rfl; rfl; rfl; omega) | (apply w_eqS3F; rfl; rfl; rfl; omega) | (apply w_neS3T; rfl; rfl; rfl; omega) | (apply w_neS3F; rfl; rfl; rfl; omega) | (apply w_eqS3; rfl; rfl; rfl) | (apply w_neS3; rfl; rfl; rfl) | (apply w_eqS2; rfl; rfl; rfl) | (apply w_neS2; rfl; rfl; rfl) | (apply w_maxL; rfl; rfl; rfl; omega) | (apply w_maxG; rfl; rfl; rfl; omega) | (apply w_max; rfl; rfl; rfl) | (apply w_neB; rfl; rfl; rfl; rfl) | (apply w_eqB; rfl; rfl; rfl; rfl) | (apply w_cap; rfl; rfl; assumption) | (apply w_sll (h := i + 1); rfl; rfl; ((exact congrArg (fun z => some (Value.int .i64 z)) (show (i : Int) + ((1 : Nat) : Int) = ((i + 1 : Nat) : Int) from rfl))); assumption; omega) | refine spl ?_ ?_ | intro hc)
    apply w_ap (es := [x])
    rfl; rfl; rfl; ((focus ((repeat (first | exact Del.here | apply Del.there)); done))); ((exact srf)); exact h2'; (simp; omega); (simp; omega)
    intro v2 hv2
    refine ⟨by (exact kmf), ?_⟩
    (repeat' first | refine stp ?_ | intro v' hv' | intro (b : Nat) | (apply w_convU; rfl; rfl; omega; omega) | (apply w_convI; rfl; rfl; omega; omega) | (apply w_quoU; rfl; rfl; rfl; omega; omega; omega) | (apply w_remU; rfl; rfl; rfl; omega; omega) | (apply w_minL; rfl; rfl; rfl; omega) | (apply w_minG; rfl; rfl; rfl; omega) | (apply w_min; rfl; rfl; rfl) | (apply w_mfR; rfl; rfl) | (apply w_cvp; rfl; rfl; exact inferInstance; rfl; rfl; assumption) | (apply w_eqS2T; rfl; rfl; rfl; omega) | (apply w_eqS2F; rfl; rfl; rfl; omega) | (apply w_neS2T; rfl; rfl; rfl; omega) | (apply w_neS2F; rfl; rfl; rfl; omega) | (apply w_eqS3T; rfl; rfl; rfl; omega) | (apply w_eqS3F; rfl; rfl; rfl; omega) | (apply w_neS3T; rfl; rfl; rfl; omega) | (apply w_neS3F; rfl; rfl; rfl; omega) | (apply w_eqS3; rfl; rfl; rfl) | (apply w_neS3; rfl; rfl; rfl) | (apply w_eqS2; rfl; rfl; rfl) | (apply w_neS2; rfl; rfl; rfl) | (apply w_maxL; rfl; rfl; rfl; omega) | (apply w_maxG; rfl; rfl; rfl; omega) | (apply w_max; rfl; rfl; rfl) | (apply w_neB; rfl; rfl; rfl; rfl) | (apply w_eqB; rfl; rfl; rfl; rfl) | (apply w_cap; rfl; rfl; assumption) | (apply w_sll (h := i + 1); rfl; rfl; ((exact congrArg (fun z => some (Value.int .i64 z)) (show (i : Int) + ((1 : Nat) : Int) = ((i + 1 : Nat) : Int) from rfl))); assumption; omega) | refine spl ?_ ?_ | intro hc)
    exact At_ret1 (.inl rfl) Tryd.results52 rfl rfl (by (exact frm))
  · have hlt : i < cs.length := by omega
    by_cases hg : vcap v < cs.length + 1
    · (repeat' first | refine stp ?_ | intro v' hv' | intro (b : Nat) | (apply w_convU; rfl; rfl; omega; omega) | (apply w_convI; rfl; rfl; omega; omega) | (apply w_quoU; rfl; rfl; rfl; omega; omega; omega) | (apply w_remU; rfl; rfl; rfl; omega; omega) | (apply w_minL; rfl; rfl; rfl; omega) | (apply w_minG; rfl; rfl; rfl; omega) | (apply w_min; rfl; rfl; rfl) | (apply w_mfR; rfl; rfl) | (apply w_cvp; rfl; rfl; exact inferInstance; rfl; rfl; assumption) | (apply w_eqS2T; rfl; rfl; rfl; omega) | (apply w_eqS2F; rfl; rfl; rfl; omega) | (apply w_neS2T; rfl; rfl; rfl; omega) | (apply w_neS2F; rfl; rfl; rfl; omega) | (apply w_eqS3T; rfl; rfl; rfl; omega) | (apply w_eqS3F; rfl; rfl; rfl; omega) | (apply w_neS3T; rfl; rfl; rfl; omega) | (apply w_neS3F; rfl; rfl; rfl; omega) | (apply w_eqS3; rfl; rfl; rfl) | (apply w_neS3; rfl; rfl; rfl) | (apply w_eqS2; rfl; rfl; rfl) | (apply w_neS2; rfl; rfl; rfl) | (apply w_maxL; rfl; rfl; rfl; omega) | (apply w_maxG; rfl; rfl; rfl; omega) | (apply w_max; rfl; rfl; rfl) | (apply w_neB; rfl; rfl; rfl; rfl) | (apply w_eqB; rfl; rfl; rfl; rfl) | (apply w_cap; rfl; rfl; assumption) | (apply w_sll (h := i + 1); rfl; rfl; ((exact congrArg (fun z => some (Value.int .i64 z)) (show (i : Int) + ((1 : Nat) : Int) = ((i + 1 : Nat) : Int) from rfl))); assumption; omega) | refine spl ?_ ?_ | intro hc)
      apply w_apZ (q := cs.length + 1 - i)
      rfl; rfl
      exact congrArg (fun z => some (Value.int .i64 z)) (show (cs.length : Int) + ((1 : Nat) : Int) - (i : Int) = ((cs.length + 1 - i : Nat) : Int) by omega)
      ((focus ((repeat (first | exact Del.here | apply Del.there)); done))); rfl; exact hlt; omega; omega; omega
      intro u2 hu2
      refine ⟨by (exact kmf), ?_⟩
      have hq : i + (cs.length + 1 - i) = cs.length + 1 := by omega
      rw [hq] at hu2
      generalize hz : zeroL Tryd.prog 3 = z
      have hl2 : (cs.take i ++ List.replicate (cs.length + 1 - i) z).length = cs.length + 1 := by simp; omega
      (repeat' first | refine stp ?_ | intro v' hv' | intro (b : Nat) | (apply w_convU; rfl; rfl; omega; omega) | (apply w_convI; rfl; rfl; omega; omega) | (apply w_quoU; rfl; rfl; rfl; omega; omega; omega) | (apply w_remU; rfl; rfl; rfl; omega; omega) | (apply w_minL; rfl; rfl; rfl; omega) | (apply w_minG; rfl; rfl; rfl; omega) | (apply w_min; rfl; rfl; rfl) | (apply w_mfR; rfl; rfl) | (apply w_cvp; rfl; rfl; exact inferInstance; rfl; rfl; assumption) | (apply w_eqS2T; rfl; rfl; rfl; omega) | (apply w_eqS2F; rfl; rfl; rfl; omega) | (apply w_neS2T; rfl; rfl; rfl; omega) | (apply w_neS2F; rfl; rfl; rfl; omega) | (apply w_eqS3T; rfl; rfl; rfl; omega) | (apply w_eqS3F; rfl; rfl; rfl; omega) | (apply w_neS3T; rfl; rfl; rfl; omega) | (apply w_neS3F; rfl; rfl; rfl; omega) | (apply w_eqS3; rfl; rfl; rfl) | (apply w_neS3; rfl; rfl; rfl) | (apply w_eqS2; rfl; rfl; rfl) | (apply w_neS2; rfl; rfl; rfl) | (apply w_maxL; rfl; rfl; rfl; omega) | (apply w_maxG; rfl; rfl; rfl; omega) | (apply w_max; rfl; rfl; rfl) | (apply w_neB; rfl; rfl; rfl; rfl) | (apply w_eqB; rfl; rfl; rfl; rfl) | (apply w_cap; rfl; rfl; assumption) | (apply w_sll (h := i + 1); rfl; rfl; ((exact congrArg (fun z => some (Value.int .i64 z)) (show (i : Int) + ((1 : Nat) : Int) = ((i + 1 : Nat) : Int) from rfl))); assumption; omega) | refine spl ?_ ?_ | intro hc)
      apply w_copy (es := [x])
      rfl; rfl; rfl; ((focus ((repeat (first | exact Del.here | apply Del.there)); done))); exact hl2; omega; ((exact srf))
      · rw [List.all_eq_true]
        intro y hy
        exact List.all_eq_true.1 h2' y (List.mem_of_mem_take hy)
      ((exact kmf))
      rw [ins_e1 cs x z hlt]
      have hl3 : (cs.take i ++ [x] ++ List.replicate (cs.length - i) z).length = cs.length + 1 := by simp; omega
      have hs3 : Sep.Src (sl 3 1 u2 (cs.take i ++ [x] ++ List.replicate (cs.length - i) z) :: sl 3 1 v cs :: sl 3 1 u [x] :: R) (vsl v i cs.length (vcap v) 1) 1 (cs.drop i) := (Sep.Src.sl.dropS hi rfl hv).there
      (repeat' first | refine stp ?_ | intro v' hv' | intro (b : Nat) | (apply w_convU; rfl; rfl; omega; omega) | (apply w_convI; rfl; rfl; omega; omega) | (apply w_quoU; rfl; rfl; rfl; omega; omega; omega) | (apply w_remU; rfl; rfl; rfl; omega; omega) | (apply w_minL; rfl; rfl; rfl; omega) | (apply w_minG; rfl; rfl; rfl; omega) | (apply w_min; rfl; rfl; rfl) | (apply w_mfR; rfl; rfl) | (apply w_cvp; rfl; rfl; exact inferInstance; rfl; rfl; assumption) | (apply w_eqS2T; rfl; rfl; rfl; omega) | (apply w_eqS2F; rfl; rfl; rfl; omega) | (apply w_neS2T; rfl; rfl; rfl; omega) | (apply w_neS2F; rfl; rfl; rfl; omega) | (apply w_eqS3T; rfl; rfl; rfl; omega) | (apply w_eqS3F; rfl; rfl; rfl; omega) | (apply w_neS3T; rfl; rfl; rfl; omega) | (apply w_neS3F; rfl; rfl; rfl; omega) | (apply w_eqS3; rfl; rfl; rfl) | (apply w_neS3; rfl; rfl; rfl) | (apply w_eqS2; rfl; rfl; rfl) | (apply w_neS2; rfl; rfl; rfl) | (apply w_maxL; rfl; rfl; rfl; omega) | (apply w_maxG; rfl; rfl; rfl; omega) | (apply w_max; rfl; rfl; rfl) | (apply w_neB; rfl; rfl; rfl; rfl) | (apply w_eqB; rfl; rfl; rfl; rfl) | (apply w_cap; rfl; rfl; assumption) | (apply w_sll (h := i + 1); rfl; rfl; ((exact congrArg (fun z => some (Value.int .i64 z)) (show (i : Int) + ((1 : Nat) : Int) = ((i + 1 : Nat) : Int) from rfl))); assumption; omega) | refine spl ?_ ?_ | intro hc)
      apply w_copy (es := cs.drop i) (l := i + 1) (N := cs.length + 1)
      rfl; rfl; rfl; ((focus ((repeat (first | exact Del.here | apply Del.there)); done))); exact hl3; omega; exact hs3
      · rw [List.all_eq_true]
        intro y hy
        exact List.all_eq_true.1 h1 y (List.mem_of_mem_drop (List.mem_of_mem_take hy))
      ((exact kmf))
      rw [ins_e2 cs x z hlt]
      (repeat' first | refine stp ?_ | intro v' hv' | intro (b : Nat) | (apply w_convU; rfl; rfl; omega; omega) | (apply w_convI; rfl; rfl; omega; omega) | (apply w_quoU; rfl; rfl; rfl; omega; omega; omega) | (apply w_remU; rfl; rfl; rfl; omega; omega) | (apply w_minL; rfl; rfl; rfl; omega) | (apply w_minG; rfl; rfl; rfl; omega) | (apply w_min; rfl; rfl; rfl) | (apply w_mfR; rfl; rfl) | (apply w_cvp; rfl; rfl; exact inferInstance; rfl; rfl; assumption) | (apply w_eqS2T; rfl; rfl; rfl; omega) | (apply w_eqS2F; rfl; rfl; rfl; omega) | (apply w_neS2T; rfl; rfl; rfl; omega) | (apply w_neS2F; rfl; rfl; rfl; omega) | (apply w_eqS3T; rfl; rfl; rfl; omega) | (apply w_eqS3F; rfl; rfl; rfl; omega) | (apply w_neS3T; rfl; rfl; rfl; omega) | (apply w_neS3F; rfl; rfl; rfl; omega) | (apply w_eqS3; rfl; rfl; rfl) | (apply w_neS3; rfl; rfl; rfl) | (apply w_eqS2; rfl; rfl; rfl) | (apply w_neS2; rfl; rfl; rfl) | (apply w_maxL; rfl; rfl; rfl; omega) | (apply w_maxG; rfl; rfl; rfl; omega) | (apply w_max; rfl; rfl; rfl) | (apply w_neB; rfl; rfl; rfl; rfl) | (apply w_eqB; rfl; rfl; rfl; rfl) | (apply w_cap; rfl; rfl; assumption) | (apply w_sll (h := i + 1); rfl; rfl; ((exact congrArg (fun z => some (Value.int .i64 z)) (show (i : Int) + ((1 : Nat) : Int) = ((i + 1 : Nat) : Int) from rfl))); assumption; omega) | refine spl ?_ ?_ | intro hc)
      exact At_ret1 (.inl rfl) Tryd.results52 rfl rfl (by (exact frm))
    · (repeat' first | refine stp ?_ | intro v' hv' | intro (b : Nat) | (apply w_convU; rfl; rfl; omega; omega) | (apply w_convI; rfl; rfl; omega; omega) | (apply w_quoU; rfl; rfl; rfl; omega; omega; omega) | (apply w_remU; rfl; rfl; rfl; omega; omega) | (apply w_minL; rfl; rfl; rfl; omega) | (apply w_minG; rfl; rfl; rfl; omega) | (apply w_min; rfl; rfl; rfl) | (apply w_mfR; rfl; rfl) | (apply w_cvp; rfl; rfl; exact inferInstance; rfl; rfl; assumption) | (apply w_eqS2T; rfl; rfl; rfl; omega) | (apply w_eqS2F; rfl; rfl; rfl; omega) | (apply w_neS2T; rfl; rfl; rfl; omega) | (apply w_neS2F; rfl; rfl; rfl; omega) | (apply w_eqS3T; rfl; rfl; rfl; omega) | (apply w_eqS3F; rfl; rfl; rfl; omega) | (apply w_neS3T; rfl; rfl; rfl; omega) | (apply w_neS3F; rfl; rfl; rfl; omega) | (apply w_eqS3; rfl; rfl; rfl) | (apply w_neS3; rfl; rfl; rfl) | (apply w_eqS2; rfl; rfl; rfl) | (apply w_neS2; rfl; rfl; rfl) | (apply w_maxL; rfl; rfl; rfl; omega) | (apply w_maxG; rfl; rfl; rfl; omega) | (apply w_max; rfl; rfl; rfl) | (apply w_neB; rfl; rfl; rfl; rfl) | (apply w_eqB; rfl; rfl; rfl; rfl) | (apply w_cap; rfl; rfl; assumption) | (apply w_sll (h := i + 1); rfl; rfl; ((exact congrArg (fun z => some (Value.int .i64 z)) (show (i : Int) + ((1 : Nat) : Int) = ((i + 1 : Nat) : Int) from rfl))); assumption; omega) | refine spl ?_ ?_ | intro hc)
      apply w_slhc (h := cs.length + 1)
      rfl; rfl
      exact congrArg (fun z => some (Value.int .i64 z)) (show (cs.length : Int) + ((1 : Nat) : Int) = ((cs.length + 1 : Nat) : Int) from rfl)
      exact hv; omega
      refine W_sat (L' := ex (fun js : List (List Value) => all [fact (js.length = 1), sl 3 1 (vsl v 0 (cs.length + 1) (vcap v) 1) (cs ++ js)]) :: sl 3 1 u [x] :: R) (fun w hs => ?_) ?_
      · obtain ⟨js, hj, h3⟩ := sl_view (m := 1) hs (by omega)
        exact Sat.ex_iff.2 ⟨js, Sat.all_iff.2 (Sat.fact_iff.2 ⟨hj, h3⟩)⟩
      refine W_ex fun js => ?_
      refine W_know (p := js.length = 1) (fun w h => (Sat.fact_iff.1 (Sat.all_iff.1 h)).1) fun hj => ?_
      refine W_sat (L' := sl 3 1 (vsl v 0 (cs.length + 1) (vcap v) 1) (cs ++ js) :: sl 3 1 u [x] :: R) (fun w h => (Sat.fact_iff.1 (Sat.all_iff.1 h)).2) ?_
      refine W_know (p := IsSl (vsl v 0 (cs.length + 1) (vcap v) 1) (cs.length + 1)) (fun w hs => by have := Len.sl.out w hs; rwa [List.length_append, hj] at this) fun hv2 => ?_
      generalize vsl v 0 (cs.length + 1) (vcap v) 1 = v2 at *
      have hl2 : (cs ++ js).length = cs.length + 1 := by rw [List.length_append, hj]
      have hne : cs ++ js ≠ [] := fun h => by rw [h] at hl2; simp at hl2
      have hs1 : Sep.Src (sl 3 1 v2 (cs ++ js) :: sl 3 1 u [x] :: R) (vsl v2 i (cs.length + 1) (vcap v2) 1) 1 ((cs ++ js).drop i) := Sep.Src.sl.dropS (by omega) hl2.symm hv2
      (repeat' first | refine stp ?_ | intro v' hv' | intro (b : Nat) | (apply w_convU; rfl; rfl; omega; omega) | (apply w_convI; rfl; rfl; omega; omega) | (apply w_quoU; rfl; rfl; rfl; omega; omega; omega) | (apply w_remU; rfl; rfl; rfl; omega; omega) | (apply w_minL; rfl; rfl; rfl; omega) | (apply w_minG; rfl; rfl; rfl; omega) | (apply w_min; rfl; rfl; rfl) | (apply w_mfR; rfl; rfl) | (apply w_cvp; rfl; rfl; exact inferInstance; rfl; rfl; assumption) | (apply w_eqS2T; rfl; rfl; rfl; omega) | (apply w_eqS2F; rfl; rfl; rfl; omega) | (apply w_neS2T; rfl; rfl; rfl; omega) | (apply w_neS2F; rfl; rfl; rfl; omega) | (apply w_eqS3T; rfl; rfl; rfl; omega) | (apply w_eqS3F; rfl; rfl; rfl; omega) | (apply w_neS3T; rfl; rfl; rfl; omega) | (apply w_neS3F; rfl; rfl; rfl; omega) | (apply w_eqS3; rfl; rfl; rfl) | (apply w_neS3; rfl; rfl; rfl) | (apply w_eqS2; rfl; rfl; rfl) | (apply w_neS2; rfl; rfl; rfl) | (apply w_maxL; rfl; rfl; rfl; omega) | (apply w_maxG; rfl; rfl; rfl; omega) | (apply w_max; rfl; rfl; rfl) | (apply w_neB; rfl; rfl; rfl; rfl) | (apply w_eqB; rfl; rfl; rfl; rfl) | (apply w_cap; rfl; rfl; assumption) | (apply w_sll (h := i + 1); rfl; rfl; ((exact congrArg (fun z => some (Value.int .i64 z)) (show (i : Int) + ((1 : Nat) : Int) = ((i + 1 : Nat) : Int) from rfl))); assumption; omega) | refine spl ?_ ?_ | intro hc)
      apply w_ov
      rfl; rfl; rfl; ((focus ((repeat (first | exact Del.here | apply Del.there)); done))); ((focus ((repeat (first | exact Del.here | apply Del.there)); done))); exact List.cons_ne_nil _ _; exact hne
      (repeat' first | refine stp ?_ | intro v' hv' | intro (b : Nat) | (apply w_convU; rfl; rfl; omega; omega) | (apply w_convI; rfl; rfl; omega; omega) | (apply w_quoU; rfl; rfl; rfl; omega; omega; omega) | (apply w_remU; rfl; rfl; rfl; omega; omega) | (apply w_minL; rfl; rfl; rfl; omega) | (apply w_minG; rfl; rfl; rfl; omega) | (apply w_min; rfl; rfl; rfl) | (apply w_mfR; rfl; rfl) | (apply w_cvp; rfl; rfl; exact inferInstance; rfl; rfl; assumption) | (apply w_eqS2T; rfl; rfl; rfl; omega) | (apply w_eqS2F; rfl; rfl; rfl; omega) | (apply w_neS2T; rfl; rfl; rfl; omega) | (apply w_neS2F; rfl; rfl; rfl; omega) | (apply w_eqS3T; rfl; rfl; rfl; omega) | (apply w_eqS3F; rfl; rfl; rfl; omega) | (apply w_neS3T; rfl; rfl; rfl; omega) | (apply w_neS3F; rfl; rfl; rfl; omega) | (apply w_eqS3; rfl; rfl; rfl) | (apply w_neS3; rfl; rfl; rfl) | (apply w_eqS2; rfl; rfl; rfl) | (apply w_neS2; rfl; rfl; rfl) | (apply w_maxL; rfl; rfl; rfl; omega) | (apply w_maxG; rfl; rfl; rfl; omega) | (apply w_max; rfl; rfl; rfl) | (apply w_neB; rfl; rfl; rfl; rfl) | (apply w_eqB; rfl; rfl; rfl; rfl) | (apply w_cap; rfl; rfl; assumption) | (apply w_sll (h := i + 1); rfl; rfl; ((exact congrArg (fun z => some (Value.int .i64 z)) (show (i : Int) + ((1 : Nat) : Int) = ((i + 1 : Nat) : Int) from rfl))); assumption; omega) | refine spl ?_ ?_ | intro hc)
      apply w_copy (es := (cs ++ js).drop i) (l := i + 1) (N := cs.length + 1)
      rfl; rfl; rfl; ((focus ((repeat (first | exact Del.here | apply Del.there)); done))); exact hl2; omega; exact hs1
      · rw [ins_e3 cs js hlt hj, List.all_eq_true]
        intro y hy
        exact List.all_eq_true.1 h1 y (List.mem_of_mem_drop hy)
      ((exact kmf))
      rw [ins_e3 cs js hlt hj, ins_e4 cs js hlt hj]
      have hl3 : ((cs ++ js).take (i + 1) ++ cs.drop i).length = cs.length + 1 := by simp; omega
      (repeat' first | refine stp ?_ | intro v' hv' | intro (b : Nat) | (apply w_convU; rfl; rfl; omega; omega) | (apply w_convI; rfl; rfl; omega; omega) | (apply w_quoU; rfl; rfl; rfl; omega; omega; omega) | (apply w_remU; rfl; rfl; rfl; omega; omega) | (apply w_minL; rfl; rfl; rfl; omega) | (apply w_minG; rfl; rfl; rfl; omega) | (apply w_min; rfl; rfl; rfl) | (apply w_mfR; rfl; rfl) | (apply w_cvp; rfl; rfl; exact inferInstance; rfl; rfl; assumption) | (apply w_eqS2T; rfl; rfl; rfl; omega) | (apply w_eqS2F; rfl; rfl; rfl; omega) | (apply w_neS2T; rfl; rfl; rfl; omega) | (apply w_neS2F; rfl; rfl; rfl; omega) | (apply w_eqS3T; rfl; rfl; rfl; omega) | (apply w_eqS3F; rfl; rfl; rfl; omega) | (apply w_neS3T; rfl; rfl; rfl; omega) | (apply w_neS3F; rfl; rfl; rfl; omega) | (apply w_eqS3; rfl; rfl; rfl) | (apply w_neS3; rfl; rfl; rfl) | (apply w_eqS2; rfl; rfl; rfl) | (apply w_neS2; rfl; rfl; rfl) | (apply w_maxL; rfl; rfl; rfl; omega) | (apply w_maxG; rfl; rfl; rfl; omega) | (apply w_max; rfl; rfl; rfl) | (apply w_neB; rfl; rfl; rfl; rfl) | (apply w_eqB; rfl; rfl; rfl; rfl) | (apply w_cap; rfl; rfl; assumption) | (apply w_sll (h := i + 1); rfl; rfl; ((exact congrArg (fun z => some (Value.int .i64 z)) (show (i : Int) + ((1 : Nat) : Int) = ((i + 1 : Nat) : Int) from rfl))); assumption; omega) | refine spl ?_ ?_ | intro hc)
      apply w_copy (es := [x]) (l := i) (N := cs.length + 1)
      rfl; rfl; rfl; ((focus ((repeat (first | exact Del.here | apply Del.there)); done))); exact hl3; omega; ((exact srf))
      · rw [List.all_eq_true]
        intro y hy
        exact List.all_eq_true.1 h2' y (List.mem_of_mem_take hy)
      ((exact kmf))
      rw [ins_e5 cs js x hlt hj]
      (repeat' first | refine stp ?_ | intro v' hv' | intro (b : Nat) | (apply w_convU; rfl; rfl; omega; omega) | (apply w_convI; rfl; rfl; omega; omega) | (apply w_quoU; rfl; rfl; rfl; omega; omega; omega) | (apply w_remU; rfl; rfl; rfl; omega; omega) | (apply w_minL; rfl; rfl; rfl; omega) | (apply w_minG; rfl; rfl; rfl; omega) | (apply w_min; rfl; rfl; rfl) | (apply w_mfR; rfl; rfl) | (apply w_cvp; rfl; rfl; exact inferInstance; rfl; rfl; assumption) | (apply w_eqS2T; rfl; rfl; rfl; omega) | (apply w_eqS2F; rfl; rfl; rfl; omega) | (apply w_neS2T; rfl; rfl; rfl; omega) | (apply w_neS2F; rfl; rfl; rfl; omega) | (apply w_eqS3T; rfl; rfl; rfl; omega) | (apply w_eqS3F; rfl; rfl; rfl; omega) | (apply w_neS3T; rfl; rfl; rfl; omega) | (apply w_neS3F; rfl; rfl; rfl; omega) | (apply w_eqS3; rfl; rfl; rfl) | (apply w_neS3; rfl; rfl; rfl) | (apply w_eqS2; rfl; rfl; rfl) | (apply w_neS2; rfl; rfl; rfl) | (apply w_maxL; rfl; rfl; rfl; omega) | (apply w_maxG; rfl; rfl; rfl; omega) | (apply w_max; rfl; rfl; rfl) | (apply w_neB; rfl; rfl; rfl; rfl) | (apply w_eqB; rfl; rfl; rfl; rfl) | (apply w_cap; rfl; rfl; assumption) | (apply w_sll (h := i + 1); rfl; rfl; ((exact congrArg (fun z => some (Value.int .i64 z)) (show (i : Int) + ((1 : Nat) : Int) = ((i + 1 : Nat) : Int) from rfl))); assumption; omega) | refine spl ?_ ?_ | intro hc)
      exact At_ret1 (.inl rfl) Tryd.results52 rfl rfl (by (exact frm))
end Go.Proofs.YtelmljbblklblaaDoor
