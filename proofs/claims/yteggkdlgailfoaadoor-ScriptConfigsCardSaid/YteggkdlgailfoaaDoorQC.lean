/- prog: Listed; the reference's May, Check; Plain. Conditions: none. -/
import Derived.Test.YteggkdlgailfoaaDoorQA
set_option linter.all false
set_option linter.deprecated false
namespace Go.Proofs.YteggkdlgailfoaaDoor
open Go.Sep
variable [B0 : Base]
set_option maxHeartbeats 4000000 in
theorem rMay_ok (x : Ins) (R : List HP) : Called Tryd.prog 58 [.agg (insE x).toArray] R (is (int (mayE x)) R) := by
  obtain ⟨op, n⟩ := x
  unfold insE
  dsimp only
  by_cases h : op < 1 ∨ 9 < op
  · have e : mayE ⟨op, n⟩ = 1 := if_pos h
    rw [e]
    refine Fn1 Tryd.func58 rfl Tryd.ntmps58 rfl ?_
    (repeat' first | refine stp ?_ | intro v' hv' | intro (b : Nat) | (apply w_convU; rfl; rfl; omega; omega) | (apply w_convI; rfl; rfl; omega; omega) | (apply w_quoU; rfl; rfl; rfl; omega; omega; omega) | (apply w_remU; rfl; rfl; rfl; omega; omega) | (apply w_minL; rfl; rfl; rfl; omega) | (apply w_minG; rfl; rfl; rfl; omega) | (apply w_min; rfl; rfl; rfl) | (apply w_mfR; rfl; rfl) | (apply w_cvp; rfl; rfl; exact inferInstance; rfl; rfl; assumption) | (apply w_eqS2T; rfl; rfl; rfl; omega) | (apply w_eqS2F; rfl; rfl; rfl; omega) | (apply w_neS2T; rfl; rfl; rfl; omega) | (apply w_neS2F; rfl; rfl; rfl; omega) | (apply w_eqS3T; rfl; rfl; rfl; omega) | (apply w_eqS3F; rfl; rfl; rfl; omega) | (apply w_neS3T; rfl; rfl; rfl; omega) | (apply w_neS3F; rfl; rfl; rfl; omega) | (apply w_eqS3; rfl; rfl; rfl) | (apply w_neS3; rfl; rfl; rfl) | (apply w_eqS2; rfl; rfl; rfl) | (apply w_neS2; rfl; rfl; rfl) | (apply w_maxL; rfl; rfl; rfl; omega) | (apply w_maxG; rfl; rfl; rfl; omega) | (apply w_max; rfl; rfl; rfl) | (apply w_neB; rfl; rfl; rfl; rfl) | (apply w_eqB; rfl; rfl; rfl; rfl) | refine spl ?_ ?_ | intro hc)
    all_goals first | (exfalso; omega) | skip
    all_goals (refine At_ret1 (by (first | exact .inl rfl | exact .inr rfl)) Tryd.results58 rfl ⟨by rfl, rfl⟩ (by (exact frm)))
  · rcases (show op = 1 ∨ op = 2 ∨ op = 3 ∨ op = 4 ∨ op = 5 ∨ op = 6 ∨ op = 7 ∨ op = 8 ∨ op = 9 by omega) with rfl | rfl | rfl | rfl | rfl | rfl | rfl | rfl | rfl
    all_goals refine Fn1 Tryd.func58 rfl Tryd.ntmps58 rfl ?_
    all_goals (repeat' first | refine stp ?_ | intro v' hv' | intro (b : Nat) | (apply w_convU; rfl; rfl; omega; omega) | (apply w_convI; rfl; rfl; omega; omega) | (apply w_quoU; rfl; rfl; rfl; omega; omega; omega) | (apply w_remU; rfl; rfl; rfl; omega; omega) | (apply w_minL; rfl; rfl; rfl; omega) | (apply w_minG; rfl; rfl; rfl; omega) | (apply w_min; rfl; rfl; rfl) | (apply w_mfR; rfl; rfl) | (apply w_cvp; rfl; rfl; exact inferInstance; rfl; rfl; assumption) | (apply w_eqS2T; rfl; rfl; rfl; omega) | (apply w_eqS2F; rfl; rfl; rfl; omega) | (apply w_neS2T; rfl; rfl; rfl; omega) | (apply w_neS2F; rfl; rfl; rfl; omega) | (apply w_eqS3T; rfl; rfl; rfl; omega) | (apply w_eqS3F; rfl; rfl; rfl; omega) | (apply w_neS3T; rfl; rfl; rfl; omega) | (apply w_neS3F; rfl; rfl; rfl; omega) | (apply w_eqS3; rfl; rfl; rfl) | (apply w_neS3; rfl; rfl; rfl) | (apply w_eqS2; rfl; rfl; rfl) | (apply w_neS2; rfl; rfl; rfl) | (apply w_maxL; rfl; rfl; rfl; omega) | (apply w_maxG; rfl; rfl; rfl; omega) | (apply w_max; rfl; rfl; rfl) | (apply w_neB; rfl; rfl; rfl; rfl) | (apply w_eqB; rfl; rfl; rfl; rfl) | refine spl ?_ ?_ | intro hc)
    all_goals (refine At_ret1 (by (first | exact .inl rfl | exact .inr rfl)) Tryd.results58 rfl ⟨by (congr 1; unfold mayE kLo kHi; dsimp only; (repeat' split) <;> omega), rfl⟩ (by (exact frm)))
set_option maxHeartbeats 4000000 in
theorem rCheck_ok (v : Value) (l : List Ins) (R : List HP) (hv : IsSl v l.length) (hs : Src R v 2 (l.map insE)) : Called Tryd.prog 39 [v] R (is (int (progE l)) R) := by
  have hN := hv.len
  unfold progE
  by_cases h64 : 64 < l.length
  · rw [if_pos h64]
    refine Fn1 Tryd.func39 rfl Tryd.ntmps39 rfl ?_
    (repeat' first | refine stp ?_ | intro v' hv' | intro (b : Nat) | (apply w_convU; rfl; rfl; omega; omega) | (apply w_convI; rfl; rfl; omega; omega) | (apply w_quoU; rfl; rfl; rfl; omega; omega; omega) | (apply w_remU; rfl; rfl; rfl; omega; omega) | (apply w_minL; rfl; rfl; rfl; omega) | (apply w_minG; rfl; rfl; rfl; omega) | (apply w_min; rfl; rfl; rfl) | (apply w_mfR; rfl; rfl) | (apply w_cvp; rfl; rfl; exact inferInstance; rfl; rfl; assumption) | (apply w_eqS2T; rfl; rfl; rfl; omega) | (apply w_eqS2F; rfl; rfl; rfl; omega) | (apply w_neS2T; rfl; rfl; rfl; omega) | (apply w_neS2F; rfl; rfl; rfl; omega) | (apply w_eqS3T; rfl; rfl; rfl; omega) | (apply w_eqS3F; rfl; rfl; rfl; omega) | (apply w_neS3T; rfl; rfl; rfl; omega) | (apply w_neS3F; rfl; rfl; rfl; omega) | (apply w_eqS3; rfl; rfl; rfl) | (apply w_neS3; rfl; rfl; rfl) | (apply w_eqS2; rfl; rfl; rfl) | (apply w_neS2; rfl; rfl; rfl) | (apply w_maxL; rfl; rfl; rfl; omega) | (apply w_maxG; rfl; rfl; rfl; omega) | (apply w_max; rfl; rfl; rfl) | (apply w_neB; rfl; rfl; rfl; rfl) | (apply w_eqB; rfl; rfl; rfl; rfl) | (apply w_cp; rfl; rfl; first | assumption | exact rMay_ok _) | refine spl ?_ ?_ | intro hc)
    all_goals (refine At_ret1 (by (first | exact .inl rfl | exact .inr rfl)) Tryd.results39 rfl ⟨by rfl, rfl⟩ (by (exact frm)))
  · rw [if_neg h64]
    refine Fn1 Tryd.func39 rfl Tryd.ntmps39 rfl ?_
    (repeat' first | refine stp ?_ | intro v' hv' | intro (b : Nat) | (apply w_convU; rfl; rfl; omega; omega) | (apply w_convI; rfl; rfl; omega; omega) | (apply w_quoU; rfl; rfl; rfl; omega; omega; omega) | (apply w_remU; rfl; rfl; rfl; omega; omega) | (apply w_minL; rfl; rfl; rfl; omega) | (apply w_minG; rfl; rfl; rfl; omega) | (apply w_min; rfl; rfl; rfl) | (apply w_mfR; rfl; rfl) | (apply w_cvp; rfl; rfl; exact inferInstance; rfl; rfl; assumption) | (apply w_eqS2T; rfl; rfl; rfl; omega) | (apply w_eqS2F; rfl; rfl; rfl; omega) | (apply w_neS2T; rfl; rfl; rfl; omega) | (apply w_neS2F; rfl; rfl; rfl; omega) | (apply w_eqS3T; rfl; rfl; rfl; omega) | (apply w_eqS3F; rfl; rfl; rfl; omega) | (apply w_neS3T; rfl; rfl; rfl; omega) | (apply w_neS3F; rfl; rfl; rfl; omega) | (apply w_eqS3; rfl; rfl; rfl) | (apply w_neS3; rfl; rfl; rfl) | (apply w_eqS2; rfl; rfl; rfl) | (apply w_neS2; rfl; rfl; rfl) | (apply w_maxL; rfl; rfl; rfl; omega) | (apply w_maxG; rfl; rfl; rfl; omega) | (apply w_max; rfl; rfl; rfl) | (apply w_neB; rfl; rfl; rfl; rfl) | (apply w_eqB; rfl; rfl; rfl; rfl) | (apply w_cp; rfl; rfl; first | assumption | exact rMay_ok _) | refine spl ?_ ?_ | intro hc)
    refine C_loopK [2, 3, 4, 8, 9, 10, 11, 12, 13, 14, 15, 16, 17, 18, 19, 20, 21] (fun k : Nat => l.length - k) (fun k => [(3, int k)]) (fun _ => R) (fun k => k ≤ l.length ∧ ∀ x ∈ l.take k, mayE x = 0) 0 ⟨Nat.zero_le _, by simp⟩ (by (focus ((repeat (first | exact Keep.nil | apply Keep.drop rfl | apply Keep.keep rfl)); done))) (by (exact sbf)) (by (exact frm)) ?_
    rintro k ⟨hk, hz⟩
    dsimp only [List.cons_append, List.nil_append]
    by_cases hlt : k < l.length
    · have hra : RdAll R (vb v) (vo v + k * 2) (insE l[k]) := RdAll.srcI hs (by simp [hlt])
      have hM := rMay_ok l[k]
      by_cases hm : mayE l[k] = 0
      · rw [hm] at hM
        (repeat' first | refine stp ?_ | intro v' hv' | intro (b : Nat) | (apply w_convU; rfl; rfl; omega; omega) | (apply w_convI; rfl; rfl; omega; omega) | (apply w_quoU; rfl; rfl; rfl; omega; omega; omega) | (apply w_remU; rfl; rfl; rfl; omega; omega) | (apply w_minL; rfl; rfl; rfl; omega) | (apply w_minG; rfl; rfl; rfl; omega) | (apply w_min; rfl; rfl; rfl) | (apply w_mfR; rfl; rfl) | (apply w_cvp; rfl; rfl; exact inferInstance; rfl; rfl; assumption) | (apply w_eqS2T; rfl; rfl; rfl; omega) | (apply w_eqS2F; rfl; rfl; rfl; omega) | (apply w_neS2T; rfl; rfl; rfl; omega) | (apply w_neS2F; rfl; rfl; rfl; omega) | (apply w_eqS3T; rfl; rfl; rfl; omega) | (apply w_eqS3F; rfl; rfl; rfl; omega) | (apply w_neS3T; rfl; rfl; rfl; omega) | (apply w_neS3F; rfl; rfl; rfl; omega) | (apply w_eqS3; rfl; rfl; rfl) | (apply w_neS3; rfl; rfl; rfl) | (apply w_eqS2; rfl; rfl; rfl) | (apply w_neS2; rfl; rfl; rfl) | (apply w_maxL; rfl; rfl; rfl; omega) | (apply w_maxG; rfl; rfl; rfl; omega) | (apply w_max; rfl; rfl; rfl) | (apply w_neB; rfl; rfl; rfl; rfl) | (apply w_eqB; rfl; rfl; rfl; rfl) | (apply w_cp; rfl; rfl; first | assumption | exact rMay_ok _) | refine spl ?_ ?_ | intro hc)
        refine At_againK (k + 1) ⟨hlt, ?_⟩ (by omega) (by (exact sbf)) (by (exact sbf)) (by (exact frm))
        intro x hx
        rw [List.take_add_one] at hx
        rcases List.mem_append.1 hx with h | h
        · exact hz x h
        · simp [hlt] at h; subst h; exact hm
      · have hf : ((l.map mayE).find? (fun e => e != 0)) = some (mayE l[k]) := by
          have e : l = l.take k ++ l[k] :: l.drop (k + 1) := by rw [List.getElem_cons_drop]; exact (List.take_append_drop k l).symm
          have hn : ((l.take k).map mayE).find? (fun e => e != 0) = none := by rw [List.find?_eq_none]; intro x hx; obtain ⟨y, hy, rfl⟩ := List.mem_map.1 hx; simp [hz y hy]
          generalize hx : l[k] = x at *
          rw [e, List.map_append, List.find?_append, hn]
          simp [hm]
        rw [hf]
        (repeat' first | refine stp ?_ | intro v' hv' | intro (b : Nat) | (apply w_convU; rfl; rfl; omega; omega) | (apply w_convI; rfl; rfl; omega; omega) | (apply w_quoU; rfl; rfl; rfl; omega; omega; omega) | (apply w_remU; rfl; rfl; rfl; omega; omega) | (apply w_minL; rfl; rfl; rfl; omega) | (apply w_minG; rfl; rfl; rfl; omega) | (apply w_min; rfl; rfl; rfl) | (apply w_mfR; rfl; rfl) | (apply w_cvp; rfl; rfl; exact inferInstance; rfl; rfl; assumption) | (apply w_eqS2T; rfl; rfl; rfl; omega) | (apply w_eqS2F; rfl; rfl; rfl; omega) | (apply w_neS2T; rfl; rfl; rfl; omega) | (apply w_neS2F; rfl; rfl; rfl; omega) | (apply w_eqS3T; rfl; rfl; rfl; omega) | (apply w_eqS3F; rfl; rfl; rfl; omega) | (apply w_neS3T; rfl; rfl; rfl; omega) | (apply w_neS3F; rfl; rfl; rfl; omega) | (apply w_eqS3; rfl; rfl; rfl) | (apply w_neS3; rfl; rfl; rfl) | (apply w_eqS2; rfl; rfl; rfl) | (apply w_neS2; rfl; rfl; rfl) | (apply w_maxL; rfl; rfl; rfl; omega) | (apply w_maxG; rfl; rfl; rfl; omega) | (apply w_max; rfl; rfl; rfl) | (apply w_neB; rfl; rfl; rfl; rfl) | (apply w_eqB; rfl; rfl; rfl; rfl) | (apply w_cp; rfl; rfl; first | assumption | exact rMay_ok _) | refine spl ?_ ?_ | intro hc)
        all_goals (refine At_ret1 (by (first | exact .inl rfl | exact .inr rfl)) Tryd.results39 rfl ⟨by rfl, rfl⟩ (by (exact frm)))
    · have hk' : k = l.length := by omega
      subst hk'
      rw [List.take_length] at hz
      have hf : ((l.map mayE).find? (fun e => e != 0)) = none := by rw [List.find?_eq_none]; intro x hx; obtain ⟨y, hy, rfl⟩ := List.mem_map.1 hx; simp [hz y hy]
      rw [hf]
      (repeat' first | refine stp ?_ | intro v' hv' | intro (b : Nat) | (apply w_convU; rfl; rfl; omega; omega) | (apply w_convI; rfl; rfl; omega; omega) | (apply w_quoU; rfl; rfl; rfl; omega; omega; omega) | (apply w_remU; rfl; rfl; rfl; omega; omega) | (apply w_minL; rfl; rfl; rfl; omega) | (apply w_minG; rfl; rfl; rfl; omega) | (apply w_min; rfl; rfl; rfl) | (apply w_mfR; rfl; rfl) | (apply w_cvp; rfl; rfl; exact inferInstance; rfl; rfl; assumption) | (apply w_eqS2T; rfl; rfl; rfl; omega) | (apply w_eqS2F; rfl; rfl; rfl; omega) | (apply w_neS2T; rfl; rfl; rfl; omega) | (apply w_neS2F; rfl; rfl; rfl; omega) | (apply w_eqS3T; rfl; rfl; rfl; omega) | (apply w_eqS3F; rfl; rfl; rfl; omega) | (apply w_neS3T; rfl; rfl; rfl; omega) | (apply w_neS3F; rfl; rfl; rfl; omega) | (apply w_eqS3; rfl; rfl; rfl) | (apply w_neS3; rfl; rfl; rfl) | (apply w_eqS2; rfl; rfl; rfl) | (apply w_neS2; rfl; rfl; rfl) | (apply w_maxL; rfl; rfl; rfl; omega) | (apply w_maxG; rfl; rfl; rfl; omega) | (apply w_max; rfl; rfl; rfl) | (apply w_neB; rfl; rfl; rfl; rfl) | (apply w_eqB; rfl; rfl; rfl; rfl) | (apply w_cp; rfl; rfl; first | assumption | exact rMay_ok _) | refine spl ?_ ?_ | intro hc)
      all_goals (refine At_ret1 (by (first | exact .inl rfl | exact .inr rfl)) Tryd.results39 rfl ⟨by rfl, rfl⟩ (by (exact frm)))
set_option maxHeartbeats 4000000 in
theorem Plain_ok (v : Value) (l : List Ins) (R : List HP) (h : PrIn R v l) (hb : l.length ≤ 1000000) : Called Tryd.prog 41 [v] R (retSl 112 2 (l.map insE) R) := by
  have hv := h.isl
  have hs := h.src
  refine Called.isl ?_
  refine Fn1 Tryd.func41 rfl Tryd.ntmps41 rfl ?_
  (repeat' first | refine stp ?_ | intro v' hv' | intro (b : Nat) | (apply w_convU; rfl; rfl; omega; omega) | (apply w_convI; rfl; rfl; omega; omega) | (apply w_quoU; rfl; rfl; rfl; omega; omega; omega) | (apply w_remU; rfl; rfl; rfl; omega; omega) | (apply w_minL; rfl; rfl; rfl; omega) | (apply w_minG; rfl; rfl; rfl; omega) | (apply w_min; rfl; rfl; rfl) | (apply w_mfR; rfl; rfl) | (apply w_cvp; rfl; rfl; exact inferInstance; rfl; rfl; assumption) | (apply w_eqS2T; rfl; rfl; rfl; omega) | (apply w_eqS2F; rfl; rfl; rfl; omega) | (apply w_neS2T; rfl; rfl; rfl; omega) | (apply w_neS2F; rfl; rfl; rfl; omega) | (apply w_eqS3T; rfl; rfl; rfl; omega) | (apply w_eqS3F; rfl; rfl; rfl; omega) | (apply w_neS3T; rfl; rfl; rfl; omega) | (apply w_neS3F; rfl; rfl; rfl; omega) | (apply w_eqS3; rfl; rfl; rfl) | (apply w_neS3; rfl; rfl; rfl) | (apply w_eqS2; rfl; rfl; rfl) | (apply w_neS2; rfl; rfl; rfl) | (apply w_maxL; rfl; rfl; rfl; omega) | (apply w_maxG; rfl; rfl; rfl; omega) | (apply w_max; rfl; rfl; rfl) | (apply w_neB; rfl; rfl; rfl; rfl) | (apply w_eqB; rfl; rfl; rfl; rfl) | refine spl ?_ ?_ | intro hc)
  refine C_loopK (α := Nat × Value) [3, 4, 5, 6, 7, 8, 9, 10, 11, 12, 13, 14, 15, 16, 17, 18, 19, 20, 21, 22, 23, 24] (fun x => l.length - x.1) (fun x => [(4, int x.1), (3, x.2)]) (fun x => sl 112 2 x.2 ((l.take x.1).map insE) :: R) (fun x => x.1 ≤ l.length ∧ IsSl x.2 x.1) (0, .slice none 0 0) ⟨Nat.zero_le _, IsSl.nil⟩ (by (focus ((repeat (first | exact Keep.nil | apply Keep.drop rfl | apply Keep.keep rfl)); done))) (by (exact sbf)) (fun w h => h.sl_nil) ?_
  rintro ⟨k, u⟩ ⟨hk, hu⟩
  dsimp only [List.cons_append, List.nil_append] at *
  by_cases hlt : k < l.length
  · have hr0 : Rd R ⟨vb v, vo v + k * 2 + 0, none⟩ (int l[k].op) := Rd.src hs (i := k) (k := 0) (e := insE l[k]) (by simp [hlt]) rfl
    have hr1 : Rd R ⟨vb v, vo v + k * 2 + 1, none⟩ (int l[k].n) := Rd.src hs (i := k) (k := 1) (e := insE l[k]) (by simp [hlt]) rfl
    have htk : (l.take (k + 1)).map insE = (l.take k).map insE ++ [insE l[k]] := by rw [List.take_add_one, List.getElem?_eq_getElem hlt, List.map_append]; rfl
    have hlk : ((l.take k).map insE).length = k := by simp; omega
    (repeat' first | refine stp ?_ | intro v' hv' | intro (b : Nat) | (apply w_convU; rfl; rfl; omega; omega) | (apply w_convI; rfl; rfl; omega; omega) | (apply w_quoU; rfl; rfl; rfl; omega; omega; omega) | (apply w_remU; rfl; rfl; rfl; omega; omega) | (apply w_minL; rfl; rfl; rfl; omega) | (apply w_minG; rfl; rfl; rfl; omega) | (apply w_min; rfl; rfl; rfl) | (apply w_mfR; rfl; rfl) | (apply w_cvp; rfl; rfl; exact inferInstance; rfl; rfl; assumption) | (apply w_eqS2T; rfl; rfl; rfl; omega) | (apply w_eqS2F; rfl; rfl; rfl; omega) | (apply w_neS2T; rfl; rfl; rfl; omega) | (apply w_neS2F; rfl; rfl; rfl; omega) | (apply w_eqS3T; rfl; rfl; rfl; omega) | (apply w_eqS3F; rfl; rfl; rfl; omega) | (apply w_neS3T; rfl; rfl; rfl; omega) | (apply w_neS3F; rfl; rfl; rfl; omega) | (apply w_eqS3; rfl; rfl; rfl) | (apply w_neS3; rfl; rfl; rfl) | (apply w_eqS2; rfl; rfl; rfl) | (apply w_neS2; rfl; rfl; rfl) | (apply w_maxL; rfl; rfl; rfl; omega) | (apply w_maxG; rfl; rfl; rfl; omega) | (apply w_max; rfl; rfl; rfl) | (apply w_neB; rfl; rfl; rfl; rfl) | (apply w_eqB; rfl; rfl; rfl; rfl) | refine spl ?_ ?_ | intro hc)
    apply w_ap (es := [insE l[k]])
    rfl; rfl; rfl; ((focus ((repeat (first | exact Del.here | apply Del.there)); done))); ((exact srf)); rfl; (rw [hlk]; simp; omega); (rw [hlk]; simp; omega)
    intro v2 hv2
    refine ⟨by (exact kmf), ?_⟩
    have hv3 : IsSl v2 (k + 1) := by rw [List.length_append, hlk] at hv2; exact hv2
    (repeat' first | refine stp ?_ | intro v' hv' | intro (b : Nat) | (apply w_convU; rfl; rfl; omega; omega) | (apply w_convI; rfl; rfl; omega; omega) | (apply w_quoU; rfl; rfl; rfl; omega; omega; omega) | (apply w_remU; rfl; rfl; rfl; omega; omega) | (apply w_minL; rfl; rfl; rfl; omega) | (apply w_minG; rfl; rfl; rfl; omega) | (apply w_min; rfl; rfl; rfl) | (apply w_mfR; rfl; rfl) | (apply w_cvp; rfl; rfl; exact inferInstance; rfl; rfl; assumption) | (apply w_eqS2T; rfl; rfl; rfl; omega) | (apply w_eqS2F; rfl; rfl; rfl; omega) | (apply w_neS2T; rfl; rfl; rfl; omega) | (apply w_neS2F; rfl; rfl; rfl; omega) | (apply w_eqS3T; rfl; rfl; rfl; omega) | (apply w_eqS3F; rfl; rfl; rfl; omega) | (apply w_neS3T; rfl; rfl; rfl; omega) | (apply w_neS3F; rfl; rfl; rfl; omega) | (apply w_eqS3; rfl; rfl; rfl) | (apply w_neS3; rfl; rfl; rfl) | (apply w_eqS2; rfl; rfl; rfl) | (apply w_neS2; rfl; rfl; rfl) | (apply w_maxL; rfl; rfl; rfl; omega) | (apply w_maxG; rfl; rfl; rfl; omega) | (apply w_max; rfl; rfl; rfl) | (apply w_neB; rfl; rfl; rfl; rfl) | (apply w_eqB; rfl; rfl; rfl; rfl) | refine spl ?_ ?_ | intro hc)
    refine At_againK (k + 1, v2) ⟨hlt, hv3⟩ (by show l.length - (k + 1) < l.length - k; omega) (by (exact sbf)) (by (exact sbf)) (fun w hs => ?_)
    show Sat w (sl 112 2 v2 ((l.take (k + 1)).map insE) :: R)
    rw [htk]
    exact Sel.sat (by (focus ((repeat (first | exact Sel.refl | (apply Sel.cons; (focus ((repeat (first | exact Del.here | apply Del.there)); done))) | refine Sel.drop ?_)); done))) hs
  · have hk' : k = l.length := by omega
    subst hk'
    rw [List.take_length]
    (repeat' first | refine stp ?_ | intro v' hv' | intro (b : Nat) | (apply w_convU; rfl; rfl; omega; omega) | (apply w_convI; rfl; rfl; omega; omega) | (apply w_quoU; rfl; rfl; rfl; omega; omega; omega) | (apply w_remU; rfl; rfl; rfl; omega; omega) | (apply w_minL; rfl; rfl; rfl; omega) | (apply w_minG; rfl; rfl; rfl; omega) | (apply w_min; rfl; rfl; rfl) | (apply w_mfR; rfl; rfl) | (apply w_cvp; rfl; rfl; exact inferInstance; rfl; rfl; assumption) | (apply w_eqS2T; rfl; rfl; rfl; omega) | (apply w_eqS2F; rfl; rfl; rfl; omega) | (apply w_neS2T; rfl; rfl; rfl; omega) | (apply w_neS2F; rfl; rfl; rfl; omega) | (apply w_eqS3T; rfl; rfl; rfl; omega) | (apply w_eqS3F; rfl; rfl; rfl; omega) | (apply w_neS3T; rfl; rfl; rfl; omega) | (apply w_neS3F; rfl; rfl; rfl; omega) | (apply w_eqS3; rfl; rfl; rfl) | (apply w_neS3; rfl; rfl; rfl) | (apply w_eqS2; rfl; rfl; rfl) | (apply w_neS2; rfl; rfl; rfl) | (apply w_maxL; rfl; rfl; rfl; omega) | (apply w_maxG; rfl; rfl; rfl; omega) | (apply w_max; rfl; rfl; rfl) | (apply w_neB; rfl; rfl; rfl; rfl) | (apply w_eqB; rfl; rfl; rfl; rfl) | refine spl ?_ ?_ | intro hc)
    exact At_ret1 (.inl rfl) Tryd.results41 rfl rfl (fun w h => h)
end Go.Proofs.YteggkdlgailfoaaDoor
