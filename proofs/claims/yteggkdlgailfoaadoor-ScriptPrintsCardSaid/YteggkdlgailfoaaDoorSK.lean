/- script: the reference's Split, number, One. Conditions: none. -/
import Derived.Test.YteggkdlgailfoaaDoorSJ
set_option linter.all false
set_option linter.deprecated false
namespace Go.Proofs.YteggkdlgailfoaaDoor
open Go.Sep
variable [B0 : Base]
instance : IntT Tryd.prog 5 .u8 := ⟨by kernel_rfl⟩
instance : IntT Tryd.prog 3 .i64 := ⟨by kernel_rfl⟩
theorem w_strSE {P : Program} {ro : Option Nat} {m : Option Go.Sep.Mode} {ops : Array Oper} {Q : Exit → Act → World → Prop} {n : Nat} {rest : List Oper} {F : Fr} {ds : List Deferred} {L : List HP} {d : Nat} {ty : TypeId} {pos : String} {aft : Array Edge}
    {t : TypeId} {x y z : Operand} {k k' : IntKind} {a r : List UInt8} {i j : Int} {i' j' : Nat} [hT : StrT P t] (hd : Nat.blt d n = true) (hx : ev F x = some (str a)) (hy : ev F y = some (.int k i)) (hz : ev F z = some (.int k' j)) (hi : i = i') (hj : j = j') (h1 : i' ≤ j') (h2 : j' ≤ a.length) (hr : (a.drop i').take (j' - i') = r)
    (hk : W P ro m ops Q n rest ((d, str r) :: F) ds L) : W P ro m ops Q n (⟨some d, .slice t x (some y) (some z) none, ty, pos, aft, none⟩ :: rest) F ds L := w_strS hd hx hy hz hi hj h1 h2 (hr ▸ hk)
/-! ### number -/
set_option maxHeartbeats 4000000 in
theorem rnumber_ok (d : List UInt8) (R : List HP) (hs : d.length ≤ 1000000) : Called Tryd.prog 54 [str d] R (is (int (rnumM d)) R) := by
  by_cases hn0 : d = []
  · subst hn0
    rw [rnum_no (fun h => h.1 rfl)]
    have hnn : ([] : List UInt8) = [] := rfl
    have hnc : (0 : Int) = 0 := rfl
    refine Fn1 Tryd.func54 rfl Tryd.ntmps54 rfl ?_
    (repeat' first | refine stp ?_ | intro v' hv' | intro (b : Nat) | (apply w_convU; rfl; rfl; omega; omega) | (apply w_convI; rfl; rfl; omega; omega) | (apply w_quoU; rfl; rfl; rfl; omega; omega; omega) | (apply w_remU; rfl; rfl; rfl; omega; omega) | (apply w_minL; rfl; rfl; rfl; omega) | (apply w_minG; rfl; rfl; rfl; omega) | (apply w_min; rfl; rfl; rfl) | (apply w_mfR; rfl; rfl) | (apply w_cvp; rfl; rfl; exact inferInstance; rfl; rfl; assumption) | (apply w_eqS2T; rfl; rfl; rfl; omega) | (apply w_eqS2F; rfl; rfl; rfl; omega) | (apply w_neS2T; rfl; rfl; rfl; omega) | (apply w_neS2F; rfl; rfl; rfl; omega) | (apply w_eqS3T; rfl; rfl; rfl; omega) | (apply w_eqS3F; rfl; rfl; rfl; omega) | (apply w_neS3T; rfl; rfl; rfl; omega) | (apply w_neS3F; rfl; rfl; rfl; omega) | (apply w_eqS3; rfl; rfl; rfl) | (apply w_neS3; rfl; rfl; rfl) | (apply w_eqS2; rfl; rfl; rfl) | (apply w_neS2; rfl; rfl; rfl) | (apply w_maxL; rfl; rfl; rfl; omega) | (apply w_maxG; rfl; rfl; rfl; omega) | (apply w_max; rfl; rfl; rfl) | (apply w_neB; rfl; rfl; rfl; rfl) | (apply w_eqB; rfl; rfl; rfl; rfl) | (apply w_strA; rfl; rfl; rfl; first | omega | (simp only [List.length_append, List.length_cons, List.length_nil]; omega)) | (apply w_strET; rfl; rfl; rfl; assumption) | (apply w_strEF; rfl; rfl; rfl; assumption) | (apply w_strNF; rfl; rfl; rfl; assumption) | (apply w_strNT; rfl; rfl; rfl; assumption) | (apply w_strE; rfl; rfl; rfl; rfl) | (apply w_strN; rfl; rfl; rfl; rfl) | (apply w_strL; rfl; rfl) | (apply w_strI0; rfl; rfl; rfl; assumption) | (apply w_strI; rfl; rfl; rfl; omega; assumption) | (apply w_subB; rfl; rfl; rfl; omega; omega) | refine spl ?_ ?_ | intro hc)
    all_goals first | (exfalso; omega) | skip
    all_goals (refine At_ret1 (by (first | exact .inl rfl | exact .inr rfl)) Tryd.results54 rfl ⟨by rfl, rfl⟩ (by (exact frm)))
  · have hpos := List.length_pos_iff.2 hn0
    have hd0 : d[(0 : Int).toNat]? = some (d[0]'hpos) := List.getElem?_eq_getElem _
    have hhead : d.head? = some (d[0]'hpos) := by rw [List.head?_eq_getElem?]; exact List.getElem?_eq_getElem _
    generalize d[0]'hpos = c1 at *
    by_cases h13 : 13 < d.length
    · rw [rnum_no (fun h => by have := h.2.1; omega)]
      refine Fn1 Tryd.func54 rfl Tryd.ntmps54 rfl ?_
      (repeat' first | refine stp ?_ | intro v' hv' | intro (b : Nat) | (apply w_convU; rfl; rfl; omega; omega) | (apply w_convI; rfl; rfl; omega; omega) | (apply w_quoU; rfl; rfl; rfl; omega; omega; omega) | (apply w_remU; rfl; rfl; rfl; omega; omega) | (apply w_minL; rfl; rfl; rfl; omega) | (apply w_minG; rfl; rfl; rfl; omega) | (apply w_min; rfl; rfl; rfl) | (apply w_mfR; rfl; rfl) | (apply w_cvp; rfl; rfl; exact inferInstance; rfl; rfl; assumption) | (apply w_eqS2T; rfl; rfl; rfl; omega) | (apply w_eqS2F; rfl; rfl; rfl; omega) | (apply w_neS2T; rfl; rfl; rfl; omega) | (apply w_neS2F; rfl; rfl; rfl; omega) | (apply w_eqS3T; rfl; rfl; rfl; omega) | (apply w_eqS3F; rfl; rfl; rfl; omega) | (apply w_neS3T; rfl; rfl; rfl; omega) | (apply w_neS3F; rfl; rfl; rfl; omega) | (apply w_eqS3; rfl; rfl; rfl) | (apply w_neS3; rfl; rfl; rfl) | (apply w_eqS2; rfl; rfl; rfl) | (apply w_neS2; rfl; rfl; rfl) | (apply w_maxL; rfl; rfl; rfl; omega) | (apply w_maxG; rfl; rfl; rfl; omega) | (apply w_max; rfl; rfl; rfl) | (apply w_neB; rfl; rfl; rfl; rfl) | (apply w_eqB; rfl; rfl; rfl; rfl) | (apply w_strA; rfl; rfl; rfl; first | omega | (simp only [List.length_append, List.length_cons, List.length_nil]; omega)) | (apply w_strET; rfl; rfl; rfl; assumption) | (apply w_strEF; rfl; rfl; rfl; assumption) | (apply w_strNF; rfl; rfl; rfl; assumption) | (apply w_strNT; rfl; rfl; rfl; assumption) | (apply w_strE; rfl; rfl; rfl; rfl) | (apply w_strN; rfl; rfl; rfl; rfl) | (apply w_strL; rfl; rfl) | (apply w_strI0; rfl; rfl; rfl; assumption) | (apply w_strI; rfl; rfl; rfl; omega; assumption) | (apply w_subB; rfl; rfl; rfl; omega; omega) | refine spl ?_ ?_ | intro hc)
      all_goals first | (exfalso; omega) | skip
      all_goals (refine At_ret1 (by (first | exact .inl rfl | exact .inr rfl)) Tryd.results54 rfl ⟨by rfl, rfl⟩ (by (exact frm)))
    · by_cases hz0 : (c1.toNat : Int) = 48 ∧ 1 < d.length
      · rw [rnum_no (fun h => h.2.2.2 ⟨by rw [hhead]; congr 1; exact UInt8.toNat_inj.1 (by have := hz0.1; show c1.toNat = 48; omega), hz0.2⟩)]
        refine Fn1 Tryd.func54 rfl Tryd.ntmps54 rfl ?_
        (repeat' first | refine stp ?_ | intro v' hv' | intro (b : Nat) | (apply w_convU; rfl; rfl; omega; omega) | (apply w_convI; rfl; rfl; omega; omega) | (apply w_quoU; rfl; rfl; rfl; omega; omega; omega) | (apply w_remU; rfl; rfl; rfl; omega; omega) | (apply w_minL; rfl; rfl; rfl; omega) | (apply w_minG; rfl; rfl; rfl; omega) | (apply w_min; rfl; rfl; rfl) | (apply w_mfR; rfl; rfl) | (apply w_cvp; rfl; rfl; exact inferInstance; rfl; rfl; assumption) | (apply w_eqS2T; rfl; rfl; rfl; omega) | (apply w_eqS2F; rfl; rfl; rfl; omega) | (apply w_neS2T; rfl; rfl; rfl; omega) | (apply w_neS2F; rfl; rfl; rfl; omega) | (apply w_eqS3T; rfl; rfl; rfl; omega) | (apply w_eqS3F; rfl; rfl; rfl; omega) | (apply w_neS3T; rfl; rfl; rfl; omega) | (apply w_neS3F; rfl; rfl; rfl; omega) | (apply w_eqS3; rfl; rfl; rfl) | (apply w_neS3; rfl; rfl; rfl) | (apply w_eqS2; rfl; rfl; rfl) | (apply w_neS2; rfl; rfl; rfl) | (apply w_maxL; rfl; rfl; rfl; omega) | (apply w_maxG; rfl; rfl; rfl; omega) | (apply w_max; rfl; rfl; rfl) | (apply w_neB; rfl; rfl; rfl; rfl) | (apply w_eqB; rfl; rfl; rfl; rfl) | (apply w_strA; rfl; rfl; rfl; first | omega | (simp only [List.length_append, List.length_cons, List.length_nil]; omega)) | (apply w_strET; rfl; rfl; rfl; assumption) | (apply w_strEF; rfl; rfl; rfl; assumption) | (apply w_strNF; rfl; rfl; rfl; assumption) | (apply w_strNT; rfl; rfl; rfl; assumption) | (apply w_strE; rfl; rfl; rfl; rfl) | (apply w_strN; rfl; rfl; rfl; rfl) | (apply w_strL; rfl; rfl) | (apply w_strI0; rfl; rfl; rfl; assumption) | (apply w_strI; rfl; rfl; rfl; omega; assumption) | (apply w_subB; rfl; rfl; rfl; omega; omega) | refine spl ?_ ?_ | intro hc)
        all_goals first | (exfalso; omega) | skip
        all_goals (refine At_ret1 (by (first | exact .inl rfl | exact .inr rfl)) Tryd.results54 rfl ⟨by rfl, rfl⟩ (by (exact frm)))
      · have hz1 : ¬ (d.head? = some 48 ∧ 1 < d.length) := fun ⟨h1, h2⟩ => by
          rw [hhead] at h1
          have e1 : c1 = 48 := Option.some.inj h1
          exact hz0 ⟨by rw [e1]; rfl, h2⟩
        refine Fn1 Tryd.func54 rfl Tryd.ntmps54 rfl ?_
        (repeat' first | refine stp ?_ | intro v' hv' | intro (b : Nat) | (apply w_convU; rfl; rfl; omega; omega) | (apply w_convI; rfl; rfl; omega; omega) | (apply w_quoU; rfl; rfl; rfl; omega; omega; omega) | (apply w_remU; rfl; rfl; rfl; omega; omega) | (apply w_minL; rfl; rfl; rfl; omega) | (apply w_minG; rfl; rfl; rfl; omega) | (apply w_min; rfl; rfl; rfl) | (apply w_mfR; rfl; rfl) | (apply w_cvp; rfl; rfl; exact inferInstance; rfl; rfl; assumption) | (apply w_eqS2T; rfl; rfl; rfl; omega) | (apply w_eqS2F; rfl; rfl; rfl; omega) | (apply w_neS2T; rfl; rfl; rfl; omega) | (apply w_neS2F; rfl; rfl; rfl; omega) | (apply w_eqS3T; rfl; rfl; rfl; omega) | (apply w_eqS3F; rfl; rfl; rfl; omega) | (apply w_neS3T; rfl; rfl; rfl; omega) | (apply w_neS3F; rfl; rfl; rfl; omega) | (apply w_eqS3; rfl; rfl; rfl) | (apply w_neS3; rfl; rfl; rfl) | (apply w_eqS2; rfl; rfl; rfl) | (apply w_neS2; rfl; rfl; rfl) | (apply w_maxL; rfl; rfl; rfl; omega) | (apply w_maxG; rfl; rfl; rfl; omega) | (apply w_max; rfl; rfl; rfl) | (apply w_neB; rfl; rfl; rfl; rfl) | (apply w_eqB; rfl; rfl; rfl; rfl) | (apply w_strA; rfl; rfl; rfl; first | omega | (simp only [List.length_append, List.length_cons, List.length_nil]; omega)) | (apply w_strET; rfl; rfl; rfl; assumption) | (apply w_strEF; rfl; rfl; rfl; assumption) | (apply w_strNF; rfl; rfl; rfl; assumption) | (apply w_strNT; rfl; rfl; rfl; assumption) | (apply w_strE; rfl; rfl; rfl; rfl) | (apply w_strN; rfl; rfl; rfl; rfl) | (apply w_strL; rfl; rfl) | (apply w_strI0; rfl; rfl; rfl; assumption) | (apply w_strI; rfl; rfl; rfl; omega; assumption) | (apply w_subB; rfl; rfl; rfl; omega; omega) | refine spl ?_ ?_ | intro hc)
        all_goals first | (exfalso; omega) | skip
        all_goals
          refine C_loopK [2, 3, 4, 22, 23, 24, 25, 26, 27, 28, 29, 30, 31, 32, 33, 34, 35, 36, 37, 38, 39, 40, 41, 42, 43, 44, 45] (fun j : Nat => d.length - j) (fun j => [(4, int j), (3, int (valD (d.take j) : Nat))]) (fun _ => R) (fun j => j ≤ d.length ∧ ∀ c ∈ d.take j, isDig c) 0 ⟨Nat.zero_le _, by simp⟩ (by (focus ((repeat (first | exact Keep.nil | apply Keep.drop rfl | apply Keep.keep rfl)); done))) (by (exact sbf)) (fun w h => h) ?_
          rintro j ⟨hj, hdj⟩
          dsimp only [List.cons_append, List.nil_append]
          have hvl : valD (d.take j) < 10000000000000 := Nat.lt_of_lt_of_le (valD_lt _ hdj) (Nat.le_trans (Nat.pow_le_pow_right (by decide) (show (d.take j).length ≤ 13 by rw [List.length_take]; omega)) (by decide))
          by_cases hjl : j < d.length
          · have hcj : d[j]? = some d[j] := List.getElem?_eq_getElem hjl
            have htk : valD (d.take (j + 1)) = 10 * valD (d.take j) + (d[j].toNat - 48) := by rw [List.take_add_one, hcj]; exact valD_snoc _ _
            have hmem : d[j] ∈ d := List.getElem_mem hjl
            have htm : ∀ c ∈ d.take (j + 1), isDig d[j] → isDig c := fun c hc hd => by
              rw [List.take_add_one, hcj] at hc
              rcases List.mem_append.1 hc with hc | hc
              · exact hdj c hc
              · simp at hc; subst hc; exact hd
            generalize d[j] = cj at *
            generalize valD (d.take j) = vj at *
            by_cases hdig : isDig cj
            · have hdg := hdig
              unfold isDig at hdg
              have hvn : ((valD (d.take (j + 1)) : Nat) : Int) = 10 * (vj : Int) + ((cj.toNat : Int) - 48) := by rw [htk]; omega
              (repeat' first | refine stp ?_ | intro v' hv' | intro (b : Nat) | (apply w_convU; rfl; rfl; omega; omega) | (apply w_convI; rfl; rfl; omega; omega) | (apply w_quoU; rfl; rfl; rfl; omega; omega; omega) | (apply w_remU; rfl; rfl; rfl; omega; omega) | (apply w_minL; rfl; rfl; rfl; omega) | (apply w_minG; rfl; rfl; rfl; omega) | (apply w_min; rfl; rfl; rfl) | (apply w_mfR; rfl; rfl) | (apply w_cvp; rfl; rfl; exact inferInstance; rfl; rfl; assumption) | (apply w_eqS2T; rfl; rfl; rfl; omega) | (apply w_eqS2F; rfl; rfl; rfl; omega) | (apply w_neS2T; rfl; rfl; rfl; omega) | (apply w_neS2F; rfl; rfl; rfl; omega) | (apply w_eqS3T; rfl; rfl; rfl; omega) | (apply w_eqS3F; rfl; rfl; rfl; omega) | (apply w_neS3T; rfl; rfl; rfl; omega) | (apply w_neS3F; rfl; rfl; rfl; omega) | (apply w_eqS3; rfl; rfl; rfl) | (apply w_neS3; rfl; rfl; rfl) | (apply w_eqS2; rfl; rfl; rfl) | (apply w_neS2; rfl; rfl; rfl) | (apply w_maxL; rfl; rfl; rfl; omega) | (apply w_maxG; rfl; rfl; rfl; omega) | (apply w_max; rfl; rfl; rfl) | (apply w_neB; rfl; rfl; rfl; rfl) | (apply w_eqB; rfl; rfl; rfl; rfl) | (apply w_strA; rfl; rfl; rfl; first | omega | (simp only [List.length_append, List.length_cons, List.length_nil]; omega)) | (apply w_strET; rfl; rfl; rfl; assumption) | (apply w_strEF; rfl; rfl; rfl; assumption) | (apply w_strNF; rfl; rfl; rfl; assumption) | (apply w_strNT; rfl; rfl; rfl; assumption) | (apply w_strE; rfl; rfl; rfl; rfl) | (apply w_strN; rfl; rfl; rfl; rfl) | (apply w_strL; rfl; rfl) | (apply w_strI0; rfl; rfl; rfl; assumption) | (apply w_strI; rfl; rfl; rfl; omega; assumption) | (apply w_subB; rfl; rfl; rfl; omega; omega) | refine spl ?_ ?_ | intro hc)
              all_goals first | (exfalso; omega) | skip
              all_goals exact At_againK (j + 1) ⟨hjl, fun c hc => htm c hc hdig⟩ (by omega) (by rw [hvn]; (exact sbf)) (by (exact sbf)) (by (exact frm))
            · have hno : ¬ isNum d := fun h => hdig (h.2.2.1 cj hmem)
              have hdg : (cj.toNat : Int) < 48 ∨ 57 < (cj.toNat : Int) := by unfold isDig at hdig; omega
              rw [rnum_no hno]
              (repeat' first | refine stp ?_ | intro v' hv' | intro (b : Nat) | (apply w_convU; rfl; rfl; omega; omega) | (apply w_convI; rfl; rfl; omega; omega) | (apply w_quoU; rfl; rfl; rfl; omega; omega; omega) | (apply w_remU; rfl; rfl; rfl; omega; omega) | (apply w_minL; rfl; rfl; rfl; omega) | (apply w_minG; rfl; rfl; rfl; omega) | (apply w_min; rfl; rfl; rfl) | (apply w_mfR; rfl; rfl) | (apply w_cvp; rfl; rfl; exact inferInstance; rfl; rfl; assumption) | (apply w_eqS2T; rfl; rfl; rfl; omega) | (apply w_eqS2F; rfl; rfl; rfl; omega) | (apply w_neS2T; rfl; rfl; rfl; omega) | (apply w_neS2F; rfl; rfl; rfl; omega) | (apply w_eqS3T; rfl; rfl; rfl; omega) | (apply w_eqS3F; rfl; rfl; rfl; omega) | (apply w_neS3T; rfl; rfl; rfl; omega) | (apply w_neS3F; rfl; rfl; rfl; omega) | (apply w_eqS3; rfl; rfl; rfl) | (apply w_neS3; rfl; rfl; rfl) | (apply w_eqS2; rfl; rfl; rfl) | (apply w_neS2; rfl; rfl; rfl) | (apply w_maxL; rfl; rfl; rfl; omega) | (apply w_maxG; rfl; rfl; rfl; omega) | (apply w_max; rfl; rfl; rfl) | (apply w_neB; rfl; rfl; rfl; rfl) | (apply w_eqB; rfl; rfl; rfl; rfl) | (apply w_strA; rfl; rfl; rfl; first | omega | (simp only [List.length_append, List.length_cons, List.length_nil]; omega)) | (apply w_strET; rfl; rfl; rfl; assumption) | (apply w_strEF; rfl; rfl; rfl; assumption) | (apply w_strNF; rfl; rfl; rfl; assumption) | (apply w_strNT; rfl; rfl; rfl; assumption) | (apply w_strE; rfl; rfl; rfl; rfl) | (apply w_strN; rfl; rfl; rfl; rfl) | (apply w_strL; rfl; rfl) | (apply w_strI0; rfl; rfl; rfl; assumption) | (apply w_strI; rfl; rfl; rfl; omega; assumption) | (apply w_subB; rfl; rfl; rfl; omega; omega) | refine spl ?_ ?_ | intro hc)
              all_goals first | (exfalso; omega) | skip
              all_goals (refine At_ret1 (by (first | exact .inl rfl | exact .inr rfl)) Tryd.results54 rfl ⟨by rfl, rfl⟩ (by (exact frm)))
          · have hjd : j = d.length := by omega
            subst hjd
            rw [List.take_length] at hdj hvl ⊢
            rw [rnum_yes ⟨hn0, by omega, hdj, hz1⟩]
            (repeat' first | refine stp ?_ | intro v' hv' | intro (b : Nat) | (apply w_convU; rfl; rfl; omega; omega) | (apply w_convI; rfl; rfl; omega; omega) | (apply w_quoU; rfl; rfl; rfl; omega; omega; omega) | (apply w_remU; rfl; rfl; rfl; omega; omega) | (apply w_minL; rfl; rfl; rfl; omega) | (apply w_minG; rfl; rfl; rfl; omega) | (apply w_min; rfl; rfl; rfl) | (apply w_mfR; rfl; rfl) | (apply w_cvp; rfl; rfl; exact inferInstance; rfl; rfl; assumption) | (apply w_eqS2T; rfl; rfl; rfl; omega) | (apply w_eqS2F; rfl; rfl; rfl; omega) | (apply w_neS2T; rfl; rfl; rfl; omega) | (apply w_neS2F; rfl; rfl; rfl; omega) | (apply w_eqS3T; rfl; rfl; rfl; omega) | (apply w_eqS3F; rfl; rfl; rfl; omega) | (apply w_neS3T; rfl; rfl; rfl; omega) | (apply w_neS3F; rfl; rfl; rfl; omega) | (apply w_eqS3; rfl; rfl; rfl) | (apply w_neS3; rfl; rfl; rfl) | (apply w_eqS2; rfl; rfl; rfl) | (apply w_neS2; rfl; rfl; rfl) | (apply w_maxL; rfl; rfl; rfl; omega) | (apply w_maxG; rfl; rfl; rfl; omega) | (apply w_max; rfl; rfl; rfl) | (apply w_neB; rfl; rfl; rfl; rfl) | (apply w_eqB; rfl; rfl; rfl; rfl) | (apply w_strA; rfl; rfl; rfl; first | omega | (simp only [List.length_append, List.length_cons, List.length_nil]; omega)) | (apply w_strET; rfl; rfl; rfl; assumption) | (apply w_strEF; rfl; rfl; rfl; assumption) | (apply w_strNF; rfl; rfl; rfl; assumption) | (apply w_strNT; rfl; rfl; rfl; assumption) | (apply w_strE; rfl; rfl; rfl; rfl) | (apply w_strN; rfl; rfl; rfl; rfl) | (apply w_strL; rfl; rfl) | (apply w_strI0; rfl; rfl; rfl; assumption) | (apply w_strI; rfl; rfl; rfl; omega; assumption) | (apply w_subB; rfl; rfl; rfl; omega; omega) | refine spl ?_ ?_ | intro hc)
            all_goals first | (exfalso; omega) | skip
            all_goals (refine At_ret1 (by (first | exact .inl rfl | exact .inr rfl)) Tryd.results54 rfl ⟨by rfl, rfl⟩ (by (exact frm)))
/-! ### Split -/
set_option maxHeartbeats 8000000 in
theorem rSplit_ok (s : List UInt8) (R : List HP) (hs : s.length ≤ 100000) : Called Tryd.prog 53 [str s] R (retSl 9 1 ((wrds s).map fun t => [str t]) R) := by
  refine Called.isl ?_
  have hsl : True := trivial
  have i : Nat := 0
  refine Fn1 Tryd.func53 rfl Tryd.ntmps53 rfl ?_
  (repeat' first | refine stp ?_ | intro v' hv' | intro (b : Nat) | (apply w_convU; rfl; rfl; omega; omega) | (apply w_convI; rfl; rfl; omega; omega) | (apply w_quoU; rfl; rfl; rfl; omega; omega; omega) | (apply w_remU; rfl; rfl; rfl; omega; omega) | (apply w_minL; rfl; rfl; rfl; omega) | (apply w_minG; rfl; rfl; rfl; omega) | (apply w_min; rfl; rfl; rfl) | (apply w_mfR; rfl; rfl) | (apply w_cvp; rfl; rfl; exact inferInstance; rfl; rfl; assumption) | (apply w_eqS2T; rfl; rfl; rfl; omega) | (apply w_eqS2F; rfl; rfl; rfl; omega) | (apply w_neS2T; rfl; rfl; rfl; omega) | (apply w_neS2F; rfl; rfl; rfl; omega) | (apply w_eqS3T; rfl; rfl; rfl; omega) | (apply w_eqS3F; rfl; rfl; rfl; omega) | (apply w_neS3T; rfl; rfl; rfl; omega) | (apply w_neS3F; rfl; rfl; rfl; omega) | (apply w_eqS3; rfl; rfl; rfl) | (apply w_neS3; rfl; rfl; rfl) | (apply w_eqS2; rfl; rfl; rfl) | (apply w_neS2; rfl; rfl; rfl) | (apply w_maxL; rfl; rfl; rfl; omega) | (apply w_maxG; rfl; rfl; rfl; omega) | (apply w_max; rfl; rfl; rfl) | (apply w_neB; rfl; rfl; rfl; rfl) | (apply w_eqB; rfl; rfl; rfl; rfl) | (apply w_strA; rfl; rfl; rfl; first | omega | (simp only [List.length_append, List.length_cons, List.length_nil]; omega)) | (apply w_strET; rfl; rfl; rfl; assumption) | (apply w_strEF; rfl; rfl; rfl; assumption) | (apply w_strNF; rfl; rfl; rfl; assumption) | (apply w_strNT; rfl; rfl; rfl; assumption) | (apply w_strE; rfl; rfl; rfl; rfl) | (apply w_strN; rfl; rfl; rfl; rfl) | (apply w_strL; rfl; rfl) | (apply w_strI0; rfl; rfl; rfl; assumption) | (apply w_strSE (i' := i) (j' := i + 1); rfl; rfl; rfl; rfl; rfl; omega; omega; omega; exact hsl) | refine spl ?_ ?_ | intro hc)
  clear i
  refine C_loopK (α := Nat × Value) [3, 4, 6, 7, 8, 9, 10, 11, 12, 13, 14, 15, 16, 17, 18, 19, 20, 21, 22, 23, 24, 25, 26, 27, 28, 29, 30, 31, 32, 33, 34, 35] (fun x => s.length - x.1) (fun x => [(4, int x.1), (3, x.2)]) (fun x => sl 9 1 x.2 ((wrds (s.take x.1)).map fun t => [str t]) :: R) (fun x => x.1 ≤ s.length ∧ IsSl x.2 (wrds (s.take x.1)).length) (0, v') ⟨Nat.zero_le _, hv'⟩ (by (focus ((repeat (first | exact Keep.nil | apply Keep.drop rfl | apply Keep.keep rfl)); done))) (by (exact sbf)) (fun w h => h) ?_
  rintro ⟨i, v⟩ ⟨hi, hv⟩
  dsimp only [List.cons_append, List.nil_append] at *
  have hwl := wrds_len (s.take i)
  have hcl := List.count_le_length (a := (32 : UInt8)) (l := s.take i)
  rw [List.length_take] at hcl
  by_cases hlt : i < s.length
  · have hci : s[i]? = some s[i] := List.getElem?_eq_getElem hlt
    have htk : s.take (i + 1) = s.take i ++ [s[i]] := by rw [List.take_add_one, hci]; rfl
    clear hsl
    have hsl : (s.drop i).take (i + 1 - i) = [s[i]] := by
      rw [show i + 1 - i = 1 by omega, List.drop_eq_getElem_cons hlt]; rfl
    have hwmem : ∀ w ∈ wrds (s.take i), w.length ≤ 100000 := fun w hw => by have := mem_split hw; rw [List.length_take] at this; omega
    generalize s[i] = c at *
    generalize htx : s.take i = tx at *
    by_cases hc : c = 32
    · have hcn : (c.toNat : Int) = 32 := by rw [hc]; rfl
      have hnx := wrds_blank tx
      rw [← hc, ← htk] at hnx
      (repeat' first | refine stp ?_ | intro v' hv' | intro (b : Nat) | (apply w_convU; rfl; rfl; omega; omega) | (apply w_convI; rfl; rfl; omega; omega) | (apply w_quoU; rfl; rfl; rfl; omega; omega; omega) | (apply w_remU; rfl; rfl; rfl; omega; omega) | (apply w_minL; rfl; rfl; rfl; omega) | (apply w_minG; rfl; rfl; rfl; omega) | (apply w_min; rfl; rfl; rfl) | (apply w_mfR; rfl; rfl) | (apply w_cvp; rfl; rfl; exact inferInstance; rfl; rfl; assumption) | (apply w_eqS2T; rfl; rfl; rfl; omega) | (apply w_eqS2F; rfl; rfl; rfl; omega) | (apply w_neS2T; rfl; rfl; rfl; omega) | (apply w_neS2F; rfl; rfl; rfl; omega) | (apply w_eqS3T; rfl; rfl; rfl; omega) | (apply w_eqS3F; rfl; rfl; rfl; omega) | (apply w_neS3T; rfl; rfl; rfl; omega) | (apply w_neS3F; rfl; rfl; rfl; omega) | (apply w_eqS3; rfl; rfl; rfl) | (apply w_neS3; rfl; rfl; rfl) | (apply w_eqS2; rfl; rfl; rfl) | (apply w_neS2; rfl; rfl; rfl) | (apply w_maxL; rfl; rfl; rfl; omega) | (apply w_maxG; rfl; rfl; rfl; omega) | (apply w_max; rfl; rfl; rfl) | (apply w_neB; rfl; rfl; rfl; rfl) | (apply w_eqB; rfl; rfl; rfl; rfl) | (apply w_strA; rfl; rfl; rfl; first | omega | (simp only [List.length_append, List.length_cons, List.length_nil]; omega)) | (apply w_strET; rfl; rfl; rfl; assumption) | (apply w_strEF; rfl; rfl; rfl; assumption) | (apply w_strNF; rfl; rfl; rfl; assumption) | (apply w_strNT; rfl; rfl; rfl; assumption) | (apply w_strE; rfl; rfl; rfl; rfl) | (apply w_strN; rfl; rfl; rfl; rfl) | (apply w_strL; rfl; rfl) | (apply w_strI0; rfl; rfl; rfl; assumption) | (apply w_strSE (i' := i) (j' := i + 1); rfl; rfl; rfl; rfl; rfl; omega; omega; omega; exact hsl) | refine spl ?_ ?_ | intro hc)
      all_goals first | (exfalso; omega) | skip
      apply w_ap (es := [[str []]])
      rfl; rfl; rfl; ((focus ((repeat (first | exact Del.here | apply Del.there)); done))); ((exact srf)); rfl; (simp; omega); (simp; omega)
      intro v2 hv2
      refine ⟨by (exact kmf), ?_⟩
      have hv3 : IsSl v2 (wrds (s.take (i + 1))).length := by rw [hnx]; simpa using hv2
      (repeat' first | refine stp ?_ | intro v' hv' | intro (b : Nat) | (apply w_convU; rfl; rfl; omega; omega) | (apply w_convI; rfl; rfl; omega; omega) | (apply w_quoU; rfl; rfl; rfl; omega; omega; omega) | (apply w_remU; rfl; rfl; rfl; omega; omega) | (apply w_minL; rfl; rfl; rfl; omega) | (apply w_minG; rfl; rfl; rfl; omega) | (apply w_min; rfl; rfl; rfl) | (apply w_mfR; rfl; rfl) | (apply w_cvp; rfl; rfl; exact inferInstance; rfl; rfl; assumption) | (apply w_eqS2T; rfl; rfl; rfl; omega) | (apply w_eqS2F; rfl; rfl; rfl; omega) | (apply w_neS2T; rfl; rfl; rfl; omega) | (apply w_neS2F; rfl; rfl; rfl; omega) | (apply w_eqS3T; rfl; rfl; rfl; omega) | (apply w_eqS3F; rfl; rfl; rfl; omega) | (apply w_neS3T; rfl; rfl; rfl; omega) | (apply w_neS3F; rfl; rfl; rfl; omega) | (apply w_eqS3; rfl; rfl; rfl) | (apply w_neS3; rfl; rfl; rfl) | (apply w_eqS2; rfl; rfl; rfl) | (apply w_neS2; rfl; rfl; rfl) | (apply w_maxL; rfl; rfl; rfl; omega) | (apply w_maxG; rfl; rfl; rfl; omega) | (apply w_max; rfl; rfl; rfl) | (apply w_neB; rfl; rfl; rfl; rfl) | (apply w_eqB; rfl; rfl; rfl; rfl) | (apply w_strA; rfl; rfl; rfl; first | omega | (simp only [List.length_append, List.length_cons, List.length_nil]; omega)) | (apply w_strET; rfl; rfl; rfl; assumption) | (apply w_strEF; rfl; rfl; rfl; assumption) | (apply w_strNF; rfl; rfl; rfl; assumption) | (apply w_strNT; rfl; rfl; rfl; assumption) | (apply w_strE; rfl; rfl; rfl; rfl) | (apply w_strN; rfl; rfl; rfl; rfl) | (apply w_strL; rfl; rfl) | (apply w_strI0; rfl; rfl; rfl; assumption) | (apply w_strSE (i' := i) (j' := i + 1); rfl; rfl; rfl; rfl; rfl; omega; omega; omega; exact hsl) | refine spl ?_ ?_ | intro hc)
      refine At_againK (i + 1, v2) ⟨hlt, hv3⟩ (by show s.length - (i + 1) < s.length - i; omega) (by (exact sbf)) (by (exact sbf)) (fun w hs => ?_)
      show Sat w (sl 9 1 v2 ((wrds (s.take (i + 1))).map fun t => [str t]) :: R)
      rw [hnx, List.map_append]
      exact Sel.sat (by (focus ((repeat (first | exact Sel.refl | (apply Sel.cons; (focus ((repeat (first | exact Del.here | apply Del.there)); done))) | refine Sel.drop ?_)); done))) hs
    · have hcn : ¬ (c.toNat : Int) = 32 := fun e => hc (UInt8.toNat_inj.1 (by show c.toNat = 32; omega))
      obtain ⟨a, b, e1, e2⟩ := wrds_char tx hc
      rw [← htk] at e2
      have hbl := hwmem b (by rw [e1]; simp)
      rw [e1] at hv hwl ⊢
      have hal : (a ++ [b]).length = a.length + 1 := by simp
      rw [hal] at hv hwl
      have hidx : ((((a.length + 1 : Nat) : Int) - 1).toNat) = a.length := by omega
      have hget : ((a ++ [b]).map fun t => [str t])[(((a.length + 1 : Nat) : Int) - 1).toNat]? = some [str b] := by
        rw [hidx, List.getElem?_map, List.getElem?_append_right (Nat.le_refl _), Nat.sub_self]; rfl
      have hset : ((a ++ [b]).map fun t => [str t]).set (((a.length + 1 : Nat) : Int) - 1).toNat [str (b ++ [c])] = (wrds (s.take (i + 1))).map fun t => [str t] := by
        rw [hidx, e2, List.map_append, List.map_append, List.set_append_right _ _ (by simp)]
        simp
      (repeat' first | refine stp ?_ | intro v' hv' | intro (b : Nat) | (apply w_convU; rfl; rfl; omega; omega) | (apply w_convI; rfl; rfl; omega; omega) | (apply w_quoU; rfl; rfl; rfl; omega; omega; omega) | (apply w_remU; rfl; rfl; rfl; omega; omega) | (apply w_minL; rfl; rfl; rfl; omega) | (apply w_minG; rfl; rfl; rfl; omega) | (apply w_min; rfl; rfl; rfl) | (apply w_mfR; rfl; rfl) | (apply w_cvp; rfl; rfl; exact inferInstance; rfl; rfl; assumption) | (apply w_eqS2T; rfl; rfl; rfl; omega) | (apply w_eqS2F; rfl; rfl; rfl; omega) | (apply w_neS2T; rfl; rfl; rfl; omega) | (apply w_neS2F; rfl; rfl; rfl; omega) | (apply w_eqS3T; rfl; rfl; rfl; omega) | (apply w_eqS3F; rfl; rfl; rfl; omega) | (apply w_neS3T; rfl; rfl; rfl; omega) | (apply w_neS3F; rfl; rfl; rfl; omega) | (apply w_eqS3; rfl; rfl; rfl) | (apply w_neS3; rfl; rfl; rfl) | (apply w_eqS2; rfl; rfl; rfl) | (apply w_neS2; rfl; rfl; rfl) | (apply w_maxL; rfl; rfl; rfl; omega) | (apply w_maxG; rfl; rfl; rfl; omega) | (apply w_max; rfl; rfl; rfl) | (apply w_neB; rfl; rfl; rfl; rfl) | (apply w_eqB; rfl; rfl; rfl; rfl) | (apply w_strA; rfl; rfl; rfl; first | omega | (simp only [List.length_append, List.length_cons, List.length_nil]; omega)) | (apply w_strET; rfl; rfl; rfl; assumption) | (apply w_strEF; rfl; rfl; rfl; assumption) | (apply w_strNF; rfl; rfl; rfl; assumption) | (apply w_strNT; rfl; rfl; rfl; assumption) | (apply w_strE; rfl; rfl; rfl; rfl) | (apply w_strN; rfl; rfl; rfl; rfl) | (apply w_strL; rfl; rfl) | (apply w_strI0; rfl; rfl; rfl; assumption) | (apply w_strSE (i' := i) (j' := i + 1); rfl; rfl; rfl; rfl; rfl; omega; omega; omega; exact hsl) | refine spl ?_ ?_ | intro hc)
      all_goals first | (exfalso; omega) | skip
      have hv3 : IsSl v (wrds (s.take (i + 1))).length := by rw [e2]; simpa using hv
      refine At_againK (i + 1, v) ⟨hlt, hv3⟩ (by show s.length - (i + 1) < s.length - i; omega) (by (exact sbf)) (by (exact sbf)) (fun w hs => ?_)
      show Sat w (sl 9 1 v ((wrds (s.take (i + 1))).map fun t => [str t]) :: R)
      rw [← hset]
      exact hs
  · have hi' : i = s.length := by omega
    subst hi'
    rw [List.take_length]
    have i : Nat := 0
    (repeat' first | refine stp ?_ | intro v' hv' | intro (b : Nat) | (apply w_convU; rfl; rfl; omega; omega) | (apply w_convI; rfl; rfl; omega; omega) | (apply w_quoU; rfl; rfl; rfl; omega; omega; omega) | (apply w_remU; rfl; rfl; rfl; omega; omega) | (apply w_minL; rfl; rfl; rfl; omega) | (apply w_minG; rfl; rfl; rfl; omega) | (apply w_min; rfl; rfl; rfl) | (apply w_mfR; rfl; rfl) | (apply w_cvp; rfl; rfl; exact inferInstance; rfl; rfl; assumption) | (apply w_eqS2T; rfl; rfl; rfl; omega) | (apply w_eqS2F; rfl; rfl; rfl; omega) | (apply w_neS2T; rfl; rfl; rfl; omega) | (apply w_neS2F; rfl; rfl; rfl; omega) | (apply w_eqS3T; rfl; rfl; rfl; omega) | (apply w_eqS3F; rfl; rfl; rfl; omega) | (apply w_neS3T; rfl; rfl; rfl; omega) | (apply w_neS3F; rfl; rfl; rfl; omega) | (apply w_eqS3; rfl; rfl; rfl) | (apply w_neS3; rfl; rfl; rfl) | (apply w_eqS2; rfl; rfl; rfl) | (apply w_neS2; rfl; rfl; rfl) | (apply w_maxL; rfl; rfl; rfl; omega) | (apply w_maxG; rfl; rfl; rfl; omega) | (apply w_max; rfl; rfl; rfl) | (apply w_neB; rfl; rfl; rfl; rfl) | (apply w_eqB; rfl; rfl; rfl; rfl) | (apply w_strA; rfl; rfl; rfl; first | omega | (simp only [List.length_append, List.length_cons, List.length_nil]; omega)) | (apply w_strET; rfl; rfl; rfl; assumption) | (apply w_strEF; rfl; rfl; rfl; assumption) | (apply w_strNF; rfl; rfl; rfl; assumption) | (apply w_strNT; rfl; rfl; rfl; assumption) | (apply w_strE; rfl; rfl; rfl; rfl) | (apply w_strN; rfl; rfl; rfl; rfl) | (apply w_strL; rfl; rfl) | (apply w_strI0; rfl; rfl; rfl; assumption) | (apply w_strSE (i' := i) (j' := i + 1); rfl; rfl; rfl; rfl; rfl; omega; omega; omega; exact hsl) | refine spl ?_ ?_ | intro hc)
    all_goals first | (exfalso; omega) | skip
    exact At_ret1 (.inl rfl) Tryd.results53 rfl rfl (fun w h => h)
/-! ### One -/
def onP (s : List UInt8) (R : List HP) (u : Value) (M : List HP) : Prop := ∃ y b, u = .tuple #[.agg (stE y).toArray, .bool b] ∧ M = R ∧ (b = true → sCan s y) ∧ (b = false → ∀ y, ¬ sCan s y)
noncomputable def gL (o : Nat) (l : List (List UInt8)) (k : Nat) : List Value := [int (o : Nat), int (gN l k 0), int (gN l k 1), int (gN l k 2), int (gN l k 3), int (gN l k 4), int (gN l k 5)]
set_option maxHeartbeats 8000000 in
theorem rOne_ok (s : List UInt8) (R : List HP) (hs : s.length ≤ 100000) : Called Tryd.prog 33 [str s] R (onP s R) := by
  have hwl := wrds_len s
  have hcl := List.count_le_length (a := (32 : UInt8)) (l := s)
  have hwm : ∀ w ∈ wrds s, w.length ≤ 100000 := fun w hw => by have := mem_split hw; omega
  have hsl := fun y => sCan_len (s := s) (y := y)
  have hsn : ∀ y, sCan s y → ∀ (j : Nat) (d : List UInt8), (wrds s)[j + 1]? = some d → 0 ≤ rnumM d ∧ rnumM d < 1099511627776 := fun y h j d hd => sCan_num h hd
  have hsw := fun y => sCan_wrds (s := s) (y := y)
  have hoc := fun o => one_can (s := s) (o := o)
  have hsc : ∀ y, sCan s y → 1 ≤ y.op ∧ y.op ≤ 7 := fun y hy => (chkB_iff.1 hy.1).1
  have hWo : True := trivial
  have hMa : True := trivial
  have hNu : True := trivial
  refine Fn1 Tryd.func33 rfl Tryd.ntmps33 rfl ?_
  (repeat' first | refine stp ?_ | intro v' hv' | intro (b : Nat) | (apply w_convU; rfl; rfl; omega; omega) | (apply w_convI; rfl; rfl; omega; omega) | (apply w_quoU; rfl; rfl; rfl; omega; omega; omega) | (apply w_remU; rfl; rfl; rfl; omega; omega) | (apply w_minL; rfl; rfl; rfl; omega) | (apply w_minG; rfl; rfl; rfl; omega) | (apply w_min; rfl; rfl; rfl) | (apply w_mfR; rfl; rfl) | (apply w_cvp; rfl; rfl; exact inferInstance; rfl; rfl; assumption) | (apply w_eqS2T; rfl; rfl; rfl; omega) | (apply w_eqS2F; rfl; rfl; rfl; omega) | (apply w_neS2T; rfl; rfl; rfl; omega) | (apply w_neS2F; rfl; rfl; rfl; omega) | (apply w_eqS3T; rfl; rfl; rfl; omega) | (apply w_eqS3F; rfl; rfl; rfl; omega) | (apply w_neS3T; rfl; rfl; rfl; omega) | (apply w_neS3F; rfl; rfl; rfl; omega) | (apply w_eqS3; rfl; rfl; rfl) | (apply w_neS3; rfl; rfl; rfl) | (apply w_eqS2; rfl; rfl; rfl) | (apply w_neS2; rfl; rfl; rfl) | (apply w_maxL; rfl; rfl; rfl; omega) | (apply w_maxG; rfl; rfl; rfl; omega) | (apply w_max; rfl; rfl; rfl) | (apply w_neB; rfl; rfl; rfl; rfl) | (apply w_eqB; rfl; rfl; rfl; rfl) | (apply w_strA; rfl; rfl; rfl; first | omega | (simp only [List.length_append, List.length_cons, List.length_nil]; omega)) | (apply w_strET; rfl; rfl; rfl; assumption) | (apply w_strEF; rfl; rfl; rfl; assumption) | (apply w_strNF; rfl; rfl; rfl; assumption) | (apply w_strNT; rfl; rfl; rfl; assumption) | (apply w_strE; rfl; rfl; rfl; rfl) | (apply w_strN; rfl; rfl; rfl; rfl) | (apply w_strL; rfl; rfl) | (apply w_cp; rfl; rfl; exact hWo) | (apply w_cp; rfl; rfl; exact hMa) | (apply w_cp; rfl; rfl; exact hNu) | (apply w_clM; rfl; rfl; exact rSplit_ok _ _ hs; (first | omega | (simp; omega) | simp); intro u hu; refine ⟨by (exact kmf), ?_⟩) | refine spl ?_ ?_ | intro hc)
  generalize hws : wrds s = ws at *
  have hu1 : IsSl u ws.length := hu
  clear hu
  refine C_loopK [3, 5, 6, 7, 8, 11, 12, 13, 14, 15, 16, 17, 18, 19, 20, 21, 22, 23, 24, 25, 26, 27, 28, 29, 30, 31, 32, 33, 34, 35, 36, 37, 38, 39, 40, 41, 42, 43, 44, 45, 46, 47, 48, 49, 50, 51, 52, 53, 54] (fun o : Nat => 8 - o) (fun o => [(5, int o)]) (fun _ => sl 9 1 u (ws.map fun t => [str t]) :: pt b 27 [int 0, int 0, int 0, int 0, int 0, int 0, int 0] :: R) (fun o => 1 ≤ o ∧ o ≤ 8 ∧ ∀ y, sCan s y → (o : Int) ≤ y.op) 1 ⟨Nat.le_refl _, by omega, fun y hy => (hsc y hy).1⟩ (by (focus ((repeat (first | exact Keep.nil | apply Keep.drop rfl | apply Keep.keep rfl)); done))) (by (exact sbf)) (by (exact frm)) ?_
  rintro o ⟨ho1, ho8, hz⟩
  dsimp only [List.cons_append, List.nil_append]
  have hg0 : ws[0]? = some (ws.getD 0 []) := by rw [List.getD_eq_getElem?_getD, List.getElem?_eq_getElem (by omega)]; rfl
  have h0 : (ws.map fun t => [str t])[(0 : Int).toNat]? = some [str (ws.getD 0 [])] := by
    rw [List.getElem?_map]
    show Option.map _ ws[0]? = _
    rw [hg0]; rfl
  by_cases hlt : o < 8
  · clear hWo hMa
    have hWo := fun M => rWord_ok o M ho1 (by omega)
    have hMa : ∀ M, Called Tryd.prog 21 [int o] M (is (int ((sMany o : Nat) : Int)) M) := fun M => by
      have := rMany_ok (o : Int) M
      rwa [show rMany (o : Int) = (sMany o : Nat) from by unfold rMany; rw [if_pos (by omega)]; rfl] at this
    have hnext : (∀ y, sCan s y → y.op ≠ (o : Int)) → ∀ y, sCan s y → ((o + 1 : Nat) : Int) ≤ y.op := fun hn y hy => by
      have := hz y hy; have := hn y hy; omega
    have hm6 := sMany_le o
    have hw0 : ∀ y, sCan s y → ws.getD 0 [] = sW y.op.toNat := fun y hy => by rw [hsw y hy]; rfl
    have hhere : ws.getD 0 [] = sW o → ∀ y, sCan s y → y.op = (o : Int) := fun e y hy => by
      have := hsc y hy
      have := sW_inj (by omega) (by omega) ho1 (by omega) ((hw0 y hy).symm.trans e)
      omega
    by_cases hw : ws.getD 0 [] = sW o
    · have hlen : ∀ y, sCan s y → ws.length = sMany o + 1 := fun y hy => by
        have e1 := hhere hw y hy
        have e2 := hsl y hy
        rw [e1] at e2
        simpa using e2
      by_cases hl : ws.length = sMany o + 1
      · replace hoc := hoc o ho1 (by omega) hw hl
        clear hhere hlen hw0 hsw hsl hnext
        generalize hwo : sW o = wo at *
        generalize hmm : sMany o = m at *
        have hst : True := trivial
        have hz0 : ws.getD 0 [] = wo := hw
        rw [hw] at h0
        have hrr : wo = wo := rfl
        (repeat' first | refine stp ?_ | intro v' hv' | intro (b : Nat) | (apply w_convU; rfl; rfl; omega; omega) | (apply w_convI; rfl; rfl; omega; omega) | (apply w_quoU; rfl; rfl; rfl; omega; omega; omega) | (apply w_remU; rfl; rfl; rfl; omega; omega) | (apply w_minL; rfl; rfl; rfl; omega) | (apply w_minG; rfl; rfl; rfl; omega) | (apply w_min; rfl; rfl; rfl) | (apply w_mfR; rfl; rfl) | (apply w_cvp; rfl; rfl; exact inferInstance; rfl; rfl; assumption) | (apply w_eqS2T; rfl; rfl; rfl; omega) | (apply w_eqS2F; rfl; rfl; rfl; omega) | (apply w_neS2T; rfl; rfl; rfl; omega) | (apply w_neS2F; rfl; rfl; rfl; omega) | (apply w_eqS3T; rfl; rfl; rfl; omega) | (apply w_eqS3F; rfl; rfl; rfl; omega) | (apply w_neS3T; rfl; rfl; rfl; omega) | (apply w_neS3F; rfl; rfl; rfl; omega) | (apply w_eqS3; rfl; rfl; rfl) | (apply w_neS3; rfl; rfl; rfl) | (apply w_eqS2; rfl; rfl; rfl) | (apply w_neS2; rfl; rfl; rfl) | (apply w_maxL; rfl; rfl; rfl; omega) | (apply w_maxG; rfl; rfl; rfl; omega) | (apply w_max; rfl; rfl; rfl) | (apply w_neB; rfl; rfl; rfl; rfl) | (apply w_eqB; rfl; rfl; rfl; rfl) | (apply w_strA; rfl; rfl; rfl; first | omega | (simp only [List.length_append, List.length_cons, List.length_nil]; omega)) | (apply w_strET; rfl; rfl; rfl; assumption) | (apply w_strEF; rfl; rfl; rfl; assumption) | (apply w_strNF; rfl; rfl; rfl; assumption) | (apply w_strNT; rfl; rfl; rfl; assumption) | (apply w_strE; rfl; rfl; rfl; rfl) | (apply w_strN; rfl; rfl; rfl; rfl) | (apply w_strL; rfl; rfl) | (apply w_cp; rfl; rfl; exact hWo) | (apply w_cp; rfl; rfl; exact hMa) | (apply w_cp; rfl; rfl; exact hNu) | (apply w_clM; rfl; rfl; exact rSplit_ok _ _ hs; (first | omega | (simp; omega) | simp); intro u hu; refine ⟨by (exact kmf), ?_⟩) | refine spl ?_ ?_ | intro hc)
        all_goals first | (exfalso; omega) | skip
        rename_i b2
        obtain ⟨b3, hb3⟩ : ∃ r, r = b := ⟨_, rfl⟩
        subst hb3
        refine C_loopK [3, 7, 8, 31, 32, 33, 34, 35, 36, 37, 38, 39, 40, 41, 42, 43, 44, 45, 46, 47, 48, 49, 50, 51, 52, 53] (fun k : Nat => ws.length - k) (fun k => [(7, int ((k + 1 : Nat) : Int))]) (fun k => pt b3 27 (gL o ws k) :: sl 9 1 u (ws.map fun t => [str t]) :: pt b2 27 [int 0, int 0, int 0, int 0, int 0, int 0, int 0] :: R) (fun k => k ≤ m ∧ ∀ j, j < k → 0 ≤ rnumM (ws.getD (j + 1) []) ∧ rnumM (ws.getD (j + 1) []) < 1099511627776) 0 ⟨Nat.zero_le _, fun j h => absurd h (Nat.not_lt_zero _)⟩ (by (focus ((repeat (first | exact Keep.nil | apply Keep.drop rfl | apply Keep.keep rfl)); done))) (by (exact sbf)) (fun w h => h) ?_
        rintro k ⟨hk, hgd⟩
        dsimp only [List.cons_append, List.nil_append]
        by_cases hkm : k < m
        · have hg : ws[k + 1]? = some (ws.getD (k + 1) []) := by rw [List.getD_eq_getElem?_getD, List.getElem?_eq_getElem (by omega)]; rfl
          have hgm : (ws.map fun t => [str t])[k + 1]? = some [str (ws.getD (k + 1) [])] := by rw [List.getElem?_map, hg]; rfl
          have hset := yK_set (o := o) (l := ws) (k := k) (by omega)
          have hdl := hwm _ (List.mem_of_getElem? hg)
          have hsn2 := fun y hy => hsn y hy k _ hg
          have hgd2 : ∀ d, d = ws.getD (k + 1) [] → (0 ≤ rnumM d ∧ rnumM d < 1099511627776) → ∀ j, j < k + 1 → 0 ≤ rnumM (ws.getD (j + 1) []) ∧ rnumM (ws.getD (j + 1) []) < 1099511627776 := fun d hd h j hj => by
            by_cases hjk : j = k
            · subst hjk; rw [← hd]; exact h
            · exact hgd j (by omega)
          generalize ws.getD (k + 1) [] = d at *
          clear hNu
          have hNu := fun M => rnumber_ok d M (by omega)
          replace hgd2 := hgd2 d rfl
          generalize rnumM d = z at *
          by_cases hzz : 0 ≤ z ∧ z < 1099511627776
          · clear hst
            have hst : ∀ bq X, St (pt bq 27 (gL o ws k) :: X) ⟨bq, 0 + 1 + (((k + 1 : Nat) : Int) - 1).toNat * 1, none⟩ (int z) (pt bq 27 (gL o ws (k + 1)) :: X) := fun bq X => by
              have e : 0 + 1 + (((k + 1 : Nat) : Int) - 1).toNat * 1 = 1 + k := by omega
              rw [e]
              exact St.pt' (by rw [Nat.blt_eq]; show 1 + k < 7; omega) hset
            (repeat' first | refine stp ?_ | intro v' hv' | intro (b : Nat) | (apply w_convU; rfl; rfl; omega; omega) | (apply w_convI; rfl; rfl; omega; omega) | (apply w_quoU; rfl; rfl; rfl; omega; omega; omega) | (apply w_remU; rfl; rfl; rfl; omega; omega) | (apply w_minL; rfl; rfl; rfl; omega) | (apply w_minG; rfl; rfl; rfl; omega) | (apply w_min; rfl; rfl; rfl) | (apply w_mfR; rfl; rfl) | (apply w_cvp; rfl; rfl; exact inferInstance; rfl; rfl; assumption) | (apply w_eqS2T; rfl; rfl; rfl; omega) | (apply w_eqS2F; rfl; rfl; rfl; omega) | (apply w_neS2T; rfl; rfl; rfl; omega) | (apply w_neS2F; rfl; rfl; rfl; omega) | (apply w_eqS3T; rfl; rfl; rfl; omega) | (apply w_eqS3F; rfl; rfl; rfl; omega) | (apply w_neS3T; rfl; rfl; rfl; omega) | (apply w_neS3F; rfl; rfl; rfl; omega) | (apply w_eqS3; rfl; rfl; rfl) | (apply w_neS3; rfl; rfl; rfl) | (apply w_eqS2; rfl; rfl; rfl) | (apply w_neS2; rfl; rfl; rfl) | (apply w_maxL; rfl; rfl; rfl; omega) | (apply w_maxG; rfl; rfl; rfl; omega) | (apply w_max; rfl; rfl; rfl) | (apply w_neB; rfl; rfl; rfl; rfl) | (apply w_eqB; rfl; rfl; rfl; rfl) | (apply w_strA; rfl; rfl; rfl; first | omega | (simp only [List.length_append, List.length_cons, List.length_nil]; omega)) | (apply w_strET; rfl; rfl; rfl; assumption) | (apply w_strEF; rfl; rfl; rfl; assumption) | (apply w_strNF; rfl; rfl; rfl; assumption) | (apply w_strNT; rfl; rfl; rfl; assumption) | (apply w_strE; rfl; rfl; rfl; rfl) | (apply w_strN; rfl; rfl; rfl; rfl) | (apply w_strL; rfl; rfl) | (apply w_cp; rfl; rfl; exact hWo) | (apply w_cp; rfl; rfl; exact hMa) | (apply w_cp; rfl; rfl; exact hNu) | (apply w_clM; rfl; rfl; exact rSplit_ok _ _ hs; (first | omega | (simp; omega) | simp); intro u hu; refine ⟨by (exact kmf), ?_⟩) | refine spl ?_ ?_ | intro hc)
            all_goals first | (exfalso; omega) | skip
            apply w_st; rfl; rfl; ((first | rfl | exact IsSl.one ‹_› | assumption)); exact hst _ _; ((exact kmf))
            (repeat' first | refine stp ?_ | intro v' hv' | intro (b : Nat) | (apply w_convU; rfl; rfl; omega; omega) | (apply w_convI; rfl; rfl; omega; omega) | (apply w_quoU; rfl; rfl; rfl; omega; omega; omega) | (apply w_remU; rfl; rfl; rfl; omega; omega) | (apply w_minL; rfl; rfl; rfl; omega) | (apply w_minG; rfl; rfl; rfl; omega) | (apply w_min; rfl; rfl; rfl) | (apply w_mfR; rfl; rfl) | (apply w_cvp; rfl; rfl; exact inferInstance; rfl; rfl; assumption) | (apply w_eqS2T; rfl; rfl; rfl; omega) | (apply w_eqS2F; rfl; rfl; rfl; omega) | (apply w_neS2T; rfl; rfl; rfl; omega) | (apply w_neS2F; rfl; rfl; rfl; omega) | (apply w_eqS3T; rfl; rfl; rfl; omega) | (apply w_eqS3F; rfl; rfl; rfl; omega) | (apply w_neS3T; rfl; rfl; rfl; omega) | (apply w_neS3F; rfl; rfl; rfl; omega) | (apply w_eqS3; rfl; rfl; rfl) | (apply w_neS3; rfl; rfl; rfl) | (apply w_eqS2; rfl; rfl; rfl) | (apply w_neS2; rfl; rfl; rfl) | (apply w_maxL; rfl; rfl; rfl; omega) | (apply w_maxG; rfl; rfl; rfl; omega) | (apply w_max; rfl; rfl; rfl) | (apply w_neB; rfl; rfl; rfl; rfl) | (apply w_eqB; rfl; rfl; rfl; rfl) | (apply w_strA; rfl; rfl; rfl; first | omega | (simp only [List.length_append, List.length_cons, List.length_nil]; omega)) | (apply w_strET; rfl; rfl; rfl; assumption) | (apply w_strEF; rfl; rfl; rfl; assumption) | (apply w_strNF; rfl; rfl; rfl; assumption) | (apply w_strNT; rfl; rfl; rfl; assumption) | (apply w_strE; rfl; rfl; rfl; rfl) | (apply w_strN; rfl; rfl; rfl; rfl) | (apply w_strL; rfl; rfl) | (apply w_cp; rfl; rfl; exact hWo) | (apply w_cp; rfl; rfl; exact hMa) | (apply w_cp; rfl; rfl; exact hNu) | (apply w_clM; rfl; rfl; exact rSplit_ok _ _ hs; (first | omega | (simp; omega) | simp); intro u hu; refine ⟨by (exact kmf), ?_⟩) | refine spl ?_ ?_ | intro hc)
            all_goals first | (exfalso; omega) | skip
            all_goals exact At_againK (k + 1) ⟨hkm, hgd2 hzz⟩ (by omega) (by (exact sbf)) (by (exact sbf)) (by (exact frm))
          · have hno : ∀ y, ¬ sCan s y := fun y hy => hzz (hsn2 y hy)
            (repeat' first | refine stp ?_ | intro v' hv' | intro (b : Nat) | (apply w_convU; rfl; rfl; omega; omega) | (apply w_convI; rfl; rfl; omega; omega) | (apply w_quoU; rfl; rfl; rfl; omega; omega; omega) | (apply w_remU; rfl; rfl; rfl; omega; omega) | (apply w_minL; rfl; rfl; rfl; omega) | (apply w_minG; rfl; rfl; rfl; omega) | (apply w_min; rfl; rfl; rfl) | (apply w_mfR; rfl; rfl) | (apply w_cvp; rfl; rfl; exact inferInstance; rfl; rfl; assumption) | (apply w_eqS2T; rfl; rfl; rfl; omega) | (apply w_eqS2F; rfl; rfl; rfl; omega) | (apply w_neS2T; rfl; rfl; rfl; omega) | (apply w_neS2F; rfl; rfl; rfl; omega) | (apply w_eqS3T; rfl; rfl; rfl; omega) | (apply w_eqS3F; rfl; rfl; rfl; omega) | (apply w_neS3T; rfl; rfl; rfl; omega) | (apply w_neS3F; rfl; rfl; rfl; omega) | (apply w_eqS3; rfl; rfl; rfl) | (apply w_neS3; rfl; rfl; rfl) | (apply w_eqS2; rfl; rfl; rfl) | (apply w_neS2; rfl; rfl; rfl) | (apply w_maxL; rfl; rfl; rfl; omega) | (apply w_maxG; rfl; rfl; rfl; omega) | (apply w_max; rfl; rfl; rfl) | (apply w_neB; rfl; rfl; rfl; rfl) | (apply w_eqB; rfl; rfl; rfl; rfl) | (apply w_strA; rfl; rfl; rfl; first | omega | (simp only [List.length_append, List.length_cons, List.length_nil]; omega)) | (apply w_strET; rfl; rfl; rfl; assumption) | (apply w_strEF; rfl; rfl; rfl; assumption) | (apply w_strNF; rfl; rfl; rfl; assumption) | (apply w_strNT; rfl; rfl; rfl; assumption) | (apply w_strE; rfl; rfl; rfl; rfl) | (apply w_strN; rfl; rfl; rfl; rfl) | (apply w_strL; rfl; rfl) | (apply w_cp; rfl; rfl; exact hWo) | (apply w_cp; rfl; rfl; exact hMa) | (apply w_cp; rfl; rfl; exact hNu) | (apply w_clM; rfl; rfl; exact rSplit_ok _ _ hs; (first | omega | (simp; omega) | simp); intro u hu; refine ⟨by (exact kmf), ?_⟩) | refine spl ?_ ?_ | intro hc)
            all_goals first | (exfalso; omega) | skip
            all_goals exact At_retR (vs := [.agg #[int 0, int 0, int 0, int 0, int 0, int 0, int 0], .bool false]) (by (first | exact .inl rfl | exact .inr rfl)) Tryd.results33 (by (focus ((repeat (first | exact ResR.nil | (apply ResR.tmp; rfl) | (apply ResR.one; rfl; (focus ((repeat (first | assumption | exact .pt rfl | exact .sl ‹_› rfl | exact .sl1 (by first | assumption | rfl) | apply Rd.there)); done))) | (apply ResR.agg; rfl; (focus ((repeat (first | assumption | exact .pt | exact .sl ‹_› | apply RdAll.there)); done)); rfl))); done))) ⟨⟨0, 0, 0, 0, 0, 0, 0⟩, false, rfl, rfl, fun h => (by cases h), fun _ => hno⟩ (by (exact frm))
        · have hke : k = m := by omega
          subst hke
          have hcan := hoc hgd
          (repeat' first | refine stp ?_ | intro v' hv' | intro (b : Nat) | (apply w_convU; rfl; rfl; omega; omega) | (apply w_convI; rfl; rfl; omega; omega) | (apply w_quoU; rfl; rfl; rfl; omega; omega; omega) | (apply w_remU; rfl; rfl; rfl; omega; omega) | (apply w_minL; rfl; rfl; rfl; omega) | (apply w_minG; rfl; rfl; rfl; omega) | (apply w_min; rfl; rfl; rfl) | (apply w_mfR; rfl; rfl) | (apply w_cvp; rfl; rfl; exact inferInstance; rfl; rfl; assumption) | (apply w_eqS2T; rfl; rfl; rfl; omega) | (apply w_eqS2F; rfl; rfl; rfl; omega) | (apply w_neS2T; rfl; rfl; rfl; omega) | (apply w_neS2F; rfl; rfl; rfl; omega) | (apply w_eqS3T; rfl; rfl; rfl; omega) | (apply w_eqS3F; rfl; rfl; rfl; omega) | (apply w_neS3T; rfl; rfl; rfl; omega) | (apply w_neS3F; rfl; rfl; rfl; omega) | (apply w_eqS3; rfl; rfl; rfl) | (apply w_neS3; rfl; rfl; rfl) | (apply w_eqS2; rfl; rfl; rfl) | (apply w_neS2; rfl; rfl; rfl) | (apply w_maxL; rfl; rfl; rfl; omega) | (apply w_maxG; rfl; rfl; rfl; omega) | (apply w_max; rfl; rfl; rfl) | (apply w_neB; rfl; rfl; rfl; rfl) | (apply w_eqB; rfl; rfl; rfl; rfl) | (apply w_strA; rfl; rfl; rfl; first | omega | (simp only [List.length_append, List.length_cons, List.length_nil]; omega)) | (apply w_strET; rfl; rfl; rfl; assumption) | (apply w_strEF; rfl; rfl; rfl; assumption) | (apply w_strNF; rfl; rfl; rfl; assumption) | (apply w_strNT; rfl; rfl; rfl; assumption) | (apply w_strE; rfl; rfl; rfl; rfl) | (apply w_strN; rfl; rfl; rfl; rfl) | (apply w_strL; rfl; rfl) | (apply w_cp; rfl; rfl; exact hWo) | (apply w_cp; rfl; rfl; exact hMa) | (apply w_cp; rfl; rfl; exact hNu) | (apply w_clM; rfl; rfl; exact rSplit_ok _ _ hs; (first | omega | (simp; omega) | simp); intro u hu; refine ⟨by (exact kmf), ?_⟩) | refine spl ?_ ?_ | intro hc)
          all_goals first | (exfalso; omega) | skip
          all_goals exact At_retR (vs := [.agg (gL o ws k).toArray, .bool true]) (by (first | exact .inl rfl | exact .inr rfl)) Tryd.results33 (by (focus ((repeat (first | exact ResR.nil | (apply ResR.tmp; rfl) | (apply ResR.one; rfl; (focus ((repeat (first | assumption | exact .pt rfl | exact .sl ‹_› rfl | exact .sl1 (by first | assumption | rfl) | apply Rd.there)); done))) | (apply ResR.agg; rfl; (focus ((repeat (first | assumption | exact .pt | exact .sl ‹_› | apply RdAll.there)); done)); rfl))); done))) ⟨yK o ws k, true, rfl, rfl, fun _ => hcan, fun h => (by cases h)⟩ (by (exact frm))
      · have hn := hnext fun y hy _ => hl (hlen y hy)
        clear hhere hlen hw0 hoc hsw
        generalize ws.getD 0 [] = w0 at *
        generalize sW o = wo at *
        generalize sMany o = m at *
        (repeat' first | refine stp ?_ | intro v' hv' | intro (b : Nat) | (apply w_convU; rfl; rfl; omega; omega) | (apply w_convI; rfl; rfl; omega; omega) | (apply w_quoU; rfl; rfl; rfl; omega; omega; omega) | (apply w_remU; rfl; rfl; rfl; omega; omega) | (apply w_minL; rfl; rfl; rfl; omega) | (apply w_minG; rfl; rfl; rfl; omega) | (apply w_min; rfl; rfl; rfl) | (apply w_mfR; rfl; rfl) | (apply w_cvp; rfl; rfl; exact inferInstance; rfl; rfl; assumption) | (apply w_eqS2T; rfl; rfl; rfl; omega) | (apply w_eqS2F; rfl; rfl; rfl; omega) | (apply w_neS2T; rfl; rfl; rfl; omega) | (apply w_neS2F; rfl; rfl; rfl; omega) | (apply w_eqS3T; rfl; rfl; rfl; omega) | (apply w_eqS3F; rfl; rfl; rfl; omega) | (apply w_neS3T; rfl; rfl; rfl; omega) | (apply w_neS3F; rfl; rfl; rfl; omega) | (apply w_eqS3; rfl; rfl; rfl) | (apply w_neS3; rfl; rfl; rfl) | (apply w_eqS2; rfl; rfl; rfl) | (apply w_neS2; rfl; rfl; rfl) | (apply w_maxL; rfl; rfl; rfl; omega) | (apply w_maxG; rfl; rfl; rfl; omega) | (apply w_max; rfl; rfl; rfl) | (apply w_neB; rfl; rfl; rfl; rfl) | (apply w_eqB; rfl; rfl; rfl; rfl) | (apply w_strA; rfl; rfl; rfl; first | omega | (simp only [List.length_append, List.length_cons, List.length_nil]; omega)) | (apply w_strET; rfl; rfl; rfl; assumption) | (apply w_strEF; rfl; rfl; rfl; assumption) | (apply w_strNF; rfl; rfl; rfl; assumption) | (apply w_strNT; rfl; rfl; rfl; assumption) | (apply w_strE; rfl; rfl; rfl; rfl) | (apply w_strN; rfl; rfl; rfl; rfl) | (apply w_strL; rfl; rfl) | (apply w_cp; rfl; rfl; exact hWo) | (apply w_cp; rfl; rfl; exact hMa) | (apply w_cp; rfl; rfl; exact hNu) | (apply w_clM; rfl; rfl; exact rSplit_ok _ _ hs; (first | omega | (simp; omega) | simp); intro u hu; refine ⟨by (exact kmf), ?_⟩) | refine spl ?_ ?_ | intro hc)
        all_goals first | (exfalso; omega) | skip
        all_goals exact At_againK (o + 1) ⟨by omega, by omega, hn⟩ (by omega) (by (exact sbf)) (by (exact sbf)) (by (exact frm))
    · have hn := hnext fun y hy ho => hw (by rw [hw0 y hy, ho]; simp)
      clear hhere hw0 hoc hsw
      generalize ws.getD 0 [] = w0 at *
      generalize sW o = wo at *
      generalize sMany o = m at *
      (repeat' first | refine stp ?_ | intro v' hv' | intro (b : Nat) | (apply w_convU; rfl; rfl; omega; omega) | (apply w_convI; rfl; rfl; omega; omega) | (apply w_quoU; rfl; rfl; rfl; omega; omega; omega) | (apply w_remU; rfl; rfl; rfl; omega; omega) | (apply w_minL; rfl; rfl; rfl; omega) | (apply w_minG; rfl; rfl; rfl; omega) | (apply w_min; rfl; rfl; rfl) | (apply w_mfR; rfl; rfl) | (apply w_cvp; rfl; rfl; exact inferInstance; rfl; rfl; assumption) | (apply w_eqS2T; rfl; rfl; rfl; omega) | (apply w_eqS2F; rfl; rfl; rfl; omega) | (apply w_neS2T; rfl; rfl; rfl; omega) | (apply w_neS2F; rfl; rfl; rfl; omega) | (apply w_eqS3T; rfl; rfl; rfl; omega) | (apply w_eqS3F; rfl; rfl; rfl; omega) | (apply w_neS3T; rfl; rfl; rfl; omega) | (apply w_neS3F; rfl; rfl; rfl; omega) | (apply w_eqS3; rfl; rfl; rfl) | (apply w_neS3; rfl; rfl; rfl) | (apply w_eqS2; rfl; rfl; rfl) | (apply w_neS2; rfl; rfl; rfl) | (apply w_maxL; rfl; rfl; rfl; omega) | (apply w_maxG; rfl; rfl; rfl; omega) | (apply w_max; rfl; rfl; rfl) | (apply w_neB; rfl; rfl; rfl; rfl) | (apply w_eqB; rfl; rfl; rfl; rfl) | (apply w_strA; rfl; rfl; rfl; first | omega | (simp only [List.length_append, List.length_cons, List.length_nil]; omega)) | (apply w_strET; rfl; rfl; rfl; assumption) | (apply w_strEF; rfl; rfl; rfl; assumption) | (apply w_strNF; rfl; rfl; rfl; assumption) | (apply w_strNT; rfl; rfl; rfl; assumption) | (apply w_strE; rfl; rfl; rfl; rfl) | (apply w_strN; rfl; rfl; rfl; rfl) | (apply w_strL; rfl; rfl) | (apply w_cp; rfl; rfl; exact hWo) | (apply w_cp; rfl; rfl; exact hMa) | (apply w_cp; rfl; rfl; exact hNu) | (apply w_clM; rfl; rfl; exact rSplit_ok _ _ hs; (first | omega | (simp; omega) | simp); intro u hu; refine ⟨by (exact kmf), ?_⟩) | refine spl ?_ ?_ | intro hc)
      all_goals first | (exfalso; omega) | skip
      all_goals exact At_againK (o + 1) ⟨by omega, by omega, hn⟩ (by omega) (by (exact sbf)) (by (exact sbf)) (by (exact frm))
  · have ho' : o = 8 := by omega
    subst ho'
    have hno : ∀ y, ¬ sCan s y := fun y hy => by have := hz y hy; have := (hsc y hy).2; omega
    (repeat' first | refine stp ?_ | intro v' hv' | intro (b : Nat) | (apply w_convU; rfl; rfl; omega; omega) | (apply w_convI; rfl; rfl; omega; omega) | (apply w_quoU; rfl; rfl; rfl; omega; omega; omega) | (apply w_remU; rfl; rfl; rfl; omega; omega) | (apply w_minL; rfl; rfl; rfl; omega) | (apply w_minG; rfl; rfl; rfl; omega) | (apply w_min; rfl; rfl; rfl) | (apply w_mfR; rfl; rfl) | (apply w_cvp; rfl; rfl; exact inferInstance; rfl; rfl; assumption) | (apply w_eqS2T; rfl; rfl; rfl; omega) | (apply w_eqS2F; rfl; rfl; rfl; omega) | (apply w_neS2T; rfl; rfl; rfl; omega) | (apply w_neS2F; rfl; rfl; rfl; omega) | (apply w_eqS3T; rfl; rfl; rfl; omega) | (apply w_eqS3F; rfl; rfl; rfl; omega) | (apply w_neS3T; rfl; rfl; rfl; omega) | (apply w_neS3F; rfl; rfl; rfl; omega) | (apply w_eqS3; rfl; rfl; rfl) | (apply w_neS3; rfl; rfl; rfl) | (apply w_eqS2; rfl; rfl; rfl) | (apply w_neS2; rfl; rfl; rfl) | (apply w_maxL; rfl; rfl; rfl; omega) | (apply w_maxG; rfl; rfl; rfl; omega) | (apply w_max; rfl; rfl; rfl) | (apply w_neB; rfl; rfl; rfl; rfl) | (apply w_eqB; rfl; rfl; rfl; rfl) | (apply w_strA; rfl; rfl; rfl; first | omega | (simp only [List.length_append, List.length_cons, List.length_nil]; omega)) | (apply w_strET; rfl; rfl; rfl; assumption) | (apply w_strEF; rfl; rfl; rfl; assumption) | (apply w_strNF; rfl; rfl; rfl; assumption) | (apply w_strNT; rfl; rfl; rfl; assumption) | (apply w_strE; rfl; rfl; rfl; rfl) | (apply w_strN; rfl; rfl; rfl; rfl) | (apply w_strL; rfl; rfl) | (apply w_cp; rfl; rfl; exact hWo) | (apply w_cp; rfl; rfl; exact hMa) | (apply w_cp; rfl; rfl; exact hNu) | (apply w_clM; rfl; rfl; exact rSplit_ok _ _ hs; (first | omega | (simp; omega) | simp); intro u hu; refine ⟨by (exact kmf), ?_⟩) | refine spl ?_ ?_ | intro hc)
    all_goals first | (exfalso; omega) | skip
    all_goals exact At_retR (vs := [.agg #[int 0, int 0, int 0, int 0, int 0, int 0, int 0], .bool false]) (by (first | exact .inl rfl | exact .inr rfl)) Tryd.results33 (by (focus ((repeat (first | exact ResR.nil | (apply ResR.tmp; rfl) | (apply ResR.one; rfl; (focus ((repeat (first | assumption | exact .pt rfl | exact .sl ‹_› rfl | exact .sl1 (by first | assumption | rfl) | apply Rd.there)); done))) | (apply ResR.agg; rfl; (focus ((repeat (first | assumption | exact .pt | exact .sl ‹_› | apply RdAll.there)); done)); rfl))); done))) ⟨⟨0, 0, 0, 0, 0, 0, 0⟩, false, rfl, rfl, fun h => (by cases h), fun _ => hno⟩ (by (exact frm))
end Go.Proofs.YteggkdlgailfoaaDoor
