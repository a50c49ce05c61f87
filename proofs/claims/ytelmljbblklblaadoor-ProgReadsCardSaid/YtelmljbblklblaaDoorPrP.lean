/- prog: are two rows, two programs, one? Conditions: none. -/
import Derived.Test.YtelmljbblklblaaDoorPrN
import Derived.Test.YtelmljbblklblaaDoorPrC
set_option linter.all false
set_option linter.deprecated false
namespace Go.Proofs.YtelmljbblklblaaDoor
open Go.Sep
variable [B0 : Base]
instance : DecidableEq Ins := fun a b => decidable_of_iff (a.op = b.op ∧ a.n = b.n) ⟨fun h => by cases a; cases b; simp at h; simp [h], fun h => by subst h; exact ⟨rfl, rfl⟩⟩
instance : FlatEq Tryd.prog 29 2 := ⟨by kernel_rfl⟩
theorem not_same {α : Type} {a b : List α} {k : Nat} {x y : α} (ha : a[k]? = some x) (hb : b[k]? = some y) (h : x ≠ y) : a ≠ b := fun e => by
  subst e; rw [ha] at hb; exact h (Option.some.inj hb)
theorem all_same {α : Type} {a b : List α} (hl : a.length = b.length) (h : ∀ (k : Nat) (x y : α), a[k]? = some x → b[k]? = some y → x = y) : a = b := by
  apply List.ext_getElem hl
  intro k h1 h2
  exact h k _ _ (List.getElem?_eq_getElem h1) (List.getElem?_eq_getElem h2)
set_option maxHeartbeats 2000000 in
theorem ints_ok (a b : Value) (la lb : List Int) (R : List HP) (ha : InIn R a la) (hb : InIn R b lb) : Called Tryd.prog 25 [a, b] R (is (.bool (decide (la = lb))) R) := by
  have hva := ha.isl
  have hvb := hb.isl
  have hsa := ha.src
  have hsb := hb.src
  have hN := hva.len
  by_cases hl : la.length = lb.length
  · refine Fn2 Tryd.func25 rfl Tryd.ntmps25 rfl ?_
    have hvb' : IsSl b la.length := by rw [hl]; exact hvb
    have hll : (la.length : Int) = lb.length := by omega
    (repeat' first | refine stp ?_ | intro v' hv' | intro (b : Nat) | (apply w_convU; rfl; rfl; omega; omega) | (apply w_convI; rfl; rfl; omega; omega) | (apply w_quoU; rfl; rfl; rfl; omega; omega; omega) | (apply w_remU; rfl; rfl; rfl; omega; omega) | (apply w_minL; rfl; rfl; rfl; omega) | (apply w_minG; rfl; rfl; rfl; omega) | (apply w_min; rfl; rfl; rfl) | (apply w_mfR; rfl; rfl) | (apply w_cvp; rfl; rfl; exact inferInstance; rfl; rfl; assumption) | (apply w_eqS2T; rfl; rfl; rfl; omega) | (apply w_eqS2F; rfl; rfl; rfl; omega) | (apply w_neS2T; rfl; rfl; rfl; omega) | (apply w_neS2F; rfl; rfl; rfl; omega) | (apply w_eqS3T; rfl; rfl; rfl; omega) | (apply w_eqS3F; rfl; rfl; rfl; omega) | (apply w_neS3T; rfl; rfl; rfl; omega) | (apply w_neS3F; rfl; rfl; rfl; omega) | (apply w_eqS3; rfl; rfl; rfl) | (apply w_neS3; rfl; rfl; rfl) | (apply w_eqS2; rfl; rfl; rfl) | (apply w_neS2; rfl; rfl; rfl) | (apply w_maxL; rfl; rfl; rfl; omega) | (apply w_maxG; rfl; rfl; rfl; omega) | (apply w_max; rfl; rfl; rfl) | (apply w_neB; rfl; rfl; rfl; rfl) | (apply w_eqB; rfl; rfl; rfl; rfl) | refine spl ?_ ?_ | intro hc)
    all_goals first | (exfalso; omega) | skip
    refine C_loopK [4, 5, 11, 12, 13, 14, 15, 16, 17, 18, 19, 20, 21, 22, 23, 24, 25] (fun k : Nat => la.length - k) (fun k => [(5, int k)]) (fun _ => R) (fun k => k ≤ la.length ∧ ∀ j, j < k → la[j]? = lb[j]?) 0 ⟨Nat.zero_le _, fun j h => by omega⟩ (by (focus ((repeat (first | exact Keep.nil | apply Keep.drop rfl | apply Keep.keep rfl)); done))) (by (exact sbf)) (by (exact frm)) ?_
    rintro k ⟨hk, hz⟩
    dsimp only [List.cons_append, List.nil_append]
    by_cases hlt : k < la.length
    · have hlt2 : k < lb.length := by omega
      have hxa : la[k]? = some la[k] := by simp [hlt]
      have hxb : lb[k]? = some lb[k] := by simp [hlt2]
      have hr0 : Rd R ⟨vb a, vo a + k * 1, none⟩ (int la[k]) := (Rd.src hsa (i := k) (k := 0) (e := iE la[k]) (by simp [hlt]) rfl : Rd R ⟨vb a, vo a + k * 1 + 0, none⟩ _)
      have hr1 : Rd R ⟨vb b, vo b + k * 1, none⟩ (int lb[k]) := (Rd.src hsb (i := k) (k := 0) (e := iE lb[k]) (by simp [hlt2]) rfl : Rd R ⟨vb b, vo b + k * 1 + 0, none⟩ _)
      generalize la[k] = x at *
      generalize lb[k] = y at *
      by_cases hxy : x = y
      · subst hxy
        (repeat' first | refine stp ?_ | intro v' hv' | intro (b : Nat) | (apply w_convU; rfl; rfl; omega; omega) | (apply w_convI; rfl; rfl; omega; omega) | (apply w_quoU; rfl; rfl; rfl; omega; omega; omega) | (apply w_remU; rfl; rfl; rfl; omega; omega) | (apply w_minL; rfl; rfl; rfl; omega) | (apply w_minG; rfl; rfl; rfl; omega) | (apply w_min; rfl; rfl; rfl) | (apply w_mfR; rfl; rfl) | (apply w_cvp; rfl; rfl; exact inferInstance; rfl; rfl; assumption) | (apply w_eqS2T; rfl; rfl; rfl; omega) | (apply w_eqS2F; rfl; rfl; rfl; omega) | (apply w_neS2T; rfl; rfl; rfl; omega) | (apply w_neS2F; rfl; rfl; rfl; omega) | (apply w_eqS3T; rfl; rfl; rfl; omega) | (apply w_eqS3F; rfl; rfl; rfl; omega) | (apply w_neS3T; rfl; rfl; rfl; omega) | (apply w_neS3F; rfl; rfl; rfl; omega) | (apply w_eqS3; rfl; rfl; rfl) | (apply w_neS3; rfl; rfl; rfl) | (apply w_eqS2; rfl; rfl; rfl) | (apply w_neS2; rfl; rfl; rfl) | (apply w_maxL; rfl; rfl; rfl; omega) | (apply w_maxG; rfl; rfl; rfl; omega) | (apply w_max; rfl; rfl; rfl) | (apply w_neB; rfl; rfl; rfl; rfl) | (apply w_eqB; rfl; rfl; rfl; rfl) | refine spl ?_ ?_ | intro hc)
        all_goals first | (exfalso; omega) | skip
        refine At_againK (k + 1) ⟨hlt, fun j hj => ?_⟩ (by omega) (by (exact sbf)) (by (exact sbf)) (by (exact frm))
        rcases Nat.lt_or_ge j k with h | h
        · exact hz j h
        · obtain rfl : j = k := by omega
          rw [hxa, hxb]
      · have hd : decide (la = lb) = false := decide_eq_false (not_same hxa hxb hxy)
        rw [hd]
        (repeat' first | refine stp ?_ | intro v' hv' | intro (b : Nat) | (apply w_convU; rfl; rfl; omega; omega) | (apply w_convI; rfl; rfl; omega; omega) | (apply w_quoU; rfl; rfl; rfl; omega; omega; omega) | (apply w_remU; rfl; rfl; rfl; omega; omega) | (apply w_minL; rfl; rfl; rfl; omega) | (apply w_minG; rfl; rfl; rfl; omega) | (apply w_min; rfl; rfl; rfl) | (apply w_mfR; rfl; rfl) | (apply w_cvp; rfl; rfl; exact inferInstance; rfl; rfl; assumption) | (apply w_eqS2T; rfl; rfl; rfl; omega) | (apply w_eqS2F; rfl; rfl; rfl; omega) | (apply w_neS2T; rfl; rfl; rfl; omega) | (apply w_neS2F; rfl; rfl; rfl; omega) | (apply w_eqS3T; rfl; rfl; rfl; omega) | (apply w_eqS3F; rfl; rfl; rfl; omega) | (apply w_neS3T; rfl; rfl; rfl; omega) | (apply w_neS3F; rfl; rfl; rfl; omega) | (apply w_eqS3; rfl; rfl; rfl) | (apply w_neS3; rfl; rfl; rfl) | (apply w_eqS2; rfl; rfl; rfl) | (apply w_neS2; rfl; rfl; rfl) | (apply w_maxL; rfl; rfl; rfl; omega) | (apply w_maxG; rfl; rfl; rfl; omega) | (apply w_max; rfl; rfl; rfl) | (apply w_neB; rfl; rfl; rfl; rfl) | (apply w_eqB; rfl; rfl; rfl; rfl) | refine spl ?_ ?_ | intro hc)
        all_goals first | (exfalso; omega) | skip
        all_goals (refine At_ret1 (by (first | exact .inl rfl | exact .inr rfl)) Tryd.results25 rfl ⟨by rfl, rfl⟩ (by (exact frm)))
    · have hk' : k = la.length := by omega
      subst hk'
      have hd : decide (la = lb) = true := decide_eq_true (all_same hl fun k x y h1 h2 => by
        have h3 := (List.getElem?_eq_some_iff.1 h1).1
        have := hz k h3
        rw [h1, h2] at this; exact Option.some.inj this)
      rw [hd]
      (repeat' first | refine stp ?_ | intro v' hv' | intro (b : Nat) | (apply w_convU; rfl; rfl; omega; omega) | (apply w_convI; rfl; rfl; omega; omega) | (apply w_quoU; rfl; rfl; rfl; omega; omega; omega) | (apply w_remU; rfl; rfl; rfl; omega; omega) | (apply w_minL; rfl; rfl; rfl; omega) | (apply w_minG; rfl; rfl; rfl; omega) | (apply w_min; rfl; rfl; rfl) | (apply w_mfR; rfl; rfl) | (apply w_cvp; rfl; rfl; exact inferInstance; rfl; rfl; assumption) | (apply w_eqS2T; rfl; rfl; rfl; omega) | (apply w_eqS2F; rfl; rfl; rfl; omega) | (apply w_neS2T; rfl; rfl; rfl; omega) | (apply w_neS2F; rfl; rfl; rfl; omega) | (apply w_eqS3T; rfl; rfl; rfl; omega) | (apply w_eqS3F; rfl; rfl; rfl; omega) | (apply w_neS3T; rfl; rfl; rfl; omega) | (apply w_neS3F; rfl; rfl; rfl; omega) | (apply w_eqS3; rfl; rfl; rfl) | (apply w_neS3; rfl; rfl; rfl) | (apply w_eqS2; rfl; rfl; rfl) | (apply w_neS2; rfl; rfl; rfl) | (apply w_maxL; rfl; rfl; rfl; omega) | (apply w_maxG; rfl; rfl; rfl; omega) | (apply w_max; rfl; rfl; rfl) | (apply w_neB; rfl; rfl; rfl; rfl) | (apply w_eqB; rfl; rfl; rfl; rfl) | refine spl ?_ ?_ | intro hc)
      all_goals first | (exfalso; omega) | skip
      all_goals (refine At_ret1 (by (first | exact .inl rfl | exact .inr rfl)) Tryd.results25 rfl ⟨by rfl, rfl⟩ (by (exact frm)))
  · have hd : decide (la = lb) = false := decide_eq_false (fun e => hl (by rw [e]))
    rw [hd]
    have hll : ¬ (la.length : Int) = lb.length := by omega
    refine Fn2 Tryd.func25 rfl Tryd.ntmps25 rfl ?_
    (repeat' first | refine stp ?_ | intro v' hv' | intro (b : Nat) | (apply w_convU; rfl; rfl; omega; omega) | (apply w_convI; rfl; rfl; omega; omega) | (apply w_quoU; rfl; rfl; rfl; omega; omega; omega) | (apply w_remU; rfl; rfl; rfl; omega; omega) | (apply w_minL; rfl; rfl; rfl; omega) | (apply w_minG; rfl; rfl; rfl; omega) | (apply w_min; rfl; rfl; rfl) | (apply w_mfR; rfl; rfl) | (apply w_cvp; rfl; rfl; exact inferInstance; rfl; rfl; assumption) | (apply w_eqS2T; rfl; rfl; rfl; omega) | (apply w_eqS2F; rfl; rfl; rfl; omega) | (apply w_neS2T; rfl; rfl; rfl; omega) | (apply w_neS2F; rfl; rfl; rfl; omega) | (apply w_eqS3T; rfl; rfl; rfl; omega) | (apply w_eqS3F; rfl; rfl; rfl; omega) | (apply w_neS3T; rfl; rfl; rfl; omega) | (apply w_neS3F; rfl; rfl; rfl; omega) | (apply w_eqS3; rfl; rfl; rfl) | (apply w_neS3; rfl; rfl; rfl) | (apply w_eqS2; rfl; rfl; rfl) | (apply w_neS2; rfl; rfl; rfl) | (apply w_maxL; rfl; rfl; rfl; omega) | (apply w_maxG; rfl; rfl; rfl; omega) | (apply w_max; rfl; rfl; rfl) | (apply w_neB; rfl; rfl; rfl; rfl) | (apply w_eqB; rfl; rfl; rfl; rfl) | refine spl ?_ ?_ | intro hc)
    all_goals first | (exfalso; omega) | skip
    all_goals (refine At_ret1 (by (first | exact .inl rfl | exact .inr rfl)) Tryd.results25 rfl ⟨by rfl, rfl⟩ (by (exact frm)))
set_option maxHeartbeats 2000000 in
theorem same_ok (a b : Value) (la lb : List Ins) (R : List HP) (ha : PrIn R a la) (hb : PrIn R b lb) (h6 : la.length ≤ 1000000) : Called Tryd.prog 21 [a, b] R (is (.bool (decide (la = lb))) R) := by
  have hvb := hb.isl
  have hsb := hb.src
  have hN := hvb.len
  have hPl := Plain_ok a la R ha h6
  by_cases hl : la.length = lb.length
  · refine Fn2 Tryd.func21 rfl Tryd.ntmps21 rfl ?_
    have hll : (la.length : Int) = lb.length := by omega
    (repeat' first | refine stp ?_ | intro v' hv' | intro (b : Nat) | (apply w_convU; rfl; rfl; omega; omega) | (apply w_convI; rfl; rfl; omega; omega) | (apply w_quoU; rfl; rfl; rfl; omega; omega; omega) | (apply w_remU; rfl; rfl; rfl; omega; omega) | (apply w_minL; rfl; rfl; rfl; omega) | (apply w_minG; rfl; rfl; rfl; omega) | (apply w_min; rfl; rfl; rfl) | (apply w_mfR; rfl; rfl) | (apply w_cvp; rfl; rfl; exact inferInstance; rfl; rfl; assumption) | (apply w_eqS2T; rfl; rfl; rfl; omega) | (apply w_eqS2F; rfl; rfl; rfl; omega) | (apply w_neS2T; rfl; rfl; rfl; omega) | (apply w_neS2F; rfl; rfl; rfl; omega) | (apply w_eqS3T; rfl; rfl; rfl; omega) | (apply w_eqS3F; rfl; rfl; rfl; omega) | (apply w_neS3T; rfl; rfl; rfl; omega) | (apply w_neS3F; rfl; rfl; rfl; omega) | (apply w_eqS3; rfl; rfl; rfl) | (apply w_neS3; rfl; rfl; rfl) | (apply w_eqS2; rfl; rfl; rfl) | (apply w_neS2; rfl; rfl; rfl) | (apply w_maxL; rfl; rfl; rfl; omega) | (apply w_maxG; rfl; rfl; rfl; omega) | (apply w_max; rfl; rfl; rfl) | (apply w_neB; rfl; rfl; rfl; rfl) | (apply w_eqB; rfl; rfl; rfl; rfl) | (apply w_clM; rfl; rfl; exact hPl; (first | omega | (simp; omega) | simp); intro u hu; refine ⟨by (exact kmf), ?_⟩) | refine spl ?_ ?_ | intro hc)
    all_goals first | (exfalso; omega) | skip
    have hu2 : IsSl u lb.length := by rw [← hl]; exact hu
    refine C_loopK [4, 6, 14, 15, 16, 17, 18, 19, 20, 21, 22, 23, 24, 25, 26, 27, 28] (fun k : Nat => lb.length - k) (fun k => [(6, int k)]) (fun _ => sl 29 2 u (la.map insE) :: R) (fun k => k ≤ lb.length ∧ ∀ j, j < k → la[j]? = lb[j]?) 0 ⟨Nat.zero_le _, fun j h => by omega⟩ (by (focus ((repeat (first | exact Keep.nil | apply Keep.drop rfl | apply Keep.keep rfl)); done))) (by (exact sbf)) (by (exact frm)) ?_
    rintro k ⟨hk, hz⟩
    dsimp only [List.cons_append, List.nil_append]
    by_cases hlt : k < lb.length
    · have hlt2 : k < la.length := by omega
      have hxa : la[k]? = some la[k] := by simp [hlt2]
      have hxb : lb[k]? = some lb[k] := by simp [hlt]
      have hra0 : RdAll (sl 29 2 u (la.map insE) :: R) (vb u) (vo u + k * 2) (insE la[k]) := RdAll.srcI Src.sl (by simp [hlt2])
      have hrb0 : RdAll (sl 29 2 u (la.map insE) :: R) (vb b) (vo b + k * 2) (insE lb[k]) := RdAll.srcI hsb.there (by simp [hlt])
      generalize la[k] = x at *
      generalize lb[k] = y at *
      obtain ⟨o1, n1⟩ := x
      obtain ⟨o2, n2⟩ := y
      have hra : RdAll (sl 29 2 u (la.map insE) :: R) (vb u) (vo u + k * 2) [int o1, int n1] := hra0
      have hrb : RdAll (sl 29 2 u (la.map insE) :: R) (vb b) (vo b + k * 2) [int o2, int n2] := hrb0
      clear hra0 hrb0
      by_cases hxy : o1 = o2 ∧ n1 = n2
      · (repeat' first | refine stp ?_ | intro v' hv' | intro (b : Nat) | (apply w_convU; rfl; rfl; omega; omega) | (apply w_convI; rfl; rfl; omega; omega) | (apply w_quoU; rfl; rfl; rfl; omega; omega; omega) | (apply w_remU; rfl; rfl; rfl; omega; omega) | (apply w_minL; rfl; rfl; rfl; omega) | (apply w_minG; rfl; rfl; rfl; omega) | (apply w_min; rfl; rfl; rfl) | (apply w_mfR; rfl; rfl) | (apply w_cvp; rfl; rfl; exact inferInstance; rfl; rfl; assumption) | (apply w_eqS2T; rfl; rfl; rfl; omega) | (apply w_eqS2F; rfl; rfl; rfl; omega) | (apply w_neS2T; rfl; rfl; rfl; omega) | (apply w_neS2F; rfl; rfl; rfl; omega) | (apply w_eqS3T; rfl; rfl; rfl; omega) | (apply w_eqS3F; rfl; rfl; rfl; omega) | (apply w_neS3T; rfl; rfl; rfl; omega) | (apply w_neS3F; rfl; rfl; rfl; omega) | (apply w_eqS3; rfl; rfl; rfl) | (apply w_neS3; rfl; rfl; rfl) | (apply w_eqS2; rfl; rfl; rfl) | (apply w_neS2; rfl; rfl; rfl) | (apply w_maxL; rfl; rfl; rfl; omega) | (apply w_maxG; rfl; rfl; rfl; omega) | (apply w_max; rfl; rfl; rfl) | (apply w_neB; rfl; rfl; rfl; rfl) | (apply w_eqB; rfl; rfl; rfl; rfl) | (apply w_clM; rfl; rfl; exact hPl; (first | omega | (simp; omega) | simp); intro u hu; refine ⟨by (exact kmf), ?_⟩) | refine spl ?_ ?_ | intro hc)
        all_goals first | (exfalso; omega) | skip
        refine At_againK (k + 1) ⟨hlt, fun j hj => ?_⟩ (by omega) (by (exact sbf)) (by (exact sbf)) (by (exact frm))
        rcases Nat.lt_or_ge j k with h | h
        · exact hz j h
        · obtain rfl : j = k := by omega
          rw [hxa, hxb, hxy.1, hxy.2]
      · have hd : decide (la = lb) = false := decide_eq_false (not_same hxa hxb (fun e => hxy (by injection e with e1 e2; exact ⟨e1, e2⟩)))
        rw [hd]
        (repeat' first | refine stp ?_ | intro v' hv' | intro (b : Nat) | (apply w_convU; rfl; rfl; omega; omega) | (apply w_convI; rfl; rfl; omega; omega) | (apply w_quoU; rfl; rfl; rfl; omega; omega; omega) | (apply w_remU; rfl; rfl; rfl; omega; omega) | (apply w_minL; rfl; rfl; rfl; omega) | (apply w_minG; rfl; rfl; rfl; omega) | (apply w_min; rfl; rfl; rfl) | (apply w_mfR; rfl; rfl) | (apply w_cvp; rfl; rfl; exact inferInstance; rfl; rfl; assumption) | (apply w_eqS2T; rfl; rfl; rfl; omega) | (apply w_eqS2F; rfl; rfl; rfl; omega) | (apply w_neS2T; rfl; rfl; rfl; omega) | (apply w_neS2F; rfl; rfl; rfl; omega) | (apply w_eqS3T; rfl; rfl; rfl; omega) | (apply w_eqS3F; rfl; rfl; rfl; omega) | (apply w_neS3T; rfl; rfl; rfl; omega) | (apply w_neS3F; rfl; rfl; rfl; omega) | (apply w_eqS3; rfl; rfl; rfl) | (apply w_neS3; rfl; rfl; rfl) | (apply w_eqS2; rfl; rfl; rfl) | (apply w_neS2; rfl; rfl; rfl) | (apply w_maxL; rfl; rfl; rfl; omega) | (apply w_maxG; rfl; rfl; rfl; omega) | (apply w_max; rfl; rfl; rfl) | (apply w_neB; rfl; rfl; rfl; rfl) | (apply w_eqB; rfl; rfl; rfl; rfl) | (apply w_clM; rfl; rfl; exact hPl; (first | omega | (simp; omega) | simp); intro u hu; refine ⟨by (exact kmf), ?_⟩) | refine spl ?_ ?_ | intro hc)
        all_goals first | (exfalso; omega) | skip
        all_goals (refine At_ret1 (by (first | exact .inl rfl | exact .inr rfl)) Tryd.results21 rfl ⟨by rfl, rfl⟩ (by (exact frm)))
    · have hk' : k = lb.length := by omega
      subst hk'
      have hd : decide (la = lb) = true := decide_eq_true (all_same hl fun k x y h1 h2 => by
        have h3 := (List.getElem?_eq_some_iff.1 h2).1
        have := hz k h3
        rw [h1, h2] at this; exact Option.some.inj this)
      rw [hd]
      (repeat' first | refine stp ?_ | intro v' hv' | intro (b : Nat) | (apply w_convU; rfl; rfl; omega; omega) | (apply w_convI; rfl; rfl; omega; omega) | (apply w_quoU; rfl; rfl; rfl; omega; omega; omega) | (apply w_remU; rfl; rfl; rfl; omega; omega) | (apply w_minL; rfl; rfl; rfl; omega) | (apply w_minG; rfl; rfl; rfl; omega) | (apply w_min; rfl; rfl; rfl) | (apply w_mfR; rfl; rfl) | (apply w_cvp; rfl; rfl; exact inferInstance; rfl; rfl; assumption) | (apply w_eqS2T; rfl; rfl; rfl; omega) | (apply w_eqS2F; rfl; rfl; rfl; omega) | (apply w_neS2T; rfl; rfl; rfl; omega) | (apply w_neS2F; rfl; rfl; rfl; omega) | (apply w_eqS3T; rfl; rfl; rfl; omega) | (apply w_eqS3F; rfl; rfl; rfl; omega) | (apply w_neS3T; rfl; rfl; rfl; omega) | (apply w_neS3F; rfl; rfl; rfl; omega) | (apply w_eqS3; rfl; rfl; rfl) | (apply w_neS3; rfl; rfl; rfl) | (apply w_eqS2; rfl; rfl; rfl) | (apply w_neS2; rfl; rfl; rfl) | (apply w_maxL; rfl; rfl; rfl; omega) | (apply w_maxG; rfl; rfl; rfl; omega) | (apply w_max; rfl; rfl; rfl) | (apply w_neB; rfl; rfl; rfl; rfl) | (apply w_eqB; rfl; rfl; rfl; rfl) | (apply w_clM; rfl; rfl; exact hPl; (first | omega | (simp; omega) | simp); intro u hu; refine ⟨by (exact kmf), ?_⟩) | refine spl ?_ ?_ | intro hc)
      all_goals first | (exfalso; omega) | skip
      all_goals (refine At_ret1 (by (first | exact .inl rfl | exact .inr rfl)) Tryd.results21 rfl ⟨by rfl, rfl⟩ (by (exact frm)))
  · have hd : decide (la = lb) = false := decide_eq_false (fun e => hl (by rw [e]))
    rw [hd]
    have hll : ¬ (la.length : Int) = lb.length := by omega
    refine Fn2 Tryd.func21 rfl Tryd.ntmps21 rfl ?_
    (repeat' first | refine stp ?_ | intro v' hv' | intro (b : Nat) | (apply w_convU; rfl; rfl; omega; omega) | (apply w_convI; rfl; rfl; omega; omega) | (apply w_quoU; rfl; rfl; rfl; omega; omega; omega) | (apply w_remU; rfl; rfl; rfl; omega; omega) | (apply w_minL; rfl; rfl; rfl; omega) | (apply w_minG; rfl; rfl; rfl; omega) | (apply w_min; rfl; rfl; rfl) | (apply w_mfR; rfl; rfl) | (apply w_cvp; rfl; rfl; exact inferInstance; rfl; rfl; assumption) | (apply w_eqS2T; rfl; rfl; rfl; omega) | (apply w_eqS2F; rfl; rfl; rfl; omega) | (apply w_neS2T; rfl; rfl; rfl; omega) | (apply w_neS2F; rfl; rfl; rfl; omega) | (apply w_eqS3T; rfl; rfl; rfl; omega) | (apply w_eqS3F; rfl; rfl; rfl; omega) | (apply w_neS3T; rfl; rfl; rfl; omega) | (apply w_neS3F; rfl; rfl; rfl; omega) | (apply w_eqS3; rfl; rfl; rfl) | (apply w_neS3; rfl; rfl; rfl) | (apply w_eqS2; rfl; rfl; rfl) | (apply w_neS2; rfl; rfl; rfl) | (apply w_maxL; rfl; rfl; rfl; omega) | (apply w_maxG; rfl; rfl; rfl; omega) | (apply w_max; rfl; rfl; rfl) | (apply w_neB; rfl; rfl; rfl; rfl) | (apply w_eqB; rfl; rfl; rfl; rfl) | (apply w_clM; rfl; rfl; exact hPl; (first | omega | (simp; omega) | simp); intro u hu; refine ⟨by (exact kmf), ?_⟩) | refine spl ?_ ?_ | intro hc)
    all_goals first | (exfalso; omega) | skip
    all_goals (refine At_ret1 (by (first | exact .inl rfl | exact .inr rfl)) Tryd.results21 rfl ⟨by rfl, rfl⟩ (by (exact frm)))
end Go.Proofs.YtelmljbblklblaaDoor
