/- script: what a step is; kinds, number, Check. Conditions: none. -/
import Derived.Test.YteggkdlgailfoaaDoorSA
set_option linter.all false
set_option linter.deprecated false
namespace Go.Proofs.YteggkdlgailfoaaDoor
open Go.Sep
variable [B0 : Base]
instance : ArrAgg Tryd.prog 66 8 2 := ⟨by kernel_rfl⟩
/-- A step. -/
structure Stp where
  op : Int
  a0 : Int
  a1 : Int
  a2 : Int
  a3 : Int
  a4 : Int
  a5 : Int
def nums (x : Stp) : List Int := [x.a0, x.a1, x.a2, x.a3, x.a4, x.a5]
def stE (x : Stp) : List Value := [int x.op, int x.a0, int x.a1, int x.a2, int x.a3, int x.a4, int x.a5]
def sWd : Nat → ByteArray
  | 1 => ⟨#[103, 111]⟩
  | 2 => ⟨#[115, 112, 97, 119, 110]⟩
  | 3 => ⟨#[103, 114, 111, 117, 110, 100]⟩
  | 4 => ⟨#[115, 101, 116]⟩
  | 5 => ⟨#[109, 111, 118, 101]⟩
  | 6 => ⟨#[107, 105, 108, 108]⟩
  | 7 => ⟨#[108, 97, 116, 101]⟩
  | _ => ⟨#[]⟩
def sMany : Nat → Nat
  | 1 => 1
  | 2 => 6
  | 3 => 2
  | 4 => 4
  | 5 => 2
  | 6 => 1
  | 7 => 1
  | _ => 0
def sKinds : List Value := [.string ⟨#[]⟩, int 0, .string ⟨#[103, 111]⟩, int 1, .string ⟨#[115, 112, 97, 119, 110]⟩, int 6, .string ⟨#[103, 114, 111, 117, 110, 100]⟩, int 2, .string ⟨#[115, 101, 116]⟩, int 4, .string ⟨#[109, 111, 118, 101]⟩, int 2, .string ⟨#[107, 105, 108, 108]⟩, int 1, .string ⟨#[108, 97, 116, 101]⟩, int 1]
set_option maxHeartbeats 1000000 in
theorem sKinds_ok (R : List HP) : Called Tryd.prog 24 [] R (is (.agg sKinds.toArray) R) := by
  refine Fn0 Tryd.func24 rfl Tryd.ntmps24 ?_
  (repeat' first | refine stp ?_ | intro v' hv' | intro (b : Nat) | refine spl ?_ ?_ | intro hc)
  all_goals (apply At_retR (by (first | exact .inl rfl | exact .inr rfl)) Tryd.results24; ((focus ((repeat (first | exact ResR.nil | (apply ResR.tmp; rfl) | (apply ResR.one; rfl; (focus ((repeat (first | assumption | exact .pt rfl | exact .sl ‹_› rfl | exact .sl1 (by first | assumption | rfl) | apply Rd.there)); done))) | (apply ResR.agg; rfl; (focus ((repeat (first | assumption | exact .pt | exact .sl ‹_› | apply RdAll.there)); done)); rfl))); done))); (refine ⟨?_, rfl⟩; rfl); ((exact frm)))
def sW (i : Nat) : List UInt8 := (sWd i).data.toList
theorem str_sW (i : Nat) : Value.string (sWd i) = str (sW i) := by
  unfold sW
  show _ = Value.string ⟨(sWd i).data.toList.toArray⟩
  rw [Lib.mk_data]
theorem sKinds_row {k : Nat} (h : k ≤ 7) : (sKinds.drop (k * 2)).take 2 = [str (sW k), int ((sMany k : Nat) : Int)] := by
  rw [← str_sW]
  rcases (show k = 0 ∨ k = 1 ∨ k = 2 ∨ k = 3 ∨ k = 4 ∨ k = 5 ∨ k = 6 ∨ k = 7 by omega) with rfl | rfl | rfl | rfl | rfl | rfl | rfl | rfl <;> rfl
theorem sMany_le (k : Nat) : sMany k ≤ 6 := by unfold sMany; split <;> decide
/-! ### Numbers -/
def numB (n : Int) : Bool := decide (0 ≤ n ∧ n < 1099511627776)
theorem numB_iff {n : Int} : numB n = true ↔ 0 ≤ n ∧ n < 1099511627776 := by unfold numB; exact decide_eq_true_iff
set_option maxHeartbeats 1000000 in
theorem number_ok (n : Int) (R : List HP) : Called Tryd.prog 34 [int n] R (is (.bool (numB n)) R) := by
  unfold numB
  by_cases h0 : 0 ≤ n
  · by_cases h1 : n < 1099511627776
    · rw [decide_eq_true ⟨h0, h1⟩]
      refine Fn1 Tryd.func34 rfl Tryd.ntmps34 rfl ?_
      (repeat' first | refine stp ?_ | intro v' hv' | intro (b : Nat) | (apply w_convU; rfl; rfl; omega; omega) | (apply w_convI; rfl; rfl; omega; omega) | (apply w_quoU; rfl; rfl; rfl; omega; omega; omega) | (apply w_remU; rfl; rfl; rfl; omega; omega) | (apply w_minL; rfl; rfl; rfl; omega) | (apply w_minG; rfl; rfl; rfl; omega) | (apply w_min; rfl; rfl; rfl) | (apply w_mfR; rfl; rfl) | (apply w_cvp; rfl; rfl; exact inferInstance; rfl; rfl; assumption) | (apply w_eqS2T; rfl; rfl; rfl; omega) | (apply w_eqS2F; rfl; rfl; rfl; omega) | (apply w_neS2T; rfl; rfl; rfl; omega) | (apply w_neS2F; rfl; rfl; rfl; omega) | (apply w_eqS3T; rfl; rfl; rfl; omega) | (apply w_eqS3F; rfl; rfl; rfl; omega) | (apply w_neS3T; rfl; rfl; rfl; omega) | (apply w_neS3F; rfl; rfl; rfl; omega) | (apply w_eqS3; rfl; rfl; rfl) | (apply w_neS3; rfl; rfl; rfl) | (apply w_eqS2; rfl; rfl; rfl) | (apply w_neS2; rfl; rfl; rfl) | (apply w_maxL; rfl; rfl; rfl; omega) | (apply w_maxG; rfl; rfl; rfl; omega) | (apply w_max; rfl; rfl; rfl) | (apply w_neB; rfl; rfl; rfl; rfl) | (apply w_eqB; rfl; rfl; rfl; rfl) | refine spl ?_ ?_ | intro hc)
      all_goals first | (exfalso; omega) | skip
      all_goals (refine At_ret1 (by (first | exact .inl rfl | exact .inr rfl)) Tryd.results34 rfl ⟨by rfl, rfl⟩ (by (exact frm)))
    · rw [decide_eq_false (fun h => h1 h.2)]
      refine Fn1 Tryd.func34 rfl Tryd.ntmps34 rfl ?_
      (repeat' first | refine stp ?_ | intro v' hv' | intro (b : Nat) | (apply w_convU; rfl; rfl; omega; omega) | (apply w_convI; rfl; rfl; omega; omega) | (apply w_quoU; rfl; rfl; rfl; omega; omega; omega) | (apply w_remU; rfl; rfl; rfl; omega; omega) | (apply w_minL; rfl; rfl; rfl; omega) | (apply w_minG; rfl; rfl; rfl; omega) | (apply w_min; rfl; rfl; rfl) | (apply w_mfR; rfl; rfl) | (apply w_cvp; rfl; rfl; exact inferInstance; rfl; rfl; assumption) | (apply w_eqS2T; rfl; rfl; rfl; omega) | (apply w_eqS2F; rfl; rfl; rfl; omega) | (apply w_neS2T; rfl; rfl; rfl; omega) | (apply w_neS2F; rfl; rfl; rfl; omega) | (apply w_eqS3T; rfl; rfl; rfl; omega) | (apply w_eqS3F; rfl; rfl; rfl; omega) | (apply w_neS3T; rfl; rfl; rfl; omega) | (apply w_neS3F; rfl; rfl; rfl; omega) | (apply w_eqS3; rfl; rfl; rfl) | (apply w_neS3; rfl; rfl; rfl) | (apply w_eqS2; rfl; rfl; rfl) | (apply w_neS2; rfl; rfl; rfl) | (apply w_maxL; rfl; rfl; rfl; omega) | (apply w_maxG; rfl; rfl; rfl; omega) | (apply w_max; rfl; rfl; rfl) | (apply w_neB; rfl; rfl; rfl; rfl) | (apply w_eqB; rfl; rfl; rfl; rfl) | refine spl ?_ ?_ | intro hc)
      all_goals first | (exfalso; omega) | skip
      all_goals (refine At_ret1 (by (first | exact .inl rfl | exact .inr rfl)) Tryd.results34 rfl ⟨by rfl, rfl⟩ (by (exact frm)))
  · rw [decide_eq_false (fun h => h0 h.1)]
    refine Fn1 Tryd.func34 rfl Tryd.ntmps34 rfl ?_
    (repeat' first | refine stp ?_ | intro v' hv' | intro (b : Nat) | (apply w_convU; rfl; rfl; omega; omega) | (apply w_convI; rfl; rfl; omega; omega) | (apply w_quoU; rfl; rfl; rfl; omega; omega; omega) | (apply w_remU; rfl; rfl; rfl; omega; omega) | (apply w_minL; rfl; rfl; rfl; omega) | (apply w_minG; rfl; rfl; rfl; omega) | (apply w_min; rfl; rfl; rfl) | (apply w_mfR; rfl; rfl) | (apply w_cvp; rfl; rfl; exact inferInstance; rfl; rfl; assumption) | (apply w_eqS2T; rfl; rfl; rfl; omega) | (apply w_eqS2F; rfl; rfl; rfl; omega) | (apply w_neS2T; rfl; rfl; rfl; omega) | (apply w_neS2F; rfl; rfl; rfl; omega) | (apply w_eqS3T; rfl; rfl; rfl; omega) | (apply w_eqS3F; rfl; rfl; rfl; omega) | (apply w_neS3T; rfl; rfl; rfl; omega) | (apply w_neS3F; rfl; rfl; rfl; omega) | (apply w_eqS3; rfl; rfl; rfl) | (apply w_neS3; rfl; rfl; rfl) | (apply w_eqS2; rfl; rfl; rfl) | (apply w_neS2; rfl; rfl; rfl) | (apply w_maxL; rfl; rfl; rfl; omega) | (apply w_maxG; rfl; rfl; rfl; omega) | (apply w_max; rfl; rfl; rfl) | (apply w_neB; rfl; rfl; rfl; rfl) | (apply w_eqB; rfl; rfl; rfl; rfl) | refine spl ?_ ?_ | intro hc)
    all_goals first | (exfalso; omega) | skip
    all_goals (refine At_ret1 (by (first | exact .inl rfl | exact .inr rfl)) Tryd.results34 rfl ⟨by rfl, rfl⟩ (by (exact frm)))
set_option maxHeartbeats 1000000 in
theorem all1_ok (n : Int) (R : List HP) : Called Tryd.prog 45 [int n] R (is (.bool (!numB n)) R) := by
  refine Fn1 Tryd.func45 rfl Tryd.ntmps45 rfl ?_
  (repeat' first | refine stp ?_ | intro v' hv' | intro (b : Nat) | (apply w_convU; rfl; rfl; omega; omega) | (apply w_convI; rfl; rfl; omega; omega) | (apply w_quoU; rfl; rfl; rfl; omega; omega; omega) | (apply w_remU; rfl; rfl; rfl; omega; omega) | (apply w_minL; rfl; rfl; rfl; omega) | (apply w_minG; rfl; rfl; rfl; omega) | (apply w_min; rfl; rfl; rfl) | (apply w_mfR; rfl; rfl) | (apply w_cvp; rfl; rfl; exact inferInstance; rfl; rfl; assumption) | (apply w_eqS2T; rfl; rfl; rfl; omega) | (apply w_eqS2F; rfl; rfl; rfl; omega) | (apply w_neS2T; rfl; rfl; rfl; omega) | (apply w_neS2F; rfl; rfl; rfl; omega) | (apply w_eqS3T; rfl; rfl; rfl; omega) | (apply w_eqS3F; rfl; rfl; rfl; omega) | (apply w_neS3T; rfl; rfl; rfl; omega) | (apply w_neS3F; rfl; rfl; rfl; omega) | (apply w_eqS3; rfl; rfl; rfl) | (apply w_neS3; rfl; rfl; rfl) | (apply w_eqS2; rfl; rfl; rfl) | (apply w_neS2; rfl; rfl; rfl) | (apply w_maxL; rfl; rfl; rfl; omega) | (apply w_maxG; rfl; rfl; rfl; omega) | (apply w_max; rfl; rfl; rfl) | (apply w_neB; rfl; rfl; rfl; rfl) | (apply w_eqB; rfl; rfl; rfl; rfl) | (apply w_cp; rfl; rfl; exact number_ok _) | refine spl ?_ ?_ | intro hc)
  all_goals (refine At_ret1 (by (first | exact .inl rfl | exact .inr rfl)) Tryd.results45 rfl ⟨by rfl, rfl⟩ (by (exact frm)))
set_option maxHeartbeats 1000000 in
theorem Check1_ok (n : Int) (R : List HP) : Called Tryd.prog 25 [int n] R (is (.bool (decide (n ≠ 0))) R) := by
  by_cases h : n = 0
  · rw [decide_eq_false (by simpa using h)]
    refine Fn1 Tryd.func25 rfl Tryd.ntmps25 rfl ?_
    (repeat' first | refine stp ?_ | intro v' hv' | intro (b : Nat) | (apply w_convU; rfl; rfl; omega; omega) | (apply w_convI; rfl; rfl; omega; omega) | (apply w_quoU; rfl; rfl; rfl; omega; omega; omega) | (apply w_remU; rfl; rfl; rfl; omega; omega) | (apply w_minL; rfl; rfl; rfl; omega) | (apply w_minG; rfl; rfl; rfl; omega) | (apply w_min; rfl; rfl; rfl) | (apply w_mfR; rfl; rfl) | (apply w_cvp; rfl; rfl; exact inferInstance; rfl; rfl; assumption) | (apply w_eqS2T; rfl; rfl; rfl; omega) | (apply w_eqS2F; rfl; rfl; rfl; omega) | (apply w_neS2T; rfl; rfl; rfl; omega) | (apply w_neS2F; rfl; rfl; rfl; omega) | (apply w_eqS3T; rfl; rfl; rfl; omega) | (apply w_eqS3F; rfl; rfl; rfl; omega) | (apply w_neS3T; rfl; rfl; rfl; omega) | (apply w_neS3F; rfl; rfl; rfl; omega) | (apply w_eqS3; rfl; rfl; rfl) | (apply w_neS3; rfl; rfl; rfl) | (apply w_eqS2; rfl; rfl; rfl) | (apply w_neS2; rfl; rfl; rfl) | (apply w_maxL; rfl; rfl; rfl; omega) | (apply w_maxG; rfl; rfl; rfl; omega) | (apply w_max; rfl; rfl; rfl) | (apply w_neB; rfl; rfl; rfl; rfl) | (apply w_eqB; rfl; rfl; rfl; rfl) | (apply w_cp; rfl; rfl; exact number_ok _) | refine spl ?_ ?_ | intro hc)
    all_goals first | (exfalso; omega) | skip
    all_goals (refine At_ret1 (by (first | exact .inl rfl | exact .inr rfl)) Tryd.results25 rfl ⟨by rfl, rfl⟩ (by (exact frm)))
  · rw [decide_eq_true h]
    refine Fn1 Tryd.func25 rfl Tryd.ntmps25 rfl ?_
    (repeat' first | refine stp ?_ | intro v' hv' | intro (b : Nat) | (apply w_convU; rfl; rfl; omega; omega) | (apply w_convI; rfl; rfl; omega; omega) | (apply w_quoU; rfl; rfl; rfl; omega; omega; omega) | (apply w_remU; rfl; rfl; rfl; omega; omega) | (apply w_minL; rfl; rfl; rfl; omega) | (apply w_minG; rfl; rfl; rfl; omega) | (apply w_min; rfl; rfl; rfl) | (apply w_mfR; rfl; rfl) | (apply w_cvp; rfl; rfl; exact inferInstance; rfl; rfl; assumption) | (apply w_eqS2T; rfl; rfl; rfl; omega) | (apply w_eqS2F; rfl; rfl; rfl; omega) | (apply w_neS2T; rfl; rfl; rfl; omega) | (apply w_neS2F; rfl; rfl; rfl; omega) | (apply w_eqS3T; rfl; rfl; rfl; omega) | (apply w_eqS3F; rfl; rfl; rfl; omega) | (apply w_neS3T; rfl; rfl; rfl; omega) | (apply w_neS3F; rfl; rfl; rfl; omega) | (apply w_eqS3; rfl; rfl; rfl) | (apply w_neS3; rfl; rfl; rfl) | (apply w_eqS2; rfl; rfl; rfl) | (apply w_neS2; rfl; rfl; rfl) | (apply w_maxL; rfl; rfl; rfl; omega) | (apply w_maxG; rfl; rfl; rfl; omega) | (apply w_max; rfl; rfl; rfl) | (apply w_neB; rfl; rfl; rfl; rfl) | (apply w_eqB; rfl; rfl; rfl; rfl) | (apply w_cp; rfl; rfl; exact number_ok _) | refine spl ?_ ?_ | intro hc)
    all_goals first | (exfalso; omega) | skip
    all_goals (refine At_ret1 (by (first | exact .inl rfl | exact .inr rfl)) Tryd.results25 rfl ⟨by rfl, rfl⟩ (by (exact frm)))
def findI {α : Type} (p : α → Bool) (l : List α) : Int := match l.findIdx? p with
  | none => -1
  | some k => (k : Int)
theorem findI_none {α : Type} {p : α → Bool} {l : List α} (h : ∀ x ∈ l, p x = false) : findI p l = -1 := by
  unfold findI
  have : l.findIdx? p = none := List.findIdx?_eq_none_iff.2 h
  rw [this]
theorem findI_some {α : Type} {p : α → Bool} {l : List α} {k : Nat} {x : α} (hx : l[k]? = some x) (hp : p x = true) (h : ∀ y ∈ l.take k, p y = false) : findI p l = k := by
  unfold findI
  have : l.findIdx? p = some k := by
    obtain ⟨hk, rfl⟩ := List.getElem?_eq_some_iff.1 hx
    rw [List.findIdx?_eq_some_iff_getElem]
    refine ⟨hk, hp, fun j hj => ?_⟩
    have hjm : l[j] ∈ l.take k := List.mem_iff_getElem.2 ⟨j, by simp; omega, by simp⟩
    simp [h _ hjm]
  rw [this]
theorem findI_any {α : Type} (p : α → Bool) (l : List α) : (0 ≤ findI p l ↔ l.any p = true) := by
  unfold findI
  split
  · rename_i h
    have := List.findIdx?_eq_none_iff.1 h
    constructor
    · intro h; omega
    · intro h
      obtain ⟨x, hx, hp⟩ := List.any_eq_true.1 h
      rw [this x hx] at hp; cases hp
  · rename_i k hk
    obtain ⟨h1, h2, -⟩ := List.findIdx?_eq_some_iff_getElem.1 hk
    exact ⟨fun _ => List.any_eq_true.2 ⟨_, List.getElem_mem h1, h2⟩, fun _ => by omega⟩
set_option maxHeartbeats 2000000 in
theorem IndexFunc_ok (v fv : Value) (l : List Int) (p : Int → Bool) (R : List HP) (hv : IsSl v l.length) (hs : Sep.Src R v 1 (l.map fun n => [int n])) (hp : ∀ x ∈ l, Does Tryd.prog fv [int x] R (is (.bool (p x)) R)) :
    Called Tryd.prog 46 [v, fv] R (is (int (findI p l)) R) := by
  have hN := hv.len
  refine Fn2 Tryd.func46 rfl Tryd.ntmps46 rfl ?_
  (repeat' first | refine stp ?_ | intro v' hv' | intro (b : Nat) | (apply w_convU; rfl; rfl; omega; omega) | (apply w_convI; rfl; rfl; omega; omega) | (apply w_quoU; rfl; rfl; rfl; omega; omega; omega) | (apply w_remU; rfl; rfl; rfl; omega; omega) | (apply w_minL; rfl; rfl; rfl; omega) | (apply w_minG; rfl; rfl; rfl; omega) | (apply w_min; rfl; rfl; rfl) | (apply w_mfR; rfl; rfl) | (apply w_cvp; rfl; rfl; exact inferInstance; rfl; rfl; assumption) | (apply w_eqS2T; rfl; rfl; rfl; omega) | (apply w_eqS2F; rfl; rfl; rfl; omega) | (apply w_neS2T; rfl; rfl; rfl; omega) | (apply w_neS2F; rfl; rfl; rfl; omega) | (apply w_eqS3T; rfl; rfl; rfl; omega) | (apply w_eqS3F; rfl; rfl; rfl; omega) | (apply w_neS3T; rfl; rfl; rfl; omega) | (apply w_neS3F; rfl; rfl; rfl; omega) | (apply w_eqS3; rfl; rfl; rfl) | (apply w_neS3; rfl; rfl; rfl) | (apply w_eqS2; rfl; rfl; rfl) | (apply w_neS2; rfl; rfl; rfl) | (apply w_maxL; rfl; rfl; rfl; omega) | (apply w_maxG; rfl; rfl; rfl; omega) | (apply w_max; rfl; rfl; rfl) | (apply w_neB; rfl; rfl; rfl; rfl) | (apply w_eqB; rfl; rfl; rfl; rfl) | (apply w_cvD; rfl; rfl; rfl; exact hq) | refine spl ?_ ?_ | intro hc)
  refine C_loopK [4, 5, 8, 9, 10, 11, 12, 13, 14, 15, 16, 17, 18] (fun k : Nat => l.length - k) (fun k => [(8, int k)]) (fun _ => R) (fun k => k ≤ l.length ∧ ∀ x ∈ l.take k, p x = false) 0 ⟨Nat.zero_le _, by simp⟩ (by (focus ((repeat (first | exact Keep.nil | apply Keep.drop rfl | apply Keep.keep rfl)); done))) (by (exact sbf)) (by (exact frm)) ?_
  rintro k ⟨hk, hz⟩
  dsimp only [List.cons_append, List.nil_append]
  by_cases hlt : k < l.length
  · have hx : l[k]? = some l[k] := by simp [hlt]
    have hra : Rd R ⟨vb v, vo v + k * 1 + 0, none⟩ (int l[k]) := Rd.src hs (i := k) (e := [int l[k]]) (by simp [hlt]) rfl
    rw [Nat.add_zero] at hra
    have hq := hp _ (List.mem_of_getElem? hx)
    have htk : l.take (k + 1) = l.take k ++ [l[k]] := by rw [List.take_add_one]; simp [hlt]
    generalize l[k] = x at *
    cases hpx : p x with
    | true =>
      rw [hpx] at hq
      rw [findI_some hx hpx hz]
      (repeat' first | refine stp ?_ | intro v' hv' | intro (b : Nat) | (apply w_convU; rfl; rfl; omega; omega) | (apply w_convI; rfl; rfl; omega; omega) | (apply w_quoU; rfl; rfl; rfl; omega; omega; omega) | (apply w_remU; rfl; rfl; rfl; omega; omega) | (apply w_minL; rfl; rfl; rfl; omega) | (apply w_minG; rfl; rfl; rfl; omega) | (apply w_min; rfl; rfl; rfl) | (apply w_mfR; rfl; rfl) | (apply w_cvp; rfl; rfl; exact inferInstance; rfl; rfl; assumption) | (apply w_eqS2T; rfl; rfl; rfl; omega) | (apply w_eqS2F; rfl; rfl; rfl; omega) | (apply w_neS2T; rfl; rfl; rfl; omega) | (apply w_neS2F; rfl; rfl; rfl; omega) | (apply w_eqS3T; rfl; rfl; rfl; omega) | (apply w_eqS3F; rfl; rfl; rfl; omega) | (apply w_neS3T; rfl; rfl; rfl; omega) | (apply w_neS3F; rfl; rfl; rfl; omega) | (apply w_eqS3; rfl; rfl; rfl) | (apply w_neS3; rfl; rfl; rfl) | (apply w_eqS2; rfl; rfl; rfl) | (apply w_neS2; rfl; rfl; rfl) | (apply w_maxL; rfl; rfl; rfl; omega) | (apply w_maxG; rfl; rfl; rfl; omega) | (apply w_max; rfl; rfl; rfl) | (apply w_neB; rfl; rfl; rfl; rfl) | (apply w_eqB; rfl; rfl; rfl; rfl) | (apply w_cvD; rfl; rfl; rfl; exact hq) | refine spl ?_ ?_ | intro hc)
      all_goals (refine At_ret1 (by (first | exact .inl rfl | exact .inr rfl)) Tryd.results46 rfl ⟨by rfl, rfl⟩ (by (exact frm)))
    | false =>
      rw [hpx] at hq
      (repeat' first | refine stp ?_ | intro v' hv' | intro (b : Nat) | (apply w_convU; rfl; rfl; omega; omega) | (apply w_convI; rfl; rfl; omega; omega) | (apply w_quoU; rfl; rfl; rfl; omega; omega; omega) | (apply w_remU; rfl; rfl; rfl; omega; omega) | (apply w_minL; rfl; rfl; rfl; omega) | (apply w_minG; rfl; rfl; rfl; omega) | (apply w_min; rfl; rfl; rfl) | (apply w_mfR; rfl; rfl) | (apply w_cvp; rfl; rfl; exact inferInstance; rfl; rfl; assumption) | (apply w_eqS2T; rfl; rfl; rfl; omega) | (apply w_eqS2F; rfl; rfl; rfl; omega) | (apply w_neS2T; rfl; rfl; rfl; omega) | (apply w_neS2F; rfl; rfl; rfl; omega) | (apply w_eqS3T; rfl; rfl; rfl; omega) | (apply w_eqS3F; rfl; rfl; rfl; omega) | (apply w_neS3T; rfl; rfl; rfl; omega) | (apply w_neS3F; rfl; rfl; rfl; omega) | (apply w_eqS3; rfl; rfl; rfl) | (apply w_neS3; rfl; rfl; rfl) | (apply w_eqS2; rfl; rfl; rfl) | (apply w_neS2; rfl; rfl; rfl) | (apply w_maxL; rfl; rfl; rfl; omega) | (apply w_maxG; rfl; rfl; rfl; omega) | (apply w_max; rfl; rfl; rfl) | (apply w_neB; rfl; rfl; rfl; rfl) | (apply w_eqB; rfl; rfl; rfl; rfl) | (apply w_cvD; rfl; rfl; rfl; exact hq) | refine spl ?_ ?_ | intro hc)
      refine At_againK (k + 1) ⟨hlt, ?_⟩ (by omega) (by (exact sbf)) (by (exact sbf)) (by (exact frm))
      intro y hy
      rw [htk] at hy
      rcases List.mem_append.1 hy with hy | hy
      · exact hz y hy
      · simp at hy; subst hy; exact hpx
  · have hk' : k = l.length := by omega
    subst hk'
    rw [List.take_length] at hz
    rw [findI_none hz]
    (repeat' first | refine stp ?_ | intro v' hv' | intro (b : Nat) | (apply w_convU; rfl; rfl; omega; omega) | (apply w_convI; rfl; rfl; omega; omega) | (apply w_quoU; rfl; rfl; rfl; omega; omega; omega) | (apply w_remU; rfl; rfl; rfl; omega; omega) | (apply w_minL; rfl; rfl; rfl; omega) | (apply w_minG; rfl; rfl; rfl; omega) | (apply w_min; rfl; rfl; rfl) | (apply w_mfR; rfl; rfl) | (apply w_cvp; rfl; rfl; exact inferInstance; rfl; rfl; assumption) | (apply w_eqS2T; rfl; rfl; rfl; omega) | (apply w_eqS2F; rfl; rfl; rfl; omega) | (apply w_neS2T; rfl; rfl; rfl; omega) | (apply w_neS2F; rfl; rfl; rfl; omega) | (apply w_eqS3T; rfl; rfl; rfl; omega) | (apply w_eqS3F; rfl; rfl; rfl; omega) | (apply w_neS3T; rfl; rfl; rfl; omega) | (apply w_neS3F; rfl; rfl; rfl; omega) | (apply w_eqS3; rfl; rfl; rfl) | (apply w_neS3; rfl; rfl; rfl) | (apply w_eqS2; rfl; rfl; rfl) | (apply w_neS2; rfl; rfl; rfl) | (apply w_maxL; rfl; rfl; rfl; omega) | (apply w_maxG; rfl; rfl; rfl; omega) | (apply w_max; rfl; rfl; rfl) | (apply w_neB; rfl; rfl; rfl; rfl) | (apply w_eqB; rfl; rfl; rfl; rfl) | (apply w_cvD; rfl; rfl; rfl; exact hq) | refine spl ?_ ?_ | intro hc)
    all_goals (refine At_ret1 (by (first | exact .inl rfl | exact .inr rfl)) Tryd.results46 rfl ⟨by rfl, rfl⟩ (by (exact frm)))
set_option maxHeartbeats 2000000 in
theorem ContainsFunc_ok (v fv : Value) (l : List Int) (p : Int → Bool) (R : List HP) (hv : IsSl v l.length) (hs : Sep.Src R v 1 (l.map fun n => [int n])) (hp : ∀ x ∈ l, Does Tryd.prog fv [int x] R (is (.bool (p x)) R)) :
    Called Tryd.prog 23 [v, fv] R (is (.bool (l.any p)) R) := by
  have hI := IndexFunc_ok v fv l p R hv hs hp
  have hA := findI_any p l
  generalize findI p l = z at *
  cases hap : l.any p with
  | true =>
    have := hA.2 hap
    refine Fn2 Tryd.func23 rfl Tryd.ntmps23 rfl ?_
    (repeat' first | refine stp ?_ | intro v' hv' | intro (b : Nat) | (apply w_convU; rfl; rfl; omega; omega) | (apply w_convI; rfl; rfl; omega; omega) | (apply w_quoU; rfl; rfl; rfl; omega; omega; omega) | (apply w_remU; rfl; rfl; rfl; omega; omega) | (apply w_minL; rfl; rfl; rfl; omega) | (apply w_minG; rfl; rfl; rfl; omega) | (apply w_min; rfl; rfl; rfl) | (apply w_mfR; rfl; rfl) | (apply w_cvp; rfl; rfl; exact inferInstance; rfl; rfl; assumption) | (apply w_eqS2T; rfl; rfl; rfl; omega) | (apply w_eqS2F; rfl; rfl; rfl; omega) | (apply w_neS2T; rfl; rfl; rfl; omega) | (apply w_neS2F; rfl; rfl; rfl; omega) | (apply w_eqS3T; rfl; rfl; rfl; omega) | (apply w_eqS3F; rfl; rfl; rfl; omega) | (apply w_neS3T; rfl; rfl; rfl; omega) | (apply w_neS3F; rfl; rfl; rfl; omega) | (apply w_eqS3; rfl; rfl; rfl) | (apply w_neS3; rfl; rfl; rfl) | (apply w_eqS2; rfl; rfl; rfl) | (apply w_neS2; rfl; rfl; rfl) | (apply w_maxL; rfl; rfl; rfl; omega) | (apply w_maxG; rfl; rfl; rfl; omega) | (apply w_max; rfl; rfl; rfl) | (apply w_neB; rfl; rfl; rfl; rfl) | (apply w_eqB; rfl; rfl; rfl; rfl) | (apply w_cd; rfl; rfl; exact hI; ((exact kmf))) | refine spl ?_ ?_ | intro hc)
    all_goals first | (exfalso; omega) | skip
    all_goals (refine At_ret1 (by (first | exact .inl rfl | exact .inr rfl)) Tryd.results23 rfl ⟨by rfl, rfl⟩ (by (exact frm)))
  | false =>
    have : ¬ 0 ≤ z := fun h => by rw [hA.1 h] at hap; cases hap
    refine Fn2 Tryd.func23 rfl Tryd.ntmps23 rfl ?_
    (repeat' first | refine stp ?_ | intro v' hv' | intro (b : Nat) | (apply w_convU; rfl; rfl; omega; omega) | (apply w_convI; rfl; rfl; omega; omega) | (apply w_quoU; rfl; rfl; rfl; omega; omega; omega) | (apply w_remU; rfl; rfl; rfl; omega; omega) | (apply w_minL; rfl; rfl; rfl; omega) | (apply w_minG; rfl; rfl; rfl; omega) | (apply w_min; rfl; rfl; rfl) | (apply w_mfR; rfl; rfl) | (apply w_cvp; rfl; rfl; exact inferInstance; rfl; rfl; assumption) | (apply w_eqS2T; rfl; rfl; rfl; omega) | (apply w_eqS2F; rfl; rfl; rfl; omega) | (apply w_neS2T; rfl; rfl; rfl; omega) | (apply w_neS2F; rfl; rfl; rfl; omega) | (apply w_eqS3T; rfl; rfl; rfl; omega) | (apply w_eqS3F; rfl; rfl; rfl; omega) | (apply w_neS3T; rfl; rfl; rfl; omega) | (apply w_neS3F; rfl; rfl; rfl; omega) | (apply w_eqS3; rfl; rfl; rfl) | (apply w_neS3; rfl; rfl; rfl) | (apply w_eqS2; rfl; rfl; rfl) | (apply w_neS2; rfl; rfl; rfl) | (apply w_maxL; rfl; rfl; rfl; omega) | (apply w_maxG; rfl; rfl; rfl; omega) | (apply w_max; rfl; rfl; rfl) | (apply w_neB; rfl; rfl; rfl; rfl) | (apply w_eqB; rfl; rfl; rfl; rfl) | (apply w_cd; rfl; rfl; exact hI; ((exact kmf))) | refine spl ?_ ?_ | intro hc)
    all_goals first | (exfalso; omega) | skip
    all_goals (refine At_ret1 (by (first | exact .inl rfl | exact .inr rfl)) Tryd.results23 rfl ⟨by rfl, rfl⟩ (by (exact frm)))
theorem all_any : ∀ l : List Int, l.all numB = !(l.any fun n => !numB n)
  | [] => rfl
  | a :: l => by rw [List.all_cons, List.any_cons, all_any l]; cases numB a <;> simp
set_option maxHeartbeats 2000000 in
theorem all_ok (v : Value) (l : List Int) (R : List HP) (hv : IsSl v l.length) (hs : Sep.Src R v 1 (l.map fun n => [int n])) : Called Tryd.prog 22 [v] R (is (.bool (l.all numB)) R) := by
  have hC := ContainsFunc_ok v (.func (.func 45) #[] #[]) l (fun n => !numB n) R hv hs (fun x _ => Does.func (fs := []) (cs := []) (CanEnter.out (P := Tryd.prog) (f := 45)) (all1_ok x R))
  rw [all_any l]
  generalize (l.any fun n => !numB n) = c at *
  refine Fn1 Tryd.func22 rfl Tryd.ntmps22 rfl ?_
  (repeat' first | refine stp ?_ | intro v' hv' | intro (b : Nat) | (apply w_convU; rfl; rfl; omega; omega) | (apply w_convI; rfl; rfl; omega; omega) | (apply w_quoU; rfl; rfl; rfl; omega; omega; omega) | (apply w_remU; rfl; rfl; rfl; omega; omega) | (apply w_minL; rfl; rfl; rfl; omega) | (apply w_minG; rfl; rfl; rfl; omega) | (apply w_min; rfl; rfl; rfl) | (apply w_mfR; rfl; rfl) | (apply w_cvp; rfl; rfl; exact inferInstance; rfl; rfl; assumption) | (apply w_eqS2T; rfl; rfl; rfl; omega) | (apply w_eqS2F; rfl; rfl; rfl; omega) | (apply w_neS2T; rfl; rfl; rfl; omega) | (apply w_neS2F; rfl; rfl; rfl; omega) | (apply w_eqS3T; rfl; rfl; rfl; omega) | (apply w_eqS3F; rfl; rfl; rfl; omega) | (apply w_neS3T; rfl; rfl; rfl; omega) | (apply w_neS3F; rfl; rfl; rfl; omega) | (apply w_eqS3; rfl; rfl; rfl) | (apply w_neS3; rfl; rfl; rfl) | (apply w_eqS2; rfl; rfl; rfl) | (apply w_neS2; rfl; rfl; rfl) | (apply w_maxL; rfl; rfl; rfl; omega) | (apply w_maxG; rfl; rfl; rfl; omega) | (apply w_max; rfl; rfl; rfl) | (apply w_neB; rfl; rfl; rfl; rfl) | (apply w_eqB; rfl; rfl; rfl; rfl) | (apply w_cd; rfl; rfl; exact hC; ((exact kmf))) | refine spl ?_ ?_ | intro hc)
  all_goals (refine At_ret1 (by (first | exact .inl rfl | exact .inr rfl)) Tryd.results22 rfl ⟨by rfl, rfl⟩ (by (exact frm)))
end Go.Proofs.YteggkdlgailfoaaDoor
