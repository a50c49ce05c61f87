/- prog: what an instruction may be, and a program. Conditions: none. -/
import Derived.Test.YteggkdlgailfoaaDoorRows
import Derived.Test.YteggkdlgailfoaaDoorTab
import Derived.Test.YteggkdlgailfoaaDoorMorc
set_option linter.all false
set_option linter.deprecated false
namespace Go.Proofs.YteggkdlgailfoaaDoor
open Go.Sep
variable [B0 : Base]
abbrev int (i : Int) : Value := .int .i64 i
instance : BoolT Tryd.prog 4 := ⟨by kernel_rfl⟩
instance : ArrAgg Tryd.prog 125 10 3 := ⟨by kernel_rfl⟩
structure Ins where
  op : Int
  n : Int
def insE (x : Ins) : List Value := [int x.op, int x.n]
/-- The words, by number. -/
def kWd : Nat → ByteArray
  | 1 => ⟨#[99, 111, 109, 112, 117, 116, 101]⟩
  | 2 => ⟨#[108, 111, 99, 107]⟩
  | 3 => ⟨#[116, 114, 121]⟩
  | 4 => ⟨#[117, 110, 108, 111, 99, 107]⟩
  | 5 => ⟨#[115, 108, 101, 101, 112]⟩
  | 6 => ⟨#[119, 97, 105, 116]⟩
  | 7 => ⟨#[121, 105, 101, 108, 100]⟩
  | 8 => ⟨#[115, 112, 97, 119, 110]⟩
  | 9 => ⟨#[101, 120, 105, 116]⟩
  | _ => ⟨#[]⟩
def kLo (o : Int) : Int := if o = 1 ∨ o = 5 then 1 else 0
def kHi (o : Int) : Int := if o = 1 ∨ o = 5 then 1099511627775 else if o = 2 ∨ o = 3 ∨ o = 4 then 31 else if o = 8 then 63 else 0
def krow (i : Nat) : List Value := [.string (kWd i), int (kLo i), int (kHi i)]
def kindsL : List Value := [.string ⟨#[]⟩, int 0, int 0, .string ⟨#[99, 111, 109, 112, 117, 116, 101]⟩, int 1, int 1099511627775, .string ⟨#[108, 111, 99, 107]⟩, int 0, int 31, .string ⟨#[116, 114, 121]⟩, int 0, int 31, .string ⟨#[117, 110, 108, 111, 99, 107]⟩, int 0, int 31, .string ⟨#[115, 108, 101, 101, 112]⟩, int 1, int 1099511627775, .string ⟨#[119, 97, 105, 116]⟩, int 0, int 0, .string ⟨#[121, 105, 101, 108, 100]⟩, int 0, int 0, .string ⟨#[115, 112, 97, 119, 110]⟩, int 0, int 63, .string ⟨#[101, 120, 105, 116]⟩, int 0, int 0]
set_option maxHeartbeats 1000000 in
theorem kinds_ok (R : List HP) : Called Tryd.prog 74 [] R (is (.agg kindsL.toArray) R) := by
  refine Fn0 Tryd.func74 rfl Tryd.ntmps74 ?_
  (repeat' first | refine stp ?_ | intro v' hv' | intro (b : Nat) | refine spl ?_ ?_ | intro hc)
  all_goals (apply At_retR (by (first | exact .inl rfl | exact .inr rfl)) Tryd.results74; ((focus ((repeat (first | exact ResR.nil | (apply ResR.tmp; rfl) | (apply ResR.one; rfl; (focus ((repeat (first | assumption | exact .pt rfl | exact .sl ‹_› rfl | exact .sl1 (by first | assumption | rfl) | apply Rd.there)); done))) | (apply ResR.agg; rfl; (focus ((repeat (first | assumption | exact .pt | exact .sl ‹_› | apply RdAll.there)); done)); rfl))); done))); (refine ⟨?_, rfl⟩; rfl); ((exact frm)))
theorem kindsL_row {o : Int} (h1 : 1 ≤ o) (h2 : o ≤ 9) : (kindsL.drop (o.toNat * 3)).take 3 = krow o.toNat := by
  obtain ⟨k, rfl⟩ := Int.eq_ofNat_of_zero_le (show 0 ≤ o by omega)
  rcases (show k = 1 ∨ k = 2 ∨ k = 3 ∨ k = 4 ∨ k = 5 ∨ k = 6 ∨ k = 7 ∨ k = 8 ∨ k = 9 by omega) with rfl | rfl | rfl | rfl | rfl | rfl | rfl | rfl | rfl <;> rfl
/-- What is wrong with an instruction. -/
def mayE (x : Ins) : Int := if x.op < 1 ∨ 9 < x.op then 1 else if x.n < kLo x.op ∨ kHi x.op < x.n then 10 else 0
set_option maxHeartbeats 2000000 in
theorem May_ok (x : Ins) (R : List HP) : Called Tryd.prog 73 [.agg (insE x).toArray] R (is (int (mayE x)) R) := by
  obtain ⟨op, n⟩ := x
  unfold mayE insE
  dsimp only
  by_cases h : op < 1 ∨ 9 < op
  · rw [if_pos h]
    refine Fn1 Tryd.func73 rfl Tryd.ntmps73 rfl ?_
    (repeat' first | refine C_drawI (id := 3) [some 12] [1, 2, 0, 3, 4, 5] (by kernel_rfl) (by kernel_rfl) (by kernel_rfl) rfl ?_ | refine stp ?_ | intro v' hv' | intro (b : Nat) | (apply w_convU; rfl; rfl; omega; omega) | (apply w_convI; rfl; rfl; omega; omega) | (apply w_quoU; rfl; rfl; rfl; omega; omega; omega) | (apply w_remU; rfl; rfl; rfl; omega; omega) | (apply w_minL; rfl; rfl; rfl; omega) | (apply w_minG; rfl; rfl; rfl; omega) | (apply w_min; rfl; rfl; rfl) | (apply w_mfR; rfl; rfl) | (apply w_cvp; rfl; rfl; exact inferInstance; rfl; rfl; assumption) | (apply w_eqS2T; rfl; rfl; rfl; omega) | (apply w_eqS2F; rfl; rfl; rfl; omega) | (apply w_neS2T; rfl; rfl; rfl; omega) | (apply w_neS2F; rfl; rfl; rfl; omega) | (apply w_eqS3T; rfl; rfl; rfl; omega) | (apply w_eqS3F; rfl; rfl; rfl; omega) | (apply w_neS3T; rfl; rfl; rfl; omega) | (apply w_neS3F; rfl; rfl; rfl; omega) | (apply w_eqS3; rfl; rfl; rfl) | (apply w_neS3; rfl; rfl; rfl) | (apply w_eqS2; rfl; rfl; rfl) | (apply w_neS2; rfl; rfl; rfl) | (apply w_maxL; rfl; rfl; rfl; omega) | (apply w_maxG; rfl; rfl; rfl; omega) | (apply w_max; rfl; rfl; rfl) | (apply w_neB; rfl; rfl; rfl; rfl) | (apply w_eqB; rfl; rfl; rfl; rfl) | (apply w_fldV; rfl; rfl; rfl) | (apply w_ixA; rfl; rfl; rfl; omega; omega; assumption) | (apply w_cp; rfl; rfl; first | assumption | exact kinds_ok) | refine spl ?_ ?_ | intro hc)
    all_goals first | (exfalso; omega) | skip
    all_goals (refine At_ret1 (by (first | exact .inl rfl | exact .inr rfl)) Tryd.results73 rfl ⟨by rfl, rfl⟩ (by (exact frm)))
  · rw [if_neg h]
    have hr := kindsL_row (o := op) (by omega) (by omega)
    unfold krow at hr
    have ho : ((op.toNat : Nat) : Int) = op := by omega
    rw [ho] at hr
    refine Fn1 Tryd.func73 rfl Tryd.ntmps73 rfl ?_
    (repeat' first | refine C_drawI (id := 3) [some 12] [1, 2, 0, 3, 4, 5] (by kernel_rfl) (by kernel_rfl) (by kernel_rfl) rfl ?_ | refine stp ?_ | intro v' hv' | intro (b : Nat) | (apply w_convU; rfl; rfl; omega; omega) | (apply w_convI; rfl; rfl; omega; omega) | (apply w_quoU; rfl; rfl; rfl; omega; omega; omega) | (apply w_remU; rfl; rfl; rfl; omega; omega) | (apply w_minL; rfl; rfl; rfl; omega) | (apply w_minG; rfl; rfl; rfl; omega) | (apply w_min; rfl; rfl; rfl) | (apply w_mfR; rfl; rfl) | (apply w_cvp; rfl; rfl; exact inferInstance; rfl; rfl; assumption) | (apply w_eqS2T; rfl; rfl; rfl; omega) | (apply w_eqS2F; rfl; rfl; rfl; omega) | (apply w_neS2T; rfl; rfl; rfl; omega) | (apply w_neS2F; rfl; rfl; rfl; omega) | (apply w_eqS3T; rfl; rfl; rfl; omega) | (apply w_eqS3F; rfl; rfl; rfl; omega) | (apply w_neS3T; rfl; rfl; rfl; omega) | (apply w_neS3F; rfl; rfl; rfl; omega) | (apply w_eqS3; rfl; rfl; rfl) | (apply w_neS3; rfl; rfl; rfl) | (apply w_eqS2; rfl; rfl; rfl) | (apply w_neS2; rfl; rfl; rfl) | (apply w_maxL; rfl; rfl; rfl; omega) | (apply w_maxG; rfl; rfl; rfl; omega) | (apply w_max; rfl; rfl; rfl) | (apply w_neB; rfl; rfl; rfl; rfl) | (apply w_eqB; rfl; rfl; rfl; rfl) | (apply w_fldV; rfl; rfl; rfl) | (apply w_ixA; rfl; rfl; rfl; omega; omega; assumption) | (apply w_cp; rfl; rfl; first | assumption | exact kinds_ok) | refine spl ?_ ?_ | intro hc)
    all_goals (refine At_ret1 (by (first | exact .inl rfl | exact .inr rfl)) Tryd.results73 rfl ⟨by (congr 1; first | (rw [if_pos (by omega)]; done) | (rw [if_neg (by omega)]; done)), rfl⟩ (by (exact frm)))
/-- What is wrong with a program. -/
def progE (l : List Ins) : Int := if 64 < l.length then 13 else ((l.map mayE).find? (fun e => e != 0)).getD 0
theorem RdAll.srcI {L : List HP} {x : Value} {n : Nat} {es : List (List Value)} (h : Src L x n es) {i : Nat} {e : List Value} (h1 : es[i]? = some e) : RdAll L (vb x) (vo x + i * n) e := RdAll.at fun k u hk => Rd.src h h1 hk
set_option maxHeartbeats 2000000 in
theorem Check_ok (v : Value) (l : List Ins) (R : List HP) (hv : IsSl v l.length) (hs : Src R v 2 (l.map insE)) : Called Tryd.prog 56 [v] R (is (int (progE l)) R) := by
  have hN := hv.len
  unfold progE
  by_cases h64 : 64 < l.length
  · rw [if_pos h64]
    refine Fn1 Tryd.func56 rfl Tryd.ntmps56 rfl ?_
    (repeat' first | refine stp ?_ | intro v' hv' | intro (b : Nat) | (apply w_convU; rfl; rfl; omega; omega) | (apply w_convI; rfl; rfl; omega; omega) | (apply w_quoU; rfl; rfl; rfl; omega; omega; omega) | (apply w_remU; rfl; rfl; rfl; omega; omega) | (apply w_minL; rfl; rfl; rfl; omega) | (apply w_minG; rfl; rfl; rfl; omega) | (apply w_min; rfl; rfl; rfl) | (apply w_mfR; rfl; rfl) | (apply w_cvp; rfl; rfl; exact inferInstance; rfl; rfl; assumption) | (apply w_eqS2T; rfl; rfl; rfl; omega) | (apply w_eqS2F; rfl; rfl; rfl; omega) | (apply w_neS2T; rfl; rfl; rfl; omega) | (apply w_neS2F; rfl; rfl; rfl; omega) | (apply w_eqS3T; rfl; rfl; rfl; omega) | (apply w_eqS3F; rfl; rfl; rfl; omega) | (apply w_neS3T; rfl; rfl; rfl; omega) | (apply w_neS3F; rfl; rfl; rfl; omega) | (apply w_eqS3; rfl; rfl; rfl) | (apply w_neS3; rfl; rfl; rfl) | (apply w_eqS2; rfl; rfl; rfl) | (apply w_neS2; rfl; rfl; rfl) | (apply w_maxL; rfl; rfl; rfl; omega) | (apply w_maxG; rfl; rfl; rfl; omega) | (apply w_max; rfl; rfl; rfl) | (apply w_neB; rfl; rfl; rfl; rfl) | (apply w_eqB; rfl; rfl; rfl; rfl) | (apply w_cp; rfl; rfl; first | assumption | exact May_ok _) | refine spl ?_ ?_ | intro hc)
    all_goals (refine At_ret1 (by (first | exact .inl rfl | exact .inr rfl)) Tryd.results56 rfl ⟨by rfl, rfl⟩ (by (exact frm)))
  · rw [if_neg h64]
    refine Fn1 Tryd.func56 rfl Tryd.ntmps56 rfl ?_
    (repeat' first | refine stp ?_ | intro v' hv' | intro (b : Nat) | (apply w_convU; rfl; rfl; omega; omega) | (apply w_convI; rfl; rfl; omega; omega) | (apply w_quoU; rfl; rfl; rfl; omega; omega; omega) | (apply w_remU; rfl; rfl; rfl; omega; omega) | (apply w_minL; rfl; rfl; rfl; omega) | (apply w_minG; rfl; rfl; rfl; omega) | (apply w_min; rfl; rfl; rfl) | (apply w_mfR; rfl; rfl) | (apply w_cvp; rfl; rfl; exact inferInstance; rfl; rfl; assumption) | (apply w_eqS2T; rfl; rfl; rfl; omega) | (apply w_eqS2F; rfl; rfl; rfl; omega) | (apply w_neS2T; rfl; rfl; rfl; omega) | (apply w_neS2F; rfl; rfl; rfl; omega) | (apply w_eqS3T; rfl; rfl; rfl; omega) | (apply w_eqS3F; rfl; rfl; rfl; omega) | (apply w_neS3T; rfl; rfl; rfl; omega) | (apply w_neS3F; rfl; rfl; rfl; omega) | (apply w_eqS3; rfl; rfl; rfl) | (apply w_neS3; rfl; rfl; rfl) | (apply w_eqS2; rfl; rfl; rfl) | (apply w_neS2; rfl; rfl; rfl) | (apply w_maxL; rfl; rfl; rfl; omega) | (apply w_maxG; rfl; rfl; rfl; omega) | (apply w_max; rfl; rfl; rfl) | (apply w_neB; rfl; rfl; rfl; rfl) | (apply w_eqB; rfl; rfl; rfl; rfl) | (apply w_cp; rfl; rfl; first | assumption | exact May_ok _) | refine spl ?_ ?_ | intro hc)
    refine C_loopK [2, 4, 5, 11, 12, 13, 14, 15, 16, 17, 18, 19, 20] (fun k : Nat => l.length - k) (fun k => [(11, int k)]) (fun _ => R) (fun k => k ≤ l.length ∧ ∀ x ∈ l.take k, mayE x = 0) 0 ⟨Nat.zero_le _, by simp⟩ (by (focus ((repeat (first | exact Keep.nil | apply Keep.drop rfl | apply Keep.keep rfl)); done))) (by (exact sbf)) (by (exact frm)) ?_
    rintro k ⟨hk, hz⟩
    dsimp only [List.cons_append, List.nil_append]
    by_cases hlt : k < l.length
    · have hra : RdAll R (vb v) (vo v + k * 2) (insE l[k]) := RdAll.srcI hs (by simp [hlt])
      have hM := May_ok l[k]
      by_cases hm : mayE l[k] = 0
      · rw [hm] at hM
        (repeat' first | refine stp ?_ | intro v' hv' | intro (b : Nat) | (apply w_convU; rfl; rfl; omega; omega) | (apply w_convI; rfl; rfl; omega; omega) | (apply w_quoU; rfl; rfl; rfl; omega; omega; omega) | (apply w_remU; rfl; rfl; rfl; omega; omega) | (apply w_minL; rfl; rfl; rfl; omega) | (apply w_minG; rfl; rfl; rfl; omega) | (apply w_min; rfl; rfl; rfl) | (apply w_mfR; rfl; rfl) | (apply w_cvp; rfl; rfl; exact inferInstance; rfl; rfl; assumption) | (apply w_eqS2T; rfl; rfl; rfl; omega) | (apply w_eqS2F; rfl; rfl; rfl; omega) | (apply w_neS2T; rfl; rfl; rfl; omega) | (apply w_neS2F; rfl; rfl; rfl; omega) | (apply w_eqS3T; rfl; rfl; rfl; omega) | (apply w_eqS3F; rfl; rfl; rfl; omega) | (apply w_neS3T; rfl; rfl; rfl; omega) | (apply w_neS3F; rfl; rfl; rfl; omega) | (apply w_eqS3; rfl; rfl; rfl) | (apply w_neS3; rfl; rfl; rfl) | (apply w_eqS2; rfl; rfl; rfl) | (apply w_neS2; rfl; rfl; rfl) | (apply w_maxL; rfl; rfl; rfl; omega) | (apply w_maxG; rfl; rfl; rfl; omega) | (apply w_max; rfl; rfl; rfl) | (apply w_neB; rfl; rfl; rfl; rfl) | (apply w_eqB; rfl; rfl; rfl; rfl) | (apply w_cp; rfl; rfl; first | assumption | exact May_ok _) | refine spl ?_ ?_ | intro hc)
        refine At_againK (k + 1) ⟨hlt, ?_⟩ (by omega) (by (exact sbf)) (by (exact sbf)) (by (exact frm))
        intro x hx
        rw [List.take_add_one] at hx
        rcases List.mem_append.1 hx with h | h
        · exact hz x h
        · simp [hlt] at h; subst h; exact hm
      · have hf : ((l.map mayE).find? (fun e => e != 0)) = some (mayE l[k]) := by
          have e : l = l.take k ++ l[k] :: l.drop (k + 1) := by rw [List.getElem_cons_drop]; exact (List.take_append_drop k l).symm
          have hn : ((l.take k).map mayE).find? (fun e => e != 0) = none := by rw [List.find?_eq_none]; intro x hx; obtain ⟨y, hy, rfl⟩ := List.mem_map.1 hx; simp [hz y hy]
          generalize hx : l[k] = x at *
          rw [e, List.map_append, List.find?_append, hn]
          simp [hm]
        rw [hf]
        (repeat' first | refine stp ?_ | intro v' hv' | intro (b : Nat) | (apply w_convU; rfl; rfl; omega; omega) | (apply w_convI; rfl; rfl; omega; omega) | (apply w_quoU; rfl; rfl; rfl; omega; omega; omega) | (apply w_remU; rfl; rfl; rfl; omega; omega) | (apply w_minL; rfl; rfl; rfl; omega) | (apply w_minG; rfl; rfl; rfl; omega) | (apply w_min; rfl; rfl; rfl) | (apply w_mfR; rfl; rfl) | (apply w_cvp; rfl; rfl; exact inferInstance; rfl; rfl; assumption) | (apply w_eqS2T; rfl; rfl; rfl; omega) | (apply w_eqS2F; rfl; rfl; rfl; omega) | (apply w_neS2T; rfl; rfl; rfl; omega) | (apply w_neS2F; rfl; rfl; rfl; omega) | (apply w_eqS3T; rfl; rfl; rfl; omega) | (apply w_eqS3F; rfl; rfl; rfl; omega) | (apply w_neS3T; rfl; rfl; rfl; omega) | (apply w_neS3F; rfl; rfl; rfl; omega) | (apply w_eqS3; rfl; rfl; rfl) | (apply w_neS3; rfl; rfl; rfl) | (apply w_eqS2; rfl; rfl; rfl) | (apply w_neS2; rfl; rfl; rfl) | (apply w_maxL; rfl; rfl; rfl; omega) | (apply w_maxG; rfl; rfl; rfl; omega) | (apply w_max; rfl; rfl; rfl) | (apply w_neB; rfl; rfl; rfl; rfl) | (apply w_eqB; rfl; rfl; rfl; rfl) | (apply w_cp; rfl; rfl; first | assumption | exact May_ok _) | refine spl ?_ ?_ | intro hc)
        all_goals (refine At_ret1 (by (first | exact .inl rfl | exact .inr rfl)) Tryd.results56 rfl ⟨by rfl, rfl⟩ (by (exact frm)))
    · have hk' : k = l.length := by omega
      subst hk'
      rw [List.take_length] at hz
      have hf : ((l.map mayE).find? (fun e => e != 0)) = none := by rw [List.find?_eq_none]; intro x hx; obtain ⟨y, hy, rfl⟩ := List.mem_map.1 hx; simp [hz y hy]
      rw [hf]
      (repeat' first | refine stp ?_ | intro v' hv' | intro (b : Nat) | (apply w_convU; rfl; rfl; omega; omega) | (apply w_convI; rfl; rfl; omega; omega) | (apply w_quoU; rfl; rfl; rfl; omega; omega; omega) | (apply w_remU; rfl; rfl; rfl; omega; omega) | (apply w_minL; rfl; rfl; rfl; omega) | (apply w_minG; rfl; rfl; rfl; omega) | (apply w_min; rfl; rfl; rfl) | (apply w_mfR; rfl; rfl) | (apply w_cvp; rfl; rfl; exact inferInstance; rfl; rfl; assumption) | (apply w_eqS2T; rfl; rfl; rfl; omega) | (apply w_eqS2F; rfl; rfl; rfl; omega) | (apply w_neS2T; rfl; rfl; rfl; omega) | (apply w_neS2F; rfl; rfl; rfl; omega) | (apply w_eqS3T; rfl; rfl; rfl; omega) | (apply w_eqS3F; rfl; rfl; rfl; omega) | (apply w_neS3T; rfl; rfl; rfl; omega) | (apply w_neS3F; rfl; rfl; rfl; omega) | (apply w_eqS3; rfl; rfl; rfl) | (apply w_neS3; rfl; rfl; rfl) | (apply w_eqS2; rfl; rfl; rfl) | (apply w_neS2; rfl; rfl; rfl) | (apply w_maxL; rfl; rfl; rfl; omega) | (apply w_maxG; rfl; rfl; rfl; omega) | (apply w_max; rfl; rfl; rfl) | (apply w_neB; rfl; rfl; rfl; rfl) | (apply w_eqB; rfl; rfl; rfl; rfl) | (apply w_cp; rfl; rfl; first | assumption | exact May_ok _) | refine spl ?_ ?_ | intro hc)
      all_goals (refine At_ret1 (by (first | exact .inl rfl | exact .inr rfl)) Tryd.results56 rfl ⟨by rfl, rfl⟩ (by (exact frm)))
end Go.Proofs.YteggkdlgailfoaaDoor
