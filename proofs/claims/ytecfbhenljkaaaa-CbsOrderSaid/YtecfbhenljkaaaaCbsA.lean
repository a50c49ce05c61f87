/- Numbers: times, sums and products, and what is wrong with params. Conditions: none. -/
import Derived.Test.YtecfbhenljkaaaaRows
import Derived.Test.YtecfbhenljkaaaaTab
import Derived.Test.YtecfbhenljkaaaaMore
set_option linter.all false
set_option linter.deprecated false
namespace Go.Proofs.Ytecfbhenljkaaaa
open Go.Sep
variable [B0 : Base]
instance : IntT Try.prog 3 .i64 := ⟨by kernel_rfl⟩
instance : IntT Try.prog 54 .u64 := ⟨by kernel_rfl⟩
abbrev int (i : Int) : Value := .int .i64 i
abbrev u64 (i : Int) : Value := .int .u64 i
def inE (i : Int) : List Value := [int i]

/-- What is wrong with a time. -/
def timeE (t : Int) : Int := if t < 0 then 10 else if 1099511627776 ≤ t then 21 else 0
set_option maxHeartbeats 1000000 in
theorem time_ok (t : Int) (R : List HP) : Called Try.prog 22 [int t] R (is (int (timeE t)) R) := by
  refine Fn1 Try.func22 rfl Try.ntmps22 rfl ?_
  (repeat' first | refine stp ?_ | intro v' hv' | intro (b : Nat) | refine spl ?_ ?_ | intro hc) <;> (refine At_ret1 (by (first | exact .inl rfl | exact .inr rfl)) Try.results22 rfl ⟨by (first | (unfold timeE; simp_all; done) | (unfold timeE; congr 1; grind)), rfl⟩ (by (exact frm)))
set_option maxHeartbeats 1000000 in
theorem rtime_ok (t : Int) (R : List HP) : Called Try.prog 17 [int t] R (is (int (timeE t)) R) := by
  refine Fn1 Try.func17 rfl Try.ntmps17 rfl ?_
  (repeat' first | refine stp ?_ | intro v' hv' | intro (b : Nat) | refine spl ?_ ?_ | intro hc) <;> (refine At_ret1 (by (first | exact .inl rfl | exact .inr rfl)) Try.results17 rfl ⟨by (first | (unfold timeE; simp_all; done) | (unfold timeE; congr 1; grind)), rfl⟩ (by (exact frm)))

theorem timeE_or (t : Int) : timeE t ≠ 0 ∨ 0 ≤ t ∧ t < 1099511627776 := by unfold timeE; (repeat' split) <;> omega
/-- A time so much later. -/
def afterV (t b : Int) : Int × Int := if timeE t ≠ 0 then (0, timeE t) else if b < 0 then (0, 10) else if 1099511627776 - t ≤ b then (0, 21) else (t + b, 0)
set_option maxHeartbeats 1000000 in
theorem after_ok (t b : Int) (R : List HP) : Called Try.prog 24 [int t, int b] R (is (.tuple #[int (afterV t b).1, int (afterV t b).2]) R) := by
  refine Fn2 Try.func24 rfl Try.ntmps24 rfl ?_
  have h0 := timeE_or t
  (repeat' first | refine stp ?_ | intro v' hv' | intro (b : Nat) | (apply w_cp; rfl; rfl; exact time_ok _) | refine spl ?_ ?_ | intro hc) <;> (refine At_ret2 (by (first | exact .inl rfl | exact .inr rfl)) Try.results24 rfl rfl ⟨by (unfold afterV; (repeat' split) <;> first | rfl | (exfalso; omega)), rfl⟩ (by (exact frm)))

/-- What is wrong with params. -/
def parOk (q d t : Int) : Prop := 1 ≤ q ∧ q ≤ d ∧ d ≤ t ∧ t ≤ 1073741824
instance (q d t : Int) : Decidable (parOk q d t) := by unfold parOk; infer_instance
def parE (q d t : Int) : Int := if parOk q d t then 0 else 1
abbrev par (q d t : Int) : Value := .agg #[int q, int d, int t]
set_option maxHeartbeats 1000000 in
theorem pcheck_ok (q d t : Int) (R : List HP) : Called Try.prog 21 [par q d t] R (is (int (parE q d t)) R) := by
  refine Fn1 Try.func21 rfl Try.ntmps21 rfl ?_
  (repeat' first | refine stp ?_ | intro v' hv' | intro (b : Nat) | (apply w_cp; rfl; rfl; exact time_ok _) | refine spl ?_ ?_ | intro hc) <;> (refine At_ret1 (by (first | exact .inl rfl | exact .inr rfl)) Try.results21 rfl ⟨by (unfold parE parOk; congr 1; grind), rfl⟩ (by (exact frm)))
set_option maxHeartbeats 1000000 in
theorem may_ok (q d t : Int) (R : List HP) : Called Try.prog 16 [par q d t] R (is (.bool (decide (parOk q d t))) R) := by
  refine Fn1 Try.func16 rfl Try.ntmps16 rfl ?_
  (repeat' first | refine stp ?_ | intro v' hv' | intro (b : Nat) | (apply w_cp; rfl; rfl; exact time_ok _) | refine spl ?_ ?_ | intro hc) <;> (refine At_ret1 (by (first | exact .inl rfl | exact .inr rfl)) Try.results16 rfl ⟨by (unfold parOk; congr 1; grind), rfl⟩ (by (exact frm)))

/-- The first error of some. -/
def firstE (l : List Int) : Int := (l.find? (fun e => e != 0)).getD 0
set_option maxHeartbeats 1000000 in
theorem first_ok (v : Value) (l : List Int) (hv : IsSl v l.length) (R : List HP) : Called Try.prog 20 [v] (sl 26 1 v (l.map inE) :: R) (is (int (firstE l)) (sl 26 1 v (l.map inE) :: R)) := by
  refine Fn1 Try.func20 rfl Try.ntmps20 rfl ?_
  have hN := hv.len
  (repeat' first | refine stp ?_ | intro v' hv' | intro (b : Nat) | (apply w_cp; rfl; rfl; exact time_ok _) | refine spl ?_ ?_ | intro hc)
  refine C_loopK [2, 4, 7, 8, 9, 10, 11, 12, 13, 14] (fun k : Nat => l.length - k) (fun k => [(7, int k)]) (fun _ => sl 26 1 v (l.map inE) :: R) (fun k => k ≤ l.length ∧ ∀ e ∈ l.take k, e = 0) 0 ⟨Nat.zero_le _, by simp⟩ (by (focus ((repeat (first | exact Keep.nil | apply Keep.drop rfl | apply Keep.keep rfl)); done))) (by (exact sbf)) (by (exact frm)) ?_
  rintro k ⟨hk, hz⟩
  dsimp only [List.cons_append, List.nil_append]
  by_cases hlt : k < l.length
  · have hg : (l.map inE)[k]? = some [int l[k]] := by simp [inE, hlt]
    (repeat' first | refine stp ?_ | intro v' hv' | intro (b : Nat) | (apply w_cp; rfl; rfl; exact time_ok _) | refine spl ?_ ?_ | intro hc)
    · refine At_ret1 (by (first | exact .inl rfl | exact .inr rfl)) Try.results20 rfl ⟨?_, rfl⟩ (by (exact frm))
      congr 1
      have e : l = l.take k ++ l[k] :: l.drop (k + 1) := by rw [List.getElem_cons_drop]; exact (List.take_append_drop k l).symm
      have hf : (l.take k).find? (fun e => e != 0) = none := by rw [List.find?_eq_none]; intro x hx; simp [hz x hx]
      have : firstE l = l[k] := by
        unfold firstE
        have e' : l.find? (fun e => e != 0) = some l[k] := by
          generalize hx : l[k] = x at *
          rw [e, List.find?_append, hf]
          simp [List.find?_cons, hc]
        rw [e']; rfl
      rw [this]
    · refine At_againK (k + 1) ⟨hlt, ?_⟩ (by omega) (by (exact sbf)) (by (exact sbf)) (by (exact frm))
      intro e he
      rw [List.take_add_one] at he
      rcases List.mem_append.1 he with h | h
      · exact hz e h
      · simp [hlt] at h; subst h; omega
  · have : k = l.length := by omega
    subst this
    (repeat' first | refine stp ?_ | intro v' hv' | intro (b : Nat) | (apply w_cp; rfl; rfl; exact time_ok _) | refine spl ?_ ?_ | intro hc)
    refine At_ret1 (by (first | exact .inl rfl | exact .inr rfl)) Try.results20 rfl ⟨?_, rfl⟩ (by (exact frm))
    congr 1
    unfold firstE
    rw [List.find?_eq_none.2 (fun x hx => by simp [hz x (by simpa using hx)])]; rfl
end Go.Proofs.Ytecfbhenljkaaaa
