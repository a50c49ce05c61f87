/- MutexPlays: slices.Repeat and Chains. Conditions: none. -/
import Derived.Test.YtoaaoijdknbanaaMutAH
set_option linter.all false
set_option linter.deprecated false
namespace Go.Sep
variable [B0 : Base]
section
variable {P : Program} {n : Nat} {F : Fr} {ds : List Deferred} {L : List HP} {d : Option Tmp} {ty : TypeId} {pos : String} {aft : Array Edge} {g : Option (Nat × Bool)}
theorem runs_mulU {t u : TypeId} {x y : Operand} {a b c : Int} (hx : ev F x = some (.int .u64 a)) (hy : ev F y = some (.int .u64 b)) (h : IntKind.u64.wrap (a * b) = c) :
    Runs P ⟨d, .binOp .mul t x y u, ty, pos, aft, g⟩ n F ds L (is (.int .u64 c) L) :=
  runs_pure rfl fun ac w hf => by simp [execOp, hf.ev hx, hf.ev hy, eqGuard, binOp, Op.intArith, h]
theorem runs_addU {t u : TypeId} {x y : Operand} {a b c : Int} (hx : ev F x = some (.int .u64 a)) (hy : ev F y = some (.int .u64 b)) (h : IntKind.u64.wrap (a + b) = c) :
    Runs P ⟨d, .binOp .add t x y u, ty, pos, aft, g⟩ n F ds L (is (.int .u64 c) L) :=
  runs_pure rfl fun ac w hf => by simp [execOp, hf.ev hx, hf.ev hy, eqGuard, binOp, Op.intArith, h]
theorem runs_andU {t u : TypeId} {x y : Operand} {a b c : Int} (hx : ev F x = some (.int .u64 a)) (hy : ev F y = some (.int .u64 b)) (h : IntKind.u64.wrap (((a % 2 ^ IntKind.u64.bits).toNat &&& (b % 2 ^ IntKind.u64.bits).toNat : Nat) : Int) = c) :
    Runs P ⟨d, .binOp .and t x y u, ty, pos, aft, g⟩ n F ds L (is (.int .u64 c) L) :=
  runs_pure rfl fun ac w hf => by simp [execOp, hf.ev hx, hf.ev hy, eqGuard, binOp, Op.intBits, h]
theorem runs_shrU {t u : TypeId} {x y : Operand} {kk : IntKind} {a b c : Int} (hx : ev F x = some (.int .u64 a)) (hy : ev F y = some (.int kk b)) (h0 : ¬ b < 0) (h : a.fdiv (2 ^ (min b.toNat IntKind.u64.bits)) = c) :
    Runs P ⟨d, .binOp .shr t x y u, ty, pos, aft, g⟩ n F ds L (is (.int .u64 c) L) :=
  runs_pure rfl fun ac w hf => by simp [execOp, hf.ev hx, hf.ev hy, eqGuard, binOp, Op.shift, h0, h]
end
section
variable {P : Program} {ro : Option Nat} {m : Option Mode} {ops : Array Oper} {Q : Exit → Act → World → Prop} {n : Nat} {rest : List Oper} {F : Fr} {ds : List Deferred} {L : List HP} {d : Nat} {ty : TypeId} {pos : String} {aft : Array Edge}
theorem w_mulU {t u : TypeId} {x y : Operand} {a b c : Int} (hd : Nat.blt d n = true) (hx : ev F x = some (.int .u64 a)) (hy : ev F y = some (.int .u64 b)) (h : IntKind.u64.wrap (a * b) = c) (hk : W P ro m ops Q n rest ((d, .int .u64 c) :: F) ds L) :
    W P ro m ops Q n (⟨some d, .binOp .mul t x y u, ty, pos, aft, none⟩ :: rest) F ds L := Wp hd (fun _ => runs_mulU hx hy h) hk
theorem w_addU {t u : TypeId} {x y : Operand} {a b c : Int} (hd : Nat.blt d n = true) (hx : ev F x = some (.int .u64 a)) (hy : ev F y = some (.int .u64 b)) (h : IntKind.u64.wrap (a + b) = c) (hk : W P ro m ops Q n rest ((d, .int .u64 c) :: F) ds L) :
    W P ro m ops Q n (⟨some d, .binOp .add t x y u, ty, pos, aft, none⟩ :: rest) F ds L := Wp hd (fun _ => runs_addU hx hy h) hk
theorem w_andU {t u : TypeId} {x y : Operand} {a b c : Int} (hd : Nat.blt d n = true) (hx : ev F x = some (.int .u64 a)) (hy : ev F y = some (.int .u64 b)) (h : IntKind.u64.wrap (((a % 2 ^ IntKind.u64.bits).toNat &&& (b % 2 ^ IntKind.u64.bits).toNat : Nat) : Int) = c) (hk : W P ro m ops Q n rest ((d, .int .u64 c) :: F) ds L) :
    W P ro m ops Q n (⟨some d, .binOp .and t x y u, ty, pos, aft, none⟩ :: rest) F ds L := Wp hd (fun _ => runs_andU hx hy h) hk
theorem w_shrU {t u : TypeId} {x y : Operand} {kk : IntKind} {a b c : Int} (hd : Nat.blt d n = true) (hx : ev F x = some (.int .u64 a)) (hy : ev F y = some (.int kk b)) (h0 : ¬ b < 0) (h : a.fdiv (2 ^ (min b.toNat IntKind.u64.bits)) = c) (hk : W P ro m ops Q n rest ((d, .int .u64 c) :: F) ds L) :
    W P ro m ops Q n (⟨some d, .binOp .shr t x y u, ty, pos, aft, none⟩ :: rest) F ds L := Wp hd (fun _ => runs_shrU hx hy h0 h) hk
end
end Go.Sep
namespace Go.Proofs.Ytoaaoijdknbanaa
open Go.Sep
variable [B0 : Base]
abbrev u64 (i : Int) : Value := .int .u64 i
instance : IntT Try.prog 101 .u64 := ⟨by kernel_rfl⟩
instance : IntT Try.prog 107 .u64 := ⟨by kernel_rfl⟩
theorem Mul64_ok (R : List HP) : Called Try.prog 65 [u64 1, u64 64] R (is (.tuple #[u64 0, u64 64]) R) := by
  refine Fn2 Try.func65 rfl Try.ntmps65 rfl ?_
  (repeat' first | refine stp ?_ | intro v' hv' | intro (b : Nat) | (apply w_convU; rfl; rfl; omega; omega) | (apply w_convI; rfl; rfl; omega; omega) | (apply w_quoU; rfl; rfl; rfl; omega; omega; omega) | (apply w_remU; rfl; rfl; rfl; omega; omega) | (apply w_minL; rfl; rfl; rfl; omega) | (apply w_minG; rfl; rfl; rfl; omega) | (apply w_min; rfl; rfl; rfl) | (apply w_mfR; rfl; rfl) | (apply w_cvp; rfl; rfl; exact inferInstance; rfl; rfl; assumption) | (apply w_eqS2T; rfl; rfl; rfl; omega) | (apply w_eqS2F; rfl; rfl; rfl; omega) | (apply w_neS2T; rfl; rfl; rfl; omega) | (apply w_neS2F; rfl; rfl; rfl; omega) | (apply w_eqS3T; rfl; rfl; rfl; omega) | (apply w_eqS3F; rfl; rfl; rfl; omega) | (apply w_neS3T; rfl; rfl; rfl; omega) | (apply w_neS3F; rfl; rfl; rfl; omega) | (apply w_eqS3; rfl; rfl; rfl) | (apply w_neS3; rfl; rfl; rfl) | (apply w_eqS2; rfl; rfl; rfl) | (apply w_neS2; rfl; rfl; rfl) | (apply w_maxL; rfl; rfl; rfl; omega) | (apply w_maxG; rfl; rfl; rfl; omega) | (apply w_max; rfl; rfl; rfl) | (apply w_neB; rfl; rfl; rfl; rfl) | (apply w_eqB; rfl; rfl; rfl; rfl) | (apply w_mulU; rfl; rfl; rfl; rfl) | (apply w_addU; rfl; rfl; rfl; rfl) | (apply w_andU; rfl; rfl; rfl; rfl) | (apply w_shrU; rfl; rfl; rfl; decide; rfl) | refine spl ?_ ?_ | intro hc)
  all_goals (refine At_ret2 (by (first | exact .inl rfl | exact .inr rfl)) Try.results65 rfl rfl ⟨by rfl, rfl⟩ (by (exact frm)))
theorem Mul_ok (R : List HP) : Called Try.prog 62 [u64 1, u64 64] R (is (.tuple #[u64 0, u64 64]) R) := by
  refine Fn2 Try.func62 rfl Try.ntmps62 rfl ?_
  (repeat' first | refine stp ?_ | intro v' hv' | intro (b : Nat) | (apply w_convU; rfl; rfl; omega; omega) | (apply w_convI; rfl; rfl; omega; omega) | (apply w_quoU; rfl; rfl; rfl; omega; omega; omega) | (apply w_remU; rfl; rfl; rfl; omega; omega) | (apply w_minL; rfl; rfl; rfl; omega) | (apply w_minG; rfl; rfl; rfl; omega) | (apply w_min; rfl; rfl; rfl) | (apply w_mfR; rfl; rfl) | (apply w_cvp; rfl; rfl; exact inferInstance; rfl; rfl; assumption) | (apply w_eqS2T; rfl; rfl; rfl; omega) | (apply w_eqS2F; rfl; rfl; rfl; omega) | (apply w_neS2T; rfl; rfl; rfl; omega) | (apply w_neS2F; rfl; rfl; rfl; omega) | (apply w_eqS3T; rfl; rfl; rfl; omega) | (apply w_eqS3F; rfl; rfl; rfl; omega) | (apply w_neS3T; rfl; rfl; rfl; omega) | (apply w_neS3F; rfl; rfl; rfl; omega) | (apply w_eqS3; rfl; rfl; rfl) | (apply w_neS3; rfl; rfl; rfl) | (apply w_eqS2; rfl; rfl; rfl) | (apply w_neS2; rfl; rfl; rfl) | (apply w_maxL; rfl; rfl; rfl; omega) | (apply w_maxG; rfl; rfl; rfl; omega) | (apply w_max; rfl; rfl; rfl) | (apply w_neB; rfl; rfl; rfl; rfl) | (apply w_eqB; rfl; rfl; rfl; rfl) | (apply w_cp; rfl; rfl; exact Mul64_ok) | refine spl ?_ ?_ | intro hc)
  all_goals (refine At_ret2 (by (first | exact .inl rfl | exact .inr rfl)) Try.results62 rfl rfl ⟨by rfl, rfl⟩ (by (exact frm)))
def rpL (k : Nat) : List (List Value) := List.replicate k [int (-1)] ++ List.replicate (64 - k) [int 0]
theorem rpL_len {k : Nat} (h : k ≤ 64) : (rpL k).length = 64 := by unfold rpL; simp; omega
theorem rpL_take {k : Nat} : (rpL k).take k = List.replicate k [int (-1)] := by unfold rpL; rw [List.take_left' (by simp)]
theorem rpL_copy {k m : Nat} (hk : k ≤ 64) (hm : m = min k (64 - k)) : (rpL k).take k ++ ((rpL k).take k).take m ++ (rpL k).drop (k + m) = rpL (k + m) := by
  have e1 : (rpL k).drop (k + m) = List.replicate (64 - (k + m)) [int 0] := by
    unfold rpL
    rw [List.drop_append, List.drop_of_length_le (by simp), List.nil_append, List.length_replicate, List.drop_replicate]
    congr 1
    omega
  rw [e1, rpL_take, List.take_replicate]
  unfold rpL
  rw [List.replicate_append_replicate, show k + min m k = k + m by omega]
theorem vsl_full {v : Value} {N k : Nat} (h : IsSl v N) (hN : 0 < N) : vsl v 0 N (vcap v) k = v := by
  obtain ⟨ao, c, rfl, h1, h2, h3, h4⟩ := h
  simp only [vsl, vcap, Nat.sub_zero, Nat.zero_mul]
  cases ao with
  | none => simp
  | some a => simp [Addr.add]
set_option maxHeartbeats 4000000 in
theorem Repeat_ok (v : Value) (hv : IsSl v 1) (R : List HP) : Called Try.prog 58 [v, int 64] (sl 3 1 v [[int (-1)]] :: R) (retSl 3 1 (List.replicate 64 [int (-1)]) (sl 3 1 v [[int (-1)]] :: R)) := by
  refine Called.isl ?_
  have hz : zeroL Try.prog 3 = [int 0] := by kernel_rfl
  refine Fn2 Try.func58 rfl Try.ntmps58 rfl ?_
  (repeat' first | refine stp ?_ | intro v' hv' | intro (b : Nat) | (apply w_convU; rfl; rfl; omega; omega) | (apply w_convI; rfl; rfl; omega; omega) | (apply w_quoU; rfl; rfl; rfl; omega; omega; omega) | (apply w_remU; rfl; rfl; rfl; omega; omega) | (apply w_minL; rfl; rfl; rfl; omega) | (apply w_minG; rfl; rfl; rfl; omega) | (apply w_min; rfl; rfl; rfl) | (apply w_mfR; rfl; rfl) | (apply w_cvp; rfl; rfl; exact inferInstance; rfl; rfl; assumption) | (apply w_eqS2T; rfl; rfl; rfl; omega) | (apply w_eqS2F; rfl; rfl; rfl; omega) | (apply w_neS2T; rfl; rfl; rfl; omega) | (apply w_neS2F; rfl; rfl; rfl; omega) | (apply w_eqS3T; rfl; rfl; rfl; omega) | (apply w_eqS3F; rfl; rfl; rfl; omega) | (apply w_neS3T; rfl; rfl; rfl; omega) | (apply w_neS3F; rfl; rfl; rfl; omega) | (apply w_eqS3; rfl; rfl; rfl) | (apply w_neS3; rfl; rfl; rfl) | (apply w_eqS2; rfl; rfl; rfl) | (apply w_neS2; rfl; rfl; rfl) | (apply w_maxL; rfl; rfl; rfl; omega) | (apply w_maxG; rfl; rfl; rfl; omega) | (apply w_max; rfl; rfl; rfl) | (apply w_neB; rfl; rfl; rfl; rfl) | (apply w_eqB; rfl; rfl; rfl; rfl) | (apply w_cp; rfl; rfl; exact Mul_ok) | refine spl ?_ ?_ | intro hc)
  apply w_mks (N := 64)
  rfl; rfl; rfl; omega; omega; omega
  intro u hu
  rw [hz]
  clear hz
  refine ⟨by (exact kmf), ?_⟩
  have hfu : vsl u 0 64 (vcap u) 1 = u := vsl_full hu (by decide)
  (repeat' first | refine stp ?_ | intro v' hv' | intro (b : Nat) | (apply w_convU; rfl; rfl; omega; omega) | (apply w_convI; rfl; rfl; omega; omega) | (apply w_quoU; rfl; rfl; rfl; omega; omega; omega) | (apply w_remU; rfl; rfl; rfl; omega; omega) | (apply w_minL; rfl; rfl; rfl; omega) | (apply w_minG; rfl; rfl; rfl; omega) | (apply w_min; rfl; rfl; rfl) | (apply w_mfR; rfl; rfl) | (apply w_cvp; rfl; rfl; exact inferInstance; rfl; rfl; assumption) | (apply w_eqS2T; rfl; rfl; rfl; omega) | (apply w_eqS2F; rfl; rfl; rfl; omega) | (apply w_neS2T; rfl; rfl; rfl; omega) | (apply w_neS2F; rfl; rfl; rfl; omega) | (apply w_eqS3T; rfl; rfl; rfl; omega) | (apply w_eqS3F; rfl; rfl; rfl; omega) | (apply w_neS3T; rfl; rfl; rfl; omega) | (apply w_neS3F; rfl; rfl; rfl; omega) | (apply w_eqS3; rfl; rfl; rfl) | (apply w_neS3; rfl; rfl; rfl) | (apply w_eqS2; rfl; rfl; rfl) | (apply w_neS2; rfl; rfl; rfl) | (apply w_maxL; rfl; rfl; rfl; omega) | (apply w_maxG; rfl; rfl; rfl; omega) | (apply w_max; rfl; rfl; rfl) | (apply w_neB; rfl; rfl; rfl; rfl) | (apply w_eqB; rfl; rfl; rfl; rfl) | (apply w_cp; rfl; rfl; exact Mul_ok) | refine spl ?_ ?_ | intro hc)
  apply w_copy (es := [[int (-1)]]) (l := 0) (N := 64) (u := u)
  rfl
  exact congrArg some hfu.symm
  rfl; ((focus ((repeat (first | exact Del.here | apply Del.there)); done))); rfl; omega; ((exact srf)); rfl; ((exact kmf))
  have e0 : (List.replicate 64 [int 0]).take 0 ++ ([[int (-1)]] : List (List Value)).take (min ([[int (-1)]] : List (List Value)).length (64 - 0)) ++ (List.replicate 64 [int 0]).drop (0 + min ([[int (-1)]] : List (List Value)).length (64 - 0)) = rpL 1 := rfl
  rw [e0]
  clear e0
  (repeat' first | refine stp ?_ | intro v' hv' | intro (b : Nat) | (apply w_convU; rfl; rfl; omega; omega) | (apply w_convI; rfl; rfl; omega; omega) | (apply w_quoU; rfl; rfl; rfl; omega; omega; omega) | (apply w_remU; rfl; rfl; rfl; omega; omega) | (apply w_minL; rfl; rfl; rfl; omega) | (apply w_minG; rfl; rfl; rfl; omega) | (apply w_min; rfl; rfl; rfl) | (apply w_mfR; rfl; rfl) | (apply w_cvp; rfl; rfl; exact inferInstance; rfl; rfl; assumption) | (apply w_eqS2T; rfl; rfl; rfl; omega) | (apply w_eqS2F; rfl; rfl; rfl; omega) | (apply w_neS2T; rfl; rfl; rfl; omega) | (apply w_neS2F; rfl; rfl; rfl; omega) | (apply w_eqS3T; rfl; rfl; rfl; omega) | (apply w_eqS3F; rfl; rfl; rfl; omega) | (apply w_neS3T; rfl; rfl; rfl; omega) | (apply w_neS3F; rfl; rfl; rfl; omega) | (apply w_eqS3; rfl; rfl; rfl) | (apply w_neS3; rfl; rfl; rfl) | (apply w_eqS2; rfl; rfl; rfl) | (apply w_neS2; rfl; rfl; rfl) | (apply w_maxL; rfl; rfl; rfl; omega) | (apply w_maxG; rfl; rfl; rfl; omega) | (apply w_max; rfl; rfl; rfl) | (apply w_neB; rfl; rfl; rfl; rfl) | (apply w_eqB; rfl; rfl; rfl; rfl) | (apply w_cp; rfl; rfl; exact Mul_ok) | refine spl ?_ ?_ | intro hc)
  refine C_loopK (α := Nat) [8, 34, 35, 36, 37, 38, 39, 40, 41, 42, 43, 44, 45, 46] (fun k => 64 - k) (fun k => [(8, int (k : Int))]) (fun k => sl 3 1 u (rpL k) :: sl 3 1 v [[int (-1)]] :: R) (fun k => 1 ≤ k ∧ k ≤ 64) 1 ⟨by omega, by omega⟩ (by (focus ((repeat (first | exact Keep.nil | apply Keep.drop rfl | apply Keep.keep rfl)); done))) (by (exact sbf)) (fun w hs => Sel.sat (by (focus ((repeat (first | exact Sel.refl | (apply Sel.cons; (focus ((repeat (first | exact Del.here | apply Del.there)); done))) | refine Sel.drop ?_)); done))) hs) ?_
  rintro k ⟨hk1, hk⟩
  dsimp only [List.cons_append, List.nil_append]
  have hlen := rpL_len hk
  by_cases hlt : k < 64
  · have hcp := rpL_copy hk rfl
    have hsrc : Sep.Src (sl 3 1 u (rpL k) :: sl 3 1 v [[int (-1)]] :: R) (vsl u 0 k (vcap u) 1) 1 ((rpL k).take k) := Sep.Src.sl.takeS (by omega)
    have htl : ((rpL k).take k).length = k := by rw [List.length_take]; omega
    have hone : ((rpL k).take k).all (fun l => l.all Value.oneCell') = true := by rw [rpL_take, List.all_eq_true]; intro x hx; rw [List.eq_of_mem_replicate hx]; rfl
    (repeat' first | refine stp ?_ | intro v' hv' | intro (b : Nat) | (apply w_convU; rfl; rfl; omega; omega) | (apply w_convI; rfl; rfl; omega; omega) | (apply w_quoU; rfl; rfl; rfl; omega; omega; omega) | (apply w_remU; rfl; rfl; rfl; omega; omega) | (apply w_minL; rfl; rfl; rfl; omega) | (apply w_minG; rfl; rfl; rfl; omega) | (apply w_min; rfl; rfl; rfl) | (apply w_mfR; rfl; rfl) | (apply w_cvp; rfl; rfl; exact inferInstance; rfl; rfl; assumption) | (apply w_eqS2T; rfl; rfl; rfl; omega) | (apply w_eqS2F; rfl; rfl; rfl; omega) | (apply w_neS2T; rfl; rfl; rfl; omega) | (apply w_neS2F; rfl; rfl; rfl; omega) | (apply w_eqS3T; rfl; rfl; rfl; omega) | (apply w_eqS3F; rfl; rfl; rfl; omega) | (apply w_neS3T; rfl; rfl; rfl; omega) | (apply w_neS3F; rfl; rfl; rfl; omega) | (apply w_eqS3; rfl; rfl; rfl) | (apply w_neS3; rfl; rfl; rfl) | (apply w_eqS2; rfl; rfl; rfl) | (apply w_neS2; rfl; rfl; rfl) | (apply w_maxL; rfl; rfl; rfl; omega) | (apply w_maxG; rfl; rfl; rfl; omega) | (apply w_max; rfl; rfl; rfl) | (apply w_neB; rfl; rfl; rfl; rfl) | (apply w_eqB; rfl; rfl; rfl; rfl) | (apply w_cp; rfl; rfl; exact Mul_ok) | refine spl ?_ ?_ | intro hc)
    apply w_copy (es := (rpL k).take k) (l := k) (N := 64) (u := u)
    rfl; rfl; rfl; ((focus ((repeat (first | exact Del.here | apply Del.there)); done))); exact hlen; omega; exact hsrc
    · rw [htl, rpL_take, List.take_replicate, List.all_eq_true]
      intro x hx
      rw [List.eq_of_mem_replicate hx]; rfl
    ((exact kmf))
    rw [htl, hcp]
    have hmx : k + min k (64 - k) ≤ 64 := by omega
    have hmy : 1 ≤ min k (64 - k) := by omega
    generalize min k (64 - k) = q at *
    have ha : ((k : Int) + (q : Int)) = ((k + q : Nat) : Int) := by omega
    (repeat' first | refine stp ?_ | intro v' hv' | intro (b : Nat) | (apply w_convU; rfl; rfl; omega; omega) | (apply w_convI; rfl; rfl; omega; omega) | (apply w_quoU; rfl; rfl; rfl; omega; omega; omega) | (apply w_remU; rfl; rfl; rfl; omega; omega) | (apply w_minL; rfl; rfl; rfl; omega) | (apply w_minG; rfl; rfl; rfl; omega) | (apply w_min; rfl; rfl; rfl) | (apply w_mfR; rfl; rfl) | (apply w_cvp; rfl; rfl; exact inferInstance; rfl; rfl; assumption) | (apply w_eqS2T; rfl; rfl; rfl; omega) | (apply w_eqS2F; rfl; rfl; rfl; omega) | (apply w_neS2T; rfl; rfl; rfl; omega) | (apply w_neS2F; rfl; rfl; rfl; omega) | (apply w_eqS3T; rfl; rfl; rfl; omega) | (apply w_eqS3F; rfl; rfl; rfl; omega) | (apply w_neS3T; rfl; rfl; rfl; omega) | (apply w_neS3F; rfl; rfl; rfl; omega) | (apply w_eqS3; rfl; rfl; rfl) | (apply w_neS3; rfl; rfl; rfl) | (apply w_eqS2; rfl; rfl; rfl) | (apply w_neS2; rfl; rfl; rfl) | (apply w_maxL; rfl; rfl; rfl; omega) | (apply w_maxG; rfl; rfl; rfl; omega) | (apply w_max; rfl; rfl; rfl) | (apply w_neB; rfl; rfl; rfl; rfl) | (apply w_eqB; rfl; rfl; rfl; rfl) | (apply w_cp; rfl; rfl; exact Mul_ok) | refine spl ?_ ?_ | intro hc)
    exact At_againK (k + q) ⟨by omega, hmx⟩ (by omega) (by (exact sbf)) (by (exact sbf)) (by (exact frm))
  · obtain rfl : k = 64 := by omega
    (repeat' first | refine stp ?_ | intro v' hv' | intro (b : Nat) | (apply w_convU; rfl; rfl; omega; omega) | (apply w_convI; rfl; rfl; omega; omega) | (apply w_quoU; rfl; rfl; rfl; omega; omega; omega) | (apply w_remU; rfl; rfl; rfl; omega; omega) | (apply w_minL; rfl; rfl; rfl; omega) | (apply w_minG; rfl; rfl; rfl; omega) | (apply w_min; rfl; rfl; rfl) | (apply w_mfR; rfl; rfl) | (apply w_cvp; rfl; rfl; exact inferInstance; rfl; rfl; assumption) | (apply w_eqS2T; rfl; rfl; rfl; omega) | (apply w_eqS2F; rfl; rfl; rfl; omega) | (apply w_neS2T; rfl; rfl; rfl; omega) | (apply w_neS2F; rfl; rfl; rfl; omega) | (apply w_eqS3T; rfl; rfl; rfl; omega) | (apply w_eqS3F; rfl; rfl; rfl; omega) | (apply w_neS3T; rfl; rfl; rfl; omega) | (apply w_neS3F; rfl; rfl; rfl; omega) | (apply w_eqS3; rfl; rfl; rfl) | (apply w_neS3; rfl; rfl; rfl) | (apply w_eqS2; rfl; rfl; rfl) | (apply w_neS2; rfl; rfl; rfl) | (apply w_maxL; rfl; rfl; rfl; omega) | (apply w_maxG; rfl; rfl; rfl; omega) | (apply w_max; rfl; rfl; rfl) | (apply w_neB; rfl; rfl; rfl; rfl) | (apply w_eqB; rfl; rfl; rfl; rfl) | (apply w_cp; rfl; rfl; exact Mul_ok) | refine spl ?_ ?_ | intro hc)
    exact At_ret1 (.inl rfl) Try.results58 rfl rfl (fun w hs => Sel.sat (by (focus ((repeat (first | exact Sel.refl | (apply Sel.cons; (focus ((repeat (first | exact Del.here | apply Del.there)); done))) | refine Sel.drop ?_)); done))) hs)
/-! ### Chains, in plain words -/
theorem setF_len (P : List (Int × Int)) : ∀ o : List Int, (P.foldl (fun o p => o.set p.1.toNat p.2) o).length = o.length := by
  induction P with
  | nil => intro o; rfl
  | cons p P ih => intro o; rw [List.foldl_cons, ih, List.length_set]
theorem setF_gi (P : List (Int × Int)) (i : Nat) (y : Int) (h : ∀ p ∈ P, p.1.toNat = i → p.2 = y) : ∀ o : List Int, i < o.length → (gi o i = y ∨ ∃ p ∈ P, p.1.toNat = i) → gi (P.foldl (fun o p => o.set p.1.toNat p.2) o) i = y := by
  induction P with
  | nil =>
    intro o hi hh
    rcases hh with hh | ⟨p, hp, -⟩
    · exact hh
    · cases hp
  | cons p P ih =>
    intro o hi hh
    rw [List.foldl_cons]
    have h2 : ∀ q ∈ P, q.1.toNat = i → q.2 = y := fun q hq => h q (List.mem_cons_of_mem _ hq)
    refine ih h2 _ (by rw [List.length_set]; exact hi) ?_
    by_cases e : p.1.toNat = i
    · left
      have := h p List.mem_cons_self e
      rw [e, gi_set hi, if_pos rfl]; exact this
    · rcases hh with hh | ⟨q, hq, e2⟩
      · left
        unfold gi at *
        rw [List.getD_eq_getElem?_getD, List.getElem?_set, if_neg e, ← List.getD_eq_getElem?_getD]; exact hh
      · right
        rcases List.mem_cons.1 hq with rfl | hq
        · exact absurd e2 e
        · exact ⟨q, hq, e2⟩
theorem setF_no (P : List (Int × Int)) (i : Nat) (y : Int) (h : ∀ p ∈ P, p.1.toNat ≠ i) : ∀ o : List Int, gi o i = y → gi (P.foldl (fun o p => o.set p.1.toNat p.2) o) i = y := by
  induction P with
  | nil => intro o hh; exact hh
  | cons p P ih =>
    intro o hh
    rw [List.foldl_cons]
    refine ih (fun q hq => h q (List.mem_cons_of_mem _ hq)) _ ?_
    have e := h p List.mem_cons_self
    unfold gi at *
    rw [List.getD_eq_getElem?_getD, List.getElem?_set, if_neg e, ← List.getD_eq_getElem?_getD]; exact hh
def m64 : List Int := List.replicate 64 (-1)
def chP (k : Lk) : List (Int × Int) := k.q.map fun x => (x.id, k.own)
def chO (M : List Lk) (i : Nat) : List Int := (M.take i).foldl chainS m64
def chI (M : List Lk) (i j : Nat) : List Int := ((lkA M i).q.take j).foldl (fun o x => o.set x.id.toNat (lkA M i).own) (chO M i)
theorem chainS_eq (o : List Int) (k : Lk) : chainS o k = (chP k).foldl (fun o p => o.set p.1.toNat p.2) o := by
  unfold chainS chP
  rw [List.foldl_map]
theorem chains_eq (M : List Lk) : chainsM M = (M.flatMap chP).foldl (fun o p => o.set p.1.toNat p.2) m64 := by
  unfold chainsM
  rw [List.foldl_flatMap]
  congr 1
  funext o k
  exact chainS_eq o k
theorem chO_succ {M : List Lk} {i : Nat} (h : i < M.length) : chO M (i + 1) = chI M i (lkA M i).q.length := by
  unfold chO chI
  rw [List.take_add_one, lk_some h, List.foldl_append, List.take_length]
  rfl
theorem chI_succ {M : List Lk} {i j : Nat} {x : Ky} (h : (lkA M i).q[j]? = some x) : chI M i (j + 1) = (chI M i j).set x.id.toNat (lkA M i).own := by
  unfold chI
  rw [List.take_add_one, h, List.foldl_append]; rfl
theorem chainS_len (o : List Int) (k : Lk) : (chainS o k).length = o.length := by rw [chainS_eq, setF_len]
theorem chO_len (M : List Lk) (i : Nat) : (chO M i).length = 64 := by
  unfold chO
  have : ∀ (l : List Lk) (o : List Int), (l.foldl chainS o).length = o.length := by
    intro l
    induction l with
    | nil => intro o; rfl
    | cons k l ih => intro o; rw [List.foldl_cons, ih, chainS_len]
  rw [this]; rfl
theorem chI_len (M : List Lk) (i j : Nat) : (chI M i j).length = 64 := by
  unfold chI
  have : ∀ (l : List Ky) (o : List Int) (w : Int), (l.foldl (fun o x => o.set x.id.toNat w) o).length = o.length := by
    intro l
    induction l with
    | nil => intro o w; rfl
    | cons k l ih => intro o w; rw [List.foldl_cons, ih, List.length_set]
  rw [this, chO_len]
theorem chains_get {M : List Lk} {X : RT} (hI : Inv2 M) (hR : Rel M X) (hX : WfR X) {i : Nat} (hi : i < 64) : gi (chainsM M) i = if 0 ≤ gi X.fo i then gi X.own (gi X.fo i).toNat else -1 := by
  rw [chains_eq]
  have hm : ∀ p ∈ M.flatMap chP, ∃ (m : Nat) (x : Ky), m < M.length ∧ x ∈ (lkA M m).q ∧ p = (x.id, (lkA M m).own) := fun p hp => by
    obtain ⟨k, hk, hpk⟩ := List.mem_flatMap.1 hp
    obtain ⟨m, hm⟩ := List.getElem?_of_mem hk
    obtain ⟨x, hx, rfl⟩ := List.mem_map.1 hpk
    exact ⟨m, x, (List.getElem?_eq_some_iff.1 hm).1, by rw [lkA_eq hm]; exact hx, by rw [lkA_eq hm]⟩
  have hl : i < m64.length := by unfold m64; rw [List.length_replicate]; exact hi
  have hg : gi m64 i = -1 := by
    unfold gi m64
    rw [List.getD_eq_getElem?_getD, List.getElem?_replicate, if_pos hi]; rfl
  have hb := hX.fb _ (gi_mem (l := X.fo) (i := i) (by rw [hX.l2]; omega))
  rw [hR.len] at hb
  by_cases h0 : 0 ≤ gi X.fo i
  · rw [if_pos h0]
    have hmf : (gi X.fo i).toNat < M.length := by omega
    refine setF_gi _ i _ (fun p hp e => ?_) _ hl (.inr ?_)
    · obtain ⟨m, x, hml, hx, rfl⟩ := hm p hp
      have := (hR.at hI hml hx).1
      dsimp only at e ⊢
      rw [e] at this
      rw [this, Int.toNat_natCast, hR.own m hml]
    · have hx := (hR.q _ hmf ⟨gi X.at' i, i⟩ (by dsimp only; omega) (by dsimp only; omega)).2 ⟨by dsimp only; rw [Int.toNat_natCast]; omega, by dsimp only; rw [Int.toNat_natCast]⟩
      exact ⟨_, List.mem_flatMap.2 ⟨_, List.mem_of_getElem? (lk_some hmf), List.mem_map.2 ⟨_, hx, rfl⟩⟩, by dsimp only; rw [Int.toNat_natCast]⟩
  · rw [if_neg h0]
    refine setF_no _ i _ (fun p hp e => ?_) _ hg
    obtain ⟨m, x, hml, hx, rfl⟩ := hm p hp
    have := (hR.at hI hml hx).1
    dsimp only at e
    rw [e] at this
    omega
end Go.Proofs.Ytoaaoijdknbanaa
