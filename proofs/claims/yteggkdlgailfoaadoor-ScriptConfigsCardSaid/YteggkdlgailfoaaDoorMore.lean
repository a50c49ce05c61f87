/- More of the walk's rules: results that lie in memory, conversions, whole structs held against each other, function values. Conditions: none. -/
import Derived.Test.YteggkdlgailfoaaDoorGo
set_option linter.all false
set_option linter.deprecated false
namespace Go.Sep
variable [B0 : Base]

class IntT (P : Program) (t : TypeId) (k : outParam IntKind) : Prop where
  out : P.underlying t = some (.int k)

section
variable {P : Program} {n : Nat} {F : Fr} {ds : List Deferred} {L : List HP} {d : Option Tmp} {ty : TypeId} {pos : String} {aft : Array Edge} {g : Option (Nat × Bool)}
theorem runs_conv {s t : TypeId} {x : Operand} {k k' : IntKind} {a b : Int} (hs : P.underlying s = some (.int k)) (ht : P.underlying t = some (.int k')) (hx : ev F x = some (.int k a)) (hw : k'.wrap a = b) :
    Runs P ⟨d, .convert s t x, ty, pos, aft, g⟩ n F ds L (is (.int k' b) L) :=
  runs_pure rfl fun ac w hf => by simp [execOp, hf.ev hx, convert, run_underlying hs, run_underlying ht, Conv.intToInt, hw]
theorem wrap_u64 {a : Int} (h0 : 0 ≤ a) (h1 : a < 18446744073709551616) : IntKind.u64.wrap a = a := by rw [IntKind.wrap_u64]; omega
theorem runs_convU {s t : TypeId} {x : Operand} {k : IntKind} {a : Int} (hs : P.underlying s = some (.int k)) (ht : P.underlying t = some (.int .u64)) (hx : ev F x = some (.int k a)) (h0 : 0 ≤ a) (h1 : a < 18446744073709551616) :
    Runs P ⟨d, .convert s t x, ty, pos, aft, g⟩ n F ds L (is (.int .u64 a) L) := runs_conv hs ht hx (wrap_u64 h0 h1)
theorem runs_convI {s t : TypeId} {x : Operand} {k : IntKind} {a : Int} (hs : P.underlying s = some (.int k)) (ht : P.underlying t = some (.int .i64)) (hx : ev F x = some (.int k a)) (h : W64 a) :
    Runs P ⟨d, .convert s t x, ty, pos, aft, g⟩ n F ds L (is (.int .i64 a) L) := runs_conv hs ht hx (wrap_of h)
theorem runs_quoU {t u : TypeId} {x y : Operand} {a b : Int} (hx : ev F x = some (.int .u64 a)) (hy : ev F y = some (.int .u64 b)) (h0 : 0 ≤ a) (h1 : a < 18446744073709551616) (hb : 0 < b) :
    Runs P ⟨d, .binOp .quo t x y u, ty, pos, aft, g⟩ n F ds L (is (.int .u64 (a / b)) L) := by
  have e : a.tdiv b = a / b := Int.tdiv_eq_ediv_of_nonneg h0
  have hle : a / b ≤ a := Int.ediv_le_self _ h0
  have hge : 0 ≤ a / b := Int.ediv_nonneg h0 (Int.le_of_lt hb)
  have hne : b ≠ 0 := by omega
  exact runs_pure rfl fun ac w hf => by simp [execOp, hf.ev hx, hf.ev hy, eqGuard, binOp, Op.intDiv, hne, e, wrap_u64 hge (by omega)]
theorem runs_remU {t u : TypeId} {x y : Operand} {a b : Int} (hx : ev F x = some (.int .u64 a)) (hy : ev F y = some (.int .u64 b)) (h0 : 0 ≤ a) (hb : 0 < b) :
    Runs P ⟨d, .binOp .rem t x y u, ty, pos, aft, g⟩ n F ds L (is (.int .u64 (a % b)) L) := by
  have e : a.tmod b = a % b := Int.tmod_eq_emod_of_nonneg h0
  have hne : b ≠ 0 := by omega
  exact runs_pure rfl fun ac w hf => by simp [execOp, hf.ev hx, hf.ev hy, eqGuard, binOp, Op.intDiv, hne, e]
end

section
variable {P : Program} {ro : Option Nat} {m : Option Mode} {ops : Array Oper} {Q : Exit → Act → World → Prop} {n : Nat} {rest : List Oper} {F : Fr} {ds : List Deferred} {L : List HP} {d : Nat} {ty : TypeId} {pos : String} {aft : Array Edge}
theorem w_convU {s t : TypeId} {x : Operand} {k : IntKind} {a : Int} [hs : IntT P s k] [ht : IntT P t .u64] (hd : Nat.blt d n = true) (hx : ev F x = some (.int k a)) (h0 : 0 ≤ a) (h1 : a < 18446744073709551616) (hk : W P ro m ops Q n rest ((d, .int .u64 a) :: F) ds L) :
    W P ro m ops Q n (⟨some d, .convert s t x, ty, pos, aft, none⟩ :: rest) F ds L := Wp hd (fun _ => runs_convU hs.out ht.out hx h0 h1) hk
theorem w_convI {s t : TypeId} {x : Operand} {k : IntKind} {a : Int} [hs : IntT P s k] [ht : IntT P t .i64] (hd : Nat.blt d n = true) (hx : ev F x = some (.int k a)) (h0 : -9223372036854775808 ≤ a) (h1 : a ≤ 9223372036854775807) (hk : W P ro m ops Q n rest ((d, .int .i64 a) :: F) ds L) :
    W P ro m ops Q n (⟨some d, .convert s t x, ty, pos, aft, none⟩ :: rest) F ds L := Wp hd (fun _ => runs_convI hs.out ht.out hx ⟨h0, h1⟩) hk
theorem w_quoU {t u : TypeId} {x y : Operand} {a b : Int} (hd : Nat.blt d n = true) (hx : ev F x = some (.int .u64 a)) (hy : ev F y = some (.int .u64 b)) (h0 : 0 ≤ a) (h1 : a < 18446744073709551616) (hb : 0 < b) (hk : W P ro m ops Q n rest ((d, .int .u64 (a / b)) :: F) ds L) :
    W P ro m ops Q n (⟨some d, .binOp .quo t x y u, ty, pos, aft, none⟩ :: rest) F ds L := Wp hd (fun _ => runs_quoU hx hy h0 h1 hb) hk
theorem w_remU {t u : TypeId} {x y : Operand} {a b : Int} (hd : Nat.blt d n = true) (hx : ev F x = some (.int .u64 a)) (hy : ev F y = some (.int .u64 b)) (h0 : 0 ≤ a) (hb : 0 < b) (hk : W P ro m ops Q n rest ((d, .int .u64 (a % b)) :: F) ds L) :
    W P ro m ops Q n (⟨some d, .binOp .rem t x y u, ty, pos, aft, none⟩ :: rest) F ds L := Wp hd (fun _ => runs_remU hx hy h0 hb) hk
end

/-! ### Results, in slots and in memory -/
inductive ResR (P : Program) (F : Fr) (L : List HP) : List ResultVar → List Value → Prop
  | nil : ResR P F L [] []
  | tmp {t : Tmp} {v : Value} {rs : List ResultVar} {vs : List Value} (h : look F t = some v) (r : ResR P F L rs vs) : ResR P F L (.tmp t :: rs) (v :: vs)
  | one {t : Tmp} {ty : TypeId} {ad : Addr} {v : Value} {rs : List ResultVar} {vs : List Value} [ht : OneT P ty] (h : look F t = some (.pointer (some ad))) (hr : Rd L ad v) (r : ResR P F L rs vs) : ResR P F L (.cell t ty :: rs) (v :: vs)
  | agg {t : Tmp} {ty m b o : Nat} {us : List Value} {rs : List ResultVar} {vs : List Value} [ht : AggT P ty m] (h : look F t = some (.pointer (some ⟨b, o, none⟩))) (hr : RdAll L b o us) (hm : us.length = m) (r : ResR P F L rs vs) : ResR P F L (.cell t ty :: rs) (.agg us.toArray :: vs)
theorem ResR.run {P : Program} {F : Fr} {L : List HP} {n : Nat} {ds : List Deferred} {a : Act} {w : World} (hf : FrOk a n F ds) (hs : Sat w L) {rs : List ResultVar} {vs : List Value} (h : ResR P F L rs vs) :
    (rs.mapM fun (r : ResultVar) => match r with
      | .tmp t => (pure (a.tmps.getD t undef) : Sem Value)
      | .cell c t => do loadVar t (← asAddr (a.tmps.getD c undef))).run P w = .ok vs w := by
  induction h with
  | nil => simp
  | @tmp t v rs vs h r ih =>
    have hd : (pure (a.tmps.getD t undef) : Sem Value).run P w = .ok v w := by simp [Array.getD_eq_getD_getElem?, hf.slot _ _ h]
    rw [List.mapM_cons, Sem.run_bind]
    simp only [hd, Result.andThen_ok, Sem.run_bind, ih, Sem.run_pure]
  | @one t ty ad v rs vs ht h hr r ih =>
    have hd : (do loadVar ty (← asAddr (a.tmps.getD t undef)) : Sem Value).run P w = .ok v w := by simp [Array.getD_eq_getD_getElem?, hf.slot _ _ h, asAddr, loadVar, (oneT_spec ht.out w).1, hr.out w hs]
    rw [List.mapM_cons, Sem.run_bind]
    simp only [hd, Result.andThen_ok, Sem.run_bind, ih, Sem.run_pure]
  | @agg t ty m b o us rs vs ht h hr hm r ih =>
    subst hm
    have h1 := run_loadCells (P := P) (w := w) us 0 #[] (fun i v hv => by rw [Nat.add_zero]; exact hr.get hs i v hv)
    have hd : (do loadVar ty (← asAddr (a.tmps.getD t undef)) : Sem Value).run P w = .ok (.agg us.toArray) w := by simp [Array.getD_eq_getD_getElem?, hf.slot _ _ h, asAddr, loadVar, (aggT_spec ht.out w).1, (aggT_spec ht.out w).2, loadCells, h1]
    rw [List.mapM_cons, Sem.run_bind]
    simp only [hd, Result.andThen_ok, Sem.run_bind, ih, Sem.run_pure]
def packR : List Value → Value
  | [v] => v
  | vs => .tuple vs.toArray
theorem results_run {P : Program} {fn : Func} {F : Fr} {L : List HP} {n : Nat} {ds : List Deferred} {a : Act} {w : World} (hf : FrOk a n F ds) (hs : Sat w L) {rs : List ResultVar} {vs : List Value} (hr : fn.results = rs.toArray) (h : ResR P F L rs vs) :
    (results fn a.tmps).run P w = .ok (packR vs) w := by
  have h1 := h.run hf hs
  unfold results
  rw [hr, List.mapM_toArray]
  simp only [Sem.run_bind, Sem.run_map, Result.andThen_ok, Sem.run_pure]
  erw [h1]
  simp only [Result.andThen_ok, Sem.run_bind, Sem.run_pure]
  match vs with
  | [] => rfl
  | [v] => rfl
  | v :: v' :: vs => rfl
theorem At_retR {P : Program} {fn : Func} {R : Value → List HP → Prop} {n : Nat} {F : Fr} {L : List HP} {rs : List ResultVar} {vs : List Value} {e : Exit} (he : e = .ret ∨ e = .normal)
    (h : fn.results = rs.toArray) (hr : ResR P F L rs vs) {L' : List HP} (hR : R (packR vs) L') (hL : ∀ w, Sat w L → Sat w L') : At (Ret P fn R) e n F [] L :=
  At_ret he (fun _ _ hf hs => results_run hf hs h hr) hR hL
end Go.Sep
