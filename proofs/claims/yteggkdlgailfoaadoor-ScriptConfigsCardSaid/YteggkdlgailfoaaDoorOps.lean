/- What single operations do, under assertions. Conditions: none. -/
import Derived.Test.YteggkdlgailfoaaDoorHeap
set_option linter.all false
set_option linter.deprecated false
namespace Go.Sep
variable [B0 : Base]
section
variable {P : Program} {n : Nat} {F : Fr} {ds : List Deferred} {L : List HP} {d : Option Tmp} {ty : TypeId} {pos : String} {aft : Array Edge} {g : Option (Nat × Bool)}

/-- An operation that looks at no memory. -/
theorem runs_pure {o : Oper} {v : Value} (hn : notDefer o.op = true) (h : ∀ a w, FrOk a n F ds → (execOp a.eval o).run P w = .ok (.value v) w) : Runs P o n F ds L (is v L) :=
  ⟨hn, fun a w hf hs => by rw [h a w hf]; exact ⟨L, ⟨rfl, rfl⟩, hs⟩⟩

/-- An operation that reads. -/
theorem runs_read {o : Oper} {v : Value} (hn : notDefer o.op = true) (h : ∀ a w, FrOk a n F ds → Sat w L → (execOp a.eval o).run P w = .ok (.value v) w) : Runs P o n F ds L (is v L) :=
  ⟨hn, fun a w hf hs => by rw [h a w hf hs]; exact ⟨L, ⟨rfl, rfl⟩, hs⟩⟩

theorem runs_move {x : Operand} {v : Value} (hx : ev F x = some v) : Runs P ⟨d, .move x, ty, pos, aft, g⟩ n F ds L (is v L) :=
  runs_pure rfl fun a w hf => by simp [execOp, hf.ev hx]
theorem runs_assign {x : Operand} {v : Value} (hx : ev F x = some v) : Runs P ⟨d, .assign x, ty, pos, aft, g⟩ n F ds L (is v L) :=
  runs_pure rfl fun a w hf => by simp [execOp, hf.ev hx]
theorem runs_pick {c x y : Operand} {b : Bool} {u v : Value} (hc : ev F c = some (.bool b)) (hx : ev F x = some u) (hy : ev F y = some v) : Runs P ⟨d, .pick c x y, ty, pos, aft, g⟩ n F ds L (is (if b then u else v) L) :=
  runs_pure rfl fun a w hf => by simp [execOp, hf.ev hc, hf.ev hx, hf.ev hy, asBool]

theorem runs_pickT {c x y : Operand} {u : Value} (hc : ev F c = some (.bool true)) (hx : ev F x = some u) : Runs P ⟨d, .pick c x y, ty, pos, aft, g⟩ n F ds L (is u L) :=
  runs_pure rfl fun a w hf => by simp [execOp, hf.ev hc, hf.ev hx, asBool]
theorem runs_pickF {c x y : Operand} {u : Value} (hc : ev F c = some (.bool false)) (hy : ev F y = some u) : Runs P ⟨d, .pick c x y, ty, pos, aft, g⟩ n F ds L (is u L) :=
  runs_pure rfl fun a w hf => by simp [execOp, hf.ev hc, hf.ev hy, asBool]

theorem runs_nilCheck {x : Operand} {ad : Addr} (hx : ev F x = some (.pointer (some ad))) : Runs P ⟨d, .nilCheck x, ty, pos, aft, g⟩ n F ds L (is (.pointer (some ad)) L) :=
  runs_pure rfl fun a w hf => by simp [execOp, hf.ev hx]
theorem runs_nilCheckFn {x : Operand} {f : FuncId} {fs cs : Array Value} (hx : ev F x = some (.func (.func f) fs cs)) : Runs P ⟨d, .nilCheck x, ty, pos, aft, g⟩ n F ds L (is (.func (.func f) fs cs) L) :=
  runs_pure rfl fun a w hf => by simp [execOp, hf.ev hx]

/-! ### Whole numbers -/
abbrev W64 (x : Int) : Prop := -9223372036854775808 ≤ x ∧ x ≤ 9223372036854775807
theorem wrap_of {x : Int} (h : W64 x) : IntKind.i64.wrap x = x := IntWalk.i64_in x h

theorem runs_add {t u : TypeId} {x y : Operand} {a b : Int} (hx : ev F x = some (.int .i64 a)) (hy : ev F y = some (.int .i64 b)) (h : W64 (a + b)) :
    Runs P ⟨d, .binOp .add t x y u, ty, pos, aft, g⟩ n F ds L (is (.int .i64 (a + b)) L) :=
  runs_pure rfl fun ac w hf => by simp [execOp, hf.ev hx, hf.ev hy, eqGuard, binOp, Op.intArith, wrap_of h]
theorem runs_sub {t u : TypeId} {x y : Operand} {a b : Int} (hx : ev F x = some (.int .i64 a)) (hy : ev F y = some (.int .i64 b)) (h : W64 (a - b)) :
    Runs P ⟨d, .binOp .sub t x y u, ty, pos, aft, g⟩ n F ds L (is (.int .i64 (a - b)) L) :=
  runs_pure rfl fun ac w hf => by simp [execOp, hf.ev hx, hf.ev hy, eqGuard, binOp, Op.intArith, wrap_of h]
theorem runs_mul {t u : TypeId} {x y : Operand} {a b : Int} (hx : ev F x = some (.int .i64 a)) (hy : ev F y = some (.int .i64 b)) (h : W64 (a * b)) :
    Runs P ⟨d, .binOp .mul t x y u, ty, pos, aft, g⟩ n F ds L (is (.int .i64 (a * b)) L) :=
  runs_pure rfl fun ac w hf => by simp [execOp, hf.ev hx, hf.ev hy, eqGuard, binOp, Op.intArith, wrap_of h]
theorem runs_quo {t u : TypeId} {x y : Operand} {a b : Int} (hx : ev F x = some (.int .i64 a)) (hy : ev F y = some (.int .i64 b)) (hb : b ≠ 0) (h : W64 (a.tdiv b)) :
    Runs P ⟨d, .binOp .quo t x y u, ty, pos, aft, g⟩ n F ds L (is (.int .i64 (a.tdiv b)) L) :=
  runs_pure rfl fun ac w hf => by simp [execOp, hf.ev hx, hf.ev hy, eqGuard, binOp, Op.intDiv, hb, wrap_of h]
theorem runs_rem {t u : TypeId} {x y : Operand} {a b : Int} (hx : ev F x = some (.int .i64 a)) (hy : ev F y = some (.int .i64 b)) (hb : b ≠ 0) :
    Runs P ⟨d, .binOp .rem t x y u, ty, pos, aft, g⟩ n F ds L (is (.int .i64 (a.tmod b)) L) :=
  runs_pure rfl fun ac w hf => by simp [execOp, hf.ev hx, hf.ev hy, eqGuard, binOp, Op.intDiv, hb]
theorem runs_neg {t : TypeId} {x : Operand} {a : Int} (hx : ev F x = some (.int .i64 a)) (h : W64 (-a)) :
    Runs P ⟨d, .unOp .neg t x, ty, pos, aft, g⟩ n F ds L (is (.int .i64 (-a)) L) :=
  runs_pure rfl fun ac w hf => by simp [execOp, hf.ev hx, Op.unary, Op.intArith, wrap_of h]

theorem runs_lss {k : IntKind} {t u : TypeId} {x y : Operand} {a b : Int} (hx : ev F x = some (.int k a)) (hy : ev F y = some (.int k b)) :
    Runs P ⟨d, .binOp .lss t x y u, ty, pos, aft, g⟩ n F ds L (is (.bool (decide (a < b))) L) :=
  runs_pure rfl fun ac w hf => by simp [execOp, hf.ev hx, hf.ev hy, eqGuard, binOp, Op.intCmp]
theorem runs_leq {k : IntKind} {t u : TypeId} {x y : Operand} {a b : Int} (hx : ev F x = some (.int k a)) (hy : ev F y = some (.int k b)) :
    Runs P ⟨d, .binOp .leq t x y u, ty, pos, aft, g⟩ n F ds L (is (.bool (decide (a ≤ b))) L) :=
  runs_pure rfl fun ac w hf => by simp [execOp, hf.ev hx, hf.ev hy, eqGuard, binOp, Op.intCmp]
theorem runs_gtr {k : IntKind} {t u : TypeId} {x y : Operand} {a b : Int} (hx : ev F x = some (.int k a)) (hy : ev F y = some (.int k b)) :
    Runs P ⟨d, .binOp .gtr t x y u, ty, pos, aft, g⟩ n F ds L (is (.bool (decide (b < a))) L) :=
  runs_pure rfl fun ac w hf => by simp [execOp, hf.ev hx, hf.ev hy, eqGuard, binOp, Op.intCmp]
theorem runs_geq {k : IntKind} {t u : TypeId} {x y : Operand} {a b : Int} (hx : ev F x = some (.int k a)) (hy : ev F y = some (.int k b)) :
    Runs P ⟨d, .binOp .geq t x y u, ty, pos, aft, g⟩ n F ds L (is (.bool (decide (b ≤ a))) L) :=
  runs_pure rfl fun ac w hf => by simp [execOp, hf.ev hx, hf.ev hy, eqGuard, binOp, Op.intCmp]
theorem runs_eql {k : IntKind} {t u : TypeId} {x y : Operand} {a b : Int} (hx : ev F x = some (.int k a)) (hy : ev F y = some (.int k b)) :
    Runs P ⟨d, .binOp .eql t x y u, ty, pos, aft, g⟩ n F ds L (is (.bool (decide (a = b))) L) :=
  runs_pure rfl fun ac w hf => by simp [execOp, hf.ev hx, hf.ev hy, eqGuard, binOp, Op.intCmp]; rfl
theorem runs_neq {k : IntKind} {t u : TypeId} {x y : Operand} {a b : Int} (hx : ev F x = some (.int k a)) (hy : ev F y = some (.int k b)) :
    Runs P ⟨d, .binOp .neq t x y u, ty, pos, aft, g⟩ n F ds L (is (.bool (decide (a ≠ b))) L) :=
  runs_pure rfl fun ac w hf => by simp [execOp, hf.ev hx, hf.ev hy, eqGuard, binOp, Op.intCmp]; rfl

theorem runs_not {t : TypeId} {x : Operand} {b : Bool} (hx : ev F x = some (.bool b)) : Runs P ⟨d, .unOp .not t x, ty, pos, aft, g⟩ n F ds L (is (.bool (!b)) L) :=
  runs_pure rfl fun ac w hf => by simp [execOp, hf.ev hx, Op.unary]

/-! ### nil -/
def isPtr (P : Program) (t : TypeId) : Bool := match P.underlying t with | some (.pointer _) => true | _ => false
def isFn (P : Program) (t : TypeId) : Bool := match P.underlying t with | some (.func _ _ _) => true | _ => false

theorem run_eqNil {t : TypeId} (ht : isPtr P t = true) (p : Option Addr) (w : World) : (binOp .eql t (.pointer p) (.pointer none)).run P w = .ok (.bool p.isNone) w := by
  unfold isPtr at ht
  split at ht
  · rename_i e he
    have := run_eql_pointer_nil (P := P) w t p (by simp [Program.pointee, he])
    rw [this]
  · cases ht
theorem run_neNil {t : TypeId} (ht : isPtr P t = true) (p : Option Addr) (w : World) : (binOp .neq t (.pointer p) (.pointer none)).run P w = .ok (.bool p.isSome) w := by
  unfold isPtr at ht
  split at ht
  · rename_i e he
    have := run_neq_pointer_nil (P := P) w t p (by simp [Program.pointee, he])
    rw [this]; cases p <;> rfl
  · cases ht

theorem runs_eqNil {t u : TypeId} {x : Operand} {p : Option Addr} (ht : isPtr P t = true) (hx : ev F x = some (.pointer p)) :
    Runs P ⟨d, .binOp .eql t x (.const (.pointer none)) u, ty, pos, aft, g⟩ n F ds L (is (.bool p.isNone) L) :=
  runs_pure rfl fun ac w hf => by
    have h2 : ac.eval (.const (.pointer none)) = .pointer none := rfl
    simp [execOp, hf.ev hx, h2, eqGuard, run_eqNil ht]
theorem runs_neNil {t u : TypeId} {x : Operand} {p : Option Addr} (ht : isPtr P t = true) (hx : ev F x = some (.pointer p)) :
    Runs P ⟨d, .binOp .neq t x (.const (.pointer none)) u, ty, pos, aft, g⟩ n F ds L (is (.bool p.isSome) L) :=
  runs_pure rfl fun ac w hf => by
    have h2 : ac.eval (.const (.pointer none)) = .pointer none := rfl
    simp [execOp, hf.ev hx, h2, eqGuard, run_neNil ht]

theorem run_equalIn_fn_nil (m : Nat) {t : TypeId} (ht : isFn P t = true) (f : Fn) (a b : Array Value) (w : World) : (Op.equalIn (m + 1) t (.func f a b) .nilFunc).run P w = .ok false w := by
  unfold isFn at ht
  split at ht
  · rename_i e1 e2 e3 he
    simp only [Op.equalIn, Sem.run_bind, run_underlying he, Result.andThen_ok]; rfl
  · cases ht
theorem run_equal_fn_nil {t : TypeId} (ht : isFn P t = true) (f : Fn) (a b : Array Value) (w : World) : (Op.equal t (.func f a b) .nilFunc).run P w = .ok false w := run_equalIn_fn_nil 9999 ht f a b w
theorem run_eqNilFn {t : TypeId} (ht : isFn P t = true) (f : Fn) (a b : Array Value) (w : World) : (binOp .eql t (.func f a b) .nilFunc).run P w = .ok (.bool false) w := by
  simp [binOp, run_equal_fn_nil ht]

theorem runs_eqNilFn {t u : TypeId} {x : Operand} {f : Fn} {a b : Array Value} (ht : isFn P t = true) (hx : ev F x = some (.func f a b)) :
    Runs P ⟨d, .binOp .eql t x (.const .nilFunc) u, ty, pos, aft, g⟩ n F ds L (is (.bool false) L) :=
  runs_pure rfl fun ac w hf => by
    have h2 : ac.eval (.const .nilFunc) = .nilFunc := rfl
    simp [execOp, hf.ev hx, h2, eqGuard, run_eqNilFn ht]

/-! ### Addresses -/
/-- The offset of a field whose type takes room. -/
def fieldOff (P : Program) (s : TypeId) (f : Nat) : Option Nat :=
  match P.underlying s with
  | some (.struct fs) => match fs[f]? with
    | some x => match P.info? x.type with
      | some i => if i.size = 0 then none else some x.offset
      | none => none
    | none => none
  | _ => none

theorem run_fieldAt {s : TypeId} {f k : Nat} (h : fieldOff P s f = some k) (b o : Nat) (w : World) : (Instr.fieldAt s (.pointer (some ⟨b, o, none⟩)) f).run P w = .ok (.pointer (some ⟨b, o + k, none⟩)) w := by
  unfold fieldOff at h
  split at h
  · rename_i fs hs
    split at h
    · rename_i x hx
      split at h
      · rename_i i hi
        split at h
        · cases h
        · rename_i h0
          cases h
          simp [Instr.fieldAt, run_underlying hs, hx, Instr.sureAddr, fieldPlace, sizeOf, typeInfo, hi, h0, Addr.add_lit]
      · cases h
    · cases h
  · cases h

theorem runs_fieldAddr {s : TypeId} {x : Operand} {f k b o : Nat} (h : fieldOff P s f = some k) (hx : ev F x = some (.pointer (some ⟨b, o, none⟩))) :
    Runs P ⟨d, .fieldAddr s x f, ty, pos, aft, g⟩ n F ds L (is (.pointer (some ⟨b, o + k, none⟩)) L) :=
  runs_pure rfl fun ac w hf => by simp [execOp, hf.ev hx, run_fieldAt h]

def elemOfSl (P : Program) (t : TypeId) : Option (TypeId × Nat) :=
  match P.underlying t with
  | some (.slice e) => match P.info? e with
    | some i => some (e, i.size)
    | none => none
  | _ => none

theorem elemOfSl_spec {t e : TypeId} {m : Nat} (h : elemOfSl P t = some (e, m)) : P.underlying t = some (.slice e) ∧ ∃ i, P.info? e = some i ∧ i.size = m := by
  unfold elemOfSl at h
  split at h
  · rename_i e' he
    split at h
    · rename_i i hi; cases h; exact ⟨he, i, hi, rfl⟩
    · cases h
  · cases h

theorem run_indexAt_sl {t e : TypeId} {m N : Nat} {v : Value} (h : elemOfSl P t = some (e, m)) (hv : IsSl v N) {k : IntKind} {i : Int} (h0 : 0 ≤ i) (h1 : i < N) (w : World) :
    (Instr.indexAt t v (.int k i)).run P w = .ok (.pointer (some ⟨vb v, vo v + i.toNat * m, none⟩)) w := by
  obtain ⟨ht, inf, hi, hm⟩ := elemOfSl_spec h
  obtain ⟨ao, cap, rfl, hc, _, hn, hsp⟩ := hv
  cases ao with
  | none => have := hn rfl; omega
  | some a =>
    obtain ⟨b, o, sp⟩ := a
    have : sp = none := hsp _ rfl (by omega)
    subst this
    simp [Instr.indexAt, asIntOf, run_underlying ht, h0, h1, sizeOf, typeInfo, hi, hm, Addr.add_lit, vb, vo]

theorem runs_indexAddr {t e : TypeId} {m N : Nat} {x y : Operand} {v : Value} {k : IntKind} {i : Int} (h : elemOfSl P t = some (e, m)) (hx : ev F x = some v) (hy : ev F y = some (.int k i)) (hl : Len L v N) (h0 : 0 ≤ i) (h1 : i < N) :
    Runs P ⟨d, .indexAddr t x y, ty, pos, aft, g⟩ n F ds L (is (.pointer (some ⟨vb v, vo v + i.toNat * m, none⟩)) L) :=
  runs_read rfl fun ac w hf hs => by simp [execOp, hf.ev hx, hf.ev hy, run_indexAt_sl h (hl.out w hs) h0 h1]

/-- The index a natural number. -/
theorem runs_indexAddrN {t e : TypeId} {m N : Nat} {x y : Operand} {v : Value} {k : IntKind} {i : Nat} (h : elemOfSl P t = some (e, m)) (hx : ev F x = some v) (hy : ev F y = some (.int k (i : Int))) (hl : Len L v N) (h1 : i < N) :
    Runs P ⟨d, .indexAddr t x y, ty, pos, aft, g⟩ n F ds L (is (.pointer (some ⟨vb v, vo v + i * m, none⟩)) L) := by
  have := runs_indexAddr (P := P) (d := d) (ty := ty) (pos := pos) (aft := aft) (g := g) (n := n) (ds := ds) h hx hy hl (Int.natCast_nonneg i) (by omega)
  simpa using this

theorem runs_len {t : TypeId} {x : Operand} {v : Value} {e : TypeId} {m N : Nat} (h : elemOfSl P t = some (e, m)) (hx : ev F x = some v) (hl : Len L v N) :
    Runs P ⟨d, .call { callee := .builtin .len, args := #[x], argTypes := #[t] }, ty, pos, aft, g⟩ n F ds L (is (.int .i64 N) L) :=
  runs_read rfl fun ac w hf hs => by
    obtain ⟨ao, cap, rfl, _⟩ := hl.out w hs
    simp [execOp, resolve, invoke, builtin, hf.ev hx, Builtin.len_, run_underlying (elemOfSl_spec h).1, goInt]

theorem runs_min {x y : Operand} {k : IntKind} {a b : Int} {ts : Array TypeId} (hx : ev F x = some (.int k a)) (hy : ev F y = some (.int k b)) :
    Runs P ⟨d, .call { callee := .builtin .min, args := #[x, y], argTypes := ts }, ty, pos, aft, g⟩ n F ds L (is (.int k (if b < a then b else a)) L) :=
  runs_pure rfl fun ac w hf => by simp [execOp, resolve, invoke, builtin, hf.ev hx, hf.ev hy, Builtin.min_, Builtin.min2]

theorem runs_extract {x : Operand} {vs : Array Value} {i : Nat} {v : Value} (hx : ev F x = some (.tuple vs)) (hv : vs[i]? = some v) : Runs P ⟨d, .extract x i, ty, pos, aft, g⟩ n F ds L (is v L) :=
  runs_pure rfl fun ac w hf => by simp [execOp, hf.ev hx, Instr.extract, hv]

theorem runs_makeFunc0 {fn : Fn} : Runs P ⟨d, .makeFunc fn #[] #[], ty, pos, aft, g⟩ n F ds L (is (.func fn #[] #[]) L) :=
  runs_pure rfl fun ac w _ => by simp [execOp, Instr.makeFunc]
theorem runs_makeFunc1 {fn : Fn} {x : Operand} {v : Value} (hx : ev F x = some v) : Runs P ⟨d, .makeFunc fn #[] #[x], ty, pos, aft, g⟩ n F ds L (is (.func fn #[] #[v]) L) :=
  runs_pure rfl fun ac w hf => by simp [execOp, Instr.makeFunc, hf.ev hx]
theorem runs_makeFunc2 {fn : Fn} {x y : Operand} {v u : Value} (hx : ev F x = some v) (hy : ev F y = some u) : Runs P ⟨d, .makeFunc fn #[] #[x, y], ty, pos, aft, g⟩ n F ds L (is (.func fn #[] #[v, u]) L) :=
  runs_pure rfl fun ac w hf => by simp [execOp, Instr.makeFunc, hf.ev hx, hf.ev hy]

/-! ### Loads and stores -/
/-- A type of one cell. -/
def oneT (P : Program) (t : TypeId) : Bool :=
  match P.underlying t with
  | some (.struct _) | some (.array _ _) | none => false
  | _ => match P.info? t with
    | some i => i.size == 1
    | none => false

theorem oneT_spec {t : TypeId} (h : oneT P t = true) (w : World) : (isAgg t).run P w = .ok false w ∧ (sizeOf t).run P w = .ok 1 w := by
  unfold oneT at h
  split at h
  · cases h
  · cases h
  · cases h
  · rename_i h1 h2 h3
    split at h
    · rename_i i hi
      constructor
      · cases hu : P.underlying t with
        | none => exact absurd hu h3
        | some u => cases u <;> first | exact absurd hu (h1 _) | exact absurd hu (h2 _ _) | simp [isAgg, run_underlying hu]
      · have : i.size = 1 := by simpa using h
        simp [sizeOf, typeInfo, hi, this]
    · cases h

theorem run_loadAt {t : TypeId} (ht : oneT P t = true) {ad : Addr} {v : Value} {w : World} (h : w.cell? ad = some v) : (Instr.loadAt t (.pointer (some ad))).run P w = .ok v w := by
  simp [Instr.loadAt, Instr.sureAddr, loadVar, (oneT_spec ht w).1, h]

theorem runs_load {t : TypeId} {x : Operand} {ad : Addr} {v : Value} (ht : oneT P t = true) (hx : ev F x = some (.pointer (some ad))) (h : Rd L ad v) :
    Runs P ⟨d, .load t x, ty, pos, aft, g⟩ n F ds L (is v L) :=
  runs_read rfl fun ac w hf hs => by simp [execOp, hf.ev hx, run_loadAt ht (h.out w hs)]

/-- A struct or an array. -/
def aggT (P : Program) (t : TypeId) : Option Nat :=
  match P.underlying t with
  | some (.struct _) | some (.array _ _) => match P.info? t with
    | some i => some i.size
    | none => none
  | _ => none

theorem aggT_spec {t : TypeId} {m : Nat} (h : aggT P t = some m) (w : World) : (isAgg t).run P w = .ok true w ∧ (sizeOf t).run P w = .ok m w := by
  unfold aggT at h
  split at h
  · rename_i hu
    split at h
    · rename_i i hi; cases h; exact ⟨by simp [isAgg, run_underlying hu], by simp [sizeOf, typeInfo, hi]⟩
    · cases h
  · rename_i hu
    split at h
    · rename_i i hi; cases h; exact ⟨by simp [isAgg, run_underlying hu], by simp [sizeOf, typeInfo, hi]⟩
    · cases h
  · cases h

/-- Under L these cells lie one behind the other from an address on. -/
def RdAll (L : List HP) (b o : Nat) : List Value → Prop
  | [] => True
  | v :: vs => Rd L ⟨b, o, none⟩ v ∧ RdAll L b (o + 1) vs

theorem run_loadCells {b o : Nat} {w : World} : ∀ (vs : List Value) (j : Nat) (acc : Array Value), (∀ i v, vs[i]? = some v → w.cell? ⟨b, o + j + i, none⟩ = some v) →
    (loadCellsFrom ⟨b, o, none⟩ j vs.length acc).run P w = .ok (acc ++ vs.toArray) w
  | [], j, acc, _ => by simp [loadCellsFrom]
  | v :: vs, j, acc, h => by
    have h0 := h 0 v rfl
    simp only [Nat.add_zero] at h0
    simp only [List.length_cons, loadCellsFrom, Sem.run_bind, run_load, Addr.add_lit, h0, Result.andThen_ok]
    rw [run_loadCells vs (j + 1) (acc.push v) (fun i u hu => by rw [show o + (j + 1) + i = o + j + (i + 1) by omega]; exact h (i + 1) u hu)]
    simp

theorem RdAll.get {L : List HP} {b : Nat} {w : World} (hs : Sat w L) : ∀ {vs : List Value} {o : Nat}, RdAll L b o vs → ∀ i v, vs[i]? = some v → w.cell? ⟨b, o + i, none⟩ = some v
  | [], _, _, _, _, h => by simp at h
  | u :: vs, o, ⟨h1, h2⟩, 0, v, h => by simp at h; subst h; exact h1.out w hs
  | u :: vs, o, ⟨h1, h2⟩, i + 1, v, h => by
    rw [show o + (i + 1) = o + 1 + i by omega]; exact RdAll.get hs h2 i v (by simpa using h)

theorem runs_loadAgg {t : TypeId} {x : Operand} {b o : Nat} {vs : List Value} {m : Nat} (ht : aggT P t = some m) (hx : ev F x = some (.pointer (some ⟨b, o, none⟩))) (hm : vs.length = m) (h : RdAll L b o vs) :
    Runs P ⟨d, .load t x, ty, pos, aft, g⟩ n F ds L (is (.agg vs.toArray) L) :=
  runs_read rfl fun ac w hf hs => by
    subst hm
    have := run_loadCells (P := P) (w := w) vs 0 #[] (fun i v hv => by rw [Nat.add_zero]; exact h.get hs i v hv)
    simp [execOp, hf.ev hx, Instr.loadAt, Instr.sureAddr, loadVar, (aggT_spec ht w).1, (aggT_spec ht w).2, loadCells, this]

theorem run_store1 {w : World} {ad : Addr} {v : Value} (hv : v.oneCell' = true) (h1 : (w.cell? ad).isSome = true) (h2 : w.frozen? ad = false) : (store ad v).run P w = .ok () (w.setCell ad v) := by
  rw [run_store P w ad v .plain hv]
  cases h : w.cell? ad with
  | none => rw [h] at h1; cases h1
  | some u => simp [h2]

theorem Value.cells_one {v : Value} (hv : v.oneCell' = true) : v.cells = #[v] := by cases v <;> simp_all [Value.oneCell', Value.cells]

theorem runs_store {t : TypeId} {x y : Operand} {ad : Addr} {v : Value} {L' : List HP} (ht : oneT P t = true) (hx : ev F x = some (.pointer (some ad))) (hy : ev F y = some v) (hv : v.oneCell' = true) (h : St L ad v L') :
    Runs P ⟨none, .store t x y, ty, pos, aft, g⟩ n F ds L (is undef L') :=
  ⟨rfl, fun ac w hf hs => by
    obtain ⟨h1, h2, h3⟩ := h.sat hs
    have hadd : ad.add 0 = ad := by simp [Addr.add]
    simp only [execOp, hf.ev hx, hf.ev hy, Instr.storeAt, Instr.sureAddr, storeVar, Sem.run_bind, Sem.run_pure, Result.andThen_ok, Value.cells_one hv, (oneT_spec ht w).2]
    simp [storeCells, hadd, run_store1 hv h1 h2, Upon]
    exact ⟨L', ⟨rfl, rfl⟩, h3⟩⟩

/-- Storing these cells one behind the other. -/
def StAll : List HP → Nat → Nat → List Value → List HP → Prop
  | L, _, _, [], L' => L = L'
  | L, b, o, v :: vs, L' => ∃ M, St L ⟨b, o, none⟩ v M ∧ StAll M b (o + 1) vs L'

theorem run_storeCells {b o : Nat} : ∀ (vs : List Value) (j : Nat) (L L' : List HP) (w : World), (∀ v ∈ vs, v.oneCell' = true) → StAll L b (o + j) vs L' → Sat w L →
    ∃ w', (storeCells ⟨b, o, none⟩ vs j).run P w = .ok () w' ∧ Sat w' L'
  | [], j, L, L', w, _, h, hs => by subst h; exact ⟨w, by simp [storeCells], hs⟩
  | v :: vs, j, L, L', w, hv, ⟨M, h1, h2⟩, hs => by
    obtain ⟨c1, c2, c3⟩ := h1.sat hs
    obtain ⟨w', hr, hs'⟩ := run_storeCells vs (j + 1) M L' _ (fun u hu => hv u (List.mem_cons_of_mem _ hu)) (by rw [← Nat.add_assoc]; exact h2) c3
    refine ⟨w', ?_, hs'⟩
    simp only [storeCells, Sem.run_bind, Addr.add_lit, run_store1 (hv v (by simp)) c1 c2, Result.andThen_ok]
    exact hr

theorem runs_storeAgg {t : TypeId} {x y : Operand} {b o : Nat} {vs : List Value} {m : Nat} {L' : List HP} (ht : aggT P t = some m) (hx : ev F x = some (.pointer (some ⟨b, o, none⟩))) (hy : ev F y = some (.agg vs.toArray)) (hm : vs.length = m)
    (hv : ∀ v ∈ vs, v.oneCell' = true) (h : StAll L b o vs L') :
    Runs P ⟨none, .store t x y, ty, pos, aft, g⟩ n F ds L (is undef L') :=
  ⟨rfl, fun ac w hf hs => by
    obtain ⟨w', hr, hs'⟩ := run_storeCells (P := P) (o := o) vs 0 L L' w hv (by rw [Nat.add_zero]; exact h) hs
    subst hm
    simp only [execOp, hf.ev hx, hf.ev hy, Instr.storeAt, Instr.sureAddr, storeVar, Sem.run_bind, Sem.run_pure, Result.andThen_ok, Value.cells, (aggT_spec ht w).2]
    simp [hr, Upon]
    exact ⟨L', ⟨rfl, rfl⟩, hs'⟩⟩

/-! ### New blocks -/
theorem runs_box1 {t : TypeId} {x : Operand} {v : Value} (hx : ev F x = some v) (hv : v.oneCell' = true) :
    Runs P ⟨d, .box t x, ty, pos, aft, g⟩ n F ds L (fun p L' => ∃ b, p = .pointer (some ⟨b, 0, none⟩) ∧ L' = pt b t [v] :: L) :=
  ⟨rfl, fun ac w hf hs => by
    simp only [execOp, hf.ev hx, Instr.box, newVar, newRow, Value.cells_one hv, Sem.run_bind, run_newObj, Sem.run_pure, Result.andThen_ok, Upon]
    exact ⟨_, ⟨w.heap.size, rfl, rfl⟩, hs.alloc_one _ _⟩⟩
theorem runs_boxAgg {t : TypeId} {x : Operand} {vs : List Value} (hx : ev F x = some (.agg vs.toArray)) :
    Runs P ⟨d, .box t x, ty, pos, aft, g⟩ n F ds L (fun p L' => ∃ b, p = .pointer (some ⟨b, 0, none⟩) ∧ L' = pt b t vs :: L) :=
  ⟨rfl, fun ac w hf hs => by
    simp only [execOp, hf.ev hx, Instr.box, newVar, newRow, Value.cells, Sem.run_bind, run_newObj, Sem.run_pure, Result.andThen_ok, Upon]
    exact ⟨_, ⟨w.heap.size, rfl, rfl⟩, hs.alloc_pt _ _⟩⟩

def zeroOf (P : Program) (t : TypeId) : Option (List Value) := match P.info? t with
  | some i => match i.zero with
    | some z => some z.cells.toList
    | none => none
  | none => none
theorem runs_alloc {t : TypeId} {vs : List Value} (h : zeroOf P t = some vs) :
    Runs P ⟨d, .alloc t, ty, pos, aft, g⟩ n F ds L (fun p L' => ∃ b, p = .pointer (some ⟨b, 0, none⟩) ∧ L' = pt b t vs :: L) :=
  ⟨rfl, fun ac w hf hs => by
    unfold zeroOf at h
    split at h
    · rename_i i hi
      split at h
      · rename_i z hz
        cases h
        simp only [execOp, Instr.alloc, newVar, newRow, zeroValue, typeInfo, Sem.run_bind, run_program, hi, hz, run_newObj, Sem.run_pure, Result.andThen_ok, Upon]
        exact ⟨_, ⟨w.heap.size, rfl, rfl⟩, hs.alloc_arr _ _⟩
      · cases h
    · cases h⟩

end
end Go.Sep
