/- The operations' laws in short words, with the facts on the program's types as instances. Conditions: none. -/
import Derived.Test.YteggkdlgailfoaaDoorCalls
set_option linter.all false
set_option linter.deprecated false
namespace Go.Sep
variable [B0 : Base]

class FieldOff (P : Program) (s f : Nat) (k : outParam Nat) : Prop where
  out : fieldOff P s f = some k
class ElemSl (P : Program) (t : Nat) (e m : outParam Nat) : Prop where
  out : elemOfSl P t = some (e, m)
class OneT (P : Program) (t : Nat) : Prop where
  out : oneT P t = true
class AggT (P : Program) (t : Nat) (m : outParam Nat) : Prop where
  out : aggT P t = some m
class ZeroOf (P : Program) (t : Nat) (vs : outParam (List Value)) : Prop where
  out : zeroOf P t = some vs
class IsPtr (P : Program) (t : Nat) : Prop where
  out : isPtr P t = true
class IsFn (P : Program) (t : Nat) : Prop where
  out : isFn P t = true
class CanEnter (P : Program) (f : Nat) : Prop where
  out : canEnter P f = true

section
variable {P : Program} {n : Nat} {F : Fr} {ds : List Deferred} {L : List HP} {d : Option Tmp} {ty : TypeId} {pos : String} {aft : Array Edge} {g : Option (Nat × Bool)}

theorem mv {x : Operand} {v : Value} (hx : ev F x = some v) : Runs P ⟨d, .move x, ty, pos, aft, g⟩ n F ds L (is v L) := runs_move hx
theorem asg {x : Operand} {v : Value} (hx : ev F x = some v) : Runs P ⟨d, .assign x, ty, pos, aft, g⟩ n F ds L (is v L) := runs_assign hx
theorem nc {x : Operand} {ad : Addr} (hx : ev F x = some (.pointer (some ad))) : Runs P ⟨d, .nilCheck x, ty, pos, aft, g⟩ n F ds L (is (.pointer (some ad)) L) := runs_nilCheck hx
theorem fa {s : TypeId} {x : Operand} {f k b o : Nat} [h : FieldOff P s f k] (hx : ev F x = some (.pointer (some ⟨b, o, none⟩))) :
    Runs P ⟨d, .fieldAddr s x f, ty, pos, aft, g⟩ n F ds L (is (.pointer (some ⟨b, o + k, none⟩)) L) := runs_fieldAddr h.out hx
theorem ia {t e : TypeId} {m N : Nat} {x y : Operand} {v : Value} {k : IntKind} {i : Nat} [h : ElemSl P t e m] (hx : ev F x = some v) (hy : ev F y = some (.int k (i : Int))) (hl : Len L v N) (h1 : i < N) :
    Runs P ⟨d, .indexAddr t x y, ty, pos, aft, g⟩ n F ds L (is (.pointer (some ⟨vb v, vo v + i * m, none⟩)) L) := runs_indexAddrN h.out hx hy hl h1
theorem iz {t e : TypeId} {m N : Nat} {x y : Operand} {v : Value} {k : IntKind} {i : Int} [h : ElemSl P t e m] (hx : ev F x = some v) (hy : ev F y = some (.int k i)) (hl : Len L v N) (h0 : 0 ≤ i) (h1 : i < N) :
    Runs P ⟨d, .indexAddr t x y, ty, pos, aft, g⟩ n F ds L (is (.pointer (some ⟨vb v, vo v + i.toNat * m, none⟩)) L) := runs_indexAddr h.out hx hy hl h0 h1
theorem ld {t : TypeId} {x : Operand} {ad : Addr} {v : Value} [ht : OneT P t] (hx : ev F x = some (.pointer (some ad))) (h : Rd L ad v) :
    Runs P ⟨d, .load t x, ty, pos, aft, g⟩ n F ds L (is v L) := runs_load ht.out hx h
theorem la {t : TypeId} {x : Operand} {b o : Nat} {vs : List Value} {m : Nat} [ht : AggT P t m] (hx : ev F x = some (.pointer (some ⟨b, o, none⟩))) (h : RdAll L b o vs) (hm : vs.length = m) :
    Runs P ⟨d, .load t x, ty, pos, aft, g⟩ n F ds L (is (.agg vs.toArray) L) := runs_loadAgg ht.out hx hm h
theorem st {t : TypeId} {x y : Operand} {ad : Addr} {v : Value} {L' : List HP} [ht : OneT P t] (hx : ev F x = some (.pointer (some ad))) (hy : ev F y = some v) (hv : v.oneCell' = true) (h : St L ad v L') :
    Runs P ⟨none, .store t x y, ty, pos, aft, g⟩ n F ds L (is undef L') := runs_store ht.out hx hy hv h
theorem sa {t : TypeId} {x y : Operand} {b o : Nat} {vs : List Value} {m : Nat} {L' : List HP} [ht : AggT P t m] (hx : ev F x = some (.pointer (some ⟨b, o, none⟩))) (hy : ev F y = some (.agg vs.toArray)) (hm : vs.length = m)
    (hv : vs.all Value.oneCell' = true) (h : StAll L b o vs L') :
    Runs P ⟨none, .store t x y, ty, pos, aft, g⟩ n F ds L (is undef L') := runs_storeAgg ht.out hx hy hm (fun v hm => List.all_eq_true.1 hv v hm) h
theorem ln {t : TypeId} {x : Operand} {v : Value} {e : TypeId} {m N : Nat} [h : ElemSl P t e m] (hx : ev F x = some v) (hl : Len L v N) :
    Runs P ⟨d, .call { callee := .builtin .len, args := #[x], argTypes := #[t] }, ty, pos, aft, g⟩ n F ds L (is (.int .i64 N) L) := runs_len h.out hx hl
theorem eqn {t u : TypeId} {x : Operand} {p : Option Addr} [ht : IsPtr P t] (hx : ev F x = some (.pointer p)) :
    Runs P ⟨d, .binOp .eql t x (.const (.pointer none)) u, ty, pos, aft, g⟩ n F ds L (is (.bool p.isNone) L) := runs_eqNil ht.out hx
theorem nen {t u : TypeId} {x : Operand} {p : Option Addr} [ht : IsPtr P t] (hx : ev F x = some (.pointer p)) :
    Runs P ⟨d, .binOp .neq t x (.const (.pointer none)) u, ty, pos, aft, g⟩ n F ds L (is (.bool p.isSome) L) := runs_neNil ht.out hx
theorem eqf {t u : TypeId} {x : Operand} {f : Fn} {a b : Array Value} [ht : IsFn P t] (hx : ev F x = some (.func f a b)) :
    Runs P ⟨d, .binOp .eql t x (.const .nilFunc) u, ty, pos, aft, g⟩ n F ds L (is (.bool false) L) := runs_eqNilFn ht.out hx
theorem cl {f : FuncId} {xs : List Operand} {ts : Array TypeId} {vs : List Value} {R : Value → List HP → Prop} [he : CanEnter P f] (hx : evs F xs = some vs) (h : Called P f vs L R) :
    Runs P ⟨d, .call { callee := .value (.func f), args := xs.toArray, argTypes := ts }, ty, pos, aft, g⟩ n F ds L R := runs_call he.out hx h
end

/-! ### Cells of whole things -/
theorem RdAll.at {b : Nat} : ∀ {vs : List Value} {o : Nat} {L : List HP}, (∀ i v, vs[i]? = some v → Rd L ⟨b, o + i, none⟩ v) → RdAll L b o vs
  | [], _, _, _ => trivial
  | v :: vs, o, L, h => ⟨by have := h 0 v rfl; rwa [Nat.add_zero] at this, RdAll.at fun i u hu => by have := h (i + 1) u (by simpa using hu); rwa [show o + (i + 1) = o + 1 + i by omega] at this⟩

theorem RdAll.pt {b : Nat} {T : TypeId} {vs : List Value} {L : List HP} : RdAll (pt b T vs :: L) b 0 vs := RdAll.at fun i v h => by rw [Nat.zero_add]; exact Rd.pt h
theorem RdAll.there {A : HP} {L : List HP} {b : Nat} : ∀ {vs : List Value} {o : Nat}, RdAll L b o vs → RdAll (A :: L) b o vs
  | [], _, _ => trivial
  | _ :: _, _, ⟨h1, h2⟩ => ⟨h1.there, RdAll.there h2⟩
theorem RdAll.sl {E : TypeId} {n : Nat} {v : Value} {cs : List (List Value)} {L : List HP} {i : Nat} {e : List Value} (h1 : cs[i]? = some e) : RdAll (sl E n v cs :: L) (vb v) (vo v + i * n) e :=
  RdAll.at fun _ _ h => Rd.sl h1 h

theorem St.pt' {b : Nat} {T : TypeId} {vs vs' : List Value} {L : List HP} {i : Nat} {v : Value} (h : Nat.blt i vs.length = true) (e : vs.set i v = vs') : St (Sep.pt b T vs :: L) ⟨b, i, none⟩ v (Sep.pt b T vs' :: L) := e ▸ St.pt h

theorem StAll.pt_from {b : Nat} {T : TypeId} {L : List HP} : ∀ (pre us vs : List Value), vs.length = us.length → StAll (Sep.pt b T (pre ++ vs) :: L) b pre.length us (Sep.pt b T (pre ++ us) :: L)
  | pre, [], vs, h => by
    have : vs = [] := List.eq_nil_of_length_eq_zero (by simpa using h)
    subst this; rfl
  | pre, u :: us, [], h => by simp at h
  | pre, u :: us, v :: vs, h => by
    refine ⟨Sep.pt b T ((pre ++ [u]) ++ vs) :: L, St.pt' (by simp [Nat.blt_eq]) (by simp), ?_⟩
    have := StAll.pt_from (b := b) (T := T) (L := L) (pre ++ [u]) us vs (by simpa using h)
    simpa using this
theorem StAll.pt {b : Nat} {T : TypeId} {L : List HP} {us vs : List Value} (h : vs.length = us.length) : StAll (Sep.pt b T vs :: L) b 0 us (Sep.pt b T us :: L) := by
  simpa using StAll.pt_from (b := b) (T := T) (L := L) [] us vs h
theorem StAll.there {A : HP} {b : Nat} : ∀ {us : List Value} {o : Nat} {L L' : List HP}, StAll L b o us L' → StAll (A :: L) b o us (A :: L')
  | [], _, _, _, h => by cases h; rfl
  | _ :: _, _, _, _, ⟨M, h1, h2⟩ => ⟨A :: M, h1.there, h2.there⟩

end Go.Sep
