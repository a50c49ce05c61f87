/- More of the walk's rules: elements of array values, fields of struct values. Conditions: none. -/
import Derived.Test.YteggkdlgailfoaaDoorMorb
set_option linter.all false
set_option linter.deprecated false
namespace Go.Sep
variable [B0 : Base]
/-- An array's value: so many elements, each of so many cells, each a struct or an array. -/
def arrAgg (P : Program) (t : TypeId) : Option (Nat × Nat) :=
  match P.underlying t with
  | some (.array len e) => match aggT P e with
    | some m => some (len, m)
    | none => none
  | _ => none
class ArrAgg (P : Program) (t : TypeId) (len m : outParam Nat) : Prop where
  out : arrAgg P t = some (len, m)
/-- A field of one cell. -/
def fieldOne (P : Program) (t : TypeId) (f : Nat) : Option Nat :=
  match P.underlying t with
  | some (.struct fs) => match fs[f]? with
    | some fl => if oneT P fl.type then some fl.offset else none
    | none => none
  | _ => none
class FieldOne (P : Program) (t : TypeId) (f : Nat) (k : outParam Nat) : Prop where
  out : fieldOne P t f = some k
class BoolT (P : Program) (t : TypeId) : Prop where
  out : P.underlying t = some .bool
theorem run_part_agg {P : Program} {t : TypeId} {m : Nat} (h : aggT P t = some m) (w : World) (l : List Value) (off : Nat) : (part t l.toArray off).run P w = .ok (.agg ((l.drop off).take m).toArray) w := by
  have h1 := aggT_spec h w
  simp [part, h1.1, h1.2, List.extract_eq_drop_take]
theorem run_part_one {P : Program} {t : TypeId} (h : oneT P t = true) (w : World) {l : List Value} {off : Nat} {v : Value} (hv : l[off]? = some v) : (part t l.toArray off).run P w = .ok v w := by
  have h1 := oneT_spec h w
  simp [part, h1.1, hv]
section
variable {P : Program} {ro : Option Nat} {m : Option Mode} {ops : Array Oper} {Q : Exit → Act → World → Prop} {n : Nat} {rest : List Oper} {F : Fr} {ds : List Deferred} {L : List HP} {d : Nat} {ty : TypeId} {pos : String} {aft : Array Edge}
theorem w_ixA {t : TypeId} {x y : Operand} {l r : List Value} {k : IntKind} {i : Int} {len mm : Nat} [h : ArrAgg P t len mm] (hd : Nat.blt d n = true) (hx : ev F x = some (.agg l.toArray)) (hy : ev F y = some (.int k i)) (h0 : 0 ≤ i) (h1 : i < len) (hr : (l.drop (i.toNat * mm)).take mm = r)
    (hk : W P ro m ops Q n rest ((d, .agg r.toArray) :: F) ds L) : W P ro m ops Q n (⟨some d, .index t x y, ty, pos, aft, none⟩ :: rest) F ds L :=
  Wp hd (fun _ => runs_pure rfl fun ac w hf => by
    have ho := h.out
    unfold arrAgg at ho
    split at ho
    · rename_i e' he
      split at ho
      · rename_i m' hm
        cases ho
        have h2 := aggT_spec hm w
        have h3 := run_part_agg hm w l (i.toNat * mm)
        simp [execOp, hf.ev hx, hf.ev hy, Instr.index, asIntOf, run_underlying he, h0, h1, h2.2, h3, hr]
      · cases ho
    · cases ho) hk
theorem w_fldV {t : TypeId} {x : Operand} {l : List Value} {f k : Nat} {v : Value} [h : FieldOne P t f k] (hd : Nat.blt d n = true) (hx : ev F x = some (.agg l.toArray)) (hv : l[k]? = some v)
    (hk : W P ro m ops Q n rest ((d, v) :: F) ds L) : W P ro m ops Q n (⟨some d, .field t x f, ty, pos, aft, none⟩ :: rest) F ds L :=
  Wp hd (fun _ => runs_pure rfl fun ac w hf => by
    have ho := h.out
    unfold fieldOne at ho
    split at ho
    · rename_i fs he
      split at ho
      · rename_i fl hfl
        split at ho
        · rename_i h1
          cases ho
          have h3 := run_part_one h1 w hv
          simp [execOp, hf.ev hx, Instr.field, run_underlying he, hfl, asAgg, h3]
        · cases ho
      · cases ho
    · cases ho) hk
/-- The whole of an array, as a slice. -/
theorem w_slA {t : TypeId} {len mm b o : Nat} {x : Operand} [h : ArrT P t len mm] (hd : Nat.blt d n = true) (hx : ev F x = some (.pointer (some ⟨b, o, none⟩)))
    (hk : W P ro m ops Q n rest ((d, .slice (some ⟨b, o, none⟩) len len) :: F) ds L) : W P ro m ops Q n (⟨some d, .slice t x none none none, ty, pos, aft, none⟩ :: rest) F ds L :=
  Wp hd (fun _ => runs_pure rfl fun ac w hf => by
    obtain ⟨e, ht, inf, hi, hm⟩ := elemOfArr_spec h.out
    simp [execOp, hf.ev hx, Instr.sliceAt, Instr.sureAddr, run_underlying ht, Instr.sliceBounds, sizeOf, typeInfo, hi, Addr.add_lit]) hk
theorem IsSl.arr {b o len : Nat} (h : len ≤ 140737488355328) : IsSl (.slice (some ⟨b, o, none⟩) len len) len :=
  ⟨_, len, rfl, Nat.le_refl _, (by unfold maxLen; omega), (fun h => by cases h), fun a h _ => by cases h; rfl⟩
theorem w_minL {x y : Operand} {k : IntKind} {a b : Int} {ts : Array TypeId} (hd : Nat.blt d n = true) (hx : ev F x = some (.int k a)) (hy : ev F y = some (.int k b)) (h : b < a) (hk : W P ro m ops Q n rest ((d, .int k b) :: F) ds L) : W P ro m ops Q n (⟨some d, .call { callee := .builtin .min, args := #[x, y], argTypes := ts }, ty, pos, aft, none⟩ :: rest) F ds L := w_min hd hx hy (by rwa [if_pos h])
theorem w_minG {x y : Operand} {k : IntKind} {a b : Int} {ts : Array TypeId} (hd : Nat.blt d n = true) (hx : ev F x = some (.int k a)) (hy : ev F y = some (.int k b)) (h : ¬ b < a) (hk : W P ro m ops Q n rest ((d, .int k a) :: F) ds L) : W P ro m ops Q n (⟨some d, .call { callee := .builtin .min, args := #[x, y], argTypes := ts }, ty, pos, aft, none⟩ :: rest) F ds L := w_min hd hx hy (by rwa [if_neg h])
theorem w_minE {x y : Operand} {k : IntKind} {a b c : Int} {ts : Array TypeId} (hd : Nat.blt d n = true) (hx : ev F x = some (.int k a)) (hy : ev F y = some (.int k b)) (h : (if b < a then b else a) = c) (hk : W P ro m ops Q n rest ((d, .int k c) :: F) ds L) : W P ro m ops Q n (⟨some d, .call { callee := .builtin .min, args := #[x, y], argTypes := ts }, ty, pos, aft, none⟩ :: rest) F ds L := w_min hd hx hy (by rwa [h])
theorem w_neB {t u : TypeId} {x y : Operand} {a b c : Bool} [hT : BoolT P t] (hd : Nat.blt d n = true) (hx : ev F x = some (.bool a)) (hy : ev F y = some (.bool b)) (h : (!(a == b)) = c) (hk : W P ro m ops Q n rest ((d, .bool c) :: F) ds L) : W P ro m ops Q n (⟨some d, .binOp .neq t x y u, ty, pos, aft, none⟩ :: rest) F ds L :=
  Wp hd (fun _ => runs_pure rfl fun ac w hf => by subst h; simp [execOp, hf.ev hx, hf.ev hy, eqGuard, binOp, Op.equal, Op.maxDepth, run_equalIn_bool' w 9999 t a b hT.out]) hk
theorem w_eqB {t u : TypeId} {x y : Operand} {a b c : Bool} [hT : BoolT P t] (hd : Nat.blt d n = true) (hx : ev F x = some (.bool a)) (hy : ev F y = some (.bool b)) (h : (a == b) = c) (hk : W P ro m ops Q n rest ((d, .bool c) :: F) ds L) : W P ro m ops Q n (⟨some d, .binOp .eql t x y u, ty, pos, aft, none⟩ :: rest) F ds L :=
  Wp hd (fun _ => runs_pure rfl fun ac w hf => by subst h; simp [execOp, hf.ev hx, hf.ev hy, eqGuard, binOp, Op.equal, Op.maxDepth, run_equalIn_bool' w 9999 t a b hT.out]) hk
theorem vnil_isl {v : Value} {N : Nat} (hv : IsSl v N) (h : vnil v = true) : v = .slice none 0 0 ∧ N = 0 := by
  obtain ⟨ao, cap, rfl, h1, h2, h3, _⟩ := hv
  cases ao with
  | none => have := h3 rfl; subst this; have : N = 0 := by omega
            subst this; exact ⟨rfl, rfl⟩
  | some a => cases h
end
end Go.Sep
