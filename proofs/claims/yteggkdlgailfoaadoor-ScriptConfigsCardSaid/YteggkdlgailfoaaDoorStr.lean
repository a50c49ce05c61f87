/- Strings: joined, cut, indexed, held against each other. Conditions: none. -/
import Derived.Test.YteggkdlgailfoaaDoorMord
import Derived.Laws.Concat
import Derived.Laws.Strings3
import Derived.Laws.DeepStrings4
import Derived.Laws.Slices
import Derived.Lib.Strings
set_option linter.all false
set_option linter.deprecated false
namespace Go.Sep
variable [B0 : Base]
abbrev str (l : List UInt8) : Value := .string ⟨l.toArray⟩
class StrT (P : Program) (t : TypeId) : Prop where
  out : P.underlying t = some .string
section
variable {P : Program} {ro : Option Nat} {m : Option Mode} {ops : Array Oper} {Q : Exit → Act → World → Prop} {n : Nat} {rest : List Oper} {F : Fr} {ds : List Deferred} {L : List HP} {d : Nat} {ty : TypeId} {pos : String} {aft : Array Edge}
theorem w_strA {t u : TypeId} {x y : Operand} {a b : List UInt8} (hd : Nat.blt d n = true) (hx : ev F x = some (str a)) (hy : ev F y = some (str b)) (h : a.length + b.length ≤ 9223372036854775807)
    (hk : W P ro m ops Q n rest ((d, str (a ++ b)) :: F) ds L) : W P ro m ops Q n (⟨some d, .binOp .add t x y u, ty, pos, aft, none⟩ :: rest) F ds L :=
  Wp hd (fun _ => runs_pure rfl fun ac w hf => by
    have h2 := run_string_add_sum (P := P) w ⟨a.toArray⟩ ⟨b.toArray⟩ (by simpa [ByteArray.size] using h)
    rw [ByteArray.mk_append_mk] at h2
    simp only [execOp, hf.ev hx, hf.ev hy, eqGuard, binOp_string_add, Sem.run_bind, Sem.run_pure, Result.andThen_ok]
    simp
    rw [h2]; rfl) hk
theorem toList_str (a : List UInt8) : (ByteArray.mk a.toArray).toList = a := ByteArray.toList_mk a
theorem w_strE {t u : TypeId} {x y : Operand} {a b : List UInt8} {c : Bool} (hd : Nat.blt d n = true) (hx : ev F x = some (str a)) (hy : ev F y = some (str b)) (h : decide (a = b) = c)
    (hk : W P ro m ops Q n rest ((d, .bool c) :: F) ds L) : W P ro m ops Q n (⟨some d, .binOp .eql t x y u, ty, pos, aft, none⟩ :: rest) F ds L :=
  Wp hd (fun _ => runs_pure rfl fun ac w hf => by
    subst h
    have e : (a == b) = decide (a = b) := by rw [Bool.eq_iff_iff]; simp
    simp [execOp, hf.ev hx, hf.ev hy, eqGuard, binOp_string_eql, e]) hk
theorem w_strN {t u : TypeId} {x y : Operand} {a b : List UInt8} {c : Bool} (hd : Nat.blt d n = true) (hx : ev F x = some (str a)) (hy : ev F y = some (str b)) (h : decide (a ≠ b) = c)
    (hk : W P ro m ops Q n rest ((d, .bool c) :: F) ds L) : W P ro m ops Q n (⟨some d, .binOp .neq t x y u, ty, pos, aft, none⟩ :: rest) F ds L :=
  Wp hd (fun _ => runs_pure rfl fun ac w hf => by
    subst h
    have e : (!(a == b)) = decide (a ≠ b) := by rw [Bool.eq_iff_iff]; simp
    simp only [execOp, hf.ev hx, hf.ev hy, eqGuard, binOp_string_neq, Sem.run_bind, Sem.run_pure, Result.andThen_ok, toList_str, e]
    simp) hk
theorem w_strET {t u : TypeId} {x y : Operand} {a b : List UInt8} (hd : Nat.blt d n = true) (hx : ev F x = some (str a)) (hy : ev F y = some (str b)) (h : a = b)
    (hk : W P ro m ops Q n rest ((d, .bool true) :: F) ds L) : W P ro m ops Q n (⟨some d, .binOp .eql t x y u, ty, pos, aft, none⟩ :: rest) F ds L := w_strE hd hx hy (decide_eq_true h) hk
theorem w_strEF {t u : TypeId} {x y : Operand} {a b : List UInt8} (hd : Nat.blt d n = true) (hx : ev F x = some (str a)) (hy : ev F y = some (str b)) (h : a ≠ b)
    (hk : W P ro m ops Q n rest ((d, .bool false) :: F) ds L) : W P ro m ops Q n (⟨some d, .binOp .eql t x y u, ty, pos, aft, none⟩ :: rest) F ds L := w_strE hd hx hy (decide_eq_false h) hk
theorem w_strNF {t u : TypeId} {x y : Operand} {a b : List UInt8} (hd : Nat.blt d n = true) (hx : ev F x = some (str a)) (hy : ev F y = some (str b)) (h : a = b)
    (hk : W P ro m ops Q n rest ((d, .bool false) :: F) ds L) : W P ro m ops Q n (⟨some d, .binOp .neq t x y u, ty, pos, aft, none⟩ :: rest) F ds L := w_strN hd hx hy (by simp [h]) hk
theorem w_strNT {t u : TypeId} {x y : Operand} {a b : List UInt8} (hd : Nat.blt d n = true) (hx : ev F x = some (str a)) (hy : ev F y = some (str b)) (h : a ≠ b)
    (hk : W P ro m ops Q n rest ((d, .bool true) :: F) ds L) : W P ro m ops Q n (⟨some d, .binOp .neq t x y u, ty, pos, aft, none⟩ :: rest) F ds L := w_strN hd hx hy (by simp [h]) hk
theorem w_strL {t : TypeId} {x : Operand} {a : List UInt8} [hT : StrT P t] (hd : Nat.blt d n = true) (hx : ev F x = some (str a))
    (hk : W P ro m ops Q n rest ((d, .int .i64 a.length) :: F) ds L) : W P ro m ops Q n (⟨some d, .call { callee := .builtin .len, args := #[x], argTypes := #[t] }, ty, pos, aft, none⟩ :: rest) F ds L :=
  Wp hd (fun _ => runs_pure rfl fun ac w hf => by
    have h1 : ∀ ty, (Builtin.len_ #[t] ty #[.string ⟨a.toArray⟩]).run P w = _ := fun ty => run_len_string w t ty ⟨a.toArray⟩ hT.out
    simp [execOp, resolve, invoke, builtin, hf.ev hx, h1, goInt, ByteArray.size]) hk
theorem w_strI {t : TypeId} {x y : Operand} {k : IntKind} {a : List UInt8} {i : Int} {c : UInt8} [hT : StrT P t] (hd : Nat.blt d n = true) (hx : ev F x = some (str a)) (hy : ev F y = some (.int k i)) (h0 : 0 ≤ i) (hc : a[i.toNat]? = some c)
    (hk : W P ro m ops Q n rest ((d, .int .u8 c.toNat) :: F) ds L) : W P ro m ops Q n (⟨some d, .index t x y, ty, pos, aft, none⟩ :: rest) F ds L :=
  Wp hd (fun _ => runs_pure rfl fun ac w hf => by
    have hlt : i.toNat < a.length := (List.getElem?_eq_some_iff.1 hc).1
    have h1 := run_index_string (P := P) w t ⟨a.toArray⟩ k i hT.out
    rw [dif_pos ⟨h0, by show i < (a.toArray.size : Int); simp; omega⟩] at h1
    have e : (ByteArray.mk a.toArray)[i.toNat]'(by show i.toNat < a.toArray.size; simpa using hlt) = c := by
      have h2 : (ByteArray.mk a.toArray)[i.toNat]'(by show i.toNat < a.toArray.size; simpa using hlt) = a.toArray[i.toNat]'(by simpa using hlt) := rfl
      rw [h2]
      have := (List.getElem?_eq_some_iff.1 hc).2
      simpa using this
    rw [e] at h1
    simp [execOp, hf.ev hx, hf.ev hy, h1]) hk
theorem w_strI0 {t : TypeId} {x y : Operand} {k : IntKind} {a : List UInt8} {i : Nat} {c : UInt8} [hT : StrT P t] (hd : Nat.blt d n = true) (hx : ev F x = some (str a)) (hy : ev F y = some (.int k (i : Int))) (hc : a[i]? = some c)
    (hk : W P ro m ops Q n rest ((d, .int .u8 c.toNat) :: F) ds L) : W P ro m ops Q n (⟨some d, .index t x y, ty, pos, aft, none⟩ :: rest) F ds L := w_strI hd hx hy (Int.natCast_nonneg i) (by simpa using hc) hk
theorem extract_str (a : List UInt8) (i j : Nat) : (ByteArray.mk a.toArray).extract i j = ⟨((a.drop i).take (j - i)).toArray⟩ := by rw [Lib.extract_eq]
/-- s[i:j] -/
theorem w_strS {t : TypeId} {x y z : Operand} {k k' : IntKind} {a : List UInt8} {i j : Int} {i' j' : Nat} [hT : StrT P t] (hd : Nat.blt d n = true) (hx : ev F x = some (str a)) (hy : ev F y = some (.int k i)) (hz : ev F z = some (.int k' j)) (hi : i = i') (hj : j = j') (h1 : i' ≤ j') (h2 : j' ≤ a.length)
    (hk : W P ro m ops Q n rest ((d, str ((a.drop i').take (j' - i'))) :: F) ds L) : W P ro m ops Q n (⟨some d, .slice t x (some y) (some z) none, ty, pos, aft, none⟩ :: rest) F ds L :=
  Wp hd (fun _ => runs_pure rfl fun ac w hf => by
    subst hi; subst hj
    have h3 := run_slice_string_if (P := P) w t ⟨a.toArray⟩ k k' i' j' hT.out
    have h4 : 0 ≤ (j' : Int) ∧ (j' : Int) ≤ ((ByteArray.mk a.toArray).size : Int) := ⟨by omega, by show (j' : Int) ≤ (a.toArray.size : Int); simp; omega⟩
    rw [if_pos h4, if_pos ⟨by omega, by omega⟩, extract_str] at h3
    simp only [execOp, hf.ev hx, Option.map_some, Option.map_none, hf.ev hy, hf.ev hz, run_sliceAt_string _ _ _ _ _ _ hT.out, Sem.run_bind, h3]
    simp [h3]) hk
/-- s[:j] -/
theorem w_strSh {t : TypeId} {x z : Operand} {k' : IntKind} {a : List UInt8} {j : Int} {j' : Nat} [hT : StrT P t] (hd : Nat.blt d n = true) (hx : ev F x = some (str a)) (hz : ev F z = some (.int k' j)) (hj : j = j') (h2 : j' ≤ a.length)
    (hk : W P ro m ops Q n rest ((d, str (a.take j')) :: F) ds L) : W P ro m ops Q n (⟨some d, .slice t x none (some z) none, ty, pos, aft, none⟩ :: rest) F ds L :=
  Wp hd (fun _ => runs_pure rfl fun ac w hf => by
    subst hj
    have h3 := run_slice_string_to_if (P := P) w t ⟨a.toArray⟩ k' j' hT.out
    have h4 : 0 ≤ (j' : Int) ∧ (j' : Int) ≤ ((ByteArray.mk a.toArray).size : Int) := ⟨by omega, by show (j' : Int) ≤ (a.toArray.size : Int); simp; omega⟩
    rw [if_pos h4, extract_str] at h3
    simp only [execOp, hf.ev hx, Option.map_some, Option.map_none, hf.ev hz, run_sliceAt_string _ _ _ _ _ _ hT.out, Sem.run_bind, h3]
    simp [h3]) hk
/-- s[i:] -/
theorem w_strSl {t : TypeId} {x y : Operand} {k : IntKind} {a : List UInt8} {i : Int} {i' : Nat} [hT : StrT P t] (hd : Nat.blt d n = true) (hx : ev F x = some (str a)) (hy : ev F y = some (.int k i)) (hi : i = i') (h2 : i' ≤ a.length)
    (hk : W P ro m ops Q n rest ((d, str (a.drop i')) :: F) ds L) : W P ro m ops Q n (⟨some d, .slice t x (some y) none none, ty, pos, aft, none⟩ :: rest) F ds L :=
  Wp hd (fun _ => runs_pure rfl fun ac w hf => by
    subst hi
    have h3 := run_slice_string_from_if (P := P) w t ⟨a.toArray⟩ k i' hT.out
    have h5 : (ByteArray.mk a.toArray).size = a.length := by show a.toArray.size = _; simp
    have h4 : 0 ≤ (i' : Int) ∧ (i' : Int) ≤ ((ByteArray.mk a.toArray).size : Int) := ⟨by omega, by rw [h5]; omega⟩
    rw [if_pos h4, extract_str, h5] at h3
    have h6 : (a.drop i').take (a.length - i') = a.drop i' := List.take_of_length_le (by simp)
    simp only [Int.toNat_natCast, h6] at h3
    simp only [execOp, hf.ev hx, Option.map_some, Option.map_none, hf.ev hy, run_sliceAt_string _ _ _ _ _ _ hT.out, Sem.run_bind, h3]
    simp [h3]) hk
theorem w_subB {t u : TypeId} {x y : Operand} {a b : Int} (hd : Nat.blt d n = true) (hx : ev F x = some (.int .u8 a)) (hy : ev F y = some (.int .u8 b)) (h0 : 0 ≤ a - b) (h1 : a - b < 256)
    (hk : W P ro m ops Q n rest ((d, .int .u8 (a - b)) :: F) ds L) : W P ro m ops Q n (⟨some d, .binOp .sub t x y u, ty, pos, aft, none⟩ :: rest) F ds L :=
  Wp hd (fun _ => runs_pure rfl fun ac w hf => by
    have e : IntKind.u8.wrap (a - b) = a - b := by rw [IntKind.wrap_u8]; omega
    simp [execOp, hf.ev hx, hf.ev hy, eqGuard, binOp, Op.intArith, e]) hk
end
end Go.Sep
