/- Parts of an array as slices; structs with arrays in them held against each other; slices that are read off cells. Conditions: none. -/
import Derived.Test.YteggkdlgailfoaaDoorQsC
import Derived.Test.YteggkdlgailfoaaDoorInsR
import Derived.DeepKeys
set_option linter.all false
set_option linter.deprecated false
namespace Go.Sep
variable [B0 : Base]
/-- A part of an array that lies at o in block b. -/
def aSl (b o len mm l h : Nat) : Value := .slice (some ⟨b, if len = l then o else o + l * mm, none⟩) (h - l) (len - l)
section
variable {P : Program} {ro : Option Nat} {m : Option Mode} {ops : Array Oper} {Q : Exit → Act → World → Prop} {n : Nat} {rest : List Oper} {F : Fr} {ds : List Deferred} {L : List HP} {d : Nat} {ty : TypeId} {pos : String} {aft : Array Edge}
theorem w_slAl {t : TypeId} {len mm b o l : Nat} {x y : Operand} {kk : IntKind} [h : ArrT P t len mm] (hd : Nat.blt d n = true) (hx : ev F x = some (.pointer (some ⟨b, o, none⟩))) (hy : ev F y = some (.int kk (l : Int))) (hl : l ≤ len)
    (hk : W P ro m ops Q n rest ((d, aSl b o len mm l len) :: F) ds L) : W P ro m ops Q n (⟨some d, .slice t x (some y) none none, ty, pos, aft, none⟩ :: rest) F ds L :=
  Wp hd (fun _ => runs_pure rfl fun ac w hf => by
    obtain ⟨e, ht, inf, hi, hm⟩ := elemOfArr_spec h.out
    have hc : (l : Int) ≤ len := by omega
    unfold aSl
    simp [execOp, hf.ev hx, hf.ev hy, Instr.sliceAt, Instr.sureAddr, run_underlying ht, Instr.sliceBounds, run_sliceBound, hc, sizeOf, typeInfo, hi, hm, Addr.add_lit]
    split <;> rfl) hk
theorem w_slAh {t : TypeId} {len mm b o h0 : Nat} {x y : Operand} {kk : IntKind} [h : ArrT P t len mm] (hd : Nat.blt d n = true) (hx : ev F x = some (.pointer (some ⟨b, o, none⟩))) (hy : ev F y = some (.int kk (h0 : Int))) (hl : h0 ≤ len)
    (hk : W P ro m ops Q n rest ((d, aSl b o len mm 0 h0) :: F) ds L) : W P ro m ops Q n (⟨some d, .slice t x none (some y) none, ty, pos, aft, none⟩ :: rest) F ds L :=
  Wp hd (fun _ => runs_pure rfl fun ac w hf => by
    obtain ⟨e, ht, inf, hi, hm⟩ := elemOfArr_spec h.out
    have hc : (h0 : Int) ≤ len := by omega
    unfold aSl
    simp [execOp, hf.ev hx, hf.ev hy, Instr.sliceAt, Instr.sureAddr, run_underlying ht, Instr.sliceBounds, run_sliceBound, hc, sizeOf, typeInfo, hi, hm, Addr.add_lit]) hk
end
theorem IsSl.aSl {b o len mm l h : Nat} (h1 : l ≤ h) (h2 : h ≤ len) (h3 : len ≤ 140737488355328) : IsSl (Sep.aSl b o len mm l h) (h - l) := by
  unfold Sep.aSl
  exact ⟨_, len - l, rfl, by omega, (by unfold maxLen; omega), (fun h => by cases h), fun a h _ => by cases h; rfl⟩
theorem Src.cells {L : List HP} {b o cap : Nat} {es : List Value} (rd : ∀ j u, es[j]? = some u → Rd L ⟨b, o + j, none⟩ u) : Src L (.slice (some ⟨b, o, none⟩) es.length cap) 1 (es.map fun u => [u]) := by
  have hfl : ∀ es : List Value, (es.map fun u => [u]).flatten = es := by
    intro es
    induction es with
    | nil => rfl
    | cons a l ih => rw [List.map_cons, List.flatten_cons, ih]; rfl
  exact ⟨fun w _ e he => by obtain ⟨u, -, rfl⟩ := List.mem_map.1 he; rfl, fun w hs => ⟨some ⟨b, o, none⟩, cap, by rw [List.length_map], Or.inr ⟨b, o, rfl, fun j u hu => by rw [hfl es] at hu; exact (rd j u hu).out w hs⟩⟩⟩
/-! ### Whole structs, whatever lies in them -/
class KeyT (P : Program) (t : TypeId) (m : outParam Nat) : Prop where
  out : (P.keyTypeAt 4 t && (match P.underlying t with | some (.struct _) => true | _ => false) && !(P.eqGuardType P.depth t)) = true ∧ P.cellsOf t = m
theorem KeyT.run {P : Program} {t : TypeId} {m : Nat} [h : KeyT P t m] (w : World) {us zs : List Value} {la lb : List Lit} (h1 : us.length = m) (h2 : zs.length = m) (ha : P.keyLits 4 t us = some la) (hb : P.keyLits 4 t zs = some lb) {c : Bool} (hc : c = true ↔ la = lb) :
    (Op.equalIn 10000 t (.agg us.toArray) (.agg zs.toArray)).run P w = .ok c w := by
  obtain ⟨h3, h4⟩ := h.out
  simp only [Bool.and_eq_true, Bool.not_eq_true'] at h3
  obtain ⟨⟨h5, h6⟩, h7⟩ := h3
  have hf : ∀ {l : List Value}, l.length = m → Value.formed P t (.agg l.toArray) = true := by
    intro l hl
    revert h6
    cases hu : P.underlying t with
    | none => simp
    | some q => cases q <;> simp [Value.formed, hu, hl, h4]
  obtain ⟨r, hr, hi⟩ := run_equalIn_deep 9996 4 t h5 w 4 4 (.agg us.toArray) (.agg zs.toArray) la lb (hf h1) (hf h2) (by simpa [Value.cells] using ha) (by simpa [Value.cells] using hb)
  rw [hr]
  congr 1
  rw [Bool.eq_iff_iff, hi, hc]
section
variable {P : Program} {ro : Option Nat} {m : Option Mode} {ops : Array Oper} {Q : Exit → Act → World → Prop} {n : Nat} {rest : List Oper} {F : Fr} {ds : List Deferred} {L : List HP} {d : Nat} {ty : TypeId} {pos : String} {aft : Array Edge}
theorem w_neK {t u : TypeId} {x y : Operand} {mm : Nat} {us zs : List Value} {la lb : List Lit} [h : KeyT P t mm] (hd : Nat.blt d n = true) (hx : ev F x = some (.agg us.toArray)) (hy : ev F y = some (.agg zs.toArray)) (h1 : us.length = mm) (h2 : zs.length = mm) (ha : P.keyLits 4 t us = some la) (hb : P.keyLits 4 t zs = some lb) {c : Bool} (hc : c = true ↔ la = lb)
    (hk : W P ro m ops Q n rest ((d, .bool (!c)) :: F) ds L) : W P ro m ops Q n (⟨some d, .binOp .neq t x y u, ty, pos, aft, none⟩ :: rest) F ds L :=
  Wp hd (fun _ => runs_pure rfl fun ac w hf => by
    have hg := h.out.1
    simp only [Bool.and_eq_true, Bool.not_eq_true'] at hg
    simp only [execOp, hf.ev hx, hf.ev hy, Sem.run_bind, Result.andThen_ok, run_eqGuard_agg w _ t x y _ _ hg.2, run_neq_struct, KeyT.run (h := h) w h1 h2 ha hb hc, Sem.run_pure]) hk
end
end Go.Sep
