/- More of the walk's rules: whole structs of integers held against each other, the greater of two. Conditions: none. -/
import Derived.Test.YteggkdlgailfoaaDoorMore
import Derived.Laws.StructEq
set_option linter.all false
set_option linter.deprecated false
namespace Go.Sep
variable [B0 : Base]

/-! ### Whole structs of integers held against each other -/
def flatF (P : Program) : Nat → List Field → Bool
  | _, [] => true
  | i, f :: fs => f.name != "_" && f.offset == i && (match P.underlying f.type with | some (.int _) => true | _ => false) && flatF P (i + 1) fs
def flatEq (P : Program) (t : TypeId) (m : Nat) : Bool :=
  (match P.underlying t with | some (.struct _) => true | _ => false) && !(P.stoodInHeld t) && !(P.eqGuardType P.depth t) && (P.fieldsOf t).toList.length == m && flatF P 0 (P.fieldsOf t).toList
class FlatEq (P : Program) (t : TypeId) (m : outParam Nat) : Prop where
  out : flatEq P t m = true
section
variable {P : Program}
theorem run_part_int {t : TypeId} {k : IntKind} (hu : P.underlying t = some (.int k)) (w : World) {xs : Array Value} {off : Nat} {v : Value} (hx : xs[off]? = some v) : (part t xs off).run P w = .ok v w := by
  simp [part, isAgg, run_underlying hu, hx]
theorem run_eqFields_ints (d : Nat) (w : World) (fs : List Field) : ∀ (i : Nat) (xs ys : Array Value) (ks : List IntKind) (us zs : List Int), flatF P i fs = true → ks.length = fs.length → us.length = fs.length → zs.length = fs.length →
    (∀ j, xs[i + j]? = (List.zipWith Value.int ks us)[j]?) → (∀ j, ys[i + j]? = (List.zipWith Value.int ks zs)[j]?) →
    (Op.eqFields (d + 1) xs ys fs).run P w = .ok (decide (us = zs)) w := by
  induction fs with
  | nil =>
    intro i xs ys ks us zs _ _ ha hb _ _
    cases us <;> cases zs <;> simp_all [Op.eqFields]
  | cons f fs ih =>
    intro i xs ys ks us zs hf hk ha hb hx hy
    match ks, us, zs, hk, ha, hb with
    | k :: ks, a :: us, b :: zs, hk, ha, hb =>
      simp only [flatF, Bool.and_eq_true, bne_iff_ne, ne_eq, beq_iff_eq] at hf
      obtain ⟨⟨⟨hn, ho⟩, hu⟩, hr⟩ := hf
      obtain ⟨k', hu⟩ : ∃ k', P.underlying f.type = some (.int k') := by
        revert hu
        cases P.underlying f.type with
        | none => simp
        | some q => cases q <;> simp
      have h1 := run_part_int hu w (xs := xs) (off := f.offset) (v := .int k a) (by rw [ho]; simpa using hx 0)
      have h2 := run_part_int hu w (xs := ys) (off := f.offset) (v := .int k b) (by rw [ho]; simpa using hy 0)
      have h3 := run_equalIn_int (P := P) w d f.type k k' a b hu
      simp only [Op.eqFields, hn, ne_eq, not_false_eq_true, if_true, Sem.run_bind, h1, h2, h3, Result.andThen_ok, Sem.run_ite]
      by_cases hab : a = b
      · subst hab
        simp only [beq_self_eq_true, Bool.not_true, Bool.false_eq_true, if_false]
        rw [ih (i + 1) xs ys ks us zs hr (by simpa using hk) (by simpa using ha) (by simpa using hb) (fun j => by have := hx (j + 1); simpa [Nat.add_assoc, Nat.add_comm 1] using this) (fun j => by have := hy (j + 1); simpa [Nat.add_assoc, Nat.add_comm 1] using this)]
        simp
      · have : (a == b) = false := by simpa using hab
        simp [this, hab]
theorem FlatEq.run {t : TypeId} {m : Nat} [h : FlatEq P t m] (w : World) {ks : List IntKind} {us zs : List Int} (hk : ks.length = m) (ha : us.length = m) (hb : zs.length = m) :
    (Op.equalIn 10000 t (.agg (List.zipWith Value.int ks us).toArray) (.agg (List.zipWith Value.int ks zs).toArray)).run P w = .ok (decide (us = zs)) w := by
  have := h.out
  simp only [flatEq, Bool.and_eq_true, Bool.not_eq_true', beq_iff_eq] at this
  obtain ⟨⟨⟨⟨h1, h2⟩, h3⟩, h4⟩, h5⟩ := this
  have hu : P.underlying t = some (.struct (P.fieldsOf t)) := by
    unfold Program.fieldsOf
    revert h1
    cases P.underlying t with
    | none => simp
    | some q => cases q <;> simp
  rw [run_equalIn_agg w 9999 t _ _ hu h2]
  exact run_eqFields_ints 9998 w _ 0 _ _ ks us zs h5 (by omega) (by omega) (by omega) (fun j => by simp) (fun j => by simp)
theorem FlatEq.guard {t : TypeId} {m : Nat} [h : FlatEq P t m] : P.eqGuardType P.depth t = false := by
  have := h.out
  simp only [flatEq, Bool.and_eq_true, Bool.not_eq_true', beq_iff_eq] at this
  exact this.1.1.2
end
section
variable {P : Program} {ro : Option Nat} {m : Option Mode} {ops : Array Oper} {Q : Exit → Act → World → Prop} {n : Nat} {rest : List Oper} {F : Fr} {ds : List Deferred} {L : List HP} {d : Nat} {ty : TypeId} {pos : String} {aft : Array Edge}
theorem runs_eqS {t u : TypeId} {x y : Operand} {mm : Nat} [h : FlatEq P t mm] {ks : List IntKind} {us zs : List Int} {dd : Option Tmp} {g : Option (Nat × Bool)} (hx : ev F x = some (.agg (List.zipWith Value.int ks us).toArray)) (hy : ev F y = some (.agg (List.zipWith Value.int ks zs).toArray)) (hk : ks.length = mm) (ha : us.length = mm) (hb : zs.length = mm) :
    Runs P ⟨dd, .binOp .eql t x y u, ty, pos, aft, g⟩ n F ds L (is (.bool (decide (us = zs))) L) :=
  runs_pure rfl fun ac w hf => by simp only [execOp, hf.ev hx, hf.ev hy, Sem.run_bind, Result.andThen_ok, run_eqGuard_agg w _ t x y _ _ (FlatEq.guard (h := h)), run_eql_struct, FlatEq.run (h := h) w hk ha hb, Sem.run_pure]
theorem runs_neS {t u : TypeId} {x y : Operand} {mm : Nat} [h : FlatEq P t mm] {ks : List IntKind} {us zs : List Int} {dd : Option Tmp} {g : Option (Nat × Bool)} (hx : ev F x = some (.agg (List.zipWith Value.int ks us).toArray)) (hy : ev F y = some (.agg (List.zipWith Value.int ks zs).toArray)) (hk : ks.length = mm) (ha : us.length = mm) (hb : zs.length = mm) :
    Runs P ⟨dd, .binOp .neq t x y u, ty, pos, aft, g⟩ n F ds L (is (.bool (!decide (us = zs))) L) :=
  runs_pure rfl fun ac w hf => by simp only [execOp, hf.ev hx, hf.ev hy, Sem.run_bind, Result.andThen_ok, run_eqGuard_agg w _ t x y _ _ (FlatEq.guard (h := h)), run_neq_struct, FlatEq.run (h := h) w hk ha hb, Sem.run_pure]
theorem w_eqS3 {t u : TypeId} {x y : Operand} {k1 k2 k3 : IntKind} {a b c a' b' c' : Int} [h : FlatEq P t 3] (hd : Nat.blt d n = true) (hx : ev F x = some (.agg #[.int k1 a, .int k2 b, .int k3 c])) (hy : ev F y = some (.agg #[.int k1 a', .int k2 b', .int k3 c']))
    (hk : W P ro m ops Q n rest ((d, .bool (decide (a = a' ∧ b = b' ∧ c = c'))) :: F) ds L) : W P ro m ops Q n (⟨some d, .binOp .eql t x y u, ty, pos, aft, none⟩ :: rest) F ds L := by
  refine Wp hd (fun M => ?_) hk
  have := runs_eqS (P := P) (n := n) (ds := ds) (L := M) (h := h) (t := t) (u := u) (ty := ty) (pos := pos) (aft := aft) (dd := some d) (g := none) (ks := [k1, k2, k3]) (us := [a, b, c]) (zs := [a', b', c']) hx hy rfl rfl rfl
  simpa using this
theorem w_neS3 {t u : TypeId} {x y : Operand} {k1 k2 k3 : IntKind} {a b c a' b' c' : Int} [h : FlatEq P t 3] (hd : Nat.blt d n = true) (hx : ev F x = some (.agg #[.int k1 a, .int k2 b, .int k3 c])) (hy : ev F y = some (.agg #[.int k1 a', .int k2 b', .int k3 c']))
    (hk : W P ro m ops Q n rest ((d, .bool (decide (¬ (a = a' ∧ b = b' ∧ c = c')))) :: F) ds L) : W P ro m ops Q n (⟨some d, .binOp .neq t x y u, ty, pos, aft, none⟩ :: rest) F ds L := by
  refine Wp hd (fun M => ?_) hk
  have := runs_neS (P := P) (n := n) (ds := ds) (L := M) (h := h) (t := t) (u := u) (ty := ty) (pos := pos) (aft := aft) (dd := some d) (g := none) (ks := [k1, k2, k3]) (us := [a, b, c]) (zs := [a', b', c']) hx hy rfl rfl rfl
  simpa using this
theorem w_eqS2 {t u : TypeId} {x y : Operand} {k1 k2 : IntKind} {a b a' b' : Int} [h : FlatEq P t 2] (hd : Nat.blt d n = true) (hx : ev F x = some (.agg #[.int k1 a, .int k2 b])) (hy : ev F y = some (.agg #[.int k1 a', .int k2 b']))
    (hk : W P ro m ops Q n rest ((d, .bool (decide (a = a' ∧ b = b'))) :: F) ds L) : W P ro m ops Q n (⟨some d, .binOp .eql t x y u, ty, pos, aft, none⟩ :: rest) F ds L := by
  refine Wp hd (fun M => ?_) hk
  have := runs_eqS (P := P) (n := n) (ds := ds) (L := M) (h := h) (t := t) (u := u) (ty := ty) (pos := pos) (aft := aft) (dd := some d) (g := none) (ks := [k1, k2]) (us := [a, b]) (zs := [a', b']) hx hy rfl rfl rfl
  simpa using this
theorem w_neS2 {t u : TypeId} {x y : Operand} {k1 k2 : IntKind} {a b a' b' : Int} [h : FlatEq P t 2] (hd : Nat.blt d n = true) (hx : ev F x = some (.agg #[.int k1 a, .int k2 b])) (hy : ev F y = some (.agg #[.int k1 a', .int k2 b']))
    (hk : W P ro m ops Q n rest ((d, .bool (decide (¬ (a = a' ∧ b = b')))) :: F) ds L) : W P ro m ops Q n (⟨some d, .binOp .neq t x y u, ty, pos, aft, none⟩ :: rest) F ds L := by
  refine Wp hd (fun M => ?_) hk
  have := runs_neS (P := P) (n := n) (ds := ds) (L := M) (h := h) (t := t) (u := u) (ty := ty) (pos := pos) (aft := aft) (dd := some d) (g := none) (ks := [k1, k2]) (us := [a, b]) (zs := [a', b']) hx hy rfl rfl rfl
  simpa using this
theorem w_eqS3T {t u : TypeId} {x y : Operand} {k1 k2 k3 : IntKind} {a b c a' b' c' : Int} [h : FlatEq P t 3] (hd : Nat.blt d n = true) (hx : ev F x = some (.agg #[.int k1 a, .int k2 b, .int k3 c])) (hy : ev F y = some (.agg #[.int k1 a', .int k2 b', .int k3 c'])) (he : a = a' ∧ b = b' ∧ c = c')
    (hk : W P ro m ops Q n rest ((d, .bool true) :: F) ds L) : W P ro m ops Q n (⟨some d, .binOp .eql t x y u, ty, pos, aft, none⟩ :: rest) F ds L := w_eqS3 hd hx hy (by rwa [decide_eq_true he])
theorem w_eqS3F {t u : TypeId} {x y : Operand} {k1 k2 k3 : IntKind} {a b c a' b' c' : Int} [h : FlatEq P t 3] (hd : Nat.blt d n = true) (hx : ev F x = some (.agg #[.int k1 a, .int k2 b, .int k3 c])) (hy : ev F y = some (.agg #[.int k1 a', .int k2 b', .int k3 c'])) (he : ¬ (a = a' ∧ b = b' ∧ c = c'))
    (hk : W P ro m ops Q n rest ((d, .bool false) :: F) ds L) : W P ro m ops Q n (⟨some d, .binOp .eql t x y u, ty, pos, aft, none⟩ :: rest) F ds L := w_eqS3 hd hx hy (by rwa [decide_eq_false he])
theorem w_neS3F {t u : TypeId} {x y : Operand} {k1 k2 k3 : IntKind} {a b c a' b' c' : Int} [h : FlatEq P t 3] (hd : Nat.blt d n = true) (hx : ev F x = some (.agg #[.int k1 a, .int k2 b, .int k3 c])) (hy : ev F y = some (.agg #[.int k1 a', .int k2 b', .int k3 c'])) (he : a = a' ∧ b = b' ∧ c = c')
    (hk : W P ro m ops Q n rest ((d, .bool false) :: F) ds L) : W P ro m ops Q n (⟨some d, .binOp .neq t x y u, ty, pos, aft, none⟩ :: rest) F ds L := w_neS3 hd hx hy (by rwa [decide_eq_false (by simpa using he)])
theorem w_neS3T {t u : TypeId} {x y : Operand} {k1 k2 k3 : IntKind} {a b c a' b' c' : Int} [h : FlatEq P t 3] (hd : Nat.blt d n = true) (hx : ev F x = some (.agg #[.int k1 a, .int k2 b, .int k3 c])) (hy : ev F y = some (.agg #[.int k1 a', .int k2 b', .int k3 c'])) (he : ¬ (a = a' ∧ b = b' ∧ c = c'))
    (hk : W P ro m ops Q n rest ((d, .bool true) :: F) ds L) : W P ro m ops Q n (⟨some d, .binOp .neq t x y u, ty, pos, aft, none⟩ :: rest) F ds L := w_neS3 hd hx hy (by rwa [decide_eq_true he])
theorem w_eqS2T {t u : TypeId} {x y : Operand} {k1 k2 : IntKind} {a b a' b' : Int} [h : FlatEq P t 2] (hd : Nat.blt d n = true) (hx : ev F x = some (.agg #[.int k1 a, .int k2 b])) (hy : ev F y = some (.agg #[.int k1 a', .int k2 b'])) (he : a = a' ∧ b = b')
    (hk : W P ro m ops Q n rest ((d, .bool true) :: F) ds L) : W P ro m ops Q n (⟨some d, .binOp .eql t x y u, ty, pos, aft, none⟩ :: rest) F ds L := w_eqS2 hd hx hy (by rwa [decide_eq_true he])
theorem w_eqS2F {t u : TypeId} {x y : Operand} {k1 k2 : IntKind} {a b a' b' : Int} [h : FlatEq P t 2] (hd : Nat.blt d n = true) (hx : ev F x = some (.agg #[.int k1 a, .int k2 b])) (hy : ev F y = some (.agg #[.int k1 a', .int k2 b'])) (he : ¬ (a = a' ∧ b = b'))
    (hk : W P ro m ops Q n rest ((d, .bool false) :: F) ds L) : W P ro m ops Q n (⟨some d, .binOp .eql t x y u, ty, pos, aft, none⟩ :: rest) F ds L := w_eqS2 hd hx hy (by rwa [decide_eq_false he])
theorem w_neS2F {t u : TypeId} {x y : Operand} {k1 k2 : IntKind} {a b a' b' : Int} [h : FlatEq P t 2] (hd : Nat.blt d n = true) (hx : ev F x = some (.agg #[.int k1 a, .int k2 b])) (hy : ev F y = some (.agg #[.int k1 a', .int k2 b'])) (he : a = a' ∧ b = b')
    (hk : W P ro m ops Q n rest ((d, .bool false) :: F) ds L) : W P ro m ops Q n (⟨some d, .binOp .neq t x y u, ty, pos, aft, none⟩ :: rest) F ds L := w_neS2 hd hx hy (by rwa [decide_eq_false (by simpa using he)])
theorem w_neS2T {t u : TypeId} {x y : Operand} {k1 k2 : IntKind} {a b a' b' : Int} [h : FlatEq P t 2] (hd : Nat.blt d n = true) (hx : ev F x = some (.agg #[.int k1 a, .int k2 b])) (hy : ev F y = some (.agg #[.int k1 a', .int k2 b'])) (he : ¬ (a = a' ∧ b = b'))
    (hk : W P ro m ops Q n rest ((d, .bool true) :: F) ds L) : W P ro m ops Q n (⟨some d, .binOp .neq t x y u, ty, pos, aft, none⟩ :: rest) F ds L := w_neS2 hd hx hy (by rwa [decide_eq_true he])
theorem runs_max {x y : Operand} {k : IntKind} {a b : Int} {ts : Array TypeId} {dd : Option Tmp} {g : Option (Nat × Bool)} (hx : ev F x = some (.int k a)) (hy : ev F y = some (.int k b)) :
    Runs P ⟨dd, .call { callee := .builtin .max, args := #[x, y], argTypes := ts }, ty, pos, aft, g⟩ n F ds L (is (.int k (if a < b then b else a)) L) := by
  exact runs_pure rfl fun ac w hf => by simp [execOp, resolve, invoke, builtin, hf.ev hx, hf.ev hy, Builtin.max_, Builtin.max2]
theorem w_max {x y : Operand} {k : IntKind} {a b : Int} {ts : Array TypeId} (hd : Nat.blt d n = true) (hx : ev F x = some (.int k a)) (hy : ev F y = some (.int k b)) (hk : W P ro m ops Q n rest ((d, .int k (if a < b then b else a)) :: F) ds L) : W P ro m ops Q n (⟨some d, .call { callee := .builtin .max, args := #[x, y], argTypes := ts }, ty, pos, aft, none⟩ :: rest) F ds L := Wp hd (fun _ => runs_max hx hy) hk
theorem w_maxL {x y : Operand} {k : IntKind} {a b : Int} {ts : Array TypeId} (hd : Nat.blt d n = true) (hx : ev F x = some (.int k a)) (hy : ev F y = some (.int k b)) (h : a < b) (hk : W P ro m ops Q n rest ((d, .int k b) :: F) ds L) : W P ro m ops Q n (⟨some d, .call { callee := .builtin .max, args := #[x, y], argTypes := ts }, ty, pos, aft, none⟩ :: rest) F ds L := w_max hd hx hy (by rwa [if_pos h])
theorem w_maxG {x y : Operand} {k : IntKind} {a b : Int} {ts : Array TypeId} (hd : Nat.blt d n = true) (hx : ev F x = some (.int k a)) (hy : ev F y = some (.int k b)) (h : ¬ a < b) (hk : W P ro m ops Q n rest ((d, .int k a) :: F) ds L) : W P ro m ops Q n (⟨some d, .call { callee := .builtin .max, args := #[x, y], argTypes := ts }, ty, pos, aft, none⟩ :: rest) F ds L := w_max hd hx hy (by rwa [if_neg h])
/-- A method's value: its receiver is bound. -/
theorem w_mfR {fn : Fn} {x : Operand} {v : Value} (hd : Nat.blt d n = true) (hx : ev F x = some v) (hk : W P ro m ops Q n rest ((d, .func fn #[v] #[]) :: F) ds L) : W P ro m ops Q n (⟨some d, .makeFunc fn #[x] #[], ty, pos, aft, none⟩ :: rest) F ds L :=
  Wp hd (fun _ => runs_pure rfl fun ac w hf => by simp [execOp, Instr.makeFunc, hf.ev hx]) hk
/-- A function value called, that looks at no memory. -/
theorem w_cvp {x : Operand} {xs : List Operand} {ts : Array TypeId} {f : FuncId} {fs cs : Array Value} {vs l : List Value} {v : Value} (hd : Nat.blt d n = true) (hf : ev F x = some (.func (.func f) fs cs)) (he : CanEnter P f) (hx : evs F xs = some vs) (hl : fs.toList ++ vs ++ cs.toList = l) (h : ∀ M, Called P f l M (is v M))
    (hk : W P ro m ops Q n rest ((d, v) :: F) ds L) : W P ro m ops Q n (⟨some d, .call { callee := .value x, args := xs.toArray, argTypes := ts }, ty, pos, aft, none⟩ :: rest) F ds L :=
  Wp hd (fun M => runs_callV (fv := .func (.func f) fs.toList.toArray cs.toList.toArray) (by simpa using hf) hx (Does.func (fs := fs.toList) (cs := cs.toList) he.out (by rw [hl]; exact h M))) hk
end
end Go.Sep
