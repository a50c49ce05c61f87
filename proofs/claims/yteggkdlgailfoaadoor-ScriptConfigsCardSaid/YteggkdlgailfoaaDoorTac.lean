/- More of the walk's rules: loops with what they carry, tests in plain words, numbers without a sign. Conditions: none. -/
import Derived.Test.YteggkdlgailfoaaDoorRange
import Derived.Test.YteggkdlgailfoaaDoorDel
set_option linter.all false
set_option linter.deprecated false
namespace Go.Sep
variable [B0 : Base]

/-! ### What a loop leaves as it is -/
def memN (t : Nat) : List Nat → Bool
  | [] => false
  | s :: l => match Nat.beq s t with | true => true | false => memN t l
theorem memN_iff {t : Nat} : ∀ {l : List Nat}, memN t l = true ↔ t ∈ l
  | [] => by simp [memN]
  | s :: l => by
    unfold memN
    cases h : Nat.beq s t with
    | true => have := Nat.eq_of_beq_eq_true h; subst this; simp
    | false =>
      have hne : t ≠ s := fun e => by subst e; simp at h
      simp [memN_iff, hne]
/-- The frame without the slots ws, each slot once. -/
inductive Keep : List Nat → Fr → Fr → Prop
  | nil {ws : List Nat} : Keep ws [] []
  | drop {ws : List Nat} {t : Nat} {v : Value} {F F' : Fr} (h : memN t ws = true) (k : Keep ws F F') : Keep ws ((t, v) :: F) F'
  | keep {ws : List Nat} {t : Nat} {v : Value} {F F' : Fr} (h : memN t ws = false) (k : Keep (t :: ws) F F') : Keep ws ((t, v) :: F) ((t, v) :: F')
theorem Keep.look {ws : List Nat} {F F' : Fr} (h : Keep ws F F') : ∀ t v, look F' t = some v → t ∉ ws ∧ look F t = some v := by
  induction h with
  | nil => intro t v h; cases h
  | @drop ws s u F F' hm k ih =>
    intro t v ht
    obtain ⟨h1, h2⟩ := ih t v ht
    refine ⟨h1, ?_⟩
    simp only [Sep.look]
    cases hb : Nat.beq s t with
    | true => have := Nat.eq_of_beq_eq_true hb; subst this; exact absurd (memN_iff.1 hm) h1
    | false => exact h2
  | @keep ws s u F F' hm k ih =>
    intro t v ht
    simp only [Sep.look] at ht ⊢
    cases hb : Nat.beq s t with
    | true =>
      rw [hb] at ht
      refine ⟨fun hmem => ?_, ht⟩
      have := Nat.eq_of_beq_eq_true hb; subst this
      rw [memN_iff.2 hmem] at hm; cases hm
    | false =>
      rw [hb] at ht
      obtain ⟨h1, h2⟩ := ih t v ht
      exact ⟨fun hmem => h1 (List.mem_cons_of_mem _ hmem), h2⟩
theorem look_append {F G : Fr} {t : Nat} {v : Value} (h : look (F ++ G) t = some v) : look F t = some v ∨ look G t = some v := by
  induction F with
  | nil => exact .inr h
  | cons x F ih =>
    obtain ⟨s, u⟩ := x
    simp only [List.cons_append, look] at h ⊢
    cases hb : Nat.beq s t with
    | true => rw [hb] at h; exact .inl h
    | false => rw [hb] at h; exact ih h

theorem Called.know {P : Program} {f : FuncId} {vs : List Value} {L : List HP} {Z : Value → List HP → Prop} {p : Prop} (hp : ∀ w, Sat w L → p) (h : p → Called P f vs L Z) : Called P f vs L Z := ⟨fun w hs => (h (hp w hs)).out w hs⟩

theorem St.sl1 {E : TypeId} {v : Value} {cs : List (List Value)} {L : List HP} {i : Nat} {w u : Value} (h1 : cs[i]? = some [w]) : St (Sep.sl E 1 v cs :: L) ⟨vb v, vo v + i * 1, none⟩ u (Sep.sl E 1 v (cs.set i [u]) :: L) := by
  have := St.sl (E := E) (n := 1) (v := v) (L := L) (k := 0) (u := u) h1 rfl
  simpa using this
theorem St.sl1m {α : Type} {f : α → List Value} {E : TypeId} {v : Value} {l : List α} {L : List HP} {i : Nat} {u : Value} (x : α) (hi : i < l.length) (h1 : ∀ a, (f a).length = 1) (hu : f x = [u]) : St (Sep.sl E 1 v (l.map f) :: L) ⟨vb v, vo v + i * 1, none⟩ u (Sep.sl E 1 v ((l.set i x).map f) :: L) := by
  obtain ⟨w, hw⟩ : ∃ w, f l[i] = [w] := List.length_eq_one_iff.1 (h1 _)
  have := St.sl1 (E := E) (v := v) (L := L) (u := u) (cs := l.map f) (i := i) (w := w) (by simp [hi, hw])
  rw [← hu] at this
  rw [List.map_set]; exact this
theorem St.slm {α : Type} {f : α → List Value} {E n k : Nat} {v : Value} {l : List α} {L : List HP} {i : Nat} {u : Value} (x : α) (hi : i < l.length) (hk : k < (f l[i]).length) (hu : f x = (f l[i]).set k u) : St (Sep.sl E n v (l.map f) :: L) ⟨vb v, vo v + i * n + k, none⟩ u (Sep.sl E n v ((l.set i x).map f) :: L) := by
  have := St.sl (E := E) (n := n) (v := v) (L := L) (k := k) (u := u) (cs := l.map f) (i := i) (e := f l[i]) (by simp [hi]) (by simpa [Nat.blt_eq] using hk)
  rw [← hu] at this
  rw [List.map_set]; exact this

theorem Called.delS {P : Program} {f : FuncId} {vs : List Value} {A B : HP} {L R : List HP} {E k : Nat} {cs : List (List Value)} (h : ∀ R, Called P f vs (A :: R) (retSl E k cs (B :: R))) (hr : Del A L R) : Called P f vs L (retSl E k cs (B :: R)) := Called.del1 hr (h R)

section
variable {P : Program} {ro : Option Nat} {Q : Exit → Act → World → Prop} {n : Nat} {F : Fr} {ds : List Deferred} {L : List HP} {c : Code}

/-- A loop's invariant: of the things x: the slots that it carries, what lies in memory. -/
def LInv {α : Type} (I : α → Prop) (car : α → Fr) (F1 : Fr) (Lh : α → List HP) (mu : α → Nat) : Nat → Fr → List HP → Prop :=
  fun m F L => ∃ x, I x ∧ m = mu x ∧ F = car x ++ F1 ∧ L = Lh x
theorem subF_append {G H : Fr} (h1 : subF F G) (h2 : ∀ t v, look H t = some v → look F t = some v) : ∀ t v, look (G ++ H) t = some v → look F t = some v :=
  fun t v h => (look_append h).elim (subF_spec h1 t v) (h2 t v)
theorem C_loopK {α : Type} (ws : List Nat) (mu : α → Nat) (car : α → Fr) (Lh : α → List HP) (I : α → Prop) (x0 : α) {F1 : Fr} (h0 : I x0) (hK : Keep ws F F1) (hF : subF F (car x0)) (hL : ∀ w, Sat w L → Sat w (Lh x0))
    (round : ∀ x, I x → C P ro c (Again (LInv I car F1 Lh mu) n ds (mu x) Q) n (car x ++ F1) ds (Lh x)) : C P ro (.loop c) Q n F ds L :=
  C_loopS (LInv I car F1 Lh mu) (mu x0) (car x0 ++ F1) (Lh x0) ⟨x0, h0, rfl, rfl, rfl⟩ (subF_append hF fun t v h => (hK.look t v h).2) hL (by
    rintro m F' L' ⟨x, hx, rfl, rfl, rfl⟩
    exact round x hx)
theorem At_againK {α : Type} {mu : α → Nat} {car : α → Fr} {Lh : α → List HP} {I : α → Prop} {F1 : Fr} {m : Nat} (x : α) (hI : I x) (hlt : mu x < m) (hF : subF F (car x)) (hF1 : subF F F1) (hL : ∀ w, Sat w L → Sat w (Lh x)) :
    At (Again (LInv I car F1 Lh mu) n ds m Q) .normal n F ds L :=
  At_againS (mu x) (car x ++ F1) (Lh x) hlt ⟨x, hI, rfl, rfl, rfl⟩ (subF_append hF (subF_spec hF1)) hL

/-! ### Tests in plain words -/
theorem C_condD {x y : Code} {o : Operand} {p : Prop} [Decidable p] (hc : ev F o = some (.bool (decide p))) (ht : p → C P ro x Q n F ds L) (hf : ¬ p → C P ro y Q n F ds L) : C P ro (.cond o x y) Q n F ds L :=
  C_cond hc (fun h => ht (of_decide_eq_true h)) (fun h => hf (of_decide_eq_false h))
theorem C_condN {x y : Code} {o : Operand} {p : Prop} [Decidable p] (hc : ev F o = some (.bool (!decide p))) (ht : ¬ p → C P ro x Q n F ds L) (hf : p → C P ro y Q n F ds L) : C P ro (.cond o x y) Q n F ds L :=
  C_cond hc (fun h => ht (by simpa using h)) (fun h => hf (by simpa using h))
end

section
variable {P : Program} {ro : Option Nat} {m : Option Mode} {ops : Array Oper} {Q : Exit → Act → World → Prop} {n : Nat} {rest : List Oper} {F : Fr} {ds : List Deferred} {L : List HP} {d : Nat} {op : Op} {ty : TypeId} {pos : String} {aft : Array Edge}
theorem w_splitD {dd : Option Tmp} {j : Nat} {b : Bool} {p : Prop} [Decidable p] {oj : Oper} {dj : Nat} (hj : ops[j]? = some oj) (hdj : oj.dst = some dj) (hb : look F dj = some (.bool (decide p)))
    (ht : p → W P ro m ops Q n (⟨dd, op, ty, pos, aft, some (j, b)⟩ :: rest) ((dj, .bool true) :: F) ds L) (hf : ¬ p → W P ro m ops Q n (⟨dd, op, ty, pos, aft, some (j, b)⟩ :: rest) ((dj, .bool false) :: F) ds L) :
    W P ro m ops Q n (⟨dd, op, ty, pos, aft, some (j, b)⟩ :: rest) F ds L := w_split hj hdj hb (fun h => ht (of_decide_eq_true h)) (fun h => hf (of_decide_eq_false h))
theorem w_splitN {dd : Option Tmp} {j : Nat} {b : Bool} {p : Prop} [Decidable p] {oj : Oper} {dj : Nat} (hj : ops[j]? = some oj) (hdj : oj.dst = some dj) (hb : look F dj = some (.bool (!decide p)))
    (ht : ¬ p → W P ro m ops Q n (⟨dd, op, ty, pos, aft, some (j, b)⟩ :: rest) ((dj, .bool true) :: F) ds L) (hf : p → W P ro m ops Q n (⟨dd, op, ty, pos, aft, some (j, b)⟩ :: rest) ((dj, .bool false) :: F) ds L) :
    W P ro m ops Q n (⟨dd, op, ty, pos, aft, some (j, b)⟩ :: rest) F ds L := w_split hj hdj hb (fun h => ht (by simpa using h)) (fun h => hf (by simpa using h))

/-- Appended to in its place: lists of one kind of thing. -/
theorem w_apM {α : Type} {f : α → List Value} {t e k bytes : Nat} {s x : Operand} {v u : Value} {l l2 : List α} {R : List HP} [hB : ElemB P t e k bytes] (hd : Nat.blt d n = true) (hs : ev F s = some v) (hx : ev F x = some u) (hr : Del (sl e k v (l.map f)) L R) (hsrc : Src (sl e k v (l.map f) :: R) u k (l2.map f))
    (h1 : ∀ a, (f a).all Value.oneCell' = true) (hb : (l.length + l2.length) * bytes ≤ 140737488355328) (h63 : l.length + l2.length ≤ 9223372036854775807)
    (hk : ∀ v', IsSl v' (l ++ l2).length → KeepsM P ops ⟨some d, .call { callee := .builtin .append, args := #[s, x], argTypes := #[t, t] }, ty, pos, aft, none⟩ n ds (sl e k v' ((l ++ l2).map f) :: R) m ∧ W P ro m ops Q n rest ((d, v') :: F) ds (sl e k v' ((l ++ l2).map f) :: R)) :
    W P ro m ops Q n (⟨some d, .call { callee := .builtin .append, args := #[s, x], argTypes := #[t, t] }, ty, pos, aft, none⟩ :: rest) F ds L := by
  refine w_ap hd hs hx hr hsrc ?_ (by simpa using hb) (by simpa using h63) fun v' hv' => ?_
  · rw [List.all_map]; exact List.all_eq_true.2 fun a _ => h1 a
  · have h := hk v' (by rw [← List.map_append, List.length_map] at hv'; exact hv')
    rwa [List.map_append] at h

theorem w_clM {α : Type} {g : α → List Value} {l : List α} {f : FuncId} {xs : List Operand} {ts : Array TypeId} {vs : List Value} {E k : Nat} {R : List HP} [CanEnter P f] (hd : Nat.blt d n = true) (hx : evs F xs = some vs) (h : Called P f vs L (retSl E k (l.map g) R)) (hN : l.length ≤ 9223372036854775807)
    (hk : ∀ v, IsSl v l.length → KeepsM P ops ⟨some d, .call { callee := .value (.func f), args := xs.toArray, argTypes := ts }, ty, pos, aft, none⟩ n ds (sl E k v (l.map g) :: R) m ∧ W P ro m ops Q n rest ((d, v) :: F) ds (sl E k v (l.map g) :: R)) : W P ro m ops Q n (⟨some d, .call { callee := .value (.func f), args := xs.toArray, argTypes := ts }, ty, pos, aft, none⟩ :: rest) F ds L :=
  w_clS hd hx h (by simpa using hN) fun v hv => hk v (by simpa using hv)

/-! ### Arrays -/
def elemOfArr (P : Program) (t : TypeId) : Option (Nat × Nat) :=
  match P.underlying t with
  | some (.array len e) => match P.info? e with
    | some i => some (len, i.size)
    | none => none
  | _ => none
theorem elemOfArr_spec {P : Program} {t : TypeId} {len m : Nat} (h : elemOfArr P t = some (len, m)) : ∃ e, P.underlying t = some (.array len e) ∧ ∃ i, P.info? e = some i ∧ i.size = m := by
  unfold elemOfArr at h
  split at h
  · rename_i e' he
    split at h
    · rename_i i hi; cases h; exact ⟨_, he, i, hi, rfl⟩
    · cases h
  · cases h
class ArrT (P : Program) (t : TypeId) (len m : outParam Nat) : Prop where
  out : elemOfArr P t = some (len, m)
theorem runs_indexArr {t : TypeId} {len mm b o : Nat} {x y : Operand} {k : IntKind} {i : Int} {dd : Option Tmp} {g : Option (Nat × Bool)} (h : elemOfArr P t = some (len, mm)) (hx : ev F x = some (.pointer (some ⟨b, o, none⟩))) (hy : ev F y = some (.int k i)) (h0 : 0 ≤ i) (h1 : i < len) :
    Runs P ⟨dd, .indexAddr t x y, ty, pos, aft, g⟩ n F ds L (is (.pointer (some ⟨b, o + i.toNat * mm, none⟩)) L) :=
  runs_pure rfl fun ac w hf => by
    obtain ⟨e, ht, inf, hi, hm⟩ := elemOfArr_spec h
    simp [execOp, hf.ev hx, hf.ev hy, Instr.indexAt, asIntOf, run_underlying ht, h0, h1, sizeOf, typeInfo, hi, hm, Addr.add_lit, Instr.sureAddr]
theorem w_ar {t : TypeId} {len mm b o : Nat} {x y : Operand} {k : IntKind} {i : Nat} [h : ArrT P t len mm] (hd : Nat.blt d n = true) (hx : ev F x = some (.pointer (some ⟨b, o, none⟩))) (hy : ev F y = some (.int k (i : Int))) (h1 : i < len)
    (hk : W P ro m ops Q n rest ((d, .pointer (some ⟨b, o + i * mm, none⟩)) :: F) ds L) : W P ro m ops Q n (⟨some d, .indexAddr t x y, ty, pos, aft, none⟩ :: rest) F ds L :=
  Wp hd (fun M => by have := runs_indexArr (P := P) (n := n) (F := F) (ds := ds) (L := M) (dd := some d) (ty := ty) (pos := pos) (aft := aft) (g := none) h.out hx hy (Int.natCast_nonneg i) (by omega); simpa using this) hk
theorem w_az {t : TypeId} {len mm b o : Nat} {x y : Operand} {k : IntKind} {i : Int} [h : ArrT P t len mm] (hd : Nat.blt d n = true) (hx : ev F x = some (.pointer (some ⟨b, o, none⟩))) (hy : ev F y = some (.int k i)) (h0 : 0 ≤ i) (h1 : i < len)
    (hk : W P ro m ops Q n rest ((d, .pointer (some ⟨b, o + i.toNat * mm, none⟩)) :: F) ds L) : W P ro m ops Q n (⟨some d, .indexAddr t x y, ty, pos, aft, none⟩ :: rest) F ds L :=
  Wp hd (fun M => runs_indexArr h.out hx hy h0 h1) hk

/-! ### Division of what is no less than nothing -/
theorem w_quoN {t u : TypeId} {x y : Operand} {a b : Int} (hd : Nat.blt d n = true) (hx : ev F x = some (.int .i64 a)) (hy : ev F y = some (.int .i64 b)) (h0 : 0 ≤ a) (h1 : a ≤ 9223372036854775807) (hb : 0 < b)
    (hk : W P ro m ops Q n rest ((d, .int .i64 (a / b)) :: F) ds L) : W P ro m ops Q n (⟨some d, .binOp .quo t x y u, ty, pos, aft, none⟩ :: rest) F ds L := by
  have e : a.tdiv b = a / b := Int.tdiv_eq_ediv_of_nonneg h0
  have hle : a / b ≤ a := Int.ediv_le_self _ h0
  have hge : 0 ≤ a / b := Int.ediv_nonneg h0 (Int.le_of_lt hb)
  refine Wp hd (v := .int .i64 (a / b)) (fun M => ?_) hk
  have := runs_quo (P := P) (n := n) (F := F) (ds := ds) (L := M) (d := some d) (ty := ty) (pos := pos) (aft := aft) (g := none) (t := t) (u := u) hx hy (by omega) ⟨by omega, by omega⟩
  rwa [e] at this
theorem w_remN {t u : TypeId} {x y : Operand} {a b : Int} (hd : Nat.blt d n = true) (hx : ev F x = some (.int .i64 a)) (hy : ev F y = some (.int .i64 b)) (h0 : 0 ≤ a) (hb : 0 < b)
    (hk : W P ro m ops Q n rest ((d, .int .i64 (a % b)) :: F) ds L) : W P ro m ops Q n (⟨some d, .binOp .rem t x y u, ty, pos, aft, none⟩ :: rest) F ds L := by
  have e : a.tmod b = a % b := Int.tmod_eq_emod_of_nonneg h0
  refine Wp hd (v := .int .i64 (a % b)) (fun M => ?_) hk
  have := runs_rem (P := P) (n := n) (F := F) (ds := ds) (L := M) (d := some d) (ty := ty) (pos := pos) (aft := aft) (g := none) (t := t) (u := u) hx hy (by omega)
  rwa [e] at this
end
end Go.Sep
