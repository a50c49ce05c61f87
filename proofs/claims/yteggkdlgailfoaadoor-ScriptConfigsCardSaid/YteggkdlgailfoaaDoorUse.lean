/- Calls in place, struct literals, parts of slices. Conditions: none. -/
import Derived.Test.YteggkdlgailfoaaDoorSlices
set_option linter.all false
set_option linter.deprecated false
namespace Go.Sep
variable [B0 : Base]

/-! ### One assertion among many -/
inductive Rep (A B : HP) : List HP → List HP → Prop
  | here {L : List HP} : Rep A B (A :: L) (B :: L)
  | there {X : HP} {L L' : List HP} (h : Rep A B L L') : Rep A B (X :: L) (X :: L')
theorem Rep.split {A B : HP} {L L' : List HP} (h : Rep A B L L') : ∃ R, L.Perm (A :: R) ∧ L'.Perm (B :: R) := by
  induction h with
  | here => exact ⟨_, .refl _, .refl _⟩
  | there _ ih =>
    obtain ⟨R, h1, h2⟩ := ih
    exact ⟨_, (h1.cons _).trans (.swap ..), (h2.cons _).trans (.swap ..)⟩
/-- Two of them, in either order. -/
inductive Rep2 (A1 A2 B1 B2 : HP) : List HP → List HP → Prop
  | here {L L' : List HP} (h : Rep A2 B2 L L') : Rep2 A1 A2 B1 B2 (A1 :: L) (B1 :: L')
  | other {L L' : List HP} (h : Rep A1 B1 L L') : Rep2 A1 A2 B1 B2 (A2 :: L) (B2 :: L')
  | there {X : HP} {L L' : List HP} (h : Rep2 A1 A2 B1 B2 L L') : Rep2 A1 A2 B1 B2 (X :: L) (X :: L')
theorem Rep2.split {A1 A2 B1 B2 : HP} {L L' : List HP} (h : Rep2 A1 A2 B1 B2 L L') : ∃ R, L.Perm (A1 :: A2 :: R) ∧ L'.Perm (B1 :: B2 :: R) := by
  induction h with
  | here h => obtain ⟨R, h1, h2⟩ := h.split; exact ⟨R, h1.cons _, h2.cons _⟩
  | other h => obtain ⟨R, h1, h2⟩ := h.split; exact ⟨R, (h1.cons _).trans (.swap ..), (h2.cons _).trans (.swap ..)⟩
  | there _ ih =>
    obtain ⟨R, h1, h2⟩ := ih
    exact ⟨_, (h1.cons _).trans ((List.Perm.swap ..).trans ((List.Perm.swap ..).cons _)), (h2.cons _).trans ((List.Perm.swap ..).trans ((List.Perm.swap ..).cons _))⟩

theorem Called.sat {P : Program} {f : FuncId} {vs : List Value} {L M : List HP} {R R' : Value → List HP → Prop} (h : Called P f vs L R) (hL : ∀ w, Sat w M → Sat w L) (hR : ∀ v L', R v L' → ∃ M', R' v M' ∧ ∀ w, Sat w L' → Sat w M') : Called P f vs M R' :=
  ⟨fun w hs => (h.out w (hL w hs)).mono fun _ _ ⟨v, he, L', hr, hs'⟩ => let ⟨M', hr', hM⟩ := hR v L' hr; ⟨v, he, M', hr', hM _ hs'⟩⟩
theorem Called.at {P : Program} {f : FuncId} {vs : List Value} {A B : HP} {v : Value} {L L' : List HP} (hr : Rep A B L L') (h : ∀ R, Called P f vs (A :: R) (is v (B :: R))) : Called P f vs L (is v L') := by
  obtain ⟨R, h1, h2⟩ := hr.split
  exact (h R).sat (fun w hs => hs.perm h1) fun u M ⟨hu, hM⟩ => ⟨L', ⟨hu, rfl⟩, fun w hs => by subst hM; exact hs.perm h2.symm⟩
theorem Called.at2 {P : Program} {f : FuncId} {vs : List Value} {A1 A2 B1 B2 : HP} {v : Value} {L L' : List HP} (hr : Rep2 A1 A2 B1 B2 L L') (h : ∀ R, Called P f vs (A1 :: A2 :: R) (is v (B1 :: B2 :: R))) : Called P f vs L (is v L') := by
  obtain ⟨R, h1, h2⟩ := hr.split
  exact (h R).sat (fun w hs => hs.perm h1) fun u M ⟨hu, hM⟩ => ⟨L', ⟨hu, rfl⟩, fun w hs => by subst hM; exact hs.perm h2.symm⟩
/-- One taken out. -/
inductive Del (A : HP) : List HP → List HP → Prop
  | here {L : List HP} : Del A (A :: L) L
  | there {X : HP} {L L' : List HP} (h : Del A L L') : Del A (X :: L) (X :: L')
theorem Del.perm {A : HP} {L R : List HP} (h : Del A L R) : L.Perm (A :: R) := by
  induction h with
  | here => exact .refl _
  | there _ ih => exact (ih.cons _).trans (.swap ..)
/-- These, out of those. -/
inductive Sel : List HP → List HP → Prop
  | refl {L : List HP} : Sel L L
  | cons {A : HP} {L R L' : List HP} (h : Del A L R) (h' : Sel R L') : Sel L (A :: L')
  | drop {X : HP} {L L' : List HP} (h : Sel L L') : Sel (X :: L) L'
theorem Sel.perm {L L' : List HP} (h : Sel L L') : ∃ D, L.Perm (D ++ L') := by
  induction h with
  | refl => exact ⟨[], .refl _⟩
  | cons h _ ih =>
    obtain ⟨D, hD⟩ := ih
    exact ⟨D, (h.perm.trans (hD.cons _)).trans List.perm_middle.symm⟩
  | drop _ ih =>
    obtain ⟨D, hD⟩ := ih
    exact ⟨_ :: D, hD.cons _⟩
theorem Sat.drops {w : World} {L : List HP} : ∀ {D : List HP}, Sat w (D ++ L) → Sat w L
  | [], h => h
  | _ :: D, h => Sat.drops (D := D) h.drop
theorem Sel.sat {w : World} {L L' : List HP} (h : Sel L L') (hs : Sat w L) : Sat w L' := let ⟨_, hD⟩ := h.perm; (hs.perm hD).drops

/-- The one it is called on is taken out, and what is left of it comes ahead. -/
theorem Called.del {P : Program} {f : FuncId} {vs : List Value} {A : HP} {L R : List HP} {Z : List HP → Value → List HP → Prop} (hr : Del A L R) (h : ∀ R, Called P f vs (A :: R) (Z R)) : Called P f vs L (Z R) :=
  (h R).sat (fun w hs => hs.perm hr.perm) fun u M hZ => ⟨M, hZ, fun w hs => hs⟩

theorem Rd.sl1 {E : TypeId} {v : Value} {cs : List (List Value)} {L : List HP} {i : Nat} {u : Value} (h1 : cs[i]? = some [u]) : Rd (Sep.sl E 1 v cs :: L) ⟨vb v, vo v + i * 1, none⟩ u := (Rd.sl (n := 1) (e := [u]) (k := 0) h1 rfl : Rd (Sep.sl E 1 v cs :: L) ⟨vb v, vo v + i * 1 + 0, none⟩ u)
theorem Rd.src {L : List HP} {x : Value} {n : Nat} {es : List (List Value)} (h : Src L x n es) {i k : Nat} {e : List Value} {u : Value} (h1 : es[i]? = some e) (h2 : e[k]? = some u) : Rd L ⟨vb x, vo x + i * n + k, none⟩ u := ⟨fun w hs => by
  obtain ⟨ao, c, rfl, hx⟩ := h.out w hs
  rcases hx with rfl | ⟨b, o, rfl, hc⟩
  · simp at h1
  · have := hc (i * n + k) u (flatten_get (h.each w hs) h1 h2)
    simpa [vb, vo, Nat.add_assoc] using this⟩
theorem Src.isl {L : List HP} {x : Value} {n : Nat} {es : List (List Value)} (h : Src L x n es) : ∀ w, Sat w L → ∃ ao c, x = .slice ao es.length c := fun w hs => let ⟨ao, c, e, _⟩ := h.out w hs; ⟨ao, c, e⟩

theorem Called.pre {P : Program} {f : FuncId} {vs : List Value} {L L' : List HP} {Z : Value → List HP → Prop} (h : Called P f vs L' Z) (hL : ∀ w, Sat w L → Sat w L') : Called P f vs L Z :=
  h.sat hL fun u M hZ => ⟨M, hZ, fun w hs => hs⟩
theorem Called.del1 {P : Program} {f : FuncId} {vs : List Value} {A : HP} {L R : List HP} {Z : Value → List HP → Prop} (hr : Del A L R) (h : Called P f vs (A :: R) Z) : Called P f vs L Z :=
  h.sat (fun w hs => hs.perm hr.perm) fun u M hZ => ⟨M, hZ, fun w hs => hs⟩

/-! ### Regions that draw their order -/
class Mixed (P : Program) : Prop where
  out : P.follows .mixedOrders = true
theorem sel_from (l : List Oper) : ∀ (k m : Nat), k + m = l.length → sel l.toArray (List.range' k m) = l.drop k
  | k, 0, h => by rw [List.drop_eq_nil_of_le (by omega)]; rfl
  | k, m + 1, h => by
    have hk : k < l.length := by omega
    simp only [List.range'_succ, sel, List.getElem?_toArray, List.getElem?_eq_getElem hk]
    rw [sel_from l (k + 1) m (by omega), List.drop_eq_getElem_cons hk]
/-- In the order in which it is written. -/
theorem C_drawL {P : Program} {ro : Option Nat} {Q : Exit → Act → World → Prop} {n : Nat} {F : Fr} {ds : List Deferred} {L : List HP} {id : Nat} {l : List Oper} [hm : Mixed P] (hs : Region.noSelect l.toArray = true) (hB : seqB l.toArray [] (List.range l.length) (Array.replicate l.length false) = true)
    (h : W P ro (some ⟨[], []⟩) l.toArray Q n l F ds L) : C P ro (.region id l.toArray true) Q n F ds L :=
  C_draw [] (List.range l.length) hm.out hs (by simp) hB (by rw [List.range_eq_range', sel_from l 0 l.length (Nat.zero_add _)]; exact h)
/-- In another one. -/
theorem C_drawI {P : Program} {ro : Option Nat} {Q : Exit → Act → World → Prop} {n : Nat} {F : Fr} {ds : List Deferred} {L : List HP} {id : Nat} {l l' : List Oper} [hm : Mixed P] (S : List (Option Tmp)) (idx : List Nat) (hs : Region.noSelect l.toArray = true) (hl : Nat.beq idx.length l.length = true) (hB : seqB l.toArray S idx (Array.replicate l.length false) = true) (hsel : sel l.toArray idx = l')
    (h : W P ro (some ⟨[], S⟩) l.toArray Q n l' F ds L) : C P ro (.region id l.toArray true) Q n F ds L :=
  C_draw S idx hm.out hs hl hB (by rw [hsel]; exact h)

/-! ### Structs and arrays written out -/
def buildPlan (P : Program) (t : TypeId) (n : Nat) : Option (List (Nat × Nat) × List Value) :=
  match P.info? t, P.underlying t with
  | some it, some (.array _ e) =>
    match it.zero, P.info? e with
    | some z, some ie => some ((List.range n).map fun i => (i * ie.size, ie.size), z.cells.toList)
    | _, _ => none
  | some it, some (.struct fields) =>
    match it.zero, fields.toList.mapM (fun f => (P.info? f.type).map fun i => (f.offset, i.size)) with
    | some z, some places => if places.length = n then some (places, z.cells.toList) else none
    | _, _ => none
  | _, _ => none

/-- The parts' cells are put in. -/
def fillL (pl : List (Nat × Nat)) (zs : List Value) : List (Nat × List Value) → Option (List Value)
  | [] => some zs
  | (i, e) :: qs =>
    match pl[i]? with
    | some (off, size) => bif Nat.beq e.length size && Nat.ble (off + size) zs.length then fillL pl (zs.take off ++ e ++ zs.drop (off + size)) qs else none
    | none => none

def BParts (F : Fr) : List (Nat × Operand) → List (Nat × List Value) → Prop
  | [], qs => qs = []
  | (i, x) :: ps, qs => ∃ v e qs', qs = (i, e) :: qs' ∧ ev F x = some v ∧ v.cells.toList = e ∧ BParts F ps qs'
theorem bn {F : Fr} : BParts F [] [] := rfl
theorem b1 {F : Fr} {i : Nat} {x : Operand} {v : Value} {ps : List (Nat × Operand)} {qs : List (Nat × List Value)} (hx : ev F x = some v) (hv : v.oneCell' = true) (h : BParts F ps qs) : BParts F ((i, x) :: ps) ((i, [v]) :: qs) :=
  ⟨v, _, _, rfl, hx, by rw [Value.cells_one hv], h⟩
theorem ba {F : Fr} {i : Nat} {x : Operand} {vs : List Value} {ps : List (Nat × Operand)} {qs : List (Nat × List Value)} (hx : ev F x = some (.agg vs.toArray)) (h : BParts F ps qs) : BParts F ((i, x) :: ps) ((i, vs) :: qs) :=
  ⟨_, _, _, rfl, hx, by simp [Value.cells], h⟩

theorem run_fillL {a : Act} {n' : Nat} {F : Fr} {ds' : List Deferred} (hf : FrOk a n' F ds') {pl : List (Nat × Nat)} {place : Nat → Option (Nat × Nat)} (hp : ∀ i, i < pl.length → place i = pl[i]?) : ∀ (ps : List (Nat × Operand)) (qs : List (Nat × List Value)) (zs vs : List Value), BParts F ps qs → fillL pl zs qs = some vs →
    Instr.fill place zs.toArray (ps.map fun x => (x.1, a.eval x.2)) = some vs.toArray
  | [], qs, zs, vs, h, hv => by
    have : qs = [] := h
    subst this
    simp only [fillL, Option.some.injEq] at hv
    subst hv; rfl
  | (i, x) :: ps, qs, zs, vs, ⟨v, e, qs', hq, hx, hc, h⟩, hv => by
    subst hq
    simp only [fillL] at hv
    cases hpi : pl[i]? with
    | none => rw [hpi] at hv; cases hv
    | some p =>
      obtain ⟨off, size⟩ := p
      rw [hpi] at hv
      simp only [] at hv
      cases hb : (Nat.beq e.length size && Nat.ble (off + size) zs.length) with
      | false => rw [hb] at hv; cases hv
      | true =>
        rw [hb] at hv
        simp only [cond_true] at hv
        simp only [Bool.and_eq_true, Nat.beq_eq, Nat.ble_eq] at hb
        obtain ⟨h1, h2⟩ := hb
        have hi : i < pl.length := (List.getElem?_eq_some_iff.1 hpi).1
        have hce : v.cells = e.toArray := by rw [← hc]
        have ih := run_fillL hf hp ps qs' _ vs h hv
        simp only [List.map_cons, Instr.fill, hf.ev hx, hp i hi, hpi]
        have hcond : (decide (v.cells.size ≠ size) || decide (off + v.cells.size > zs.toArray.size)) = false := by
          simp [hce, h1]; omega
        rw [hcond]
        simp only [Bool.false_eq_true, if_false]
        have e1 : zs = zs.take off ++ (zs.drop off).take size ++ zs.drop (off + size) := by
          rw [List.append_assoc, ← List.drop_drop, List.take_append_drop, List.take_append_drop]
        have e3 : off = (zs.take off).length := by rw [List.length_take]; omega
        have e4 := foldl_set e (zs.take off) (zs.drop (off + size)) ((zs.drop off).take size) (by rw [List.length_take, List.length_drop]; omega)
        rw [← e3] at e4
        rw [hce]
        have e5 : zs.toArray = (zs.take off ++ (zs.drop off).take size ++ zs.drop (off + size)).toArray := congrArg _ e1
        rw [e5, e4]
        exact ih

section
variable {P : Program} {n : Nat} {F : Fr} {ds : List Deferred} {L R : List HP} {d : Option Tmp} {ty : TypeId} {pos : String} {aft : Array Edge} {g : Option (Nat × Bool)}

theorem run_buildL {a : Act} {t : TypeId} {m : Nat} {ps : List (Nat × Operand)} {pl : List (Nat × Nat)} {zs vs : List Value} {qs : List (Nat × List Value)} (hf : FrOk a n F ds) (hp : buildPlan P t m = some (pl, zs)) (hq : BParts F ps qs) (hv : fillL pl zs qs = some vs) :
    P.built t (ps.map fun x => (x.1, a.eval x.2)) = some vs.toArray := by
  unfold buildPlan at hp
  unfold Program.built
  split at hp
  · rename_i it n' e hi hu
    split at hp
    · rename_i z ie hz hie
      cases hp
      simp only [hi, hu, hz, hie]
      have := run_fillL hf (place := fun i => some (i * ie.size, ie.size)) (pl := (List.range m).map fun i => (i * ie.size, ie.size)) (fun i hi => by simp at hi ⊢; rw [List.getElem?_range hi]; rfl) ps qs _ vs hq hv
      simpa using this
    · cases hp
  · rename_i it fields hi hu
    split at hp
    · rename_i z places hz hpl
      split at hp
      · cases hp
        simp only [hi, hu, hz, hpl]
        have := run_fillL hf (place := (pl.toArray[·]?)) (fun i _ => by simp) ps qs _ vs hq hv
        simpa using this
      · cases hp
    · cases hp
  · cases hp

theorem runs_build {t : TypeId} {m : Nat} {ps : List (Nat × Operand)} {pl : List (Nat × Nat)} {zs vs : List Value} {qs : List (Nat × List Value)} (hp : buildPlan P t m = some (pl, zs)) (hq : BParts F ps qs) (hv : fillL pl zs qs = some vs) :
    Runs P ⟨d, .build t ps.toArray, ty, pos, aft, g⟩ n F ds L (is (.agg vs.toArray) L) :=
  ⟨rfl, fun ac w hf hw => by
    have hrun := run_build w t (ps.toArray.map fun x => (x.1, ac.eval x.2)) vs.toArray (by simpa using run_buildL hf hp hq hv)
    simp only [execOp, Sem.run_bind, hrun, Result.andThen_ok, Sem.run_pure, Upon]
    exact ⟨_, ⟨rfl, rfl⟩, hw⟩⟩

/-! ### Parts of slices -/
/-- v[l:h:m], each element of s cells. -/
def vsl (v : Value) (l h m s : Nat) : Value := match v with
  | .slice a _ _ => .slice (if m = l then a else a.map (·.add (l * s))) (h - l) (m - l)
  | _ => v
def vcap : Value → Nat
  | .slice _ _ c => c
  | _ => 0

theorem runs_sl_h {t e : TypeId} {k N h : Nat} {x y : Operand} {v : Value} {kk : IntKind} (hE : elemOfSl P t = some (e, k)) (hx : ev F x = some v) (hy : ev F y = some (.int kk (h : Int))) (hl : Len L v N) (hh : h ≤ N) :
    Runs P ⟨d, .slice t x none (some y) none, ty, pos, aft, g⟩ n F ds L (is (vsl v 0 h (vcap v) k) L) :=
  ⟨rfl, fun ac w hf hw => by
    obtain ⟨ht, i, hi, rfl⟩ := elemOfSl_spec hE
    obtain ⟨ao, cap, rfl, h1, h2, h3, h4⟩ := hl.out w hw
    have hc : (h : Int) ≤ cap := by omega
    simp [execOp, hf.ev hx, hf.ev hy, Instr.sliceAt, Instr.slice, run_underlying ht, Instr.sliceBounds, run_sliceBound, hc, sizeOf, typeInfo, hi, Upon, vsl, vcap]
    exact ⟨_, ⟨rfl, rfl⟩, hw⟩⟩
theorem runs_sl_l {t e : TypeId} {k N l : Nat} {x y : Operand} {v : Value} {kk : IntKind} (hE : elemOfSl P t = some (e, k)) (hx : ev F x = some v) (hy : ev F y = some (.int kk (l : Int))) (hl : Len L v N) (hh : l ≤ N) :
    Runs P ⟨d, .slice t x (some y) none none, ty, pos, aft, g⟩ n F ds L (is (vsl v l N (vcap v) k) L) :=
  ⟨rfl, fun ac w hf hw => by
    obtain ⟨ht, i, hi, rfl⟩ := elemOfSl_spec hE
    obtain ⟨ao, cap, rfl, h1, h2, h3, h4⟩ := hl.out w hw
    have hc : (l : Int) ≤ N := by omega
    simp [execOp, hf.ev hx, hf.ev hy, Instr.sliceAt, Instr.slice, run_underlying ht, Instr.sliceBounds, run_sliceBound, hc, sizeOf, typeInfo, hi, Upon, vsl, vcap]
    exact ⟨_, ⟨rfl, rfl⟩, hw⟩⟩
theorem runs_sl_lh {t e : TypeId} {k N l h : Nat} {x y z : Operand} {v : Value} {kk kl : IntKind} (hE : elemOfSl P t = some (e, k)) (hx : ev F x = some v) (hy : ev F y = some (.int kk (l : Int))) (hz : ev F z = some (.int kl (h : Int))) (hl : Len L v N) (h0 : l ≤ h) (hh : h ≤ N) :
    Runs P ⟨d, .slice t x (some y) (some z) none, ty, pos, aft, g⟩ n F ds L (is (vsl v l h (vcap v) k) L) :=
  ⟨rfl, fun ac w hf hw => by
    obtain ⟨ht, i, hi, rfl⟩ := elemOfSl_spec hE
    obtain ⟨ao, cap, rfl, h1, h2, h3, h4⟩ := hl.out w hw
    have hc : (l : Int) ≤ h := by omega
    have hc' : (h : Int) ≤ cap := by omega
    simp [execOp, hf.ev hx, hf.ev hy, hf.ev hz, Instr.sliceAt, Instr.slice, run_underlying ht, Instr.sliceBounds, run_sliceBound, hc, hc', h0, sizeOf, typeInfo, hi, Upon, vsl, vcap]
    exact ⟨_, ⟨rfl, rfl⟩, hw⟩⟩
theorem runs_sl_lhm {t e : TypeId} {k N l h m : Nat} {x y z u : Operand} {v : Value} {kk kl km : IntKind} (hE : elemOfSl P t = some (e, k)) (hx : ev F x = some v) (hy : ev F y = some (.int kk (l : Int))) (hz : ev F z = some (.int kl (h : Int))) (hu : ev F u = some (.int km (m : Int))) (hl : Len L v N) (h0 : l ≤ h) (hh : h ≤ m) (hm : m ≤ N) :
    Runs P ⟨d, .slice t x (some y) (some z) (some u), ty, pos, aft, g⟩ n F ds L (is (vsl v l h m k) L) :=
  ⟨rfl, fun ac w hf hw => by
    obtain ⟨ht, i, hi, rfl⟩ := elemOfSl_spec hE
    obtain ⟨ao, cap, rfl, h1, h2, h3, h4⟩ := hl.out w hw
    have hc : (l : Int) ≤ h := by omega
    have hc' : (h : Int) ≤ m := by omega
    have hc'' : (m : Int) ≤ cap := by omega
    simp [execOp, hf.ev hx, hf.ev hy, hf.ev hz, hf.ev hu, Instr.sliceAt, Instr.slice, run_underlying ht, Instr.sliceBounds, run_sliceBound, hc, hc', hc'', h0, hh, sizeOf, typeInfo, hi, Upon, vsl, vcap]
    exact ⟨_, ⟨rfl, rfl⟩, hw⟩⟩
/-- A slice, held against nil: it is nil, if it has no array. -/
def vnil : Value → Bool
  | .slice a _ _ => a.isNone
  | _ => false
theorem run_equalIn_sl_nil (m : Nat) {t e : TypeId} (ht : P.underlying t = some (.slice e)) (a : Option Addr) (l c : Nat) (w : World) : (Op.equalIn (m + 1) t (.slice a l c) (.slice none 0 0)).run P w = .ok a.isNone w := by
  cases a <;> simp [Op.equalIn, run_underlying ht]
theorem run_equal_sl_nil {t e : TypeId} (ht : P.underlying t = some (.slice e)) (a : Option Addr) (l c : Nat) (w : World) : (Op.equal t (.slice a l c) (.slice none 0 0)).run P w = .ok a.isNone w := run_equalIn_sl_nil 9999 ht a l c w
theorem runs_eqNilSl {t u e : TypeId} {k N : Nat} {x : Operand} {v : Value} (hE : elemOfSl P t = some (e, k)) (hx : ev F x = some v) (hl : Len L v N) :
    Runs P ⟨d, .binOp .eql t x (.const (.slice none 0 0)) u, ty, pos, aft, g⟩ n F ds L (is (.bool (vnil v)) L) :=
  runs_read rfl fun ac w hf hw => by
    obtain ⟨ht, i, hi, rfl⟩ := elemOfSl_spec hE
    obtain ⟨ao, cap, rfl, h1, h2, h3, h4⟩ := hl.out w hw
    have h2 : ac.eval (.const (.slice none 0 0)) = .slice none 0 0 := rfl
    simp [execOp, hf.ev hx, h2, eqGuard, binOp, run_equal_sl_nil ht, vnil]
theorem runs_neNilSl {t u e : TypeId} {k N : Nat} {x : Operand} {v : Value} (hE : elemOfSl P t = some (e, k)) (hx : ev F x = some v) (hl : Len L v N) :
    Runs P ⟨d, .binOp .neq t x (.const (.slice none 0 0)) u, ty, pos, aft, g⟩ n F ds L (is (.bool (!vnil v)) L) :=
  runs_read rfl fun ac w hf hw => by
    obtain ⟨ht, i, hi, rfl⟩ := elemOfSl_spec hE
    obtain ⟨ao, cap, rfl, h1, h2, h3, h4⟩ := hl.out w hw
    have h2 : ac.eval (.const (.slice none 0 0)) = .slice none 0 0 := rfl
    simp [execOp, hf.ev hx, h2, eqGuard, binOp, run_equal_sl_nil ht, vnil]
theorem Sat.cut {E : TypeId} {k : Nat} {v : Value} {cs : List (List Value)} {w : World} (h : Nat) (hh : h ≤ cs.length) (hs : Sat w (sl E k v cs :: R)) : Sat w (sl E k (vsl v 0 h (vcap v) k) (cs.take h) :: R) := by
  refine hs.update (B := [sl E k (vsl v 0 h (vcap v) k) (cs.take h)]) fun S hS => ?_
  refine ⟨fun k hk hn => rfl, S, ⟨S, fun _ => False, ?_, fun _ h => h, fun _ _ h => h, fun _ => by simp⟩, fun k hk => .inl hk⟩
  unfold sl at hS ⊢
  obtain ⟨hl, ⟨rfl, rfl, hn⟩ | ⟨b, cap, cur, rfl, hb, h1, h2, h3, h4, hSb⟩⟩ := hS
  · have : h = 0 := by simpa using hh
    subst this
    exact ⟨(fun e he => by simp at he), .inl ⟨by simp [vsl, vcap], rfl, hn⟩⟩
  · refine ⟨fun e he => hl e (List.mem_of_mem_take he), .inr ⟨b, cap, cur, ?_, hb, by rw [List.length_take]; omega, h2, h3, ?_, hSb⟩⟩
    · simp only [vsl, vcap, Nat.zero_mul, Addr.add, if_true, Option.map_some, List.length_take, Nat.sub_zero]
      rw [Nat.min_eq_left hh]; simp
    · rw [List.length_take, Nat.min_eq_left hh]
      have e1 : (cs.take h).flatten = (cs.flatten).take (h * k) := by
        have : cs.flatten = (cs.take h).flatten ++ (cs.drop h).flatten := by rw [← List.flatten_append, List.take_append_drop]
        rw [this]
        have hlen : (cs.take h).flatten.length = h * k := by rw [flatten_length (fun e he => hl e (List.mem_of_mem_take he)), List.length_take, Nat.min_eq_left hh]
        rw [← hlen, List.take_left]
      rw [e1, ← h4, List.take_take, Nat.min_eq_left (Nat.mul_le_mul_right k hh)]

/-- A slice is handed back, with an array of its own. -/
def retSl (E k : Nat) (cs : List (List Value)) (R : List HP) : Value → List HP → Prop := fun u M => IsSl u cs.length ∧ M = sl E k u cs :: R
theorem Called.isl {f : FuncId} {vs : List Value} {E k : Nat} {cs : List (List Value)} (h : Called P f vs L (fun u M => M = sl E k u cs :: R)) : Called P f vs L (retSl E k cs R) :=
  ⟨fun w hs => (h.out w hs).mono fun _ _ ⟨v, he, M, hM, hs'⟩ => ⟨v, he, M, ⟨by subst hM; exact Len.sl.out _ hs', hM⟩, hs'⟩⟩

class BuildP (P : Program) (t : Nat) (m : outParam Nat) (pl : outParam (List (Nat × Nat))) (zs : outParam (List Value)) : Prop where
  out : buildPlan P t m = some (pl, zs)

theorem Runs.isl {o : Oper} {E k : Nat} {cs : List (List Value)} {f : Value → List HP} (h : Runs P o n F ds L (fun v' L' => L' = f v')) (hf : ∀ v', ∀ w, Sat w (f v') → Sat w [sl E k v' cs, emp] ∨ ∃ R, Sat w (sl E k v' cs :: R)) : Runs P o n F ds L (fun v' L' => IsSl v' cs.length ∧ L' = f v') :=
  ⟨h.plain, fun a w h1 h2 => (h.run a w h1 h2).mono fun v w' ⟨L', e, hs⟩ => ⟨L', ⟨by
    subst e
    rcases hf _ _ hs with h | ⟨R, h⟩
    · exact Len.sl.out _ h
    · exact Len.sl.out _ h, e⟩, hs⟩⟩

theorem IsSl.any {N : Nat} (h : N ≤ 9223372036854775807) : ∃ v, IsSl v N := ⟨.slice (some ⟨0, 0, none⟩) N N, _, _, rfl, Nat.le_refl _, (by unfold maxLen; omega), (fun h => by cases h), fun a h _ => by cases h; rfl⟩

theorem Runs.del {o : Oper} {A : HP} {B : Value → HP} {q : Value → Prop} (hr : Del A L R) (h : Runs P o n F ds (A :: R) (fun v M => q v ∧ M = B v :: R)) : Runs P o n F ds L (fun v M => q v ∧ M = B v :: R) :=
  ⟨h.plain, fun a w hf hs => h.run a w hf (hs.perm hr.perm)⟩

end

section
variable {P : Program} {ro : Option Nat} {m : Option Mode} {ops : Array Oper} {Q : Exit → Act → World → Prop} {n : Nat} {rest : List Oper} {F : Fr} {ds : List Deferred} {L : List HP} {d : Nat} {ty : TypeId} {pos : String} {aft : Array Edge}

theorem w_clS {f : FuncId} {xs : List Operand} {ts : Array TypeId} {vs : List Value} {E k : Nat} {cs : List (List Value)} {R : List HP} [CanEnter P f] (hd : Nat.blt d n = true) (hx : evs F xs = some vs) (h : Called P f vs L (retSl E k cs R)) (hN : cs.length ≤ 9223372036854775807)
    (hk : ∀ v, IsSl v cs.length → KeepsM P ops ⟨some d, .call { callee := .value (.func f), args := xs.toArray, argTypes := ts }, ty, pos, aft, none⟩ n ds (sl E k v cs :: R) m ∧ W P ro m ops Q n rest ((d, v) :: F) ds (sl E k v cs :: R)) : W P ro m ops Q n (⟨some d, .call { callee := .value (.func f), args := xs.toArray, argTypes := ts }, ty, pos, aft, none⟩ :: rest) F ds L :=
  Wx hd (cl hx h) (by obtain ⟨v, hv⟩ := IsSl.any hN; exact ⟨v, _, hv, rfl⟩) fun v L' ⟨h1, h2⟩ => by subst h2; exact hk v h1
theorem w_bd {t k : Nat} {ps : List (Nat × Operand)} {pl : List (Nat × Nat)} {zs vs : List Value} {qs : List (Nat × List Value)} [h : BuildP P t k pl zs] (hd : Nat.blt d n = true) (hq : BParts F ps qs) (hv : fillL pl zs qs = some vs)
    (hk : W P ro m ops Q n rest ((d, .agg vs.toArray) :: F) ds L) : W P ro m ops Q n (⟨some d, .build t ps.toArray, ty, pos, aft, none⟩ :: rest) F ds L := Wp hd (fun _ => runs_build h.out hq hv) hk

theorem w_bs {t e k bytes N : Nat} {ps : List (Nat × Operand)} {es : List (List Value)} [hB : ElemB P t e k bytes] (hd : Nat.blt d n = true) (h : Parts F k 0 ps es) (hN : Nat.beq ps.length N = true) (hes : Nat.beq es.length N = true) (hlim : Nat.ble (N * k) 16777216 = true)
    (hk : ∀ v', IsSl v' N → KeepsM P ops ⟨some d, .buildSlice t N ps.toArray, ty, pos, aft, none⟩ n ds (sl e k v' es :: L) m ∧ W P ro m ops Q n rest ((d, v') :: F) ds (sl e k v' es :: L)) : W P ro m ops Q n (⟨some d, .buildSlice t N ps.toArray, ty, pos, aft, none⟩ :: rest) F ds L := by
  have hN := Nat.eq_of_beq_eq_true hN
  have hes := Nat.eq_of_beq_eq_true hes
  have hlim := Nat.le_of_ble_eq_true hlim
  have hk0 : 0 < k := (elemB_spec hB.out).2.1
  have hle : N ≤ N * k := Nat.le_mul_of_pos_right N hk0
  have hr := Runs.isl (E := e) (k := k) (cs := es) (f := fun v' => sl e k v' es :: L) (runs_buildSlice (F := F) (ds := ds) (L := L) (n := n) (d := some d) (ty := ty) (pos := pos) (aft := aft) (g := none) hB.out hN hlim h hes) (fun v' w hs => .inr ⟨_, hs⟩)
  rw [hes] at hr
  exact Wx hd hr (by obtain ⟨v, hv⟩ := IsSl.any (N := N) (by omega); exact ⟨v, _, hv, rfl⟩) fun v L' ⟨h1, h2⟩ => by subst h2; exact hk v h1

/-- Appended to in its place. -/
theorem w_ap {t e k bytes : Nat} {s x : Operand} {v u : Value} {cs es : List (List Value)} {R : List HP} [hB : ElemB P t e k bytes] (hd : Nat.blt d n = true) (hs : ev F s = some v) (hx : ev F x = some u) (hr : Del (sl e k v cs) L R) (hsrc : Src (sl e k v cs :: R) u k es)
    (h1 : es.all (fun l => l.all Value.oneCell') = true) (hb : (cs.length + es.length) * bytes ≤ 140737488355328) (h63 : cs.length + es.length ≤ 9223372036854775807)
    (hk : ∀ v', IsSl v' (cs ++ es).length → KeepsM P ops ⟨some d, .call { callee := .builtin .append, args := #[s, x], argTypes := #[t, t] }, ty, pos, aft, none⟩ n ds (sl e k v' (cs ++ es) :: R) m ∧ W P ro m ops Q n rest ((d, v') :: F) ds (sl e k v' (cs ++ es) :: R)) :
    W P ro m ops Q n (⟨some d, .call { callee := .builtin .append, args := #[s, x], argTypes := #[t, t] }, ty, pos, aft, none⟩ :: rest) F ds L := by
  have hrun := (runs_append (P := P) (n := n) (F := F) (ds := ds) (R := R) (d := some d) (ty := ty) (pos := pos) (aft := aft) (g := none) hB.out hs hx hsrc h1 hb h63).isl (E := e) (k := k) (cs := cs ++ es) (f := fun v' => sl e k v' (cs ++ es) :: R) (fun v' w hs => .inr ⟨_, hs⟩)
  exact Wx hd (hrun.del hr) (by obtain ⟨v, hv⟩ := IsSl.any (N := (cs ++ es).length) (by rw [List.length_append]; exact h63); exact ⟨v, _, hv, rfl⟩) fun v L' ⟨h1, h2⟩ => by subst h2; exact hk v h1

theorem w_slh0 {t e : TypeId} {k N h : Nat} {x y : Operand} {v : Value} {kk : IntKind} [hE : ElemSl P t e k] (hd : Nat.blt d n = true) (hx : ev F x = some v) (hy : ev F y = some (.int kk (h : Int))) (hl : Len L v N) (hh : h ≤ N)
    (hk : W P ro none ops Q n rest ((d, vsl v 0 h (vcap v) k) :: F) ds L) : W P ro none ops Q n (⟨some d, .slice t x none (some y) none, ty, pos, aft, none⟩ :: rest) F ds L := Wr hd (runs_sl_h hE.out hx hy hl hh) hk
theorem w_slh {t e : TypeId} {k N h : Nat} {x y : Operand} {v : Value} {kk : IntKind} [hE : ElemSl P t e k] (hd : Nat.blt d n = true) (hx : ev F x = some v) (hy : ev F y = some (.int kk (h : Int))) (hl : IsSl v N) (hh : h ≤ N)
    (hk : W P ro m ops Q n rest ((d, vsl v 0 h (vcap v) k) :: F) ds L) : W P ro m ops Q n (⟨some d, .slice t x none (some y) none, ty, pos, aft, none⟩ :: rest) F ds L := Wp hd (fun _ => runs_sl_h hE.out hx hy (Len.of hl) hh) hk
theorem w_sll0 {t e : TypeId} {k N h : Nat} {x y : Operand} {v : Value} {kk : IntKind} [hE : ElemSl P t e k] (hd : Nat.blt d n = true) (hx : ev F x = some v) (hy : ev F y = some (.int kk (h : Int))) (hl : Len L v N) (hh : h ≤ N)
    (hk : W P ro none ops Q n rest ((d, vsl v h N (vcap v) k) :: F) ds L) : W P ro none ops Q n (⟨some d, .slice t x (some y) none none, ty, pos, aft, none⟩ :: rest) F ds L := Wr hd (runs_sl_l hE.out hx hy hl hh) hk
theorem w_sll {t e : TypeId} {k N h : Nat} {x y : Operand} {v : Value} {kk : IntKind} [hE : ElemSl P t e k] (hd : Nat.blt d n = true) (hx : ev F x = some v) (hy : ev F y = some (.int kk (h : Int))) (hl : IsSl v N) (hh : h ≤ N)
    (hk : W P ro m ops Q n rest ((d, vsl v h N (vcap v) k) :: F) ds L) : W P ro m ops Q n (⟨some d, .slice t x (some y) none none, ty, pos, aft, none⟩ :: rest) F ds L := Wp hd (fun _ => runs_sl_l hE.out hx hy (Len.of hl) hh) hk
theorem w_sllh {t e : TypeId} {k N l h : Nat} {x y z : Operand} {v : Value} {kk kl : IntKind} [hE : ElemSl P t e k] (hd : Nat.blt d n = true) (hx : ev F x = some v) (hy : ev F y = some (.int kk (l : Int))) (hz : ev F z = some (.int kl (h : Int))) (hl : IsSl v N) (h0 : l ≤ h) (hh : h ≤ N)
    (hk : W P ro m ops Q n rest ((d, vsl v l h (vcap v) k) :: F) ds L) : W P ro m ops Q n (⟨some d, .slice t x (some y) (some z) none, ty, pos, aft, none⟩ :: rest) F ds L := Wp hd (fun _ => runs_sl_lh hE.out hx hy hz (Len.of hl) h0 hh) hk
theorem w_sllhm {t e : TypeId} {k N l h q : Nat} {x y z u : Operand} {v : Value} {kk kl km : IntKind} [hE : ElemSl P t e k] (hd : Nat.blt d n = true) (hx : ev F x = some v) (hy : ev F y = some (.int kk (l : Int))) (hz : ev F z = some (.int kl (h : Int))) (hu : ev F u = some (.int km (q : Int))) (hl : IsSl v N) (h0 : l ≤ h) (hh : h ≤ q) (hm : q ≤ N)
    (hk : W P ro m ops Q n rest ((d, vsl v l h q k) :: F) ds L) : W P ro m ops Q n (⟨some d, .slice t x (some y) (some z) (some u), ty, pos, aft, none⟩ :: rest) F ds L := Wp hd (fun _ => runs_sl_lhm hE.out hx hy hz hu (Len.of hl) h0 hh hm) hk
theorem w_eqsl0 {t u e : TypeId} {k N : Nat} {x : Operand} {v : Value} [hE : ElemSl P t e k] (hd : Nat.blt d n = true) (hx : ev F x = some v) (hl : Len L v N)
    (hk : W P ro none ops Q n rest ((d, .bool (vnil v)) :: F) ds L) : W P ro none ops Q n (⟨some d, .binOp .eql t x (.const (.slice none 0 0)) u, ty, pos, aft, none⟩ :: rest) F ds L := Wr hd (runs_eqNilSl hE.out hx hl) hk
theorem w_eqslP {t u e : TypeId} {k N : Nat} {x : Operand} {v : Value} [hE : ElemSl P t e k] (hd : Nat.blt d n = true) (hx : ev F x = some v) (hl : IsSl v N)
    (hk : W P ro m ops Q n rest ((d, .bool (vnil v)) :: F) ds L) : W P ro m ops Q n (⟨some d, .binOp .eql t x (.const (.slice none 0 0)) u, ty, pos, aft, none⟩ :: rest) F ds L := Wp hd (fun _ => runs_eqNilSl hE.out hx (Len.of hl)) hk
theorem w_nesl0 {t u e : TypeId} {k N : Nat} {x : Operand} {v : Value} [hE : ElemSl P t e k] (hd : Nat.blt d n = true) (hx : ev F x = some v) (hl : Len L v N)
    (hk : W P ro none ops Q n rest ((d, .bool (!vnil v)) :: F) ds L) : W P ro none ops Q n (⟨some d, .binOp .neq t x (.const (.slice none 0 0)) u, ty, pos, aft, none⟩ :: rest) F ds L := Wr hd (runs_neNilSl hE.out hx hl) hk
theorem w_neslP {t u e : TypeId} {k N : Nat} {x : Operand} {v : Value} [hE : ElemSl P t e k] (hd : Nat.blt d n = true) (hx : ev F x = some v) (hl : IsSl v N)
    (hk : W P ro m ops Q n rest ((d, .bool (!vnil v)) :: F) ds L) : W P ro m ops Q n (⟨some d, .binOp .neq t x (.const (.slice none 0 0)) u, ty, pos, aft, none⟩ :: rest) F ds L := Wp hd (fun _ => runs_neNilSl hE.out hx (Len.of hl)) hk
end
theorem vnil_sl {E k : Nat} {v : Value} {cs : List (List Value)} {w : World} {R : List HP} (h : Sat w (sl E k v cs :: R)) (hn : vnil v = true) : cs = [] := by
  obtain ⟨_, ⟨rfl, rfl⟩ | ⟨b, cap, cur, rfl, _⟩⟩ := sl_split h
  · rfl
  · cases hn
end Go.Sep
