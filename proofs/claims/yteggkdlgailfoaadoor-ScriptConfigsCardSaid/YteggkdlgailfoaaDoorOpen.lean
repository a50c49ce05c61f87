/- How the arguments of a law are read, by their types. Conditions: none. -/
import Derived.Test.YteggkdlgailfoaaDoorArgs
import Derived.OpenShut
set_option linter.all false
set_option linter.deprecated false
namespace Go.Sep

/-- Cells that read at this type are those of some thing a, of which Q holds. -/
def Dec (P : Program) (w : World) (t : TypeId) {α : Type} (f : α → List Value) (Q : α → Prop) : Prop :=
  ∀ (H : Type) (enc : TypeId × Value → H) (held : Bool) (fuel : Nat) (cs : List Value) x, DataW.trod enc P w 0 (fun _ => true) held fuel t cs = some x → ∃ a, cs = f a ∧ Q a

variable [B0 : Base] {P : Program} {w : World}

theorem dec_int {t : TypeId} {k : IntKind} (ht : P.underlying t = some (.int k)) : Dec P w t (fun n : Int => [.int k n]) (fun n => (Lit.int k n).wf = true) := by
  intro H enc held fuel cs x h
  obtain ⟨n, h1, _, h3⟩ := DataW.trod_int ht h
  exact ⟨n, h1, h3⟩
theorem dec_i64 {t : TypeId} (ht : P.underlying t = some (.int .i64)) : Dec P w t (fun n : Int => [.int .i64 n]) (fun n => -9223372036854775808 ≤ n ∧ n ≤ 9223372036854775807) := by
  intro H enc held fuel cs x h
  obtain ⟨n, h1, h2⟩ := dec_int ht H enc held fuel cs x h
  exact ⟨n, h1, bounds_i64 h2⟩
theorem dec_bool {t : TypeId} (ht : P.underlying t = some .bool) : Dec P w t (fun b : Bool => [.bool b]) (fun _ => True) := by
  intro H enc held fuel cs x h
  cases fuel with
  | zero => simp [DataW.trod] at h
  | succ fuel =>
    simp only [DataW.trod, ht] at h
    split at h <;> simp_all
theorem dec_string {t : TypeId} (ht : P.underlying t = some .string) : Dec P w t (fun s : ByteArray => [.string s]) (fun s => s.size ≤ maxLen) := by
  intro H enc held fuel cs x h
  cases fuel with
  | zero => simp [DataW.trod] at h
  | succ fuel =>
    simp only [DataW.trod, ht] at h
    split at h <;> simp_all

theorem mapM_get {α β : Type} {f : α → Option β} : ∀ {l : List α} {r : List β}, l.mapM f = some r → ∀ a ∈ l, ∃ b, f a = some b
  | [], _, _, a, h => by cases h
  | x :: l, r, h, a, ha => by
    simp only [List.mapM_cons, Option.bind_eq_bind, Option.pure_def] at h
    cases hx : f x with
    | none => rw [hx] at h; simp at h
    | some b =>
      rw [hx] at h
      cases hl : l.mapM f with
      | none => rw [hl] at h; simp at h
      | some r' =>
        rcases List.mem_cons.1 ha with rfl | ha
        · exact ⟨b, hx⟩
        · exact mapM_get hl a ha
theorem mapM_nth {α β : Type} {f : α → Option β} : ∀ {l : List α} {r : List β}, l.mapM f = some r → r.length = l.length ∧ ∀ (i : Nat) a b, l[i]? = some a → r[i]? = some b → f a = some b
  | [], r, h => by
    simp at h; subst h; exact ⟨rfl, fun i a b h => by simp at h⟩
  | x :: l, r, h => by
    simp only [List.mapM_cons, Option.bind_eq_bind, Option.pure_def] at h
    cases hx : f x with
    | none => rw [hx] at h; simp at h
    | some b =>
      rw [hx] at h
      cases hl : l.mapM f with
      | none => rw [hl] at h; simp at h
      | some r' =>
        rw [hl] at h
        simp at h; subst h
        obtain ⟨h1, h2⟩ := mapM_nth hl
        refine ⟨by simp [h1], fun i a b' ha hb => ?_⟩
        cases i with
        | zero => simp at ha hb; subst ha; subst hb; exact hx
        | succ i => exact h2 i a b' (by simpa using ha) (by simpa using hb)

theorem cells?_get {base n : Nat} {a : Addr} {cs : List Value} (h : w.cells? base a n = some cs) : cs.length = n ∧ ∀ i u, cs[i]? = some u → w.cell? (a.add i) = some u := by
  unfold World.cells? at h
  split at h
  · obtain ⟨h1, h2⟩ := mapM_nth h
    refine ⟨by simpa using h1, fun i u hu => ?_⟩
    have hlt : i < n := by have := (List.getElem?_eq_some_iff.1 hu).1; rw [h1] at this; simpa using this
    exact h2 i i u (by rw [List.getElem?_range hlt]) hu
  · cases h

theorem choose_list {α : Type} {p : Nat → α → Prop} : ∀ (n : Nat), (∀ i, i < n → ∃ a, p i a) → ∃ l : List α, l.length = n ∧ ∀ i a, l[i]? = some a → p i a
  | 0, _ => ⟨[], rfl, fun i a h => by simp at h⟩
  | n + 1, h => by
    obtain ⟨l, h1, h2⟩ := choose_list n fun i hi => h i (by omega)
    obtain ⟨a, ha⟩ := h n (by omega)
    refine ⟨l ++ [a], by simp [h1], fun i b hb => ?_⟩
    rcases Nat.lt_or_ge i n with hi | hi
    · rw [List.getElem?_append_left (by omega)] at hb; exact h2 i b hb
    · rw [List.getElem?_append_right (by omega)] at hb
      have : i = n := by have := (List.getElem?_eq_some_iff.1 hb).1; simp at this; omega
      subst this
      rw [h1, Nat.sub_self] at hb; simp at hb; subst hb; exact ha

theorem add_eq (a : Addr) (n : Nat) : (a.add n).block = a.block ∧ (a.add n).off = a.off + n := by
  unfold Addr.add; split <;> simp_all

theorem flatten_at {n : Nat} : ∀ {es : List (List Value)}, (∀ e ∈ es, e.length = n) → 0 < n → ∀ j u, es.flatten[j]? = some u → ∃ e, es[j / n]? = some e ∧ e[j % n]? = some u
  | [], _, _, j, u, h => by simp at h
  | e :: es, hl, h0, j, u, h => by
    have he := hl e (by simp)
    rw [List.flatten_cons] at h
    rcases Nat.lt_or_ge j n with hj | hj
    · rw [List.getElem?_append_left (by omega)] at h
      rw [Nat.div_eq_of_lt hj, Nat.mod_eq_of_lt hj]
      exact ⟨e, rfl, h⟩
    · rw [List.getElem?_append_right (by omega), he] at h
      obtain ⟨e', h1, h2⟩ := flatten_at (fun e h => hl e (by simp [h])) h0 (j - n) u h
      have hd : j / n = (j - n) / n + 1 := by rw [Nat.div_eq_sub_div h0 hj]
      have hm : j % n = (j - n) % n := Nat.mod_eq_sub_mod hj
      rw [hd, hm]
      exact ⟨e', by simpa using h1, h2⟩

/-- A slice. -/
theorem dec_slice {t e : TypeId} {n : Nat} {α : Type} {f : α → List Value} {Q : α → Prop} (ht : P.underlying t = some (.slice e)) (hn : P.cellsOf e = n) (h0 : 0 < n) (hd : Dec P w e f Q) (hf : ∀ a, (f a).length = n) :
    Dec P w t (fun x : Value × List α => [x.1]) (fun x => InOld w x.1 n (x.2.map f) ∧ ∀ a ∈ x.2, Q a) := by
  intro H enc held fuel cs x h
  have hnil : ∀ l : List α, l = [] → InOld w (.slice none 0 0) n (l.map f) := fun l hl => by subst hl; exact ⟨IsSl.nil, (fun e he => by cases he), .inl rfl⟩
  cases fuel with
  | zero => simp [DataW.trod] at h
  | succ fuel =>
    simp only [DataW.trod, ht] at h
    split at h
    all_goals first | (rename_i h1 h2; cases h1; done) | (rename_i h1; cases h1; done) | skip
    all_goals try (simp only [Option.some.injEq, reduceCtorEq, TypeDesc.slice.injEq] at *)
    · exact ⟨(.slice none 0 0, []), rfl, hnil [] rfl, fun a ha => by cases ha⟩
    · rename_i e' a len cap he
      subst he
      split at h
      · rename_i hb
        obtain ⟨_, hlc, hcm⟩ := hb
        simp only [Option.bind_eq_some_iff, Option.map_eq_some_iff] at h
        simp only [if_true] at h
        obtain ⟨elems, hel, hmore⟩ := h
        have key : ∀ i, i < len → ∃ b, (w.cells? 0 (a.add (i * n)) n = some (f b)) ∧ Q b := fun i hi => by
          obtain ⟨y, hy⟩ := mapM_get hel i (by simpa using hi)
          rw [hn, Option.bind_eq_some_iff] at hy
          obtain ⟨c, hc1, hc2⟩ := hy
          obtain ⟨b, rfl, hq⟩ := hd H enc held fuel c _ hc2
          exact ⟨b, hc1, hq⟩
        obtain ⟨l, hl, hlp⟩ := choose_list len key
        refine ⟨(.slice (some a) len cap, l), rfl, ?_, fun b hb => ?_⟩
        · have hle : ∀ e ∈ l.map f, e.length = n := fun e he => by obtain ⟨b, _, rfl⟩ := List.mem_map.1 he; exact hf b
          have hsp : 0 < cap → a.spot = none := by
            intro hpos
            have h0' : ∃ b, (w.cells? 0 (a.add (0 * n)) n = some (f b)) ∧ Q b := by
              rcases Nat.eq_zero_or_pos len with hz | hz
              · obtain ⟨_, hrest, _⟩ := hmore
                obtain ⟨y, hy⟩ := mapM_get hrest 0 (by simp; omega)
                rw [hn, hz, Nat.zero_add, Option.bind_eq_some_iff] at hy
                obtain ⟨c, hc1, hc2⟩ := hy
                obtain ⟨b, rfl, hq⟩ := hd H enc held fuel c _ hc2
                exact ⟨b, hc1, hq⟩
              · exact key 0 hz
            obtain ⟨b, hb, _⟩ := h0'
            obtain ⟨h1, h2⟩ := cells?_get hb
            obtain ⟨u, hu⟩ : ∃ u, (f b)[0]? = some u := ⟨(f b)[0]'(by have := hf b; omega), by simp⟩
            have h5 := h2 0 u hu
            simp only [Nat.zero_mul, Addr.add, if_true] at h5
            cases hx : a.spot with
            | none => rfl
            | some s =>
              exfalso; revert h5
              simp only [World.cell?]
              split <;> simp [hx]
          refine ⟨⟨some a, cap, by rw [List.length_map, hl], by rw [List.length_map, hl]; exact hlc, hcm, (fun h => by cases h), (fun a' h hp => by cases h; exact hsp hp)⟩, hle, ?_⟩
          rcases Nat.eq_zero_or_pos len with h0' | h0'
          · left; have : l = [] := List.eq_nil_of_length_eq_zero (by omega); subst this; rfl
          · right
            obtain ⟨b, o, sp⟩ := a
            have hs0 : sp = none := hsp (by omega)
            subst hs0
            refine ⟨b, o, cap, by rw [List.length_map, hl], fun j u hu => ?_⟩
            obtain ⟨e, he1, he2⟩ := flatten_at hle h0 j u hu
            simp only [List.getElem?_map, Option.map_eq_some_iff] at he1
            obtain ⟨x, hx, rfl⟩ := he1
            have := (cells?_get (hlp _ _ hx).1).2 _ _ he2
            obtain ⟨q1, q2⟩ := add_eq (⟨b, o, none⟩ : Addr) (j / n * n)
            have q3 : (⟨b, o, none⟩ : Addr).add (j / n * n) = ⟨b, o + j / n * n, none⟩ := by unfold Addr.add; split <;> simp_all
            rw [q3, Addr.add_lit] at this
            rw [← this]
            congr 2
            have := Nat.div_add_mod j n
            rw [Nat.mul_comm] at this
            omega
        · obtain ⟨i, hi⟩ := List.getElem?_of_mem hb
          exact (hlp i b hi).2
      · cases h

/-! ### Structs -/
/-- Cells from a place on, field by field. -/
def DecRow (P : Program) (w : World) (fs : List Field) (off : Nat) {α : Type} (g : α → List Value) (Q : α → Prop) : Prop :=
  ∀ (H : Type) (enc : TypeId × Value → H) (held : Bool) (fuel : Nat) (cs : List Value), (∀ f ∈ fs, ∃ x, DataW.trod enc P w 0 (fun _ => true) held fuel f.type ((cs.drop f.offset).take (P.cellsOf f.type)) = some x) →
    cs.length = off + (fs.map fun f => P.cellsOf f.type).sum → ∃ a, cs.drop off = g a ∧ Q a
theorem decRow_nil {off : Nat} : DecRow P w [] off (fun _ : Unit => []) (fun _ => True) := by
  intro H enc held fuel cs _ hl
  exact ⟨(), List.drop_eq_nil_of_le (by simp at hl; omega), trivial⟩
theorem decRow_cons {f : Field} {fs : List Field} {off n : Nat} {α β : Type} {φ : α → List Value} {g : β → List Value} {Q : α → Prop} {Q' : β → Prop} (hn : P.cellsOf f.type = n) (ho : f.offset = off) (hd : Dec P w f.type φ Q) (hr : DecRow P w fs (off + n) g Q') :
    DecRow P w (f :: fs) off (fun x : α × β => φ x.1 ++ g x.2) (fun x => Q x.1 ∧ Q' x.2) := by
  intro H enc held fuel cs h hl
  obtain ⟨x, hx⟩ := h f (by simp)
  obtain ⟨a, ha, hq⟩ := hd H enc held fuel _ x hx
  simp only [List.map_cons, List.sum_cons, hn] at hl
  obtain ⟨b, hb, hq'⟩ := hr H enc held fuel cs (fun f' hf => h f' (by simp [hf])) (by omega)
  refine ⟨(a, b), ?_, hq, hq'⟩
  show List.drop off cs = φ a ++ g b
  rw [← ha, ← hb, ho, hn, ← List.drop_drop, List.take_append_drop]
theorem dec_struct {t : TypeId} {fs : Array Field} {α : Type} {g : α → List Value} {Q : α → Prop} (ht : P.underlying t = some (.struct fs)) (hn : P.cellsOf t = (fs.toList.map fun f => P.cellsOf f.type).sum) (hr : DecRow P w fs.toList 0 g Q) : Dec P w t g Q := by
  intro H enc held fuel cs x h
  cases fuel with
  | zero => simp [DataW.trod] at h
  | succ fuel =>
    simp only [DataW.trod, ht] at h
    split at h
    · rename_i hl
      simp only [Option.map_eq_some_iff] at h
      obtain ⟨xs, hxs, _⟩ := h
      obtain ⟨a, ha, hq⟩ := hr H enc held fuel cs (fun f hf => mapM_get hxs f hf) (by rw [hl, hn, Nat.zero_add])
      exact ⟨a, by simpa using ha, hq⟩
    · cases h
/-- An array. -/
theorem dec_array {t e : TypeId} {len n : Nat} {α : Type} {f : α → List Value} {Q : α → Prop} (ht : P.underlying t = some (.array len e)) (hn : P.cellsOf e = n) (hs : P.cellsOf t = len * n) (hd : Dec P w e f Q) (hf : ∀ a, (f a).length = n) :
    Dec P w t (fun l : List α => (l.map f).flatten) (fun l => l.length = len ∧ ∀ a ∈ l, Q a) := by
  intro H enc held fuel cs x h
  cases fuel with
  | zero => simp [DataW.trod] at h
  | succ fuel =>
    simp only [DataW.trod, ht] at h
    split at h
    · rename_i hl
      simp only [Option.map_eq_some_iff] at h
      obtain ⟨xs, hxs, _⟩ := h
      have key : ∀ i, i < len → ∃ b, (cs.drop (i * n)).take n = f b ∧ Q b := fun i hi => by
        obtain ⟨y, hy⟩ := mapM_get hxs i (by simpa using hi)
        rw [hn] at hy
        exact hd H enc held fuel _ _ hy
      obtain ⟨l, hl1, hl2⟩ := choose_list len key
      refine ⟨l, ?_, hl1, fun a ha => by obtain ⟨i, hi⟩ := List.getElem?_of_mem ha; exact (hl2 i a hi).2⟩
      rw [hs] at hl
      have : ∀ (k : Nat), k ≤ len → cs.take (k * n) = ((l.take k).map f).flatten := by
        intro k
        induction k with
        | zero => intro _; simp
        | succ k ih =>
          intro hk
          obtain ⟨a, ha⟩ : ∃ a, l[k]? = some a := ⟨l[k]'(by omega), by simp⟩
          have e1 : l.take (k + 1) = l.take k ++ [a] := by rw [List.take_add_one, ha]; rfl
          rw [e1, List.map_append, List.flatten_append, ← ih (by omega), Nat.succ_mul, List.take_add]
          rw [(hl2 k a ha).1]; simp
      have h2 := this len (Nat.le_refl _)
      rw [List.take_of_length_le (by omega), List.take_of_length_le (by omega)] at h2
      exact h2
    · cases h

/-- An argument, of a world as it was when the law was called. -/
theorem Dec.arg {t : TypeId} {α : Type} {f : α → List Value} {Q : α → Prop} (hd : Dec P w t f Q) {H : Type} {enc : TypeId × Value → H} {held : Bool} {v : Value} {d : DataW H} {p : List MemPlace} (h : DataW.Trod enc P w 0 (fun _ => true) held t v d p) : ∃ a, v.cells.toList = f a ∧ Q a := by
  obtain ⟨fuel, h⟩ := h
  exact hd H enc held fuel _ _ h
theorem Dec.mono {t : TypeId} {α β : Type} {f : α → List Value} {Q : α → Prop} {g : β → List Value} {Q' : β → Prop} (hd : Dec P w t f Q) (φ : α → β) (h1 : ∀ a, f a = g (φ a)) (h2 : ∀ a, Q a → Q' (φ a)) : Dec P w t g Q' := by
  intro H enc held fuel cs x h
  obtain ⟨a, ha, hq⟩ := hd H enc held fuel cs x h
  exact ⟨φ a, ha.trans (h1 a), h2 a hq⟩
/-- A value of one cell. -/
theorem one_cell {v u : Value} (h : v.cells.toList = [u]) (hv : ∀ cs, v ≠ .agg cs) : v = u := by
  cases v <;> simp_all [Value.cells]
theorem agg_cells {P : Program} {w : World} {b0 : Nat} {t : TypeId} {v : Value} {l : List Value} (ht : aggT P t = some l.length ∨ (∃ m, aggT P t = some m)) (hv : Value.okWide P w .any b0 t v) (h : v.cells.toList = l) : v = .agg l.toArray := by
  have hu : ∃ cs, v = .agg cs := by
    rcases ht with ht | ⟨m, ht⟩
    all_goals
      unfold aggT at ht
      simp only [Value.okWide] at hv
      split at ht
      · rename_i hu; simp only [hu] at hv; obtain ⟨cs, rfl, _⟩ := hv; exact ⟨cs, rfl⟩
      · rename_i hu; simp only [hu] at hv; obtain ⟨cs, rfl, _⟩ := hv; exact ⟨cs, rfl⟩
      · cases ht
  obtain ⟨cs, rfl⟩ := hu
  simp [Value.cells] at h
  rw [← h]
end Go.Sep
