/- Slices: cut, appended to, made, cleared. Conditions: none. -/
import Derived.Test.YteggkdlgailfoaaDoorStep
set_option linter.all false
set_option linter.deprecated false
namespace Go.Sep
variable [B0 : Base]

/-! ### An owned slice, taken apart and put together -/
theorem sl_split {E : TypeId} {n : Nat} {v : Value} {cs : List (List Value)} {w : World} {R : List HP} (h : Sat w (sl E n v cs :: R)) :
    (∀ e ∈ cs, e.length = n) ∧ ((v = .slice none 0 0 ∧ cs = []) ∨ ∃ b cap cur, v = .slice (some ⟨b, 0, none⟩) cs.length cap ∧ w.heap[b]? = some (.cells cur E (0, 0)) ∧ cs.length ≤ cap ∧ cap ≤ maxLen ∧ cur.size = cap * n ∧ cur.toList.take (cs.length * n) = cs.flatten) := by
  obtain ⟨_, _, _, _, h1, _⟩ := h
  unfold sl at h1
  obtain ⟨hl, ⟨h1, h2, _⟩ | ⟨b, cap, cur, h1, h2, h3, h4, h5, h6, _⟩⟩ := h1
  · exact ⟨hl, .inl ⟨h1, h2⟩⟩
  · exact ⟨hl, .inr ⟨b, cap, cur, h1, h2, h3, h4, h5, h6⟩⟩

/-- The array is written in place. -/
theorem sl_inplace {E : TypeId} {n : Nat} {cs cs' : List (List Value)} {w w' : World} {R : List HP} {b cap : Nat} {cur' : Array Value} (h : Sat w (sl E n (.slice (some ⟨b, 0, none⟩) cs.length cap) cs :: R))
    (hl : ∀ e ∈ cs', e.length = n) (hb : w'.heap[b]? = some (.cells cur' E (0, 0))) (ho : ∀ k, k ≠ b → k < w.heap.size → w'.heap[k]? = w.heap[k]?) (h1 : cs'.length ≤ cap) (h2 : cur'.size = cap * n) (h3 : cur'.toList.take (cs'.length * n) = cs'.flatten) (eo : w'.os = w.os ∧ w'.tape = w.tape ∧ w'.output = w.output := by exact ⟨rfl, rfl, rfl⟩) :
    Sat w' (sl E n (.slice (some ⟨b, 0, none⟩) cs'.length cap) cs' :: R) := by
  have hcap : cap ≤ maxLen := by
    obtain ⟨_, ⟨h, _⟩ | ⟨b', cap', cur, hv, _, _, h4, _⟩⟩ := sl_split h
    · cases h
    · cases hv; exact h4
  refine h.update (B := [sl E n (.slice (some ⟨b, 0, none⟩) cs'.length cap) cs']) (eo := eo) fun S hS => ?_
  unfold sl at hS
  obtain ⟨_, ⟨hv, _⟩ | ⟨b', cap', cur, hv, _, _, _, _, _, hSb⟩⟩ := hS
  · cases hv
  · cases hv
    refine ⟨fun k hk hn => ho k (fun e => hn ((hSb k).2 e)) hk, S, ⟨S, fun _ => False, ?_, fun _ h => h, fun _ _ h => h, fun _ => by simp⟩, fun k hk => .inl hk⟩
    unfold sl
    exact ⟨hl, .inr ⟨b, cap, cur', rfl, hb, h1, hcap, h2, h3, hSb⟩⟩

/-- The array is a new one. -/
theorem sl_anew {A : HP} {E : TypeId} {n : Nat} {cs' : List (List Value)} {w w' : World} {R : List HP} {cap : Nat} {cur' : Array Value} (h : Sat w (A :: R)) (hcap : cap ≤ maxLen)
    (hl : ∀ e ∈ cs', e.length = n) (hb : w'.heap[w.heap.size]? = some (.cells cur' E (0, 0))) (ho : ∀ k, k < w.heap.size → w'.heap[k]? = w.heap[k]?) (h1 : cs'.length ≤ cap) (h2 : cur'.size = cap * n) (h3 : cur'.toList.take (cs'.length * n) = cs'.flatten) (eo : w'.os = w.os ∧ w'.tape = w.tape ∧ w'.output = w.output := by exact ⟨rfl, rfl, rfl⟩) :
    Sat w' (sl E n (.slice (some ⟨w.heap.size, 0, none⟩) cs'.length cap) cs' :: R) := by
  refine h.update (B := [sl E n (.slice (some ⟨w.heap.size, 0, none⟩) cs'.length cap) cs']) (eo := eo) fun S _ => ?_
  refine ⟨fun k hk _ => ho k hk, fun x => x = w.heap.size, ⟨fun x => x = w.heap.size, fun _ => False, ?_, fun _ h => h, fun _ _ h => h, fun _ => by simp⟩, fun k hk => .inr (by rw [hk]; exact Nat.le_refl _)⟩
  unfold sl
  exact ⟨hl, .inr ⟨_, cap, cur', rfl, hb, h1, hcap, h2, h3, fun _ => Iff.rfl⟩⟩

theorem Sat.more {w : World} {R : List HP} (h : Sat w R) : Sat w (emp :: R) := by
  obtain ⟨ho, S, hs⟩ := h
  exact ⟨ho, S, fun _ => False, S, fun _ h => h, hs, fun _ h => h.elim, fun b => by simp⟩

theorem Sat.sl_nil {w : World} {R : List HP} {E n : Nat} (h : Sat w R) : Sat w (sl E n (.slice none 0 0) [] :: R) := by
  obtain ⟨ho, S, hs⟩ := h
  refine ⟨ho, S, fun _ => False, S, ?_, hs, fun _ h => h.elim, fun b => by simp⟩
  unfold sl
  exact ⟨(fun _ h => by cases h), .inl ⟨rfl, rfl, fun _ h => h⟩⟩

/-! ### Where elements are read from -/
structure Src (L : List HP) (x : Value) (n : Nat) (es : List (List Value)) : Prop where
  each : ∀ w, Sat w L → ∀ e ∈ es, e.length = n
  out : ∀ w, Sat w L → ∃ ao c, x = .slice ao es.length c ∧ (es = [] ∨ ∃ b o, ao = some ⟨b, o, none⟩ ∧ ∀ j u, es.flatten[j]? = some u → w.cell? ⟨b, o + j, none⟩ = some u)
theorem Src.there {A : HP} {L : List HP} {x : Value} {n : Nat} {es : List (List Value)} (h : Src L x n es) : Src (A :: L) x n es := ⟨fun w hs => h.each w hs.drop, fun w hs => h.out w hs.drop⟩
theorem Src.sl {E : TypeId} {n : Nat} {v : Value} {cs : List (List Value)} {L : List HP} : Src (sl E n v cs :: L) v n cs :=
  ⟨fun w hs => (sl_split hs).1, fun w hs => by
    obtain ⟨_, ⟨rfl, rfl⟩ | ⟨b, cap, cur, rfl, hb, h1, h2, h3, h4⟩⟩ := sl_split hs
    · exact ⟨none, 0, rfl, Or.inl rfl⟩
    · refine ⟨_, cap, rfl, Or.inr ⟨b, 0, rfl, fun j u hu => ?_⟩⟩
      rw [Nat.zero_add]
      refine cell_of_blk hb j ?_
      rw [← h4, List.getElem?_take] at hu
      split at hu
      · simpa using hu
      · cases hu⟩

/-! ### append -/
/-- The elements' type: its number, size and bytes. -/
def elemB (P : Program) (t : TypeId) : Option (TypeId × Nat × Nat) :=
  match P.underlying t with
  | some (.slice e) => match P.info? e with
    | some i => match i.zero with
      | some z => if z.cells.size = i.size ∧ 0 < i.size ∧ z.cells.all Value.oneCell' = true then some (e, i.size, i.bytes) else none
      | none => none
    | none => none
  | _ => none
class ElemB (P : Program) (t : Nat) (e n bytes : outParam Nat) : Prop where
  out : elemB P t = some (e, n, bytes)

theorem elemB_spec {P : Program} {t e n bytes : Nat} (h : elemB P t = some (e, n, bytes)) : P.underlying t = some (.slice e) ∧ 0 < n ∧ ∃ i z, P.info? e = some i ∧ i.zero = some z ∧ i.size = n ∧ i.bytes = bytes ∧ z.cells.size = n ∧ z.cells.all Value.oneCell' = true := by
  unfold elemB at h
  split at h
  · rename_i e' he
    split at h
    · rename_i i hi
      split at h
      · rename_i z hz
        split at h
        · rename_i hc
          cases h; exact ⟨he, hc.2.1, i, z, hi, hz, rfl, rfl, hc.1, hc.2.2⟩
        · cases h
      · cases h
    · cases h
  · cases h

theorem flat_append {n : Nat} {cs es : List (List Value)} (h1 : ∀ e ∈ cs, e.length = n) (h2 : ∀ e ∈ es, e.length = n) : ∀ e ∈ cs ++ es, e.length = n := fun e he => (List.mem_append.1 he).elim (h1 e) (h2 e)

theorem run_append_sl {P : Program} {t e n bytes : Nat} (hB : elemB P t = some (e, n, bytes)) {w : World} {v x : Value} {cs es : List (List Value)} {R : List HP} (hs : Sat w (sl e n v cs :: R)) (hsrc : Src (sl e n v cs :: R) x n es)
    (h1 : es.all (fun l => l.all Value.oneCell') = true) (hb : (cs.length + es.length) * bytes ≤ 140737488355328) (h63 : cs.length + es.length ≤ 9223372036854775807) (ty : TypeId) :
    ∃ v' w', (Builtin.append_ #[t, t] ty #[v, x]).run P w = .ok v' w' ∧ Sat w' (sl e n v' (cs ++ es) :: R) := by
  obtain ⟨ht, hn, i, z, hi, hz, rfl, rfl, hzs, _⟩ := elemB_spec hB
  obtain ⟨hl, hcase⟩ := sl_split hs
  have hle := hsrc.each w hs
  obtain ⟨ao, c, rfl, hx⟩ := hsrc.out w hs
  have hone : ∀ u ∈ es.flatten, u.oneCell' = true := fun u hu => by
    obtain ⟨l, hl', hu'⟩ := List.mem_flatten.1 hu
    exact List.all_eq_true.1 (List.all_eq_true.1 h1 l hl') u hu'
  have hfl := flatten_length hle
  have hflc := flatten_length hl
  have hmax : ∀ m, m ≤ cs.length + es.length → m ≤ maxLen := fun m hm => by unfold maxLen; omega
  rcases hx with rfl | ⟨b, o, rfl, hcell⟩
  · -- nothing to append
    rcases hcase with ⟨rfl, rfl⟩ | ⟨g, cap, cur, rfl, hg, g1, g2, g3, g4⟩
    · refine ⟨.slice none 0 0, w, ?_, by simpa using hs⟩
      cases ao with
      | none => simp [Builtin.append_, run_underlying ht, sizeOf, typeInfo, hi, Builtin.lenOf, Builtin.firstCells]
      | some a => simp [Builtin.append_, run_underlying ht, sizeOf, typeInfo, hi, Builtin.lenOf, Builtin.firstCells, loadCells, loadCellsFrom]
    · refine ⟨.slice (some ⟨g, 0, none⟩) cs.length cap, w, ?_, by simpa using hs⟩
      cases ao with
      | none => simp [Builtin.append_, run_underlying ht, sizeOf, typeInfo, hi, Builtin.lenOf, Builtin.firstCells, storeCells, g1]
      | some a => simp [Builtin.append_, run_underlying ht, sizeOf, typeInfo, hi, Builtin.lenOf, Builtin.firstCells, loadCells, loadCellsFrom, storeCells, g1]
  · have hnews : ∀ j u, es.flatten[j]? = some u → w.cell? ((⟨b, o, none⟩ : Addr).add j) = some u := fun j u hu => by rw [Addr.add_lit]; exact hcell j u hu
    rcases hcase with ⟨rfl, rfl⟩ | ⟨g, cap, cur, rfl, hg, g1, g2, g3, g4⟩
    · by_cases he : es.length = 0
      · have : es = [] := List.eq_nil_of_length_eq_zero he
        subst this
        refine ⟨.slice none 0 0, w, ?_, by simpa using hs⟩
        simp [Builtin.append_, run_underlying ht, sizeOf, typeInfo, hi, Builtin.lenOf, Builtin.firstCells, loadCells, loadCellsFrom]
      · have hb' : es.length * i.bytes ≤ 140737488355328 := by simpa using hb
        have hr := run_append_nil (P := P) w t ty e i z ht hi hz ⟨b, o, none⟩ es.length c es.flatten hfl hnews (by omega) (by simp at h63; omega) (by omega)
        refine ⟨_, _, hr, ?_⟩
        have hge := grownCap_ge w es.length 0 e
        have hcm := grownCap_le_maxLen w es.length 0 e (hmax _ (by omega))
        refine sl_anew (cap := grownCap w es.length 0 e) (w' := w.drew.alloc _) hs hcm (by simpa using hle) (heap_alloc_new w.drew _) (fun k hk => heap_alloc_old w.drew _ hk) (by simpa using hge) ?_ ?_
        · simp only [Array.size_append, List.size_toArray, size_zeroCells, hzs, hfl, ← Nat.add_mul]
          congr 1; omega
        · simp only [Array.toList_append, ← hfl]
          exact List.take_left
    · by_cases hroom : cs.length + es.length ≤ cap
      · have hfit : cs.length * i.size + es.flatten.length ≤ cur.size := by rw [hfl, g3, ← Nat.add_mul]; exact Nat.mul_le_mul_right _ hroom
        have hr := run_append_room (P := P) w t ty e i ht hi g cs.length cap cur hg ⟨b, o, none⟩ es.length c es.flatten hfl hnews hone hroom hfit
        refine ⟨_, _, hr, ?_⟩
        have := sl_inplace (cs' := cs ++ es) (w' := w.setRow g (cur.toList.take (cs.length * i.size) ++ es.flatten ++ cur.toList.drop (cs.length * i.size + es.flatten.length)).toArray) hs (flat_append hl hle) (setRow_heap w g cur _ e _ hg) (fun k hk _ => setRow_other w g k _ hk) (by simpa using hroom) ?_ ?_
        · simpa using this
        · simp only [List.size_toArray, List.length_append, List.length_take, List.length_drop, Array.length_toList]
          omega
        · rw [g4, ← hflc, List.flatten_append, List.length_append, Nat.add_mul, ← hflc, ← hfl, ← List.length_append]
          exact List.take_left
      · have holds : ∀ j u, cs.flatten[j]? = some u → w.cell? ((⟨g, 0, none⟩ : Addr).add j) = some u := fun j u hu => by
          rw [Addr.add_lit, Nat.zero_add]
          refine cell_of_blk hg j ?_
          rw [← g4, List.getElem?_take] at hu
          split at hu
          · simpa using hu
          · cases hu
        have hr := run_append_grow (P := P) w t ty e i z ht hi hz ⟨g, 0, none⟩ cs.length cap cs.flatten hflc holds ⟨b, o, none⟩ es.length c es.flatten hfl hnews (by omega) (by omega) (growslice_fits (by omega) hb)
        refine ⟨_, _, hr, ?_⟩
        have hge := grownCap_ge w (cs.length + es.length) cap e
        have hcm := grownCap_le_maxLen w (cs.length + es.length) cap e (hmax _ (Nat.le_refl _))
        have := sl_anew (cs' := cs ++ es) (cap := grownCap w (cs.length + es.length) cap e) (w' := w.drew.alloc (.cells (cs.flatten.toArray ++ es.flatten.toArray ++ Builtin.zeroCells z.cells (grownCap w (cs.length + es.length) cap e - (cs.length + es.length))) e)) hs hcm (flat_append hl hle) (heap_alloc_new w.drew _) (fun k hk => heap_alloc_old w.drew _ hk) (by simpa using hge) ?_ ?_
        · simpa using this
        · simp only [Array.size_append, List.size_toArray, size_zeroCells, hzs, hfl, hflc, ← Nat.add_mul]
          congr 1; omega
        · simp only [Array.toList_append, List.append_assoc]
          rw [List.length_append, Nat.add_mul, ← hflc, ← hfl, ← List.length_append, List.flatten_append, ← List.append_assoc]
          exact List.take_left

section
variable {P : Program} {n : Nat} {F : Fr} {ds : List Deferred} {L R : List HP} {d : Option Tmp} {ty : TypeId} {pos : String} {aft : Array Edge} {g : Option (Nat × Bool)}

theorem runs_append {t e k bytes : Nat} {s x : Operand} {v u : Value} {cs es : List (List Value)} (hB : elemB P t = some (e, k, bytes)) (hs : ev F s = some v) (hx : ev F x = some u) (hsrc : Src (sl e k v cs :: R) u k es)
    (h1 : es.all (fun l => l.all Value.oneCell') = true) (hb : (cs.length + es.length) * bytes ≤ 140737488355328) (h63 : cs.length + es.length ≤ 9223372036854775807) :
    Runs P ⟨d, .call { callee := .builtin .append, args := #[s, x], argTypes := #[t, t] }, ty, pos, aft, g⟩ n F ds (sl e k v cs :: R) (fun v' L' => L' = sl e k v' (cs ++ es) :: R) :=
  ⟨rfl, fun ac w hf hw => by
    obtain ⟨v', w', hr, hs'⟩ := run_append_sl hB hw hsrc h1 hb h63 ty
    simp only [execOp, resolve, invoke, builtin, Sem.run_bind, Sem.run_pure, Result.andThen_ok, List.map_toArray, List.map_cons, List.map_nil, hf.ev hs, hf.ev hx, hr, Upon]
    exact ⟨_, rfl, hs'⟩⟩

/-! ### A slice written out -/
/-- The parts, one behind the other from i on. -/
def Parts (F : Fr) (m : Nat) : Nat → List (Nat × Operand) → List (List Value) → Prop
  | _, [], es => es = []
  | i, (j, x) :: ps, es => ∃ v e es', es = e :: es' ∧ j = i ∧ ev F x = some v ∧ v.cells.toList = e ∧ e.length = m ∧ Parts F m (i + 1) ps es'

theorem pn {m i : Nat} : Parts F m i [] [] := rfl
theorem p1 {i : Nat} {x : Operand} {v : Value} {ps : List (Nat × Operand)} {es : List (List Value)} (hx : ev F x = some v) (hv : v.oneCell' = true) (h : Parts F 1 (i + 1) ps es) : Parts F 1 i ((i, x) :: ps) ([v] :: es) :=
  ⟨v, [v], es, rfl, rfl, hx, by rw [Value.cells_one hv], rfl, h⟩
theorem pa {m i : Nat} {x : Operand} {vs : List Value} {ps : List (Nat × Operand)} {es : List (List Value)} (hx : ev F x = some (.agg vs.toArray)) (hm : vs.length = m) (h : Parts F m (i + 1) ps es) : Parts F m i ((i, x) :: ps) (vs :: es) :=
  ⟨_, vs, es, rfl, rfl, hx, by simp [Value.cells], hm, h⟩

theorem foldl_set (cs : List Value) : ∀ (pre post mid : List Value), mid.length = cs.length → (cs.toArray.zipIdx.foldl (fun acc x => acc.setIfInBounds (pre.length + x.2) x.1) (pre ++ mid ++ post).toArray) = (pre ++ cs ++ post).toArray := by
  intro pre post mid hm
  have key : ∀ (cs : List Value) (k : Nat) (done mid : List Value), done.length = k → mid.length = cs.length → (cs.zipIdx k).foldl (fun acc x => acc.setIfInBounds (pre.length + x.2) x.1) (pre ++ (done ++ mid) ++ post).toArray = (pre ++ (done ++ cs) ++ post).toArray := by
    intro cs
    induction cs with
    | nil => intro k done mid _ h; have : mid = [] := List.eq_nil_of_length_eq_zero (by simpa using h); subst this; rfl
    | cons c cs ih =>
      intro k done mid hk h
      match mid, h with
      | [], h => simp at h
      | x :: mid, h =>
        rw [List.zipIdx_cons, List.foldl_cons]
        have e : (pre ++ (done ++ x :: mid) ++ post).toArray.setIfInBounds (pre.length + k) c = (pre ++ ((done ++ [c]) ++ mid) ++ post).toArray := by
          rw [List.setIfInBounds_toArray]
          congr 1
          rw [List.append_assoc, List.set_append_right _ _ (by omega), Nat.add_sub_cancel_left, List.append_assoc, List.set_append_right _ _ (by omega)]
          simp [hk]
        simp only [] at e ⊢
        rw [e, ih (k + 1) (done ++ [c]) mid (by simp [hk]) (by simpa using h)]
        simp
  have := key cs 0 [] mid rfl hm
  simp only [List.nil_append] at this
  rw [← this]
  simp

theorem run_fill {a : Act} {ds' : List Deferred} {n' : Nat} {m : Nat} (hf : FrOk a n' F ds') : ∀ (ps : List (Nat × Operand)) (i : Nat) (es : List (List Value)) (pre mid : List Value), Parts F m i ps es → pre.length = i * m → mid.length = ps.length * m →
    Instr.fill (fun i => some (i * m, m)) (pre ++ mid).toArray (ps.map fun x => (x.1, a.eval x.2)) = some (pre ++ es.flatten).toArray
  | [], i, es, pre, mid, h, hp, hm => by
    have : mid = [] := List.eq_nil_of_length_eq_zero (by simpa using hm)
    subst this
    have : es = [] := h
    subst this
    simp [Instr.fill]
  | (j, x) :: ps, i, es, pre, mid, ⟨v, e, es', he, hj, hx, hc, hl, h⟩, hp, hm => by
    subst he; subst hj
    have hsz : v.cells.size = m := by rw [← hl, ← hc]; simp
    simp only [List.length_cons, Nat.add_mul, Nat.one_mul] at hm
    simp only [List.map_cons, Instr.fill, hf.ev hx]
    have h1 : (decide (v.cells.size ≠ m) || decide (j * m + v.cells.size > (pre ++ mid).toArray.size)) = false := by
      simp [hsz]; omega
    rw [h1]
    simp only [Bool.false_eq_true, if_false]
    have e1 : pre ++ mid = pre ++ mid.take m ++ mid.drop m := by rw [List.append_assoc, List.take_append_drop]
    have e2 : v.cells = e.toArray := by rw [← hc]
    have := foldl_set e pre (mid.drop m) (mid.take m) (by simp [hl]; omega)
    rw [← hp, e1, e2, this]
    have := run_fill hf ps (j + 1) es' (pre ++ e) (mid.drop m) h (by simp [hp, hl, Nat.add_mul]) (by simp; omega)
    rw [this]
    simp

theorem runs_buildSlice {t e k bytes N : Nat} {ps : List (Nat × Operand)} {es : List (List Value)} (hB : elemB P t = some (e, k, bytes)) (hN : ps.length = N) (hlim : N * k ≤ 16777216) (h : Parts F k 0 ps es) (hes : es.length = N) :
    Runs P ⟨d, .buildSlice t N ps.toArray, ty, pos, aft, g⟩ n F ds L (fun v' L' => L' = sl e k v' es :: L) :=
  ⟨rfl, fun ac w hf hw => by
    obtain ⟨ht, hk, i, z, hi, hz, rfl, rfl, hzs, _⟩ := elemB_spec hB
    have hmid : ((Array.range (N * i.size)).map (fun j => (if N * i.size = 0 then (#[] : Array Value) else z.cells)[j % (if N * i.size = 0 then (#[] : Array Value) else z.cells).size]!)).toList.length = ps.length * i.size := by simp [hN]
    have hfill := run_fill hf ps 0 es [] _ h (by simp) hmid
    simp only [List.nil_append, Array.toArray_toList] at hfill
    have hlen : ∀ x ∈ es, x.length = i.size := by
      have key : ∀ (ps : List (Nat × Operand)) (j : Nat) (es : List (List Value)), Parts F i.size j ps es → ∀ x ∈ es, x.length = i.size := by
        intro ps
        induction ps with
        | nil => intro j es h x hx; have : es = [] := h; subst this; cases hx
        | cons p ps ih =>
          obtain ⟨j0, x0⟩ := p
          rintro j es ⟨v, e', es', rfl, _, _, _, hl, h⟩ x hx
          rcases List.mem_cons.1 hx with rfl | hx
          · exact hl
          · exact ih _ _ h x hx
      exact key ps 0 es h
    have hrun : (Instr.buildSlice t N (ps.toArray.map fun x => (x.1, ac.eval x.2))).run P w = .ok (.slice (some ⟨w.heap.size, 0, none⟩) N N) (w.alloc (.cells es.flatten.toArray e)) := by
      by_cases h0 : N * i.size = 0
      · simp only [h0, if_true] at hfill
        simp [Instr.buildSlice, run_underlying ht, sizeOf, typeInfo, hi, h0, newRow] at hfill ⊢
        rw [hfill]; simp
      · simp only [h0, if_false] at hfill
        have hl2 : ¬ (16777216 < N * i.size) := by omega
        simp [Instr.buildSlice, run_underlying ht, sizeOf, typeInfo, hi, h0, hl2, newRow, zeroValue, hz] at hfill ⊢
        rw [hfill]; simp
    simp only [execOp, Sem.run_bind, hrun, Result.andThen_ok, Sem.run_pure, Upon]
    refine ⟨_, rfl, ?_⟩
    have := sl_anew (A := emp) (E := e) (n := i.size) (cs' := es) (cap := N) (cur' := es.flatten.toArray) (w' := w.alloc (.cells es.flatten.toArray e)) hw.more (by have := Nat.le_mul_of_pos_right N hk; unfold maxLen; omega) hlen (heap_alloc_new w _) (fun k hk => heap_alloc_old w _ hk) (by omega) (by simp [flatten_length hlen, hes]) (List.take_of_length_le (by rw [flatten_length hlen]; exact Nat.le_refl _))
    rw [hes] at this
    exact this⟩

theorem IsSl.one {v : Value} {N : Nat} (h : IsSl v N) : v.oneCell' = true := by obtain ⟨_, _, rfl, _⟩ := h; rfl

end
end Go.Sep
