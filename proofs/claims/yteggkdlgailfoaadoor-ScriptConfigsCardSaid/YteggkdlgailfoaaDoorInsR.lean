/- Rules for what slices.Insert does: cap, a slice up to its capacity, an append of zero values, copy, overlaps. Conditions: none. -/
import Derived.Test.YteggkdlgailfoaaDoorSub
import Derived.Lib.AppendZerosOnto
import Derived.Lib.Overlaps
set_option linter.all false
set_option linter.deprecated false
namespace Go.Sep
variable [B0 : Base]

section
variable {P : Program} {n : Nat} {F : Fr} {ds : List Deferred} {L R : List HP} {d : Option Tmp} {ty : TypeId} {pos : String} {aft : Array Edge} {g : Option (Nat × Bool)}
theorem runs_cap {t e : TypeId} {k N : Nat} {x : Operand} {v : Value} (h : elemOfSl P t = some (e, k)) (hx : ev F x = some v) (hv : IsSl v N) :
    Runs P ⟨d, .call { callee := .builtin .cap, args := #[x], argTypes := #[t] }, ty, pos, aft, g⟩ n F ds L (is (.int .i64 (vcap v : Nat)) L) :=
  runs_pure rfl fun ac w hf => by
    obtain ⟨ao, cap, rfl, _⟩ := hv
    simp [execOp, resolve, invoke, builtin, hf.ev hx, Builtin.cap_, run_underlying (elemOfSl_spec h).1, goInt, vcap]
theorem runs_sl_hc {t e : TypeId} {k N h : Nat} {x y : Operand} {v : Value} {kk : IntKind} (hE : elemOfSl P t = some (e, k)) (hx : ev F x = some v) (hy : ev F y = some (.int kk (h : Int))) (hv : IsSl v N) (hh : h ≤ vcap v) :
    Runs P ⟨d, .slice t x none (some y) none, ty, pos, aft, g⟩ n F ds L (is (vsl v 0 h (vcap v) k) L) :=
  ⟨rfl, fun ac w hf hw => by
    obtain ⟨ht, i, hi, rfl⟩ := elemOfSl_spec hE
    obtain ⟨ao, cap, rfl, h1, h2, h3, h4⟩ := hv
    simp only [vcap] at hh
    have hc : (h : Int) ≤ cap := by omega
    simp [execOp, hf.ev hx, hf.ev hy, Instr.sliceAt, Instr.slice, run_underlying ht, Instr.sliceBounds, run_sliceBound, hc, sizeOf, typeInfo, hi, Upon, vsl, vcap]
    exact ⟨_, ⟨rfl, rfl⟩, hw⟩⟩
theorem take_chunks (l : List Value) (k : Nat) : ∀ (m o : Nat), o + m * k ≤ l.length → ∃ js : List (List Value), js.length = m ∧ (∀ e ∈ js, e.length = k) ∧ js.flatten = (l.drop o).take (m * k) := by
  intro m
  induction m with
  | zero => intro o _; exact ⟨[], rfl, (fun _ h => by cases h), by simp⟩
  | succ m ih =>
    intro o h
    rw [Nat.add_mul] at h
    obtain ⟨js, h1, h2, h3⟩ := ih (o + k) (by omega)
    refine ⟨(l.drop o).take k :: js, by simp [h1], fun e he => ?_, ?_⟩
    · rcases List.mem_cons.1 he with rfl | he
      · rw [List.length_take, List.length_drop]; omega
      · exact h2 e he
    · rw [List.flatten_cons, h3, ← List.drop_drop, Nat.add_mul, Nat.one_mul, Nat.add_comm (m * k) k, List.take_add]
/-- A slice, seen up to a greater length. -/
theorem sl_view {E k m : Nat} {v : Value} {cs : List (List Value)} {w : World} (h : Sat w (sl E k v cs :: R)) (hm : cs.length + m ≤ vcap v) : ∃ js : List (List Value), js.length = m ∧ Sat w (sl E k (vsl v 0 (cs.length + m) (vcap v) k) (cs ++ js) :: R) := by
  obtain ⟨hl, ⟨rfl, rfl⟩ | ⟨b, cap, cur, rfl, hb, g1, g2, g3, g4⟩⟩ := sl_split h
  · simp only [vcap, List.length_nil] at hm
    obtain rfl : m = 0 := by omega
    exact ⟨[], rfl, by simpa [vsl, vcap] using h⟩
  · simp only [vcap] at hm
    have hcl : cur.toList.length = cap * k := by simpa using g3
    have hlen : cs.length * k + m * k ≤ cur.toList.length := by rw [hcl, ← Nat.add_mul]; exact Nat.mul_le_mul_right _ hm
    obtain ⟨js, h1, h2, h3⟩ := take_chunks cur.toList k m (cs.length * k) hlen
    refine ⟨js, h1, ?_⟩
    have e0 : vsl (.slice (some ⟨b, 0, none⟩) cs.length cap) 0 (cs.length + m) (vcap (.slice (some ⟨b, 0, none⟩) cs.length cap)) k = .slice (some ⟨b, 0, none⟩) (cs ++ js).length cap := by
      simp [vsl, vcap, Addr.add, h1]
    rw [e0]
    refine sl_inplace (w' := w) h (flat_append hl h2) hb (fun _ _ _ => rfl) (by rw [List.length_append, h1]; exact hm) g3 ?_
    rw [List.length_append, h1, Nat.add_mul, List.take_add, g4, List.flatten_append, h3]
/-- What an address of a slice's element is. -/
theorem vsl_at {b cap l N k : Nat} (hl : l < cap) : vsl (.slice (some ⟨b, 0, none⟩) N cap) l N cap k = .slice (some ⟨b, l * k, none⟩) (N - l) (cap - l) := by
  simp only [vsl, Option.map_some, Addr.add_off, Nat.zero_add]
  rw [if_neg (by omega)]
theorem runs_copy {t s e k bytes l N : Nat} {x y : Operand} {u x' : Value} {us es : List (List Value)} (hB : elemB P t = some (e, k, bytes)) (hx : ev F x = some (vsl u l N (vcap u) k)) (hy : ev F y = some x') (hN : us.length = N) (hl : l ≤ N)
    (hsrc : Src (sl e k u us :: R) x' k es) (h1 : (es.take (min es.length (N - l))).all (fun l => l.all Value.oneCell') = true) :
    Runs P ⟨d, .call { callee := .builtin .copy, args := #[x, y], argTypes := #[t, s] }, ty, pos, aft, g⟩ n F ds (sl e k u us :: R) (is (.int .i64 ((min es.length (N - l) : Nat) : Int)) (sl e k u (us.take l ++ es.take (min es.length (N - l)) ++ us.drop (l + min es.length (N - l))) :: R)) :=
  ⟨rfl, fun ac w hf hw => by
    obtain ⟨ht, hk0, inf, z, hi, hz, rfl, rfl, hzs, hz1⟩ := elemB_spec hB
    obtain ⟨hul, hu⟩ := sl_split hw
    have hle := hsrc.each w hw
    obtain ⟨ao, c, rfl, hxs⟩ := hsrc.out w hw
    simp only [execOp, resolve, invoke, builtin, Sem.run_bind, Sem.run_pure, Result.andThen_ok, List.map_toArray, List.map_cons, List.map_nil, hf.ev hx, hf.ev hy]
    generalize hm : min es.length (N - l) = m at *
    have hmin : Nat.min es.length (N - l) = m := hm
    by_cases hm0 : m = 0
    · subst hm0
      have hnone : ∀ (a : Option Addr) (q : Nat), (Builtin.copy_ #[t, s] ty #[.slice a (N - l) q, .slice ao es.length c]).run P w = .ok (.int .i64 ((0 : Nat) : Int)) w := by
        intro a q
        have hl0 : ∀ (x : Addr), (loadCells x 0).run P w = .ok #[] w := fun x => by simpa using run_loadCells_list (P := P) w x [] (by simp)
        cases a <;> cases ao <;> simp [Builtin.copy_, run_underlying ht, Builtin.lenOf, Builtin.firstCells, sizeOf, typeInfo, hi, hmin, storeCells, hl0, goInt]
      have hvs : ∃ a q, vsl u l N (vcap u) inf.size = .slice a (N - l) q := by
        rcases hu with ⟨rfl, _⟩ | ⟨b, cap, cur, rfl, _⟩ <;> exact ⟨_, _, rfl⟩
      obtain ⟨a, q, hv⟩ := hvs
      rw [hv, hnone]
      simp only [Result.andThen_ok, Upon]
      refine ⟨_, ⟨rfl, rfl⟩, ?_⟩
      simpa using hw
    · obtain ⟨rfl, rfl⟩ | ⟨b, cap, cur, rfl, hb, g1, g2, g3, g4⟩ := hu
      · simp at hN; omega
      · have hlc : l < cap := by omega
        have hes : es ≠ [] := fun h => by subst h; simp at hm; omega
        obtain ⟨b2, o2, rfl, hcell⟩ := hxs.resolve_left hes
        rw [show vcap (.slice (some ⟨b, 0, none⟩) us.length cap) = cap from rfl, hN, vsl_at hlc]
        have hnews : ∀ e ∈ es.take m, e.length = inf.size := fun e he => hle e (List.mem_of_mem_take he)
        have hml : (es.take m).length = m := by rw [List.length_take]; omega
        have hfl : (es.take m).flatten.length = m * inf.size := by rw [flatten_length hnews, hml]
        have hld : ∀ j v, (es.take m).flatten[j]? = some v → w.cell? ((⟨b2, o2, none⟩ : Addr).add j) = some v := fun j v hj => by
          rw [Addr.add_lit]
          refine hcell j v ?_
          rw [take_flatten hle, List.getElem?_take] at hj
          split at hj
          · exact hj
          · cases hj
        have hload := run_loadCells_list (P := P) w ⟨b2, o2, none⟩ (es.take m).flatten hld
        rw [hfl] at hload
        have hone : ∀ v ∈ (es.take m).flatten, v.oneCell' = true := fun v hv => by
          obtain ⟨l', hl', hv'⟩ := List.mem_flatten.1 hv
          exact List.all_eq_true.1 (List.all_eq_true.1 h1 l' hl') v hv'
        have hcl : cur.toList.length = cap * inf.size := by simpa using g3
        have hfit : l * inf.size + (es.take m).flatten.length ≤ cur.size := by
          rw [hfl, g3, ← Nat.add_mul]; exact Nat.mul_le_mul_right _ (by omega)
        have hst := run_storeCells_at P b (l * inf.size) e (es.take m).flatten 0 cur w hb (by simpa using hfit) hone
        simp only [Nat.add_zero] at hst
        have hr : (Builtin.copy_ #[t, s] ty #[.slice (some ⟨b, l * inf.size, none⟩) (N - l) (cap - l), .slice (some ⟨b2, o2, none⟩) es.length c]).run P w = .ok (.int .i64 (m : Int)) (w.setRow b (cur.toList.take (l * inf.size) ++ (es.take m).flatten ++ cur.toList.drop (l * inf.size + (es.take m).flatten.length)).toArray) := by
          simp [Builtin.copy_, run_underlying ht, Builtin.lenOf, Builtin.firstCells, sizeOf, typeInfo, hi, hmin, hload, hst, goInt]
        rw [hr]
        simp only [Result.andThen_ok, Upon]
        refine ⟨_, ⟨rfl, rfl⟩, ?_⟩
        have hul1 : ∀ e ∈ us.take l, e.length = inf.size := fun e he => hul e (List.mem_of_mem_take he)
        have hul2 : ∀ e ∈ us.drop (l + m), e.length = inf.size := fun e he => hul e (List.mem_of_mem_drop he)
        have hlen : (us.take l ++ es.take m ++ us.drop (l + m)).length = us.length := by simp; omega
        have := sl_inplace (cs' := us.take l ++ es.take m ++ us.drop (l + m)) (w' := w.setRow b (cur.toList.take (l * inf.size) ++ (es.take m).flatten ++ cur.toList.drop (l * inf.size + (es.take m).flatten.length)).toArray) hw
          (flat_append (flat_append hul1 hnews) hul2) (setRow_heap w b cur _ e _ hb) (fun q hq _ => setRow_other w b q _ hq) (by rw [hlen]; exact g1) ?_ ?_
        · rw [hlen, hN] at this; exact this
        · simp only [List.size_toArray, List.length_append, List.length_take, List.length_drop, Array.length_toList] at hfit ⊢
          omega
        · have hti : l * inf.size ≤ us.length * inf.size := Nat.mul_le_mul_right _ (by omega)
          have e1 : cur.toList.take (l * inf.size) = (us.take l).flatten := by
            rw [take_flatten hul, ← g4, List.take_take, Nat.min_eq_left hti]
          rw [hlen, List.flatten_append, List.flatten_append, e1]
          have e2 : (us.drop (l + m)).flatten = (cur.toList.drop ((l + m) * inf.size)).take ((us.length - (l + m)) * inf.size) := by
            rw [drop_flatten hul, ← g4, List.drop_take, Nat.mul_sub_right_distrib]
          have e3 : ((us.take l).flatten ++ (es.take m).flatten).length = (l + m) * inf.size := by
            rw [List.length_append, hfl, flatten_length hul1, List.length_take, Nat.min_eq_left (by omega), Nat.add_mul]
          have e4 : us.length * inf.size = (l + m) * inf.size + (us.length - (l + m)) * inf.size := by
            rw [← Nat.add_mul]; congr 1; omega
          have e5 : l * inf.size + (es.take m).flatten.length = (l + m) * inf.size := by rw [hfl, Nat.add_mul]
          rw [e2, e4, e5, ← e3]
          simp only [List.toList_toArray]
          exact List.take_length_add_append _⟩
theorem zeros_flatten {z : Array Value} {k : Nat} (hz : z.size = k) : ∀ m, (List.replicate m z.toList).flatten.length = m * k := by
  intro m
  rw [flatten_length (n := k)]
  · simp
  · intro e he; rw [List.eq_of_mem_replicate he]; simpa using hz
theorem zeroCells_eq {z : Array Value} (hz0 : 0 < z.size) (m : Nat) : (Builtin.zeroCells z m).toList = (List.replicate m z.toList).flatten := by
  apply List.ext_getElem?
  intro j
  have hall : ∀ e ∈ List.replicate m z.toList, e.length = z.size := fun e he => by rw [List.eq_of_mem_replicate he]; simp
  by_cases hj : j < m * z.size
  · have h1 : j % z.size < z.size := Nat.mod_lt _ hz0
    have h2 : j / z.size < m := (Nat.div_lt_iff_lt_mul hz0).2 hj
    have h3 : (List.replicate m z.toList)[j / z.size]? = some z.toList := by rw [List.getElem?_replicate, if_pos h2]
    have h4 : z.toList[j % z.size]? = some z[j % z.size] := by simp [h1]
    have h5 := flatten_get hall h3 h4
    rw [show j / z.size * z.size + j % z.size = j by rw [Nat.mul_comm]; exact Nat.div_add_mod j z.size] at h5
    rw [h5]
    simp only [Builtin.zeroCells, Array.toList_map, Array.toList_range, List.getElem?_map]
    rw [List.getElem?_range hj, Option.map_some, getElem!_pos z _ h1]
  · have hl1 : (Builtin.zeroCells z m).toList.length ≤ j := by simp [size_zeroCells]; omega
    rw [List.getElem?_eq_none hl1, List.getElem?_eq_none]
    rw [zeros_flatten rfl]; omega
/-- The cells of a zero value. -/
def zeroL (P : Program) (e : TypeId) : List Value := match P.info? e with
  | some i => (match i.zero with | some z => z.cells.toList | none => [])
  | none => []
theorem runs_appendMake {t s e k bytes i N m : Nat} {kk ks : IntKind} {x y : Operand} {v : Value} {cs : List (List Value)} (hB : elemB P t = some (e, k, bytes)) (hs : P.underlying s = some (.int ks)) (hx : ev F x = some (vsl v 0 i (vcap v) k)) (hy : ev F y = some (.int kk (m : Int))) (hN : cs.length = N) (hi0 : i < N) (hg : vcap v < i + m)
    (hb : (i + m) * bytes ≤ 140737488355328) (h63 : i + m ≤ 9223372036854775807) :
    Runs P ⟨d, .call { callee := .builtin .append, args := #[x, y], argTypes := #[t, s] }, ty, pos, aft, g⟩ n F ds (sl e k v cs :: R) (fun u L' => L' = sl e k u (cs.take i ++ List.replicate m (zeroL P e)) :: sl e k v cs :: R) :=
  ⟨rfl, fun ac w hf hw => by
    obtain ⟨ht, hk0, inf, z, hi, hz, rfl, rfl, hzs, hz1⟩ := elemB_spec hB
    obtain ⟨hl, ⟨rfl, rfl⟩ | ⟨b, cap, cur, rfl, hbk, g1, g2, g3, g4⟩⟩ := sl_split hw
    · simp at hN; omega
    simp only [execOp, resolve, invoke, builtin, Sem.run_bind, Sem.run_pure, Result.andThen_ok, List.map_toArray, List.map_cons, List.map_nil, hf.ev hx, hf.ev hy]
    simp only [vcap] at hg ⊢
    have hv : vsl (.slice (some ⟨b, 0, none⟩) cs.length cap) 0 i cap inf.size = .slice (some ⟨b, 0, none⟩) i cap := by
      simp only [vsl, Nat.sub_zero, Option.map_some, Nat.zero_mul]
      split <;> simp [Addr.add]
    rw [hv]
    have hlt : ∀ e ∈ cs.take i, e.length = inf.size := fun e he => hl e (List.mem_of_mem_take he)
    have hfl : (cs.take i).flatten.length = i * inf.size := by rw [flatten_length hlt, List.length_take, Nat.min_eq_left (by omega)]
    have hold : (Builtin.firstCells inf.size i (.slice (some ⟨b, 0, none⟩) i cap)).run P w.drew = .ok (cs.take i).flatten.toArray w.drew := by
      refine run_firstCells_some (P := P) w.drew inf.size i ⟨b, 0, none⟩ i cap _ hfl fun j v hj => ?_
      rw [Addr.add_lit, Nat.zero_add]
      show w.cell? ⟨b, j, none⟩ = some v
      refine cell_of_blk hbk j ?_
      rw [take_flatten hl, ← g4, List.take_take, List.getElem?_take] at hj
      split at hj
      · simpa using hj
      · cases hj
    have hm0 : 0 < m := by omega
    have hbm : m * inf.bytes ≤ 281474976710656 := by
      have : m * inf.bytes ≤ (i + m) * inf.bytes := Nat.mul_le_mul_right _ (by omega)
      omega
    have hr := Lib.run_append_grow_zeros (P := P) w t s ty e inf z kk ks ht hs hi hz (some ⟨b, 0, none⟩) i cap (cs.take i).flatten hold m hm0 (by omega) hg (by omega) hbm (growslice_fits hg hb)
    rw [hr]
    simp only [Result.andThen_ok, Upon]
    refine ⟨_, rfl, ?_⟩
    have hge := grownCap_ge w (i + m) cap e
    have hcm := grownCap_le_maxLen w (i + m) cap e (by unfold maxLen; omega)
    have hze : zeroL P e = z.cells.toList := by unfold zeroL; rw [hi]; simp only [hz]
    have hz0 : 0 < z.cells.size := by omega
    have hrep : ∀ x ∈ List.replicate m (zeroL P e), x.length = inf.size := fun x hx => by rw [List.eq_of_mem_replicate hx, hze]; simpa using hzs
    have hlen : (cs.take i ++ List.replicate m (zeroL P e)).length = i + m := by simp; omega
    have := sl_anew (cs' := cs.take i ++ List.replicate m (zeroL P e)) (cap := grownCap w (i + m) cap e) (w' := w.drew.alloc (.cells ((cs.take i).flatten.toArray ++ Builtin.zeroCells z.cells m ++ Builtin.zeroCells z.cells (grownCap w (i + m) cap e - (i + m))) e)) hw.more hcm
      (flat_append hlt hrep) (heap_alloc_new w.drew _) (fun k hk => heap_alloc_old w.drew _ hk) (by rw [hlen]; exact hge) ?_ ?_
    · rw [hlen] at this; exact this
    · simp only [Array.size_append, List.size_toArray, size_zeroCells, hzs, hfl, ← Nat.add_mul]
      congr 1; omega
    · simp only [Array.toList_append, List.append_assoc]
      rw [hlen, zeroCells_eq hz0, List.flatten_append, hze, ← List.append_assoc]
      have e1 : ((cs.take i).flatten ++ (List.replicate m z.cells.toList).flatten).length = (i + m) * inf.size := by
        rw [List.length_append, hfl, zeros_flatten hzs, Nat.add_mul]
      rw [← e1]
      exact List.take_left⟩
/-- The model's entry for slices.overlaps. -/
class OvFn (P : Program) (f : FuncId) (t : outParam TypeId) : Prop where
  out : ∃ fn r, P.funcs[f]? = some fn ∧ (fn.name == "runtime.NumGoroutine") = false ∧ fn.body.isNone = true ∧ Extern.findNext fn = none ∧ Extern.find fn = some (Extern.SlicesOverlaps.overlaps #[t, t] #[r])
theorem sl_blk {E k : Nat} {v : Value} {cs : List (List Value)} {w : World} (h : Sat w (sl E k v cs :: R)) (hne : cs ≠ []) : ∃ b cap cur, v = .slice (some ⟨b, 0, none⟩) cs.length cap ∧ Sat w (blk b (.cells cur E (0, 0)) :: R) ∧ cur.size = cap * k ∧ cs.length ≤ cap := by
  obtain ⟨ho, S, S1, S2, h1, h2, h3, h4⟩ := h
  unfold sl at h1
  obtain ⟨hl, ⟨_, hc, _⟩ | ⟨b, cap, cur, hv, hb, g1, g2, g3, g4, hS⟩⟩ := h1
  · exact absurd hc hne
  · exact ⟨b, cap, cur, hv, ⟨ho, S, S1, S2, ⟨hb, hS⟩, h2, h3, h4⟩, g3, g1⟩
theorem runs_overlaps {f : FuncId} {t e k bytes l N : Nat} {ts : Array TypeId} {x y : Operand} {v u : Value} {es us : List (List Value)} {R1 R2 : List HP} [hO : OvFn P f t] (hB : elemB P t = some (e, k, bytes)) (hx : ev F x = some v) (hy : ev F y = some (vsl u l N (vcap u) k)) (hr1 : Del (sl e k v es) L R1) (hr2 : Del (sl e k u us) R1 R2) (h1 : es ≠ []) (h2 : us ≠ []) :
    Runs P ⟨d, .call { callee := .value (.func f), args := #[x, y], argTypes := ts }, ty, pos, aft, g⟩ n F ds L (is (.bool false) L) :=
  runs_callV (fv := .func (.func f) #[] #[]) (xs := [x, y]) (vs := [v, vsl u l N (vcap u) k]) rfl (by simp only [evs, hx, hy]) ⟨fun w hw => by
    obtain ⟨ht, hk0, inf, z, hi, hz, rfl, rfl, hzs, hz1⟩ := elemB_spec hB
    have hw1 : Sat w (sl e inf.size v es :: sl e inf.size u us :: R2) := (hw.perm hr1.perm).perm (hr2.perm.cons _)
    obtain ⟨b, cap, cur, rfl, hw2, g1, g2⟩ := sl_blk hw1 h1
    have hw3 : Sat w (sl e inf.size u us :: blk b (.cells cur e (0, 0)) :: R2) := hw2.perm (.swap ..)
    obtain ⟨b', cap', cur', rfl, hw4, g3, g4⟩ := sl_blk hw3 h2
    have hne : b ≠ b' := (hw4.perm (.swap ..)).blk_ne
    have hb' := hw4.blk_heap
    have hb := (hw4.perm (.swap ..)).blk_heap
    obtain ⟨fn, r, hf1, hf2, hf3, hf4, hf5⟩ := hO.out
    have hus : 0 < us.length := List.length_pos_iff.2 h2
    have hes : 0 < es.length := List.length_pos_iff.2 h1
    have hcs' : cur'.size ≠ 0 := by rw [g3]; exact Nat.mul_ne_zero (by omega) (by omega)
    have hov : ∀ (a : Addr), a.block = b' → (callFunc f #[.slice (some ⟨b, 0, none⟩) es.length cap, .slice (some a) (N - l) (cap' - l)]).run P w = .ok (.value (.bool false)) w := fun a ha => by
      rw [run_callFunc_extern hf1 hf2 hf3 hf4 hf5, Lib.run_overlaps_apart w t r e ht inf.size (fun w => by simp [sizeOf, typeInfo, hi]) ⟨b, 0, none⟩ a es.length cap (N - l) (cap' - l) (by rw [ha]; exact hne) e e cur.size cur'.size (by simp [World.shape?, hb]) (by rw [ha]; simp [World.shape?, hb']) hcs' (by simp [World.frozen?, hb]) (by simp [World.frozen?, hb])]
      rfl
    have hy' : ∃ a : Addr, a.block = b' ∧ vsl (.slice (some ⟨b', 0, none⟩) us.length cap') l N (vcap (.slice (some ⟨b', 0, none⟩) us.length cap')) inf.size = .slice (some a) (N - l) (cap' - l) := by
      by_cases hc : cap' = l
      · exact ⟨⟨b', 0, none⟩, rfl, by show Value.slice (if cap' = l then _ else _) _ _ = _; rw [if_pos hc]; rfl⟩
      · exact ⟨⟨b', l * inf.size, none⟩, rfl, by show Value.slice (if cap' = l then _ else _) _ _ = _; rw [if_neg hc, Option.map_some, Addr.add_off, Nat.zero_add]; rfl⟩
    obtain ⟨a, ha, hy'⟩ := hy'
    rw [hy']
    simp only [Deferred.ofValue, Sem.run_bind, Sem.run_pure, Result.andThen_ok, invoke]
    have e0 : (#[] ++ [Value.slice (some ⟨b, 0, none⟩) es.length cap, .slice (some a) (N - l) (cap' - l)].toArray ++ #[] : Array Value) = #[.slice (some ⟨b, 0, none⟩) es.length cap, .slice (some a) (N - l) (cap' - l)] := by simp
    rw [e0, hov a ha]
    exact ⟨_, ⟨rfl, rfl⟩, hw⟩⟩
end

section
variable {P : Program} {ro : Option Nat} {m : Option Mode} {ops : Array Oper} {Q : Exit → Act → World → Prop} {n : Nat} {rest : List Oper} {F : Fr} {ds : List Deferred} {L R : List HP} {d : Nat} {ty : TypeId} {pos : String} {aft : Array Edge}
theorem w_cap {t e : TypeId} {k N : Nat} {x : Operand} {v : Value} [h : ElemSl P t e k] (hd : Nat.blt d n = true) (hx : ev F x = some v) (hv : IsSl v N) (hk : W P ro m ops Q n rest ((d, .int .i64 (vcap v : Nat)) :: F) ds L) : W P ro m ops Q n (⟨some d, .call { callee := .builtin .cap, args := #[x], argTypes := #[t] }, ty, pos, aft, none⟩ :: rest) F ds L := Wp hd (fun _ => runs_cap h.out hx hv) hk
theorem w_slhc {t e : TypeId} {k N h : Nat} {x y : Operand} {v : Value} {kk : IntKind} [hE : ElemSl P t e k] (hd : Nat.blt d n = true) (hx : ev F x = some v) (hy : ev F y = some (.int kk (h : Int))) (hv : IsSl v N) (hh : h ≤ vcap v)
    (hk : W P ro m ops Q n rest ((d, vsl v 0 h (vcap v) k) :: F) ds L) : W P ro m ops Q n (⟨some d, .slice t x none (some y) none, ty, pos, aft, none⟩ :: rest) F ds L := Wp hd (fun _ => runs_sl_hc hE.out hx hy hv hh) hk
theorem w_copy {t s e k bytes l N : Nat} {x y : Operand} {u x' : Value} {us es : List (List Value)} [hB : ElemB P t e k bytes] (hd : Nat.blt d n = true) (hx : ev F x = some (vsl u l N (vcap u) k)) (hy : ev F y = some x') (hr : Del (sl e k u us) L R) (hN : us.length = N) (hl : l ≤ N)
    (hsrc : Src (sl e k u us :: R) x' k es) (h1 : (es.take (min es.length (N - l))).all (fun l => l.all Value.oneCell') = true)
    (hm : KeepsM P ops ⟨some d, .call { callee := .builtin .copy, args := #[x, y], argTypes := #[t, s] }, ty, pos, aft, none⟩ n ds (sl e k u (us.take l ++ es.take (min es.length (N - l)) ++ us.drop (l + min es.length (N - l))) :: R) m)
    (hk : W P ro m ops Q n rest ((d, .int .i64 ((min es.length (N - l) : Nat) : Int)) :: F) ds (sl e k u (us.take l ++ es.take (min es.length (N - l)) ++ us.drop (l + min es.length (N - l))) :: R)) :
    W P ro m ops Q n (⟨some d, .call { callee := .builtin .copy, args := #[x, y], argTypes := #[t, s] }, ty, pos, aft, none⟩ :: rest) F ds L :=
  Wd hd ((runs_copy hB.out hx hy hN hl hsrc h1).pre fun w hs => hs.perm hr.perm) hm hk
theorem w_apZ {t s e k bytes i N q : Nat} {kk ks : IntKind} {x y : Operand} {v : Value} {cs : List (List Value)} [hB : ElemB P t e k bytes] [hT : IntT P s ks] (hd : Nat.blt d n = true) (hx : ev F x = some (vsl v 0 i (vcap v) k)) (hy : ev F y = some (.int kk (q : Int))) (hr : Del (sl e k v cs) L R) (hN : cs.length = N) (hi0 : i < N) (hg : vcap v < i + q)
    (hb : (i + q) * bytes ≤ 140737488355328) (h63 : i + q ≤ 9223372036854775807)
    (hk : ∀ u, IsSl u (i + q) → KeepsM P ops ⟨some d, .call { callee := .builtin .append, args := #[x, y], argTypes := #[t, s] }, ty, pos, aft, none⟩ n ds (sl e k u (cs.take i ++ List.replicate q (zeroL P e)) :: sl e k v cs :: R) m ∧ W P ro m ops Q n rest ((d, u) :: F) ds (sl e k u (cs.take i ++ List.replicate q (zeroL P e)) :: sl e k v cs :: R)) :
    W P ro m ops Q n (⟨some d, .call { callee := .builtin .append, args := #[x, y], argTypes := #[t, s] }, ty, pos, aft, none⟩ :: rest) F ds L := by
  have hlen : (cs.take i ++ List.replicate q (zeroL P e)).length = i + q := by simp; omega
  have h1 : Runs P ⟨some d, .call { callee := .builtin .append, args := #[x, y], argTypes := #[t, s] }, ty, pos, aft, none⟩ n F ds L (fun u L' => L' = sl e k u (cs.take i ++ List.replicate q (zeroL P e)) :: sl e k v cs :: R) := (runs_appendMake hB.out hT.out hx hy hN hi0 hg hb h63).pre fun w hs => hs.perm hr.perm
  have h2 := h1.isl (E := e) (k := k) (cs := cs.take i ++ List.replicate q (zeroL P e)) (f := fun u => sl e k u (cs.take i ++ List.replicate q (zeroL P e)) :: sl e k v cs :: R) (fun v' w hs => .inr ⟨_, hs⟩)
  obtain ⟨u0, hu0⟩ := IsSl.any (N := (cs.take i ++ List.replicate q (zeroL P e)).length) (by rw [hlen]; omega)
  exact Wx hd h2 ⟨u0, _, hu0, rfl⟩ fun u L' ⟨hu, e1⟩ => by subst e1; exact hk u (by rw [hlen] at hu; exact hu)
theorem w_ov {f : FuncId} {t e k bytes l N : Nat} {ts : Array TypeId} {x y : Operand} {v u : Value} {es us : List (List Value)} {R1 R2 : List HP} [hO : OvFn P f t] [hB : ElemB P t e k bytes] (hd : Nat.blt d n = true) (hx : ev F x = some v) (hy : ev F y = some (vsl u l N (vcap u) k)) (hr1 : Del (sl e k v es) L R1) (hr2 : Del (sl e k u us) R1 R2) (h1 : es ≠ []) (h2 : us ≠ [])
    (hk : W P ro (held ⟨some d, .call { callee := .value (.func f), args := #[x, y], argTypes := ts }, ty, pos, aft, none⟩ (.bool false) F m) ops Q n rest ((d, .bool false) :: F) ds L) : W P ro m ops Q n (⟨some d, .call { callee := .value (.func f), args := #[x, y], argTypes := ts }, ty, pos, aft, none⟩ :: rest) F ds L := Wr hd (runs_overlaps hB.out hx hy hr1 hr2 h1 h2) hk
theorem w_cvD {x : Operand} {xs : List Operand} {ts : Array TypeId} {fv : Value} {vs : List Value} {v : Value} (hd : Nat.blt d n = true) (hf : ev F x = some fv) (hx : evs F xs = some vs) (h : Does P fv vs L (is v L))
    (hk : W P ro (held ⟨some d, .call { callee := .value x, args := xs.toArray, argTypes := ts }, ty, pos, aft, none⟩ v F m) ops Q n rest ((d, v) :: F) ds L) : W P ro m ops Q n (⟨some d, .call { callee := .value x, args := xs.toArray, argTypes := ts }, ty, pos, aft, none⟩ :: rest) F ds L := Wr hd (runs_callV hf hx h) hk
end
end Go.Sep
