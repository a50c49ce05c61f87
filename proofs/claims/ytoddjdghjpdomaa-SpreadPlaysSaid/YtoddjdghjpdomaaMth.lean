/- Rules: make, interface values, methods called through them; a range over a function whose iterator reads what the round turns. Conditions: none. -/
import Derived.Test.YtoddjdghjpdomaaInsR
set_option linter.all false
set_option linter.deprecated false
namespace Go.Sep
variable [B0 : Base]
section
variable {P : Program} {n : Nat} {F : Fr} {ds : List Deferred} {L R : List HP} {d : Option Tmp} {ty : TypeId} {pos : String} {aft : Array Edge} {g : Option (Nat × Bool)}
theorem runs_makeSlice {t e k bytes N : Nat} {k1 k2 : IntKind} {x y : Operand} (hB : elemB P t = some (e, k, bytes)) (hx : ev F x = some (.int k1 (N : Int))) (hy : ev F y = some (.int k2 (N : Int))) (hb : N * bytes ≤ 281474976710656) (hN : N ≤ 140737488355327) (h0 : 0 < N) :
    Runs P ⟨d, .makeSlice t x y, ty, pos, aft, g⟩ n F ds R (fun u L' => L' = sl e k u (List.replicate N (zeroL P e)) :: R) :=
  ⟨rfl, fun ac w hf hw => by
    obtain ⟨ht, hk0, inf, z, hi, hz, rfl, rfl, hzs, hz1⟩ := elemB_spec hB
    have hw1 : IntKind.i64.wrap (N : Int) = N := by rw [IntKind.wrap_i64]; omega
    have hze : zeroL P e = z.cells.toList := by unfold zeroL; rw [hi]; simp only [hz]
    have hz0 : 0 < z.cells.size := by omega
    have hbi : ¬ (281474976710656 < (inf.bytes : Int) * (N : Int)) := by rw [← Int.natCast_mul, Nat.mul_comm]; omega
    have hneg : ¬ ((N : Int) < 0) := by omega
    have hns : ¬ (N * inf.size = 0) := Nat.mul_ne_zero (by omega) (by omega)
    have hr : (execOp ac.eval ⟨d, .makeSlice t x y, ty, pos, aft, g⟩).run P w = .ok (.value (.slice (some ⟨w.heap.size, 0, none⟩) N N)) (w.alloc (.cells (Builtin.zeroCells z.cells N) e)) := by
      simp [execOp, hf.ev hx, hf.ev hy, Instr.makeSlice, run_underlying ht, asInt, asIntOf, typeInfo, hi, hw1, hbi, hneg, askRoom, sizeOf, hns, zeroValue, hz, newRow, Builtin.zeroCells, hzs]
    rw [hr]
    refine ⟨_, rfl, ?_⟩
    rw [hze]
    have := sl_anew (cs' := List.replicate N z.cells.toList) (cap := N) (w' := w.alloc (.cells (Builtin.zeroCells z.cells N) e)) (E := e) (n := inf.size) hw.more (by unfold maxLen; omega)
      (fun x hx => by rw [List.eq_of_mem_replicate hx]; simpa using hzs) (heap_alloc_new w _) (fun k hk => heap_alloc_old w _ hk) (by simp) (by rw [size_zeroCells, hzs]) ?_
    · simpa using this
    · rw [zeroCells_eq hz0]
      rw [List.length_replicate, ← zeros_flatten hzs N]
      exact List.take_length⟩
theorem runs_mkI {t : TypeId} {x : Operand} {v : Value} (ht : (match P.underlying t with | some (.interface _) => false | some _ => true | none => false) = true) (hx : ev F x = some v) :
    Runs P ⟨d, .makeInterface t x, ty, pos, aft, g⟩ n F ds L (is (.iface t v) L) :=
  runs_pure rfl fun ac w hf => by
    cases hu : P.underlying t with
    | none => rw [hu] at ht; cases ht
    | some u =>
      rw [hu] at ht
      cases u <;> first | (cases ht; done) | simp [execOp, hf.ev hx, Instr.makeInterface, run_underlying hu]
/-- A type that is no interface. -/
class NoIface (P : Program) (t : TypeId) : Prop where
  out : (match P.underlying t with | some (.interface _) => false | some _ => true | none => false) = true
def methOf (P : Program) (t : TypeId) (name : String) : Option FuncId := match P.info? t with
  | some i => (match i.methods.find? (·.name == name) with
    | some m => if m.path.isEmpty then (match m.func with | some (f, false) => (match P.underlying t with | some (.struct _) => if canEnter P f then some f else none | _ => none) | _ => none) else none
    | none => none)
  | none => none
/-- A struct's own method, of a receiver that is a value. -/
class MethT (P : Program) (t : TypeId) (name : String) (f : outParam FuncId) : Prop where
  out : methOf P t name = some f
theorem methOf_run {t : TypeId} {name : String} {f : FuncId} (h : methOf P t name = some f) (v : Value) (m : Nat) (w : World) : (Go.method (m + 1) t v name).run P w = Result.ok (f, v) w ∧ canEnter P f = true := by
  unfold methOf at h
  split at h
  · rename_i i hi
    split at h
    · rename_i mm hm
      split at h
      · rename_i hp
        split at h
        · rename_i f' hf
          split at h
          · rename_i fs hu
            split at h
            · rename_i hc
              cases h
              have hpe : mm.path = #[] := by simpa [Array.isEmpty] using hp
              refine ⟨?_, hc⟩
              simp [Go.method, typeInfo, hi, hm, hpe, hf, follow, receiverAt, run_underlying hu, Place.get]
            · cases h
          · cases h
        · cases h
      · cases h
    · cases h
  · cases h
theorem Does.meth {t : TypeId} {name : String} {f : FuncId} [h : MethT P t name f] {v : Value} {args : List Value} {R : Value → List HP → Prop} (hc : Called P f (v :: args) L R) : Does P (.func (.method name) #[.iface t v] #[]) args L R := by
  refine ⟨fun w hs => ?_⟩
  have hd : 0 < Made.depth := by decide
  obtain ⟨m, hm⟩ : ∃ m, P.types.size + Made.depth = m + 1 := ⟨P.types.size + Made.depth - 1, by omega⟩
  obtain ⟨hr, he⟩ := methOf_run h.out v m w
  have h2 := hc.out w hs
  simp only [Deferred.ofValue, Sem.run_bind, Sem.run_pure, Result.andThen_ok, invoke]
  simp [callMethod, hm, hr, run_enter he, List.extract_eq_drop_take]
  exact h2
end
section
variable {P : Program} {ro : Option Nat} {m : Option Mode} {ops : Array Oper} {Q : Exit → Act → World → Prop} {n : Nat} {rest : List Oper} {F : Fr} {ds : List Deferred} {L R : List HP} {d : Nat} {ty : TypeId} {pos : String} {aft : Array Edge}
theorem w_mks {t e k bytes N : Nat} {k1 k2 : IntKind} {x y : Operand} [hB : ElemB P t e k bytes] (hd : Nat.blt d n = true) (hx : ev F x = some (.int k1 (N : Int))) (hy : ev F y = some (.int k2 (N : Int))) (hb : N * bytes ≤ 281474976710656) (hN : N ≤ 140737488355327) (h0 : 0 < N)
    (hk : ∀ u, IsSl u N → KeepsM P ops ⟨some d, .makeSlice t x y, ty, pos, aft, none⟩ n ds (sl e k u (List.replicate N (zeroL P e)) :: L) m ∧ W P ro m ops Q n rest ((d, u) :: F) ds (sl e k u (List.replicate N (zeroL P e)) :: L)) :
    W P ro m ops Q n (⟨some d, .makeSlice t x y, ty, pos, aft, none⟩ :: rest) F ds L := by
  have h2 := (runs_makeSlice (d := some d) (ty := ty) (pos := pos) (aft := aft) (g := none) (n := n) (ds := ds) (R := L) hB.out hx hy hb hN h0).isl (E := e) (k := k) (cs := List.replicate N (zeroL P e)) (f := fun u => sl e k u (List.replicate N (zeroL P e)) :: L) (fun v' w hs => .inr ⟨_, hs⟩)
  obtain ⟨u0, hu0⟩ := IsSl.any (N := (List.replicate N (zeroL P e)).length) (by rw [List.length_replicate]; omega)
  exact Wx hd h2 ⟨u0, _, hu0, rfl⟩ fun u L' ⟨hu, e1⟩ => by subst e1; exact hk u (by rw [List.length_replicate] at hu; exact hu)
theorem w_mki {t : TypeId} {x : Operand} {v : Value} [h : NoIface P t] (hd : Nat.blt d n = true) (hx : ev F x = some v) (hk : W P ro m ops Q n rest ((d, .iface t v) :: F) ds L) : W P ro m ops Q n (⟨some d, .makeInterface t x, ty, pos, aft, none⟩ :: rest) F ds L := Wp hd (fun _ => runs_mkI h.out hx) hk
end
section
variable {P : Program} {n : Nat} {F : Fr} {σ : Type} {A : σ → HP} {step : σ → List Value → Option Code × σ} {dom : σ → List Value → Prop}
/-- **for .. := range g { .. }**, where the iterator reads what the rounds own. -/
theorem C_rangeG {g : Operand} {ps : Array Tmp} {assign body : Code} {f : FuncId} {fs cs : List Value} {s0 : σ} {t : σ × Option Code} {Q : Exit → Act → World → Prop} {ds : List Deferred} {L R : List HP} [he : CanEnter P f]
    (hg : ev F g = some (.func (.func f) fs.toArray cs.toArray)) (hps : ps.toList.all (Nat.blt · n) = true) (hlen : ∀ s xs, dom s xs → xs.length = ps.size)
    (hL : Sel L (A s0 :: R)) (hround : RoundsE P n F ps.toList assign body A step dom)
    (hit : ∀ (B : σ × Option Code → HP) (H : Option Code → HP) (yf : Value) (X : List HP), (∀ s, B s = all [A s.1, H s.2]) → Yields P yf B (fun s xs => ((step s.1 xs).1.isNone, ((step s.1 xs).2, (step s.1 xs).1))) (fun s xs => s.2 = none ∧ dom s.1 xs) → Called P f (fs ++ [yf] ++ cs) (B (s0, none) :: X) (is (.tuple #[]) (B t :: X)))
    (hk : ∀ r, ends Q P n F (mk r :: ds) (mblk r :: A t.1 :: R) t.2) : C P none (.rangeFunc g ps assign body) Q n F ds L := by
  refine C_intro fun a w hf hs => ?_
  have hfr : FrOk { tmps := a.tmps, defers := [] } n F [] := ⟨hf.size, rfl, hf.slot⟩
  refine wpIn_rangeFunc fun fn _ => ?_
  let r0 : Loop := { state := .ready, pending := none, fn := fn, tmps := a.tmps, params := ps, assign := assign, body := body, defers := w.heap.size }
  let w1 : World := (w.alloc (.deferred (some []))).alloc (.loop r0)
  refine ⟨w.heap.size + 1, [mk w.heap.size], w1, { target := .fn (.func f) cs.toArray, args := fs.toArray ++ #[yv (w.heap.size + 1)] }, w1, f, fs.toArray ++ #[yv (w.heap.size + 1)] ++ cs.toArray, w1, run_enterLoop_outer fn a.tmps ps assign body, ?_, fun _ _ => trivial, run_enter he.out _ _, fun h => by simp [Fence.wide] at h, ?_⟩
  · simp only [resolve, hf.ev hg, Deferred.ofValue, Sem.run_pure, List.map_toArray, List.map_cons, List.map_nil]
    rfl
  · rw [callsIn_Fw]
    have hs1 : Sat w1 (blk (w.heap.size + 1) (.loop r0) :: mblk w.heap.size :: L) := by
      have := (hs.alloc (.deferred (some []))).alloc (.loop r0)
      have e : (w.alloc (.deferred (some []))).heap.size = w.heap.size + 1 := Array.size_push ..
      rw [e] at this
      exact this
    have hL' : ∀ {X : List HP}, Sat w1 (X ++ L) → Sat w1 (X ++ (A s0 :: R)) := by
      intro X hX
      obtain ⟨D, hD⟩ := hL.perm
      have h1 : (X ++ L).Perm (D ++ (X ++ (A s0 :: R))) := by
        refine (hD.append_left X).trans ?_
        rw [← List.append_assoc, ← List.append_assoc]
        exact List.perm_append_comm.append_right _
      exact (hX.perm h1).drops
    have hs2 : Sat w1 (all [A s0, recd (w.heap.size + 1) r0 none] :: mblk w.heap.size :: R) := by
      have h3 : Sat w1 (blk (w.heap.size + 1) (.loop r0) :: mblk w.heap.size :: A s0 :: R) := hL' (X := [_, _]) hs1
      refine Sat.all_iff.2 ?_
      refine h3.perm ?_
      exact (List.perm_middle (a := A s0) (l₁ := [blk (w.heap.size + 1) (.loop r0), mblk w.heap.size]) (l₂ := R))
    have hy := yields_of_roundsE (P := P) (l := w.heap.size + 1) (r := r0) (ps := ps) (A := A) (step := step) (dom := dom) rfl hfr hps hlen hround
    have hc := (hit (fun s : σ × Option Code => all [A s.1, recd (w.heap.size + 1) r0 s.2]) (recd (w.heap.size + 1) r0) _ (mblk w.heap.size :: R) (fun _ => rfl) hy).out _ hs2
    have e1 : (fs.toArray ++ #[yv (w.heap.size + 1)] ++ cs.toArray : Array Value) = (fs ++ [yv (w.heap.size + 1)] ++ cs).toArray := by simp
    rw [e1]
    refine hc.mono fun e w3 ⟨v, hv, L', ⟨_, hM⟩, hs3⟩ => ?_
    subst hv; subst hM
    obtain ⟨ts, tp⟩ := t
    have hs4 : Sat w3 (recd (w.heap.size + 1) r0 tp :: mblk w.heap.size :: A ts :: R) := by
      have h5 := Sat.all_iff.1 hs3
      refine h5.perm ?_
      refine List.Perm.trans (l₂ := recd (w.heap.size + 1) r0 tp :: A ts :: mblk w.heap.size :: R) (.swap ..) (.cons _ (.swap ..))
    have hk := hk w.heap.size
    cases tp with
    | none =>
      have hl := Sat.blk_heap hs4
      refine ⟨_, _, run_endLoop hl (by simp), ?_⟩
      have hs5 := (hs4.putObj (.loop { r0 with state := .exhausted })).drop
      exact At_elim hk _ _ ⟨hf.size, by simp [hf.defers], hf.slot⟩ hs5
    | some c =>
      have hl := Sat.blk_heap hs4
      refine ⟨_, _, run_endLoop hl (by simp), ?_⟩
      have hs5 := (hs4.putObj (.loop { r0 with state := .exhausted, pending := some c })).drop
      exact C_elim hk _ _ ⟨hf.size, by simp [hf.defers], hf.slot⟩ hs5
end
end Go.Sep
