/- Ranges over functions whose rounds begin with variables of their own. Conditions: none. -/
import Derived.Test.YteggkdlgailfoaaDoorMorc
set_option linter.all false
set_option linter.deprecated false
namespace Go.Sep
variable [B0 : Base]

section
variable {P : Program} {n : Nat} {F : Fr} {σ : Type} {A : σ → HP} {step : σ → List Value → Option Code × σ} {dom : σ → List Value → Prop}

/-- What a loop's body must be shown to do. -/
def RoundsE (P : Program) (n : Nat) (F : Fr) (ps : List Tmp) (assign body : Code) (A : σ → HP) (step : σ → List Value → Option Code × σ) (dom : σ → List Value → Prop) : Prop :=
  ∀ (l : Nat) (r : Loop) (s : σ) (xs : List Value) (J : List HP), dom s xs → ∃ (F1 : Nat → Fr) (E : Nat → HP),
    (∀ Q r', (∀ b, At Q .normal n (F1 b) [] (E b :: A s :: blk l (.loop r') :: J)) → C P (some l) assign Q n (parF ps xs F) [] (A s :: blk l (.loop r') :: J)) ∧
    ∀ b, C P (some l) body (RPost (step s xs).1 (A (step s xs).2 :: blk l (.loop r) :: J)) n (F1 b) [] (E b :: A s :: blk l (.loop r) :: J)

theorem yields_of_roundsE {l : Nat} {r : Loop} {ps : Array Tmp} (hr : r.params = ps) (htm : FrOk { tmps := r.tmps, defers := [] } n F []) (hps : ps.toList.all (Nat.blt · n) = true) (hlen : ∀ s xs, dom s xs → xs.length = ps.size)
    (h : RoundsE P n F ps.toList r.assign r.body A step dom) :
    Yields P (yv l) (fun s : σ × Option Code => all [A s.1, recd l r s.2]) (fun s xs => ((step s.1 xs).1.isNone, ((step s.1 xs).2, (step s.1 xs).1))) (fun s xs => s.2 = none ∧ dom s.1 xs) := by
  rintro ⟨s, p⟩ xs J ⟨hp, hd⟩
  simp only at hp hd
  subst hp
  refine ⟨fun w hs => ?_⟩
  have hs1 : Sat w (A s :: blk l (.loop { r with state := .ready, pending := none }) :: J) := Sat.all_iff.1 hs
  have hl : w.heap[l]? = some (.loop { r with state := .ready, pending := none }) := hs1.blk_mem (by simp)
  have hsz : xs.toArray.size = ({ r with state := .ready, pending := none } : Loop).params.size := by simp [hlen s xs hd, hr]
  have hy := run_yield (P := P) (args := xs.toArray) hl hsz
  simp only [Deferred.ofValue, Sem.run_bind, Sem.run_pure, Result.andThen_ok, invoke]
  have e0 : (#[] ++ xs.toArray : Array Value) = xs.toArray := by simp
  rw [e0, hy]
  simp only [Upon]
  refine roundIn_Fw (ro := none) (n := 1) (roundIn_of_wpIn (F := Fw none) (n := 1) trivial ?_)
  have hfr := FrOk_par ps.toList xs r.tmps F hps htm
  have he : ((r.params.zip xs.toArray).foldl (fun tmps (t, a) => tmps.setIfInBounds t a) r.tmps) = (ps.toList.zip xs).foldl (fun tmps (t, a) => tmps.setIfInBounds t a) r.tmps := by
    rw [hr, ← Array.foldl_toList]; simp
  obtain ⟨F1, E, h1, h2⟩ := h l { r with state := .busy, pending := none } s xs J hd
  have hA := h1 (Exit.then (fun a₁ w₁ => ∃ w₂, (Instr.beginRound l).run P w₁ = .ok () w₂ ∧ r.body.wpIn ((Fw none).inRound l) 1 P (roundPost P l (fun e w'' => ∃ v, e = .returned v ∧ ∃ L', is (.bool (step s xs).1.isNone) (all [A (step s xs).2, recd l r (step s xs).1] :: J) v L' ∧ Sat w'' L')) a₁ w₂) (fun _ _ _ => False)) { r with state := .ready, pending := none } ?_
  · have := C_elim hA _ w (by rw [← he] at hfr; exact hfr) hs1
    exact this
  · intro b
    refine At_intro fun a w1 hf1 hs2 => ?_
    have hl1 : w1.heap[l]? = some (.loop { r with state := .ready, pending := none }) := hs2.blk_mem (by simp)
    refine ⟨_, run_beginRound hl1 rfl, ?_⟩
    have hs3 : Sat (w1.putObj l (.loop { r with state := .busy, pending := none })) (E b :: A s :: blk l (.loop { r with state := .busy, pending := none }) :: J) := ((hs2.perm (List.perm_middle (a := blk l (.loop { r with state := .ready, pending := none })) (l₁ := [E b, A s]) (l₂ := J))).putObj _).perm (List.perm_middle (a := blk l (.loop { r with state := .busy, pending := none })) (l₁ := [E b, A s]) (l₂ := J)).symm
    have hb := C_elim (h2 b) a _ hf1 hs3
    have hmono : ∀ e a w2, RPost (step s xs).1 (A (step s xs).2 :: blk l (.loop { r with state := .busy, pending := none }) :: J) e a w2 → roundPost P l (fun e w'' => ∃ v, e = .returned v ∧ ∃ L', is (.bool (step s xs).1.isNone) (all [A (step s xs).2, recd l r (step s xs).1] :: J) v L' ∧ Sat w'' L') e a w2 := by
      intro e a w2 ⟨hc, hs4⟩
      have hl2 : w2.heap[l]? = some (.loop { r with state := .busy, pending := none }) := hs4.blk_mem (by simp)
      have hend : ∀ (j : Option Code), (step s xs).1 = j → ∃ v w', (Instr.endRound l j).run P w2 = .ok v w' ∧ ∃ u, Ending.returned v = .returned u ∧ ∃ L', is (.bool (step s xs).1.isNone) (all [A (step s xs).2, recd l r (step s xs).1] :: J) u L' ∧ Sat w' L' := by
        intro j hj
        refine ⟨_, _, run_endRound j hl2, _, rfl, _, ⟨by rw [hj], rfl⟩, Sat.all_iff.2 ?_⟩
        have h5 := ((hs4.perm (.swap ..)).putObj (.loop { r with state := if j.isNone then .ready else .done, pending := j })).perm (.swap ..)
        cases j with
        | none => rw [hj]; exact h5
        | some c => rw [hj]; exact h5
      cases e with
      | normal => exact hend none hc
      | ret => exact hend _ hc
      | exit id => exact hend _ hc
      | goto t => exact hend _ hc
      | panic _ => exact hc.elim
      | outgrown => exact hc.elim
    exact Go.wpIn_mono hb hmono

/-- **for .. := range g { .. }**, in a function's own frame. -/
theorem C_rangeE {g : Operand} {ps : Array Tmp} {assign body : Code} {f : FuncId} {fs cs : List Value} {own : HP} {it : Nat → Option (List Value)} {s0 : σ} {t : σ × Option Code} {Q : Exit → Act → World → Prop} {ds : List Deferred} {L R : List HP} [he : CanEnter P f]
    (hg : ev F g = some (.func (.func f) fs.toArray cs.toArray)) (hit : Iter P f fs cs own it) (hps : ps.toList.all (Nat.blt · n) = true) (hlen : ∀ s xs, dom s xs → xs.length = ps.size)
    (hL : Sel L (own :: A s0 :: R)) (hround : RoundsE P n F ps.toList assign body A step dom)
    (hgo : Goes (fun (s : σ × Option Code) xs => ((step s.1 xs).1.isNone, ((step s.1 xs).2, (step s.1 xs).1))) (fun s xs => s.2 = none ∧ dom s.1 xs) it 0 (s0, none) t)
    (hk : ∀ r, ends Q P n F (mk r :: ds) (mblk r :: own :: A t.1 :: R) t.2) : C P none (.rangeFunc g ps assign body) Q n F ds L := by
  refine C_intro fun a w hf hs => ?_
  have hfr : FrOk { tmps := a.tmps, defers := [] } n F [] := ⟨hf.size, rfl, hf.slot⟩
  refine wpIn_rangeFunc fun fn _ => ?_
  let r0 : Loop := { state := .ready, pending := none, fn := fn, tmps := a.tmps, params := ps, assign := assign, body := body, defers := w.heap.size }
  let w1 : World := (w.alloc (.deferred (some []))).alloc (.loop r0)
  refine ⟨w.heap.size + 1, [mk w.heap.size], w1, { target := .fn (.func f) cs.toArray, args := fs.toArray ++ #[yv (w.heap.size + 1)] }, w1, f, fs.toArray ++ #[yv (w.heap.size + 1)] ++ cs.toArray, w1, run_enterLoop_outer fn a.tmps ps assign body, ?_, fun _ _ => trivial, run_enter he.out _ _, fun h => by simp [Fence.wide] at h, ?_⟩
  · simp only [resolve, hf.ev hg, Deferred.ofValue, Sem.run_pure, List.map_toArray, List.map_cons, List.map_nil]
    rfl
  · rw [callsIn_Fw]
    have hs1 : Sat w1 (blk (w.heap.size + 1) (.loop r0) :: mblk w.heap.size :: L) := by
      have := (hs.alloc (.deferred (some []))).alloc (.loop r0)
      have e : (w.alloc (.deferred (some []))).heap.size = w.heap.size + 1 := Array.size_push ..
      rw [e] at this
      exact this
    have hL' : ∀ {X : List HP}, Sat w1 (X ++ L) → Sat w1 (X ++ (own :: A s0 :: R)) := by
      intro X hX
      obtain ⟨D, hD⟩ := hL.perm
      have h1 : (X ++ L).Perm (D ++ (X ++ (own :: A s0 :: R))) := by
        refine (hD.append_left X).trans ?_
        rw [← List.append_assoc, ← List.append_assoc]
        exact List.perm_append_comm.append_right _
      exact (hX.perm h1).drops
    have hs2 : Sat w1 (own :: all [A s0, recd (w.heap.size + 1) r0 none] :: mblk w.heap.size :: R) := by
      have h3 : Sat w1 (blk (w.heap.size + 1) (.loop r0) :: mblk w.heap.size :: own :: A s0 :: R) := hL' (X := [_, _]) hs1
      have h4 : Sat w1 (all [A s0, recd (w.heap.size + 1) r0 none] :: own :: mblk w.heap.size :: R) := by
        refine Sat.all_iff.2 ?_
        refine h3.perm ?_
        refine List.Perm.trans (l₂ := A s0 :: blk (w.heap.size + 1) (.loop r0) :: mblk w.heap.size :: own :: R) ?_ ?_
        · exact (List.perm_middle (a := A s0) (l₁ := [blk (w.heap.size + 1) (.loop r0), mblk w.heap.size, own]) (l₂ := R))
        · exact ((List.Perm.swap ..).cons _).cons _
      exact h4.perm (.swap ..)
    have hy := yields_of_roundsE (P := P) (l := w.heap.size + 1) (r := r0) (ps := ps) (A := A) (step := step) (dom := dom) rfl hfr hps hlen hround
    have hc := (hit _ _ _ _ _ _ _ (mblk w.heap.size :: R) hy hgo).out _ hs2
    have e1 : (fs.toArray ++ #[yv (w.heap.size + 1)] ++ cs.toArray : Array Value) = (fs ++ [yv (w.heap.size + 1)] ++ cs).toArray := by simp
    rw [e1]
    refine hc.mono fun e w3 ⟨v, hv, L', ⟨_, hM⟩, hs3⟩ => ?_
    subst hv; subst hM
    obtain ⟨ts, tp⟩ := t
    have hs4 : Sat w3 (recd (w.heap.size + 1) r0 tp :: mblk w.heap.size :: own :: A ts :: R) := by
      have h5 := Sat.all_iff.1 (hs3.perm (.swap ..))
      refine h5.perm ?_
      refine List.Perm.trans (l₂ := recd (w.heap.size + 1) r0 tp :: A ts :: own :: mblk w.heap.size :: R) (.swap ..) (.cons _ ?_)
      refine List.Perm.trans (l₂ := mblk w.heap.size :: A ts :: own :: R) (List.perm_middle (a := mblk w.heap.size) (l₁ := [A ts, own]) (l₂ := R)) ((List.Perm.swap ..).cons _)
    have hk := hk w.heap.size
    cases tp with
    | none =>
      have hl := Sat.blk_heap hs4
      refine ⟨_, _, run_endLoop hl (by simp), ?_⟩
      have hs5 := (hs4.putObj (.loop { r0 with state := .exhausted })).drop
      exact At_elim hk _ _ ⟨hf.size, by simp [hf.defers], hf.slot⟩ hs5
    | some c =>
      have hl := Sat.blk_heap hs4
      refine ⟨_, _, run_endLoop hl (by simp), ?_⟩
      have hs5 := (hs4.putObj (.loop { r0 with state := .exhausted, pending := some c })).drop
      exact C_elim hk _ _ ⟨hf.size, by simp [hf.defers], hf.slot⟩ hs5
end

theorem AtM_retR {P : Program} {fn : Func} {R : Value → List HP → Prop} {n : Nat} {F : Fr} {L L2 : List HP} {ds : List Deferred} {rs : List ResultVar} {vs : List Value} {e : Exit} (he : e = .ret ∨ e = .normal) (ht : Taken ds L L2)
    (h : fn.results = rs.toArray) (hr : ResR P F L2 rs vs) {L' : List HP} (hR : R (packR vs) L') (hL : ∀ w, Sat w L2 → Sat w L') : At (RetM P fn R) e n F ds L :=
  AtM_ret he ht (fun _ _ hf hs => results_run hf hs h hr) hR hL
theorem Sat.all_left {w : World} {R0 X : List HP} (h : Sat w (all R0 :: X)) : Sat w R0 := by
  have h1 := Sat.all_iff.1 h
  exact (h1.perm List.perm_append_comm).drops
theorem Src.all {R0 X : List HP} {x : Value} {n : Nat} {es : List (List Value)} (h : Src R0 x n es) : Src (Sep.all R0 :: X) x n es :=
  ⟨fun w hs => h.each w hs.all_left, fun w hs => h.out w hs.all_left⟩
/-- A range over a list, each with its number. -/
theorem goes_fold {σ α : Type} (ll : List α) (enc : Nat → α → List Value) (nx : σ → α → σ) (step : σ → List Value → Option Code × σ) (dom : σ → List Value → Prop) (s0 : σ)
    (h : ∀ i x, ll[i]? = some x → dom ((ll.take i).foldl nx s0) (enc i x) ∧ step ((ll.take i).foldl nx s0) (enc i x) = (none, nx ((ll.take i).foldl nx s0) x)) :
    Goes (fun (s : σ × Option Code) xs => ((step s.1 xs).1.isNone, ((step s.1 xs).2, (step s.1 xs).1))) (fun s xs => s.2 = none ∧ dom s.1 xs) (fun i => ll[i]?.map (enc i)) 0 (s0, none) (ll.foldl nx s0, none) := by
  have key : ∀ m i, i + m = ll.length → Goes (fun (s : σ × Option Code) xs => ((step s.1 xs).1.isNone, ((step s.1 xs).2, (step s.1 xs).1))) (fun s xs => s.2 = none ∧ dom s.1 xs) (fun i => ll[i]?.map (enc i)) i ((ll.take i).foldl nx s0, none) (ll.foldl nx s0, none) := by
    intro m
    induction m with
    | zero =>
      intro i hi
      obtain rfl : i = ll.length := by omega
      rw [List.take_length]
      exact .stop (by simp)
    | succ m ih =>
      intro i hi
      have hlt : i < ll.length := by omega
      have hx : ll[i]? = some ll[i] := by simp [hlt]
      obtain ⟨h1, h2⟩ := h i _ hx
      have ht : (ll.take (i + 1)).foldl nx s0 = nx ((ll.take i).foldl nx s0) ll[i] := by rw [List.take_add_one, hx, List.foldl_append]; rfl
      refine .next (x := enc i ll[i]) (by simp [hlt]) ⟨rfl, h1⟩ (s' := (nx ((ll.take i).foldl nx s0) ll[i], none)) ?_ ?_
      · show ((step ((ll.take i).foldl nx s0) (enc i ll[i])).1.isNone, ((step ((ll.take i).foldl nx s0) (enc i ll[i])).2, (step ((ll.take i).foldl nx s0) (enc i ll[i])).1)) = _
        rw [h2]; rfl
      · rw [← ht]; exact ih (i + 1) (by omega)
  exact key ll.length 0 (by omega)
end Go.Sep
