/- A range over a function, under assertions: what yield does, what an iterator does, the statement, and a function that holds one. Conditions: none. -/
import Derived.Test.YteggkdlgailfoaaDoorUse
set_option linter.all false
set_option linter.deprecated false
namespace Go.Sep
variable [B0 : Base]

theorem Sat.putObj {w : World} {b : Nat} {o : Obj} {R : List HP} (o' : Obj) (h : Sat w (blk b o :: R)) : Sat (w.putObj b o') (blk b o' :: R) := by
  refine h.update (B := [blk b o']) fun S hS => ?_
  obtain ⟨h1, h2⟩ := hS
  have hlt : b < w.heap.size := (Array.getElem?_eq_some_iff.1 h1).1
  refine ⟨fun k hk hn => World.putObj_heap_other (fun e => hn ((h2 k).2 e)), S, ⟨S, fun _ => False, ⟨World.putObj_heap_same hlt, h2⟩, fun _ h => h, fun _ _ h => h, fun _ => by simp⟩, fun k hk => .inl hk⟩

/-- The value of yield, of the loop l. -/
abbrev yv (l : Nat) : Value := .func (.yield l) #[] #[]
/-- A mark among the deferred calls. -/
abbrev mk (r : Nat) : Deferred := { target := .collected r, args := #[] }
abbrev mblk (r : Nat) : HP := blk r (.deferred (some []))

/-- What yield is to an iterator: in the state s, of the arguments xs that may be, it answers whether to go on, and leaves the next state. -/
def Yields {τ : Type} (P : Program) (yf : Value) (B : τ → HP) (st : τ → List Value → Bool × τ) (dom : τ → List Value → Prop) : Prop :=
  ∀ s xs J, dom s xs → Does P yf xs (B s :: J) (is (.bool (st s xs).1) (B (st s xs).2 :: J))

/-- The rounds, from the i-th one on, over what f gives. -/
inductive Goes {τ : Type} (st : τ → List Value → Bool × τ) (dom : τ → List Value → Prop) (f : Nat → Option (List Value)) : Nat → τ → τ → Prop
  | stop {i : Nat} {s : τ} (h : f i = none) : Goes st dom f i s s
  | quit {i : Nat} {s s' : τ} {x : List Value} (h : f i = some x) (hd : dom s x) (h2 : st s x = (false, s')) : Goes st dom f i s s'
  | next {i : Nat} {s s' t : τ} {x : List Value} (h : f i = some x) (hd : dom s x) (h2 : st s x = (true, s')) (h3 : Goes st dom f (i + 1) s' t) : Goes st dom f i s t

/-- An iterator: a function that hands on what f gives, one behind the other. -/
def Iter (P : Program) (f : FuncId) (fs cs : List Value) (own : HP) (g : Nat → Option (List Value)) : Prop :=
  ∀ (τ : Type) (B : τ → HP) (st : τ → List Value → Bool × τ) (dom : τ → List Value → Prop) (yf : Value) (s t : τ) (R : List HP), Yields P yf B st dom → Goes st dom g 0 s t →
    Called P f (fs ++ [yf] ++ cs) (own :: B s :: R) (is (.tuple #[]) (own :: B t :: R))

/-- The frame with the parameters of yield. -/
def parF : List Tmp → List Value → Fr → Fr
  | p :: ps, x :: xs, F => parF ps xs ((p, x) :: F)
  | _, _, F => F

theorem FrOk_par {n : Nat} : ∀ (ps : List Tmp) (xs : List Value) (tmps : Array Value) (F : Fr), ps.all (Nat.blt · n) = true → FrOk { tmps := tmps, defers := [] } n F [] →
    FrOk { tmps := (ps.zip xs).foldl (fun tmps (t, a) => tmps.setIfInBounds t a) tmps, defers := [] } n (parF ps xs F) []
  | [], _, _, _, _, h => by simpa [parF] using h
  | _ :: _, [], _, _, _, h => by simpa [parF] using h
  | p :: ps, x :: xs, tmps, F, hp, h => by
    simp only [List.all_cons, Bool.and_eq_true] at hp
    have h1 : FrOk (({ tmps := tmps, defers := [] } : Act).put (some p) x) n ((p, x) :: F) [] := h.put (d := some p) (by simpa [dstOk] using hp.1) x
    simp only [List.zip_cons_cons, List.foldl_cons, parF]
    exact FrOk_par ps xs _ _ hp.2 h1

/-- How a round ends: on, or by this jump; and what it leaves. -/
def RPost (c : Option Code) (L' : List HP) : Exit → Act → World → Prop := fun e _ w =>
  (match e with
   | .normal => c = none
   | .ret => c = some .ret
   | .exit id => c = some (.exit id)
   | .goto t => c = some (.goto t)
   | _ => False) ∧ Sat w L'

section
variable {P : Program} {n : Nat} {F : Fr} {L L' : List HP} {ds : List Deferred}
theorem At_round_normal (hL : ∀ w, Sat w L → Sat w L') : At (RPost none L') .normal n F ds L := At_intro fun a w _ hs => ⟨rfl, hL w hs⟩
theorem At_round_ret (hL : ∀ w, Sat w L → Sat w L') : At (RPost (some .ret) L') .ret n F ds L := At_intro fun a w _ hs => ⟨rfl, hL w hs⟩
theorem At_round_exit {id : Nat} (hL : ∀ w, Sat w L → Sat w L') : At (RPost (some (.exit id)) L') (.exit id) n F ds L := At_intro fun a w _ hs => ⟨rfl, hL w hs⟩
theorem At_round_goto {id : Nat} (hL : ∀ w, Sat w L → Sat w L') : At (RPost (some (.goto id)) L') (.goto id) n F ds L := At_intro fun a w _ hs => ⟨rfl, hL w hs⟩
end

/-- The loop's record, as the iterator sees it: nothing is pending, or this jump is. -/
def recd (l : Nat) (r : Loop) : Option Code → HP
  | none => blk l (.loop { r with state := .ready, pending := none })
  | some c => blk l (.loop { r with state := .done, pending := some c })

section
variable {P : Program} {n : Nat} {F : Fr} {σ : Type} {A : σ → HP} {step : σ → List Value → Option Code × σ} {dom : σ → List Value → Prop}

/-- What a loop's body must be shown to do. -/
def Rounds (P : Program) (n : Nat) (F : Fr) (ps : List Tmp) (assign body : Code) (A : σ → HP) (step : σ → List Value → Option Code × σ) (dom : σ → List Value → Prop) : Prop :=
  ∀ (l : Nat) (r : Loop) (s : σ) (xs : List Value) (J : List HP), dom s xs → ∃ F1,
    (∀ Q r', At Q .normal n F1 [] (A s :: blk l (.loop r') :: J) → C P (some l) assign Q n (parF ps xs F) [] (A s :: blk l (.loop r') :: J)) ∧
    C P (some l) body (RPost (step s xs).1 (A (step s xs).2 :: blk l (.loop r) :: J)) n F1 [] (A s :: blk l (.loop r) :: J)

theorem yields_of_rounds {l : Nat} {r : Loop} {ps : Array Tmp} (hr : r.params = ps) (htm : FrOk { tmps := r.tmps, defers := [] } n F []) (hps : ps.toList.all (Nat.blt · n) = true) (hlen : ∀ s xs, dom s xs → xs.length = ps.size)
    (h : Rounds P n F ps.toList r.assign r.body A step dom) :
    Yields P (yv l) (fun s : σ × Option Code => all [A s.1, recd l r s.2]) (fun s xs => ((step s.1 xs).1.isNone, ((step s.1 xs).2, (step s.1 xs).1))) (fun s xs => s.2 = none ∧ dom s.1 xs) := by
  rintro ⟨s, p⟩ xs J ⟨hp, hd⟩
  simp only at hp hd
  subst hp
  refine ⟨fun w hs => ?_⟩
  have hs1 : Sat w (A s :: blk l (.loop { r with state := .ready, pending := none }) :: J) := Sat.all_iff.1 hs
  have hl : w.heap[l]? = some (.loop { r with state := .ready, pending := none }) := hs1.blk_mem (by simp)
  have hsz : xs.toArray.size = ({ r with state := .ready, pending := none } : Loop).params.size := by simp [hlen s xs hd, hr]
  have hy := run_yield (P := P) (args := xs.toArray) hl hsz
  simp only [Deferred.ofValue, Sem.run_bind, Sem.run_pure, Result.andThen_ok, invoke]
  have e0 : (#[] ++ xs.toArray : Array Value) = xs.toArray := by simp
  rw [e0, hy]
  simp only [Upon]
  refine roundIn_Fw (ro := none) (n := 1) (roundIn_of_wpIn (F := Fw none) (n := 1) trivial ?_)
  have hfr := FrOk_par ps.toList xs r.tmps F hps htm
  have he : ((r.params.zip xs.toArray).foldl (fun tmps (t, a) => tmps.setIfInBounds t a) r.tmps) = (ps.toList.zip xs).foldl (fun tmps (t, a) => tmps.setIfInBounds t a) r.tmps := by
    rw [hr, ← Array.foldl_toList]; simp
  obtain ⟨F1, h1, h2⟩ := h l { r with state := .busy, pending := none } s xs J hd
  have hA := h1 (Exit.then (fun a₁ w₁ => ∃ w₂, (Instr.beginRound l).run P w₁ = .ok () w₂ ∧ r.body.wpIn ((Fw none).inRound l) 1 P (roundPost P l (fun e w'' => ∃ v, e = .returned v ∧ ∃ L', is (.bool (step s xs).1.isNone) (all [A (step s xs).2, recd l r (step s xs).1] :: J) v L' ∧ Sat w'' L')) a₁ w₂) (fun _ _ _ => False)) { r with state := .ready, pending := none } ?_
  · have := C_elim hA _ w (by rw [← he] at hfr; exact hfr) hs1
    exact this
  · refine At_intro fun a w1 hf1 hs2 => ?_
    have hl1 : w1.heap[l]? = some (.loop { r with state := .ready, pending := none }) := hs2.blk_mem (by simp)
    refine ⟨_, run_beginRound hl1 rfl, ?_⟩
    have hs3 : Sat (w1.putObj l (.loop { r with state := .busy, pending := none })) (A s :: blk l (.loop { r with state := .busy, pending := none }) :: J) := ((hs2.perm (.swap ..)).putObj _).perm (.swap ..)
    have hb := C_elim h2 a _ hf1 hs3
    have hmono : ∀ e a w2, RPost (step s xs).1 (A (step s xs).2 :: blk l (.loop { r with state := .busy, pending := none }) :: J) e a w2 → roundPost P l (fun e w'' => ∃ v, e = .returned v ∧ ∃ L', is (.bool (step s xs).1.isNone) (all [A (step s xs).2, recd l r (step s xs).1] :: J) v L' ∧ Sat w'' L') e a w2 := by
      intro e a w2 ⟨hc, hs4⟩
      have hl2 : w2.heap[l]? = some (.loop { r with state := .busy, pending := none }) := hs4.blk_mem (by simp)
      have hend : ∀ (j : Option Code), (step s xs).1 = j → ∃ v w', (Instr.endRound l j).run P w2 = .ok v w' ∧ ∃ u, Ending.returned v = .returned u ∧ ∃ L', is (.bool (step s xs).1.isNone) (all [A (step s xs).2, recd l r (step s xs).1] :: J) u L' ∧ Sat w' L' := by
        intro j hj
        refine ⟨_, _, run_endRound j hl2, _, rfl, _, ⟨by rw [hj], rfl⟩, Sat.all_iff.2 ?_⟩
        have h5 := ((hs4.perm (.swap ..)).putObj (.loop { r with state := if j.isNone then .ready else .done, pending := j })).perm (.swap ..)
        cases j with
        | none => rw [hj]; exact h5
        | some c => rw [hj]; exact h5
      cases e with
      | normal => exact hend none hc
      | ret => exact hend _ hc
      | exit id => exact hend _ hc
      | goto t => exact hend _ hc
      | panic _ => exact hc.elim
      | outgrown => exact hc.elim
    exact Go.wpIn_mono hb hmono

def ends (Q : Exit → Act → World → Prop) (P : Program) (n : Nat) (F : Fr) (ds : List Deferred) (L : List HP) : Option Code → Prop
  | none => At Q .normal n F ds L
  | some c => C P none c Q n F ds L

/-- **for .. := range g { .. }**, in a function's own frame. -/
theorem C_range {g : Operand} {ps : Array Tmp} {assign body : Code} {f : FuncId} {fs cs : List Value} {own : HP} {it : Nat → Option (List Value)} {s0 : σ} {t : σ × Option Code} {Q : Exit → Act → World → Prop} {ds : List Deferred} {L R : List HP} [he : CanEnter P f]
    (hg : ev F g = some (.func (.func f) fs.toArray cs.toArray)) (hit : Iter P f fs cs own it) (hps : ps.toList.all (Nat.blt · n) = true) (hlen : ∀ s xs, dom s xs → xs.length = ps.size)
    (hL : Sel L (own :: A s0 :: R)) (hround : Rounds P n F ps.toList assign body A step dom)
    (hgo : Goes (fun (s : σ × Option Code) xs => ((step s.1 xs).1.isNone, ((step s.1 xs).2, (step s.1 xs).1))) (fun s xs => s.2 = none ∧ dom s.1 xs) it 0 (s0, none) t)
    (hk : ∀ r, ends Q P n F (mk r :: ds) (mblk r :: own :: A t.1 :: R) t.2) : C P none (.rangeFunc g ps assign body) Q n F ds L := by
  refine C_intro fun a w hf hs => ?_
  have hfr : FrOk { tmps := a.tmps, defers := [] } n F [] := ⟨hf.size, rfl, hf.slot⟩
  refine wpIn_rangeFunc fun fn _ => ?_
  let r0 : Loop := { state := .ready, pending := none, fn := fn, tmps := a.tmps, params := ps, assign := assign, body := body, defers := w.heap.size }
  let w1 : World := (w.alloc (.deferred (some []))).alloc (.loop r0)
  refine ⟨w.heap.size + 1, [mk w.heap.size], w1, { target := .fn (.func f) cs.toArray, args := fs.toArray ++ #[yv (w.heap.size + 1)] }, w1, f, fs.toArray ++ #[yv (w.heap.size + 1)] ++ cs.toArray, w1, run_enterLoop_outer fn a.tmps ps assign body, ?_, fun _ _ => trivial, run_enter he.out _ _, fun h => by simp [Fence.wide] at h, ?_⟩
  · simp only [resolve, hf.ev hg, Deferred.ofValue, Sem.run_pure, List.map_toArray, List.map_cons, List.map_nil]
    rfl
  · rw [callsIn_Fw]
    have hs1 : Sat w1 (blk (w.heap.size + 1) (.loop r0) :: mblk w.heap.size :: L) := by
      have := (hs.alloc (.deferred (some []))).alloc (.loop r0)
      have e : (w.alloc (.deferred (some []))).heap.size = w.heap.size + 1 := Array.size_push ..
      rw [e] at this
      exact this
    have hL' : ∀ {X : List HP}, Sat w1 (X ++ L) → Sat w1 (X ++ (own :: A s0 :: R)) := by
      intro X hX
      obtain ⟨D, hD⟩ := hL.perm
      have h1 : (X ++ L).Perm (D ++ (X ++ (own :: A s0 :: R))) := by
        refine (hD.append_left X).trans ?_
        rw [← List.append_assoc, ← List.append_assoc]
        exact List.perm_append_comm.append_right _
      exact (hX.perm h1).drops
    have hs2 : Sat w1 (own :: all [A s0, recd (w.heap.size + 1) r0 none] :: mblk w.heap.size :: R) := by
      have h3 : Sat w1 (blk (w.heap.size + 1) (.loop r0) :: mblk w.heap.size :: own :: A s0 :: R) := hL' (X := [_, _]) hs1
      have h4 : Sat w1 (all [A s0, recd (w.heap.size + 1) r0 none] :: own :: mblk w.heap.size :: R) := by
        refine Sat.all_iff.2 ?_
        refine h3.perm ?_
        refine List.Perm.trans (l₂ := A s0 :: blk (w.heap.size + 1) (.loop r0) :: mblk w.heap.size :: own :: R) ?_ ?_
        · exact (List.perm_middle (a := A s0) (l₁ := [blk (w.heap.size + 1) (.loop r0), mblk w.heap.size, own]) (l₂ := R))
        · exact ((List.Perm.swap ..).cons _).cons _
      exact h4.perm (.swap ..)
    have hy := yields_of_rounds (P := P) (l := w.heap.size + 1) (r := r0) (ps := ps) (A := A) (step := step) (dom := dom) rfl hfr hps hlen hround
    have hc := (hit _ _ _ _ _ _ _ (mblk w.heap.size :: R) hy hgo).out _ hs2
    have e1 : (fs.toArray ++ #[yv (w.heap.size + 1)] ++ cs.toArray : Array Value) = (fs ++ [yv (w.heap.size + 1)] ++ cs).toArray := by simp
    rw [e1]
    refine hc.mono fun e w3 ⟨v, hv, L', ⟨_, hM⟩, hs3⟩ => ?_
    subst hv; subst hM
    obtain ⟨ts, tp⟩ := t
    have hs4 : Sat w3 (recd (w.heap.size + 1) r0 tp :: mblk w.heap.size :: own :: A ts :: R) := by
      have h5 := Sat.all_iff.1 (hs3.perm (.swap ..))
      refine h5.perm ?_
      refine List.Perm.trans (l₂ := recd (w.heap.size + 1) r0 tp :: A ts :: own :: mblk w.heap.size :: R) (.swap ..) (.cons _ ?_)
      refine List.Perm.trans (l₂ := mblk w.heap.size :: A ts :: own :: R) (List.perm_middle (a := mblk w.heap.size) (l₁ := [A ts, own]) (l₂ := R)) ((List.Perm.swap ..).cons _)
    have hk := hk w.heap.size
    cases tp with
    | none =>
      have hl := Sat.blk_heap hs4
      refine ⟨_, _, run_endLoop hl (by simp), ?_⟩
      have hs5 := (hs4.putObj (.loop { r0 with state := .exhausted })).drop
      exact At_elim hk _ _ ⟨hf.size, by simp [hf.defers], hf.slot⟩ hs5
    | some c =>
      have hl := Sat.blk_heap hs4
      refine ⟨_, _, run_endLoop hl (by simp), ?_⟩
      have hs5 := (hs4.putObj (.loop { r0 with state := .exhausted, pending := some c })).drop
      exact C_elim hk _ _ ⟨hf.size, by simp [hf.defers], hf.slot⟩ hs5
end


/-! ### A function that holds a range over a function -/
inductive Taken : List Deferred → List HP → List HP → Prop
  | nil {L : List HP} : Taken [] L L
  | cons {r : Nat} {ds : List Deferred} {L L1 L2 : List HP} (h : Del (mblk r) L L1) (h' : Taken ds L1 L2) : Taken (mk r :: ds) L L2

def RetM (P : Program) (fn : Func) (R : Value → List HP → Prop) : Exit → Act → World → Prop :=
  bodyPostM (Fw none) 1 P fn fun e w' => ∃ v, e = .returned v ∧ ∃ L', R v L' ∧ Sat w' L'

theorem leaves_taken {P : Program} {fn : Func} {tmps : Array Value} {R : Ending → World → Prop} {ds : List Deferred} {L L2 : List HP} (h : Taken ds L L2) : ∀ w, Sat w L → (∀ w, Sat w L2 → ∃ v, (results fn tmps).run P w = .ok v w ∧ R (.returned v) w) → LeavesInM (Fw none) 1 P fn tmps R ds .returning w := by
  induction h with
  | nil => exact fun w hs hk => hk w hs
  | @cons r ds L L1 L2 h _ ih =>
    intro w hs hk
    have hs1 := hs.perm h.perm
    exact ⟨by simp, .inl ⟨r, _, rfl, run_takeDeferred hs1.blk_heap, ih _ (hs1.putObj _).drop hk⟩⟩

theorem AtM_ret {P : Program} {fn : Func} {R : Value → List HP → Prop} {n : Nat} {F : Fr} {L L2 : List HP} {ds : List Deferred} {v : Value} {e : Exit} (he : e = .ret ∨ e = .normal) (ht : Taken ds L L2)
    (hres : ∀ a w, FrOk a n F ds → Sat w L2 → (results fn a.tmps).run P w = .ok v w) {L' : List HP} (hR : R v L') (hL : ∀ w, Sat w L2 → Sat w L') : At (RetM P fn R) e n F ds L := At_intro fun a w hf hs => by
  have key : LeavesInM (Fw none) 1 P fn a.tmps (fun e w' => ∃ v, e = .returned v ∧ ∃ L', R v L' ∧ Sat w' L') a.defers .returning w := by
    rw [hf.defers]
    exact leaves_taken ht w hs fun w2 hs2 => ⟨v, hres a w2 hf hs2, v, rfl, L', hR, hL w2 hs2⟩
  rcases he with rfl | rfl <;> exact key

theorem AtM_ret1 {P : Program} {fn : Func} {R : Value → List HP → Prop} {n : Nat} {F : Fr} {L L2 : List HP} {ds : List Deferred} {v : Value} {t : Tmp} {e : Exit} (he : e = .ret ∨ e = .normal) (ht : Taken ds L L2)
    (h : fn.results = #[.tmp t]) (hv : look F t = some v) {L' : List HP} (hR : R v L') (hL : ∀ w, Sat w L2 → Sat w L') : At (RetM P fn R) e n F ds L :=
  AtM_ret he ht (fun a w hf _ => by simp [results, h, Array.getD_eq_getD_getElem?, hf.slot _ _ hv]) hR hL
theorem AtM_ret0 {P : Program} {fn : Func} {R : Value → List HP → Prop} {n : Nat} {F : Fr} {L L2 : List HP} {ds : List Deferred} {e : Exit} (he : e = .ret ∨ e = .normal) (ht : Taken ds L L2)
    (h : fn.results = #[]) {L' : List HP} (hR : R (.tuple #[]) L') (hL : ∀ w, Sat w L2 → Sat w L') : At (RetM P fn R) e n F ds L :=
  AtM_ret he ht (fun a w _ _ => by simp [results, h]) hR hL
theorem AtM_ret2 {P : Program} {fn : Func} {R : Value → List HP → Prop} {n : Nat} {F : Fr} {L L2 : List HP} {ds : List Deferred} {v v' : Value} {t t' : Tmp} {e : Exit} (he : e = .ret ∨ e = .normal) (ht : Taken ds L L2)
    (h : fn.results = #[.tmp t, .tmp t']) (hv : look F t = some v) (hv' : look F t' = some v') {L' : List HP} (hR : R (.tuple #[v, v']) L') (hL : ∀ w, Sat w L2 → Sat w L') : At (RetM P fn R) e n F ds L :=
  AtM_ret he ht (fun a w hf _ => by simp [results, h, Array.getD_eq_getD_getElem?, hf.slot _ _ hv, hf.slot _ _ hv']) hR hL

theorem Called_bodyM {P : Program} {f : FuncId} {fn : Func} {c : Code} {args : List Value} {L : List HP} {R : Value → List HP → Prop} {n : Nat}
    (hf : P.funcs[f]? = some fn) (hb : fn.body = some c) (hn : fn.ntmps = n) (hl : Nat.ble args.length n = true)
    (h : C P none c (RetM P fn R) n (argsF 0 args) [] L) : Called P f args L R := by
  refine ⟨fun w hs => ?_⟩
  subst hn
  rw [← callsIn_Fw (ro := none) (n := 1)]
  exact callsIn_of_wp_marks hf hb trivial (C_elim h _ w (FrOk_args args _ (Nat.le_of_ble_eq_true hl)) hs)
section
variable {P : Program} {f : FuncId} {fn : Func} {c : Code} {L : List HP} {R : Value → List HP → Prop} {n : Nat} {u0 u1 u2 u3 u4 : Value}
theorem FnM0 (hf : P.funcs[f]? = some fn) (hb : fn.body = some c) (hn : fn.ntmps = n) (h : C P none c (RetM P fn R) n [] [] L) : Called P f [] L R := Called_bodyM hf hb hn (by simp) h
theorem FnM1 (hf : P.funcs[f]? = some fn) (hb : fn.body = some c) (hn : fn.ntmps = n) (hl : Nat.ble 1 n = true) (h : C P none c (RetM P fn R) n [(0, u0)] [] L) : Called P f [u0] L R := Called_bodyM hf hb hn hl h
theorem FnM2 (hf : P.funcs[f]? = some fn) (hb : fn.body = some c) (hn : fn.ntmps = n) (hl : Nat.ble 2 n = true) (h : C P none c (RetM P fn R) n [(0, u0), (1, u1)] [] L) : Called P f [u0, u1] L R := Called_bodyM hf hb hn hl h
theorem FnM3 (hf : P.funcs[f]? = some fn) (hb : fn.body = some c) (hn : fn.ntmps = n) (hl : Nat.ble 3 n = true) (h : C P none c (RetM P fn R) n [(0, u0), (1, u1), (2, u2)] [] L) : Called P f [u0, u1, u2] L R := Called_bodyM hf hb hn hl h
theorem FnM4 (hf : P.funcs[f]? = some fn) (hb : fn.body = some c) (hn : fn.ntmps = n) (hl : Nat.ble 4 n = true) (h : C P none c (RetM P fn R) n [(0, u0), (1, u1), (2, u2), (3, u3)] [] L) : Called P f [u0, u1, u2, u3] L R := Called_bodyM hf hb hn hl h
end


theorem AtM_ret1c {P : Program} {fn : Func} {R : Value → List HP → Prop} {n : Nat} {F : Fr} {L L2 : List HP} {ds : List Deferred} {v : Value} {t : Tmp} {ty : TypeId} {ad : Addr} {e : Exit} [h1 : OneT P ty] (he : e = .ret ∨ e = .normal) (ht : Taken ds L L2)
    (h : fn.results = #[.cell t ty]) (hv : look F t = some (.pointer (some ad))) (hr : Rd L2 ad v) {L' : List HP} (hR : R v L') (hL : ∀ w, Sat w L2 → Sat w L') : At (RetM P fn R) e n F ds L :=
  AtM_ret he ht (fun a w hf hs => by simp [results, h, Array.getD_eq_getD_getElem?, hf.slot _ _ hv, asAddr, loadVar, (oneT_spec h1.out w).1, hr.out w hs]) hR hL

/-! ### An iterator's own steps -/
inductive GoesN {τ : Type} (st : τ → List Value → Bool × τ) (dom : τ → List Value → Prop) (f : Nat → Option (List Value)) : Nat → Nat → τ → τ → Prop
  | stop {i : Nat} {s : τ} (h : f i = none) : GoesN st dom f 0 i s s
  | quit {i : Nat} {s s' : τ} {x : List Value} (h : f i = some x) (hd : dom s x) (h2 : st s x = (false, s')) : GoesN st dom f 0 i s s'
  | next {k i : Nat} {s s' t : τ} {x : List Value} (h : f i = some x) (hd : dom s x) (h2 : st s x = (true, s')) (h3 : GoesN st dom f k (i + 1) s' t) : GoesN st dom f (k + 1) i s t
theorem Goes.steps {τ : Type} {st : τ → List Value → Bool × τ} {dom : τ → List Value → Prop} {f : Nat → Option (List Value)} {i : Nat} {s t : τ} (h : Goes st dom f i s t) : ∃ k, GoesN st dom f k i s t := by
  induction h with
  | stop h => exact ⟨0, .stop h⟩
  | quit h hd h2 => exact ⟨0, .quit h hd h2⟩
  | next h hd h2 _ ih => obtain ⟨k, hk⟩ := ih; exact ⟨k + 1, .next h hd h2 hk⟩
theorem GoesN.none {τ : Type} {st : τ → List Value → Bool × τ} {dom : τ → List Value → Prop} {f : Nat → Option (List Value)} {k i : Nat} {s t : τ} (h : GoesN st dom f k i s t) (hn : f i = none) : t = s := by
  cases h with
  | stop _ => rfl
  | quit h => rw [hn] at h; cases h
  | next h => rw [hn] at h; cases h
theorem GoesN.some {τ : Type} {st : τ → List Value → Bool × τ} {dom : τ → List Value → Prop} {f : Nat → Option (List Value)} {k i : Nat} {s t : τ} {x : List Value} (h : GoesN st dom f k i s t) (hn : f i = some x) :
    dom s x ∧ (((st s x).1 = false ∧ t = (st s x).2) ∨ ((st s x).1 = true ∧ ∃ k', k = k' + 1 ∧ GoesN st dom f k' (i + 1) (st s x).2 t)) := by
  cases h with
  | stop h => rw [hn] at h; cases h
  | quit h hd h2 => rw [hn] at h; cases h; exact ⟨hd, .inl ⟨by rw [h2], by rw [h2]⟩⟩
  | next h hd h2 h3 => rw [hn] at h; cases h; exact ⟨hd, .inr ⟨by rw [h2], _, rfl, by rw [h2]; exact h3⟩⟩

theorem Does.pre {P : Program} {fv : Value} {vs : List Value} {L L' : List HP} {Z : Value → List HP → Prop} (h : Does P fv vs L' Z) (hL : ∀ w, Sat w L → Sat w L') : Does P fv vs L Z := ⟨fun w hs => h.out w (hL w hs)⟩

section
variable {P : Program} {ro : Option Nat} {m : Option Mode} {ops : Array Oper} {Q : Exit → Act → World → Prop} {n : Nat} {rest : List Oper} {F : Fr} {ds : List Deferred} {L R : List HP} {d : Nat} {ty : TypeId} {pos : String} {aft : Array Edge}
theorem w_yield {τ : Type} {x : Operand} {xs : List Operand} {ts : Array TypeId} {fv : Value} {vs : List Value} {B : τ → HP} {st : τ → List Value → Bool × τ} {dom : τ → List Value → Prop} {s : τ} (hd : Nat.blt d n = true) (hf : ev F x = some fv) (hx : evs F xs = some vs)
    (hy : Yields P fv B st dom) (hdom : dom s vs) (hr : Del (B s) L R) (hm : KeepsM P ops ⟨some d, .call { callee := .value x, args := xs.toArray, argTypes := ts }, ty, pos, aft, none⟩ n ds (B (st s vs).2 :: R) m)
    (hk : W P ro m ops Q n rest ((d, .bool (st s vs).1) :: F) ds (B (st s vs).2 :: R)) : W P ro m ops Q n (⟨some d, .call { callee := .value x, args := xs.toArray, argTypes := ts }, ty, pos, aft, none⟩ :: rest) F ds L :=
  Wd hd (runs_callV hf hx ((hy s vs R hdom).pre fun w hs => hs.perm hr.perm)) hm hk
end

end Go.Sep
