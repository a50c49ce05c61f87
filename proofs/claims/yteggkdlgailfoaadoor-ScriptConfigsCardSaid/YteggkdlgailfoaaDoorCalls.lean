/- Calls, under assertions: of a function, of a function value. Conditions: none. -/
import Derived.Test.YteggkdlgailfoaaDoorOps
set_option linter.all false
set_option linter.deprecated false
namespace Go.Sep
variable [B0 : Base]
section
variable {P : Program} {n : Nat} {F : Fr} {ds : List Deferred} {L : List HP} {d : Option Tmp} {ty : TypeId} {pos : String} {aft : Array Edge} {g : Option (Nat × Bool)}

def canEnter (P : Program) (f : FuncId) : Bool :=
  match P.funcs[f]? with
  | some fn => fn.body.isSome && !(fn.name == "runtime.NumGoroutine")
  | none => false

theorem run_enter {f : FuncId} (h : canEnter P f = true) (args : Array Value) (w : World) : (callFunc f args).run P w = .ok (.enter f args) w := by
  unfold canEnter at h
  split at h
  · rename_i fn hf
    simp only [Bool.and_eq_true, Bool.not_eq_true', Option.isSome_iff_exists] at h
    obtain ⟨⟨c, hc⟩, hn⟩ := h
    have h1 : fn.name ≠ "runtime.NumGoroutine" := by simpa using hn
    simp [callFunc, hf, h1, hc, mark]
  · cases h

def evs (F : Fr) : List Operand → Option (List Value)
  | [] => some []
  | x :: xs => match ev F x, evs F xs with
    | some v, some vs => some (v :: vs)
    | _, _ => none

theorem FrOk.evs {a : Act} (h : FrOk a n F ds) : ∀ {xs : List Operand} {vs : List Value}, evs F xs = some vs → xs.map a.eval = vs
  | [], vs, e => by simp [Sep.evs] at e; subst e; rfl
  | x :: xs, vs, e => by
    simp only [Sep.evs] at e
    split at e
    · rename_i v us h1 h2
      cases e
      simp only [List.map_cons, h.ev h1, FrOk.evs h h2]
    · cases e

/-- A function value, called with these. -/
structure Does (P : Program) (fv : Value) (args : List Value) (L : List HP) (R : Value → List HP → Prop) : Prop where
  out : ∀ w, Sat w L → Upon P (fun v w' => ∃ L', R v L' ∧ Sat w' L') ((do let d ← Deferred.ofValue fv args.toArray; invoke d.target d.args : Sem Next).run P w)

theorem Does.func {f : FuncId} {fs cs : List Value} {args : List Value} {R : Value → List HP → Prop} (he : canEnter P f = true) (h : Called P f (fs ++ args ++ cs) L R) : Does P (.func (.func f) fs.toArray cs.toArray) args L R := by
  refine ⟨fun w hs => ?_⟩
  simp only [Deferred.ofValue, Sem.run_bind, Sem.run_pure, Result.andThen_ok, invoke]
  rw [run_enter he]
  have := h.out w hs
  simp only [List.append_toArray] at this ⊢
  exact this

theorem runs_callV {x : Operand} {xs : List Operand} {ts : Array TypeId} {fv : Value} {vs : List Value} {R : Value → List HP → Prop} (hf : ev F x = some fv) (hx : evs F xs = some vs) (h : Does P fv vs L R) :
    Runs P ⟨d, .call { callee := .value x, args := xs.toArray, argTypes := ts }, ty, pos, aft, g⟩ n F ds L R :=
  ⟨rfl, fun ac w hfr hs => by
    have := h.out w hs
    simp only [execOp, resolve, List.map_toArray, hfr.evs hx, hfr.ev hf]
    exact this⟩

theorem runs_call {f : FuncId} {xs : List Operand} {ts : Array TypeId} {vs : List Value} {R : Value → List HP → Prop} (he : canEnter P f = true) (hx : evs F xs = some vs) (h : Called P f vs L R) :
    Runs P ⟨d, .call { callee := .value (.func f), args := xs.toArray, argTypes := ts }, ty, pos, aft, g⟩ n F ds L R :=
  runs_callV (fv := .func (.func f) #[] #[]) rfl hx (Does.func (fs := []) (cs := []) he (by simpa using h))

end
end Go.Sep
