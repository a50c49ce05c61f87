/- The walk's own engine: what an operation, a region, a statement, a function do, said over assertions on blocks. Conditions: none. -/
import Derived.Test.YteggkdlgailfoaaDoorSep
import Derived.RangeFuncLeaves
import Derived.RangeFuncRecord
import Derived.OrdersIn
import Derived.TacticsIn
import Derived.Shelf.Abstract
set_option linter.all false
set_option linter.deprecated false
namespace Go.Sep
variable [B0 : Base]

/-! ### The fence that lets everything in -/
abbrev Fw (ro : Option Nat) : Fence := { Fence.wide with round := ro }

theorem callsIn_Fw {ro : Option Nat} {n : Nat} {P : Program} {f : FuncId} {args : Array Value} {w : World} {R : Ending → World → Prop} :
    CallsIn (Fw ro) n P f args w R ↔ Calls P f args w R := by
  show CallsIn Fence.wide n P f args w R ↔ _
  exact callsIn_wide

theorem room_Fw (ro : Option Nat) (n : Nat) : (Fw ro).room n := fun _ h => by simp [Fence.wide] at h

theorem roundIn_Fw {ro ro' : Option Nat} {n n' : Nat} {P : Program} {l : Nat} {f : FuncId} {tmps : Array Value} {assign body : Code} {w : World} {R : Ending → World → Prop}
    (h : RoundIn (Fw ro) n P l f tmps assign body w R) : RoundIn (Fw ro') n' P l f tmps assign body w R :=
  ⟨trivial, fun c cs _ => h.2 c cs (room_Fw _ _)⟩

/-! ### Frames -/
abbrev Fr := List (Nat × Value)

def look : Fr → Nat → Option Value
  | [], _ => none
  | (s, v) :: F, t => match Nat.beq s t with | true => some v | false => look F t

def ev (F : Fr) : Operand → Option Value
  | .tmp t => look F t
  | .const v => some v
  | .global g => some (.pointer (some ⟨g, 0, none⟩))
  | .func f => some (.func (.func f) #[] #[])

structure FrOk (a : Act) (n : Nat) (F : Fr) (ds : List Deferred) : Prop where
  size : a.tmps.size = n
  defers : a.defers = ds
  slot : ∀ t v, look F t = some v → a.tmps[t]? = some v

theorem FrOk.ev {a : Act} {n : Nat} {F : Fr} {ds : List Deferred} (h : FrOk a n F ds) {x : Operand} {v : Value} (hx : ev F x = some v) : a.eval x = v := by
  cases x with
  | tmp t =>
    have := h.slot t v hx
    simp only [Act.eval, Array.getD_eq_getD_getElem?, this, Option.getD_some]
  | const u => simpa [Sep.ev, Act.eval] using hx
  | global g => simpa [Sep.ev, Act.eval] using hx
  | func f => simpa [Sep.ev, Act.eval] using hx

def putF (F : Fr) (d : Option Tmp) (v : Value) : Fr := match d with | some d => (d, v) :: F | none => F

def dstOk (n : Nat) (d : Option Tmp) : Bool := match d with | some d => Nat.blt d n | none => true

theorem FrOk.put {a : Act} {n : Nat} {F : Fr} {ds : List Deferred} (h : FrOk a n F ds) {d : Option Tmp} (hd : dstOk n d = true) (v : Value) : FrOk (a.put d v) n (putF F d v) ds := by
  cases d with
  | none => exact h
  | some d =>
    have hlt : d < n := by simpa [dstOk, Nat.blt_eq] using hd
    refine ⟨by simp [Act.put, h.size], h.defers, fun t u ht => ?_⟩
    simp only [putF, look] at ht
    simp only [Act.put, Array.getElem?_setIfInBounds]
    cases hb : Nat.beq d t with
    | true =>
      rw [hb] at ht
      have e := Nat.eq_of_beq_eq_true hb
      subst e
      cases ht
      rw [if_pos rfl, if_pos (by rw [h.size]; exact hlt)]
    | false =>
      rw [hb] at ht
      rw [if_neg (fun e => by subst e; simp at hb)]
      exact h.slot t u ht

theorem FrOk.sub {a : Act} {n : Nat} {F F' : Fr} {ds : List Deferred} (h : FrOk a n F ds) (hs : ∀ t v, look F' t = some v → look F t = some v) : FrOk a n F' ds :=
  ⟨h.size, h.defers, fun t v ht => h.slot t v (hs t v ht)⟩

/-- Each slot of the second list reads in the first as in the second: a closed check where both are written out. -/
def subF (F : Fr) : Fr → Prop
  | [] => True
  | (t, v) :: F' => look F t = some v ∧ subF F F'

theorem subF_spec {F : Fr} : ∀ {F' : Fr}, subF F F' → ∀ t v, look F' t = some v → look F t = some v
  | [], _, _, _, h => by cases h
  | (s, u) :: F', ⟨h1, h2⟩, t, v, h => by
    simp only [look] at h
    cases hb : Nat.beq s t with
    | true => rw [hb] at h; cases h; rw [← Nat.eq_of_beq_eq_true hb]; exact h1
    | false => rw [hb] at h; exact subF_spec h2 t v h

theorem sn {F : Fr} : subF F [] := trivial
theorem sc {F F' : Fr} {t : Nat} {v : Value} (h : look F t = some v) (h' : subF F F') : subF F ((t, v) :: F') := ⟨h, h'⟩

/-! ### One operation -/
def notDefer : Op → Bool
  | .defer _ => false
  | _ => true

def Upon (P : Program) (K : Value → World → Prop) : Result Next → Prop
  | .ok (.value v) w' => K v w'
  | .ok .skip w' => K undef w'
  | .ok (.enter f args) w' => Calls P f args w' (fun e w'' => ∃ v, e = .returned v ∧ K v w'')
  | .ok (.round l f tmps assign body) w' => RoundIn (Fw none) 0 P l f tmps assign body w' (fun e w'' => ∃ v, e = .returned v ∧ K v w'')
  | _ => False

theorem Upon.mono {P : Program} {K K' : Value → World → Prop} {r : Result Next} (h : Upon P K r) (hk : ∀ v w, K v w → K' v w) : Upon P K' r := by
  cases r with
  | ok x w' =>
    cases x <;> simp only [Upon] at h ⊢
    case value v => exact hk _ _ h
    case skip => exact hk _ _ h
    case enter f args => exact h.mono fun e w'' ⟨v, he, hv⟩ => ⟨v, he, hk _ _ hv⟩
    case round l f tmps assign body => exact h.mono fun e w'' ⟨v, he, hv⟩ => ⟨v, he, hk _ _ hv⟩
  | halt x w' => exact h

theorem uponIn_of_upon {P : Program} {ro : Option Nat} {n : Nat} {o : Oper} {a : Act} {K : Value → World → Prop} {next : Act → World → Prop} {Q : Exit → Act → World → Prop} {r : Result Next}
    (h : Upon P K r) (hk : ∀ v w', K v w' → next (a.put o.dst v) w') : o.uponIn (Fw ro) n P a next Q r := by
  cases r with
  | ok x w' =>
    cases x <;> simp only [Upon] at h <;> simp only [Oper.uponIn]
    case value v => exact hk _ _ h
    case skip => exact hk _ _ h
    case enter f args => exact ⟨fun h => by simp [Fence.wide] at h, callsIn_Fw.2 (h.mono fun e w'' ⟨v, he, hv⟩ => by subst he; exact hk _ _ hv)⟩
    case round l f tmps assign body => exact ⟨fun h => by simp [Fence.wide] at h, roundIn_Fw (h.mono fun e w'' ⟨v, he, hv⟩ => by subst he; exact hk _ _ hv)⟩
  | halt x w' => exact h.elim

/-- The operation goes through, and R holds of what it yields and of the assertions behind it. -/
structure Runs (P : Program) (o : Oper) (n : Nat) (F : Fr) (ds : List Deferred) (L : List HP) (R : Value → List HP → Prop) : Prop where
  plain : notDefer o.op = true
  run : ∀ a w, FrOk a n F ds → Sat w L → Upon P (fun v w' => ∃ L', R v L' ∧ Sat w' L') ((execOp a.eval o).run P w)

/-- It yields this, and leaves that. -/
def is (v : Value) (L : List HP) : Value → List HP → Prop := fun v' L' => v' = v ∧ L' = L

/-! ### A list of operations -/
/-- A postcondition at one way out. -/
def At (Q : Exit → Act → World → Prop) (e : Exit) (n : Nat) (F : Fr) (ds : List Deferred) (L : List HP) : Prop :=
  ∀ a w, FrOk a n F ds → Sat w L → Q e a w

/-- An operation that was taken out of its turn: it must yield the same behind every act that may come before it. -/
structure Hold where
  o : Oper
  v : Value
  F : Fr

def gOn (ops : Array Oper) (o : Oper) (F : Fr) : Prop :=
  o.guard = none ∨ ∃ j b oj dj, o.guard = some (j, b) ∧ ops[j]? = some oj ∧ oj.dst = some dj ∧ look F dj = some (.bool b)
def gOff (ops : Array Oper) (o : Oper) (F : Fr) : Prop :=
  ∃ j b oj dj, o.guard = some (j, b) ∧ ops[j]? = some oj ∧ oj.dst = some dj ∧ (look F dj = some (.bool (!b)) ∨ look F dj = some undef)

/-- An operation that may act on memory. -/
def loud (o : Oper) : Bool :=
  match o.op with
  | .move _ | .assign _ | .pick .. | .load .. | .nilCheck _ | .binOp .. | .unOp .. | .convert .. | .fieldAddr .. | .field .. | .indexAddr .. | .index .. | .extract .. | .slice .. | .makeFunc .. | .build .. | .lookup .. | .makeInterface .. => false
  | .call { callee := .builtin b, .. } => match b with
    | .len | .cap | .min | .max => false
    | _ => true
  | _ => true

/-- 'o' waits for the one operation that writes the slot of 'h'. -/
def waits (ops : Array Oper) (o h : Oper) : Bool :=
  match h.dst with
  | some d => (ops.toList.filter fun x => x.dst == some d).length == 1 && o.after.any fun e => Region.binds .any e && ((ops[e.on]?).bind (·.dst)) == some d
  | none => false

/-- What is known while a region's order is open: what is held, and the slots of those that must be calls that look at no memory. -/
structure Mode where
  H : List Hold
  S : List (Option Tmp) := []
def barred (S : List (Option Tmp)) (d : Option Tmp) : Bool := S.any fun x => match x, d with
  | some a, some b => Nat.beq a b
  | none, none => true
  | _, _ => false
/-- The walk of a region whose order is open, one order for all. -/
def DW (P : Program) (ops : Array Oper) (Q : Exit → Act → World → Prop) (n : Nat) (ds : List Deferred) (S : List (Option Tmp)) : List Hold → List Oper → Fr → List HP → Prop
  | _, [], F, L => At Q .normal n F ds L
  | H, o :: rest, F, L => dstOk n o.dst = true ∧
    ((gOff ops o F ∧ DW P ops Q n ds S H rest (putF F o.dst undef) L) ∨
     (gOn ops o F ∧
      ((∃ v, (∀ M, Runs P o n F ds M (is v M)) ∧ DW P ops Q n ds S H rest (putF F o.dst v) L) ∨
       (∃ v, Runs P o n F ds L (is v L) ∧ DW P ops Q n ds S (⟨o, v, F⟩ :: H) rest (putF F o.dst v) L) ∨
       ((loud o = true ∧ barred S o.dst = false) ∧ ∃ R, Runs P o n F ds L R ∧ ∀ v L', R v L' → (∀ h ∈ H, waits ops o h.o = true ∨ Runs P h.o n h.F ds L' (is h.v L')) ∧ DW P ops Q n ds S H rest (putF F o.dst v) L'))))

/-- The walk: of a list in its order (none), or of a region whose order is open (what is held). -/
def W (P : Program) (ro : Option Nat) (m : Option Mode) (ops : Array Oper) (Q : Exit → Act → World → Prop) (n : Nat) (l : List Oper) (F : Fr) (ds : List Deferred) (L : List HP) : Prop :=
  match m with
  | none => ∀ a w, FrOk a n F ds → Sat w L → wpListIn (Fw ro) 1 P ops Q l a w
  | some M => DW P ops Q n ds M.S M.H l F L

/-- A statement. -/
def C (P : Program) (ro : Option Nat) (c : Code) (Q : Exit → Act → World → Prop) (n : Nat) (F : Fr) (ds : List Deferred) (L : List HP) : Prop :=
  ∀ a w, FrOk a n F ds → Sat w L → c.wpIn (Fw ro) 1 P Q a w

section
variable {P : Program} {ro : Option Nat} {m : Option Mode} {ops : Array Oper} {Q : Exit → Act → World → Prop} {n : Nat} {o : Oper} {rest : List Oper} {F : Fr} {ds : List Deferred} {L : List HP}

theorem W_nil (h : At Q .normal n F ds L) : W P ro m ops Q n [] F ds L := by
  cases m with
  | none => exact fun a w hf hs => wpListIn_nil (h a w hf hs)
  | some H => exact h

theorem gOn_wanted {a : Act} (hf : FrOk a n F ds) (h : gOn ops o F) : Region.wanted o (yielded ops a.tmps) = true := by
  rcases h with hg | ⟨j, b, oj, dj, hg, hj, hdj, hb⟩
  · simp [Region.wanted, hg]
  · have hy : yielded ops a.tmps j = some b := by simp [yielded, hj, hdj, hf.slot _ _ hb]
    simp [Region.wanted, hg, hy]
theorem gOff_wanted {a : Act} (hf : FrOk a n F ds) (h : gOff ops o F) : Region.wanted o (yielded ops a.tmps) = false := by
  obtain ⟨j, b, oj, dj, hg, hj, hdj, hb⟩ := h
  rcases hb with hb | hb
  · have hy : yielded ops a.tmps j = some (!b) := by simp [yielded, hj, hdj, hf.slot _ _ hb]
    simp [Region.wanted, hg, hy]
  · have hy : yielded ops a.tmps j = none := by simp [yielded, hj, hdj, hf.slot _ _ hb, undef]
    simp [Region.wanted, hg, hy]

theorem W_run {R : Value → List HP → Prop} (hg : gOn ops o F) (hd : dstOk n o.dst = true) (h : Runs P o n F ds L R)
    (hk : ∀ v L', R v L' → W P ro none ops Q n rest (putF F o.dst v) ds L') : W P ro none ops Q n (o :: rest) F ds L := fun a w hf hs => by
  refine wpListIn_step fun K hK => ?_
  rw [if_pos (gOn_wanted hf hg)]
  refine ⟨fun _ _ => trivial, ?_⟩
  rw [Oper.semAt_eq _ _ _ (fun c e => by have := h.plain; rw [e] at this; cases this)]
  exact uponIn_of_upon (h.run a w hf hs) fun v w' ⟨L', hR, hs'⟩ => hK _ _ (hk v L' hR _ _ (hf.put hd v) hs')

theorem W_skip (hg : gOff ops o F) (hd : dstOk n o.dst = true) (hk : W P ro m ops Q n rest (putF F o.dst undef) ds L) : W P ro m ops Q n (o :: rest) F ds L := by
  cases m with
  | none =>
    intro a w hf hs
    refine wpListIn_step fun K hK => ?_
    rw [if_neg (by rw [gOff_wanted hf hg]; exact Bool.false_ne_true)]
    exact ⟨fun _ _ => trivial, hK _ _ (hk _ _ (hf.put hd _) hs)⟩
  | some H => exact ⟨hd, .inl ⟨hg, hk⟩⟩

/-- It looks at no memory. -/
theorem W_pure {v : Value} (hg : gOn ops o F) (hd : dstOk n o.dst = true) (h : ∀ M, Runs P o n F ds M (is v M)) (hk : W P ro m ops Q n rest (putF F o.dst v) ds L) : W P ro m ops Q n (o :: rest) F ds L := by
  cases m with
  | none => exact W_run hg hd (h L) fun _ _ ⟨e1, e2⟩ => by subst e1; subst e2; exact hk
  | some H => exact ⟨hd, .inr ⟨hg, .inl ⟨v, h, hk⟩⟩⟩

def held (o : Oper) (v : Value) (F : Fr) (m : Option Mode) : Option Mode := match m with
  | none => none
  | some ⟨H, S⟩ => some ⟨⟨o, v, F⟩ :: H, S⟩

/-- It reads. -/
theorem W_read {v : Value} (hg : gOn ops o F) (hd : dstOk n o.dst = true) (h : Runs P o n F ds L (is v L)) (hk : W P ro (held o v F m) ops Q n rest (putF F o.dst v) ds L) : W P ro m ops Q n (o :: rest) F ds L := by
  cases m with
  | none => exact W_run hg hd h fun _ _ ⟨e1, e2⟩ => by subst e1; subst e2; exact hk
  | some H => exact ⟨hd, .inr ⟨hg, .inr (.inl ⟨v, h, hk⟩)⟩⟩

/-- What is held abides. -/
def Keeps (P : Program) (ops : Array Oper) (o : Oper) (n : Nat) (ds : List Deferred) (L' : List HP) : List Hold → Prop
  | [] => True
  | h :: H => (waits ops o h.o = true ∨ Runs P h.o n h.F ds L' (is h.v L')) ∧ Keeps P ops o n ds L' H
def KeepsM (P : Program) (ops : Array Oper) (o : Oper) (n : Nat) (ds : List Deferred) (L' : List HP) : Option Mode → Prop
  | none => True
  | some M => (loud o = true ∧ barred M.S o.dst = false) ∧ Keeps P ops o n ds L' M.H
theorem Keeps.all {L' : List HP} : ∀ {H : List Hold}, Keeps P ops o n ds L' H → ∀ h ∈ H, waits ops o h.o = true ∨ Runs P h.o n h.F ds L' (is h.v L')
  | [], _, _, hm => by cases hm
  | _ :: _, ⟨h1, h2⟩, h, hm => by
    rcases List.mem_cons.1 hm with rfl | hm
    · exact h1
    · exact h2.all h hm
theorem km0 {L' : List HP} : KeepsM P ops o n ds L' none := trivial
theorem kms {L' : List HP} {H : List Hold} {S : List (Option Tmp)} (hl : loud o = true) (hb : barred S o.dst = false) (h : Keeps P ops o n ds L' H) : KeepsM P ops o n ds L' (some ⟨H, S⟩) := ⟨⟨hl, hb⟩, h⟩
theorem kn {L' : List HP} : Keeps P ops o n ds L' [] := trivial
theorem kw {L' : List HP} {o' : Oper} {v : Value} {F' : Fr} {H : List Hold} (h1 : waits ops o o' = true) (h2 : Keeps P ops o n ds L' H) : Keeps P ops o n ds L' (⟨o', v, F'⟩ :: H) := ⟨.inl h1, h2⟩
theorem kr {L' : List HP} {o' : Oper} {v : Value} {F' : Fr} {H : List Hold} (h1 : Runs P o' n F' ds L' (is v L')) (h2 : Keeps P ops o n ds L' H) : Keeps P ops o n ds L' (⟨o', v, F'⟩ :: H) := ⟨.inr h1, h2⟩

/-- It acts. -/
theorem W_act {R : Value → List HP → Prop} (hg : gOn ops o F) (hd : dstOk n o.dst = true) (h : Runs P o n F ds L R)
    (hk : ∀ v L', R v L' → KeepsM P ops o n ds L' m ∧ W P ro m ops Q n rest (putF F o.dst v) ds L') (hne : ∃ v L', R v L') : W P ro m ops Q n (o :: rest) F ds L := by
  cases m with
  | none => exact W_run hg hd h fun v L' hR => (hk v L' hR).2
  | some H =>
    obtain ⟨v0, L0, h0⟩ := hne
    exact ⟨hd, .inr ⟨hg, .inr (.inr ⟨(hk v0 L0 h0).1.1, R, h, fun v L' hR => ⟨(hk v L' hR).1.2.all, (hk v L' hR).2⟩⟩)⟩⟩

/-- A slot whose truth is asked: two cases. -/
theorem gOn_sub {F' : Fr} (hs : ∀ t v, look F' t = some v → look F t = some v) (h : gOn ops o F') : gOn ops o F := by
  rcases h with h | ⟨j, b, oj, dj, h1, h2, h3, h4⟩
  · exact .inl h
  · exact .inr ⟨j, b, oj, dj, h1, h2, h3, hs _ _ h4⟩
theorem gOff_sub {F' : Fr} (hs : ∀ t v, look F' t = some v → look F t = some v) (h : gOff ops o F') : gOff ops o F := by
  obtain ⟨j, b, oj, dj, h1, h2, h3, h4⟩ := h
  exact ⟨j, b, oj, dj, h1, h2, h3, h4.imp (hs _ _) (hs _ _)⟩
theorem Runs.sub {F' : Fr} (hs : ∀ t v, look F' t = some v → look F t = some v) {R : Value → List HP → Prop} (h : Runs P o n F' ds L R) : Runs P o n F ds L R :=
  ⟨h.plain, fun a w hf hw => h.run a w (hf.sub hs) hw⟩
theorem putF_sub {F' : Fr} (hs : ∀ t v, look F' t = some v → look F t = some v) (d : Option Tmp) (u : Value) : ∀ t v, look (putF F' d u) t = some v → look (putF F d u) t = some v := by
  cases d with
  | none => exact hs
  | some d =>
    intro t v h
    simp only [putF, look] at h ⊢
    cases hb : Nat.beq d t with
    | true => rw [hb] at h; exact h
    | false => rw [hb] at h; exact hs t v h
theorem DW_sub {S : List (Option Tmp)} : ∀ (l : List Oper) {H H' : List Hold} {F F' : Fr} {L : List HP}, (∀ t v, look F' t = some v → look F t = some v) →
    (∀ (o : Oper) L', (∀ h ∈ H', waits ops o h.o = true ∨ Runs P h.o n h.F ds L' (is h.v L')) → ∀ h ∈ H, waits ops o h.o = true ∨ Runs P h.o n h.F ds L' (is h.v L')) → DW P ops Q n ds S H' l F' L → DW P ops Q n ds S H l F L
  | [], _, _, _, _, _, hs, _, h => fun a w hf hw => h a w (hf.sub hs) hw
  | o :: l, H, H', F, F', L, hs, hH, ⟨hd, h⟩ => by
    refine ⟨hd, ?_⟩
    rcases h with ⟨hg, h⟩ | ⟨hg, ⟨v, h1, h2⟩ | ⟨v, h1, h2⟩ | ⟨hl, R, h1, h2⟩⟩
    · exact .inl ⟨gOff_sub hs hg, DW_sub l (putF_sub hs _ _) hH h⟩
    · exact .inr ⟨gOn_sub hs hg, .inl ⟨v, fun M => (h1 M).sub hs, DW_sub l (putF_sub hs _ _) hH h2⟩⟩
    · refine .inr ⟨gOn_sub hs hg, .inr (.inl ⟨v, h1.sub hs, DW_sub l (putF_sub hs _ _) (fun o' L' hh h hm => ?_) h2⟩)⟩
      rcases List.mem_cons.1 hm with rfl | hm
      · rcases hh _ (List.mem_cons_self ..) with h | h
        · exact .inl h
        · exact .inr (h.sub hs)
      · exact hH o' L' (fun h hm => hh h (List.mem_cons_of_mem _ hm)) h hm
    · exact .inr ⟨gOn_sub hs hg, .inr (.inr ⟨hl, R, h1.sub hs, fun v L' hR => ⟨hH o L' (h2 v L' hR).1, DW_sub l (putF_sub hs _ _) hH (h2 v L' hR).2⟩⟩)⟩

theorem W_subL {l : List Oper} {F' : Fr} (hs : ∀ t v, look F' t = some v → look F t = some v) (h : W P ro m ops Q n l F' ds L) : W P ro m ops Q n l F ds L := by
  cases m with
  | none => exact fun a w hf hw => h a w (hf.sub hs) hw
  | some H => exact DW_sub l hs (fun _ _ h => h) h

theorem W_case {l : List Oper} {t : Nat} {b : Bool} (h : look F t = some (.bool b)) (ht : b = true → W P ro m ops Q n l ((t, .bool true) :: F) ds L) (hf : b = false → W P ro m ops Q n l ((t, .bool false) :: F) ds L) : W P ro m ops Q n l F ds L := by
  have key : ∀ c : Bool, b = c → ∀ t' v, look ((t, Value.bool c) :: F) t' = some v → look F t' = some v := by
    intro c hc t' v hv
    simp only [look] at hv
    cases hb : Nat.beq t t' with
    | true => rw [hb] at hv; cases hv; rw [← Nat.eq_of_beq_eq_true hb, ← hc]; exact h
    | false => rw [hb] at hv; exact hv
  cases b with
  | true => exact W_subL (key true rfl) (ht rfl)
  | false => exact W_subL (key false rfl) (hf rfl)

/-! #### The operation written out -/
section
variable {op : Op} {d : Nat} {ty : TypeId} {pos : String} {aft : Array Edge}
theorem Wp {v : Value} (hd : Nat.blt d n = true) (h : ∀ M, Runs P ⟨some d, op, ty, pos, aft, none⟩ n F ds M (is v M))
    (hk : W P ro m ops Q n rest ((d, v) :: F) ds L) : W P ro m ops Q n (⟨some d, op, ty, pos, aft, none⟩ :: rest) F ds L := W_pure (.inl rfl) hd h hk
theorem Wr {v : Value} (hd : Nat.blt d n = true) (h : Runs P ⟨some d, op, ty, pos, aft, none⟩ n F ds L (is v L))
    (hk : W P ro (held ⟨some d, op, ty, pos, aft, none⟩ v F m) ops Q n rest ((d, v) :: F) ds L) : W P ro m ops Q n (⟨some d, op, ty, pos, aft, none⟩ :: rest) F ds L := W_read (.inl rfl) hd h hk
theorem Wd {v : Value} {L' : List HP} (hd : Nat.blt d n = true) (h : Runs P ⟨some d, op, ty, pos, aft, none⟩ n F ds L (is v L')) (hm : KeepsM P ops ⟨some d, op, ty, pos, aft, none⟩ n ds L' m)
    (hk : W P ro m ops Q n rest ((d, v) :: F) ds L') : W P ro m ops Q n (⟨some d, op, ty, pos, aft, none⟩ :: rest) F ds L := W_act (.inl rfl) hd h (fun _ _ ⟨e1, e2⟩ => by subst e1; subst e2; exact ⟨hm, hk⟩) ⟨_, _, rfl, rfl⟩
theorem Ws {v : Value} {L' : List HP} (h : Runs P ⟨none, op, ty, pos, aft, none⟩ n F ds L (is v L')) (hm : KeepsM P ops ⟨none, op, ty, pos, aft, none⟩ n ds L' m)
    (hk : W P ro m ops Q n rest F ds L') : W P ro m ops Q n (⟨none, op, ty, pos, aft, none⟩ :: rest) F ds L := W_act (.inl rfl) rfl h (fun _ _ ⟨e1, e2⟩ => by subst e1; subst e2; exact ⟨hm, hk⟩) ⟨_, _, rfl, rfl⟩
theorem Wx {R : Value → List HP → Prop} (hd : Nat.blt d n = true) (h : Runs P ⟨some d, op, ty, pos, aft, none⟩ n F ds L R) (hne : ∃ v L', R v L')
    (hk : ∀ v L', R v L' → KeepsM P ops ⟨some d, op, ty, pos, aft, none⟩ n ds L' m ∧ W P ro m ops Q n rest ((d, v) :: F) ds L') : W P ro m ops Q n (⟨some d, op, ty, pos, aft, none⟩ :: rest) F ds L := W_act (.inl rfl) hd h hk hne
theorem Wy {R : Value → List HP → Prop} (h : Runs P ⟨none, op, ty, pos, aft, none⟩ n F ds L R) (hne : ∃ v L', R v L')
    (hk : ∀ v L', R v L' → KeepsM P ops ⟨none, op, ty, pos, aft, none⟩ n ds L' m ∧ W P ro m ops Q n rest F ds L') : W P ro m ops Q n (⟨none, op, ty, pos, aft, none⟩ :: rest) F ds L := W_act (.inl rfl) rfl h hk hne

/-- A guard that passes it over. -/
theorem w_off {j : Nat} {b b' : Bool} {oj : Oper} {dj : Nat} (hd : Nat.blt d n = true) (hj : ops[j]? = some oj) (hdj : oj.dst = some dj) (hb : look F dj = some (.bool b')) (hne : b' = !b)
    (hk : W P ro m ops Q n rest ((d, undef) :: F) ds L) : W P ro m ops Q n (⟨some d, op, ty, pos, aft, some (j, b)⟩ :: rest) F ds L := W_skip ⟨j, b, oj, dj, rfl, hj, hdj, .inl (by rw [hb, hne])⟩ hd hk
theorem w_offu {j : Nat} {b : Bool} {oj : Oper} {dj : Nat} (hd : Nat.blt d n = true) (hj : ops[j]? = some oj) (hdj : oj.dst = some dj) (hb : look F dj = some undef)
    (hk : W P ro m ops Q n rest ((d, undef) :: F) ds L) : W P ro m ops Q n (⟨some d, op, ty, pos, aft, some (j, b)⟩ :: rest) F ds L := W_skip ⟨j, b, oj, dj, rfl, hj, hdj, .inr hb⟩ hd hk

/-- A guard that is met is none. -/
theorem runs_guard {dd : Option Tmp} {g g' : Option (Nat × Bool)} {R : Value → List HP → Prop} (h : Runs P ⟨dd, op, ty, pos, aft, g⟩ n F ds L R) : Runs P ⟨dd, op, ty, pos, aft, g'⟩ n F ds L R := ⟨h.plain, fun a w hf hs => h.run a w hf hs⟩
theorem waits_guard_left {dd : Option Tmp} {g g' : Option (Nat × Bool)} {h : Oper} : waits ops ⟨dd, op, ty, pos, aft, g⟩ h = waits ops ⟨dd, op, ty, pos, aft, g'⟩ h := rfl
theorem w_on {dd : Option Tmp} {j : Nat} {b : Bool} {oj : Oper} {dj : Nat} (hj : ops[j]? = some oj) (hdj : oj.dst = some dj) (hb : look F dj = some (.bool b))
    (h : W P ro m ops Q n (⟨dd, op, ty, pos, aft, none⟩ :: rest) F ds L) : W P ro m ops Q n (⟨dd, op, ty, pos, aft, some (j, b)⟩ :: rest) F ds L := by
  cases m with
  | none =>
    intro a w hf hs
    have hy : yielded ops a.tmps j = some b := by simp [yielded, hj, hdj, hf.slot _ _ hb]
    have h1 := h a w hf hs
    simp only [wpListIn] at h1 ⊢
    rw [if_pos (by simp [Region.wanted])] at h1
    rw [if_pos (by simp [Region.wanted, hy])]
    exact h1
  | some H =>
    obtain ⟨hd, h⟩ := h
    have hg : gOn ops ⟨dd, op, ty, pos, aft, some (j, b)⟩ F := .inr ⟨j, b, oj, dj, rfl, hj, hdj, hb⟩
    rcases h with ⟨⟨j', b', oj', dj', hg', _⟩, _⟩ | ⟨_, ⟨v, h1, h2⟩ | ⟨v, h1, h2⟩ | ⟨hl, R, h1, h2⟩⟩
    · cases hg'
    · exact ⟨hd, .inr ⟨hg, .inl ⟨v, fun M => runs_guard (h1 M), h2⟩⟩⟩
    · refine ⟨hd, .inr ⟨hg, .inr (.inl ⟨v, runs_guard h1, DW_sub rest (fun _ _ h => h) (fun o' L' hh h hm => ?_) h2⟩)⟩⟩
      rcases List.mem_cons.1 hm with rfl | hm
      · rcases hh _ (List.mem_cons_self ..) with h | h
        · exact .inl h
        · exact .inr (runs_guard h)
      · exact hh h (List.mem_cons_of_mem _ hm)
    · exact ⟨hd, .inr ⟨hg, .inr (.inr ⟨hl, R, runs_guard h1, h2⟩)⟩⟩
/-- A guard that is not known: two cases. -/
theorem w_split {dd : Option Tmp} {j : Nat} {b c : Bool} {oj : Oper} {dj : Nat} (_hj : ops[j]? = some oj) (_hdj : oj.dst = some dj) (hb : look F dj = some (.bool c))
    (ht : c = true → W P ro m ops Q n (⟨dd, op, ty, pos, aft, some (j, b)⟩ :: rest) ((dj, .bool true) :: F) ds L) (hf : c = false → W P ro m ops Q n (⟨dd, op, ty, pos, aft, some (j, b)⟩ :: rest) ((dj, .bool false) :: F) ds L) :
    W P ro m ops Q n (⟨dd, op, ty, pos, aft, some (j, b)⟩ :: rest) F ds L := W_case hb ht hf
end

/-! ### A region whose order is open -/
/-- In act 'a', under L, the operation yields v and leaves L. -/
def YI (P : Program) (ops : Array Oper) (o : Oper) (v : Value) (a : Act) (L : List HP) : Prop :=
  (Region.wanted o (yielded ops a.tmps) = true ∧ notDefer o.op = true ∧ ∀ w, Sat w L → Upon P (fun v' w' => v' = v ∧ Sat w' L) ((execOp a.eval o).run P w)) ∨
  (Region.wanted o (yielded ops a.tmps) = false ∧ v = undef)

theorem YI.put {oi oj : Oper} {v u : Value} {a : Act} {L : List HP} (hap : oi.apart ops oj = true) (hsi : ∀ cs b, oi.op ≠ .select cs b) (h : YI P ops oi v a L) : YI P ops oi v (a.put oj.dst u) L := by
  obtain ⟨_, _, h3⟩ := Oper.apart_spec hap
  unfold YI at h ⊢
  rw [execOp_put oi hsi a oj.dst u h3, wanted_put oi a oj.dst u h3]
  exact h
theorem YI.unput {oi oj : Oper} {v u : Value} {a : Act} {L : List HP} (hap : oi.apart ops oj = true) (hsj : ∀ cs b, oj.op ≠ .select cs b) (h : YI P ops oj u (a.put oi.dst v) L) : YI P ops oj u a L := by
  obtain ⟨h1, _, _⟩ := Oper.apart_spec hap
  unfold YI at h ⊢
  rwa [execOp_put oj hsj a oi.dst v h1, wanted_put oj a oi.dst v h1] at h

/-- A step that acts. -/
def AS (P : Program) (ops : Array Oper) (o : Oper) (a : Act) (L : List HP) (K : Value → List HP → Prop) : Prop :=
  Region.wanted o (yielded ops a.tmps) = true ∧ notDefer o.op = true ∧ ∀ w, Sat w L → Upon P (fun v w' => ∃ L', K v L' ∧ Sat w' L') ((execOp a.eval o).run P w)

abbrev Held := List (Oper × Value × Act)

/-- Whatever order is picked from here on. -/
def AW (P : Program) (ops : Array Oper) (Q : Exit → Act → World → Prop) : Held → Nat → Array Bool → Act → List HP → Prop
  | _, 0, listed, a, L => Region.ready .any ops listed = [] ∧ ∀ w, Sat w L → Q .normal a w
  | H, fuel + 1, listed, a, L =>
    (Region.ready .any ops listed = [] → ∀ w, Sat w L → Q .normal a w) ∧
    ∀ j ∈ Region.ready .any ops listed, ∀ o, ops[j]? = some o →
      (∃ v, YI P ops o v a L ∧ AW P ops Q H fuel (listed.setIfInBounds j true) (a.put o.dst v) L) ∨
      AS P ops o a L fun v L' => (∀ h ∈ H, waits ops o h.1 = true ∨ YI P ops h.1 h.2.1 h.2.2 L') ∧ AW P ops Q H fuel (listed.setIfInBounds j true) (a.put o.dst v) L'

theorem AW_less : ∀ {H H' : Held} (fuel : Nat) {listed : Array Bool} {a : Act} {L : List HP}, (∀ h ∈ H, h ∈ H') → AW P ops Q H' fuel listed a L → AW P ops Q H fuel listed a L
  | _, _, 0, _, _, _, _, h => h
  | H, H', fuel + 1, listed, a, L, hs, h => by
    refine ⟨h.1, fun j hj o ho => ?_⟩
    rcases h.2 j hj o ho with ⟨v, h1, h2⟩ | ⟨h1, h2, h3⟩
    · exact .inl ⟨v, h1, AW_less fuel hs h2⟩
    · exact .inr ⟨h1, h2, fun w hw => (h3 w hw).mono fun v w' ⟨L', ⟨k1, k2⟩, k3⟩ => ⟨L', ⟨fun h hm => k1 h (hs h hm), AW_less fuel hs k2⟩, k3⟩⟩

theorem waits_spec {i : Nat} {oi o : Oper} (hi : ops[i]? = some oi) (h : waits ops o oi = true) : ∃ e ∈ o.after, Region.binds .any e = true ∧ e.on = i := by
  unfold waits at h
  cases hd : oi.dst with
  | none => simp [hd] at h
  | some d =>
    simp only [hd, Bool.and_eq_true] at h
    obtain ⟨h1, h2⟩ := h
    obtain ⟨e, he, hb⟩ := Array.any_eq_true'.1 h2
    simp only [Bool.and_eq_true, beq_iff_eq] at hb h1
    refine ⟨e, he, hb.1, ?_⟩
    -- one operation alone writes that slot
    have hlen : ∀ (l : List Oper), (l.filter fun x => x.dst == some d).length = 1 → ∀ (i j : Nat) (x y : Oper), l[i]? = some x → l[j]? = some y → x.dst = some d → y.dst = some d → i = j := by
      intro l
      induction l with
      | nil => intro _ i j x y hx; simp at hx
      | cons z l ih =>
        intro hl i j x y hx hy dx dy
        by_cases hz : z.dst = some d
        · have h0 : (l.filter fun x => x.dst == some d) = [] := by
            rw [List.filter_cons_of_pos (by simp [hz])] at hl
            exact List.eq_nil_of_length_eq_zero (by simpa using hl)
          have none : ∀ k (u : Oper), l[k]? = some u → u.dst ≠ some d := fun k u hu hd' => by
            have : u ∈ l.filter fun x => x.dst == some d := List.mem_filter.2 ⟨List.mem_of_getElem? hu, by simp [hd']⟩
            rw [h0] at this; cases this
          cases i with
          | zero => cases j with
            | zero => rfl
            | succ j => exact absurd dy (none j y (by simpa using hy))
          | succ i => exact absurd dx (none i x (by simpa using hx))
        · rw [List.filter_cons_of_neg (by simp [hz])] at hl
          cases i with
          | zero => simp at hx; subst hx; exact absurd dx hz
          | succ i => cases j with
            | zero => simp at hy; subst hy; exact absurd dy hz
            | succ j => rw [ih hl i j x y (by simpa using hx) (by simpa using hy) dx dy]
    cases hx : ops[e.on]? with
    | none => simp [hx] at hb
    | some x =>
      simp only [hx, Option.bind_some] at hb
      exact hlen ops.toList h1 e.on i x oi (by simpa using hx) (by simpa using hi) hb.2 hd

/-- What reads may be taken first. -/
theorem AW_first {i : Nat} {oi : Oper} {v : Value} {a0 : Act} (hi : ops[i]? = some oi) (hsel : ∀ (j : Nat) (o : Oper) cs b, ops[j]? = some o → o.op ≠ .select cs b) {H : Held} :
    ∀ (fuel : Nat) (listed : Array Bool) (a : Act) (L : List HP),
      (∀ j oj, ops[j]? = some oj → j ≠ i → listed.getD j true = false → (∀ e ∈ oj.after, Region.binds .any e = true → e.on ≠ i) → oi.apart ops oj = true) →
      i ∈ Region.ready .any ops listed → (∀ L', YI P ops oi v a0 L' → YI P ops oi v a L') → YI P ops oi v a L →
      AW P ops Q ((oi, v, a0) :: H) fuel (listed.setIfInBounds i true) (a.put oi.dst v) L → AW P ops Q H (fuel + 1) listed a L := by
  intro fuel
  induction fuel with
  | zero =>
    intro listed a L _ hr _ hy HH
    refine ⟨fun h => (by rw [h] at hr; cases hr), fun j hj o ho => ?_⟩
    by_cases hji : j = i
    · subst hji
      rw [hi] at ho; cases ho
      exact .inl ⟨v, hy, HH⟩
    · have := ready_mono hj hji
      rw [HH.1] at this
      cases this
  | succ fuel ih =>
    intro listed a L hfree hr htr hy HH
    refine ⟨fun h => (by rw [h] at hr; cases hr), fun j hj o ho => ?_⟩
    by_cases hji : j = i
    · subst hji
      rw [hi] at ho; cases ho
      exact .inl ⟨v, hy, AW_less _ (fun h hm => List.mem_cons_of_mem _ hm) HH⟩
    · obtain ⟨hjun, oj, hoj, hall⟩ := mem_ready.1 hj
      rw [ho] at hoj; cases hoj
      have hnot : ∀ e ∈ o.after, Region.binds .any e = true → e.on ≠ i := fun e he hb heq => by
        have h1 := hall e he hb
        have h0 := (mem_ready.1 hr).1
        rw [heq] at h1
        rcases Nat.lt_or_ge i listed.size with h' | h'
        · simp [h'] at h0 h1; rw [h0] at h1; cases h1
        · simp [Array.getElem?_eq_none h'] at h1
      have hap := hfree j o ho hji hjun hnot
      obtain ⟨p1, p2, p3⟩ := Oper.apart_spec hap
      have hsi := fun cs b => hsel i oi cs b hi
      have hsj := fun cs b => hsel j o cs b ho
      have hfree' : ∀ k ok, ops[k]? = some ok → k ≠ i → (listed.setIfInBounds j true).getD k true = false →
          (∀ e ∈ ok.after, Region.binds .any e = true → e.on ≠ i) → oi.apart ops ok = true := fun k ok hk hki hun hno => by
        refine hfree k ok hk hki ?_ hno
        by_cases hjk : j = k
        · subst hjk; exact hjun
        · rw [getD_set_ne true hjk] at hun; exact hun
      have hri : i ∈ Region.ready .any ops (listed.setIfInBounds j true) := ready_mono hr (Ne.symm hji)
      rcases HH.2 j (ready_mono hj hji) o ho with ⟨u, h1, h2⟩ | ⟨h1, h2, h3⟩
      · refine .inl ⟨u, h1.unput hap hsj, ih _ _ _ hfree' hri (fun L' h => (htr L' h).put hap hsi) (hy.put hap hsi) ?_⟩
        rw [Array.setIfInBounds_comm _ _ hji, ← Act.put_comm a v u p2]; exact h2
      · refine .inr ⟨by rwa [wanted_put o a oi.dst v p1] at h1, h2, fun w hw => ?_⟩
        have h4 := h3 w hw
        rw [execOp_put o hsj a oi.dst v p1] at h4
        refine h4.mono fun u w' ⟨L', ⟨k1, k2⟩, k3⟩ => ⟨L', ⟨fun h hm => k1 h (List.mem_cons_of_mem _ hm), ih _ _ _ hfree' hri (fun L'' h => (htr L'' h).put hap hsi) ?_ ?_⟩, k3⟩
        · refine (htr L' ?_).put hap hsi
          rcases k1 _ (List.mem_cons_self ..) with h | h
          · obtain ⟨e, he, hb, hei⟩ := waits_spec hi h
            exact absurd hei (hnot e he hb)
          · exact h
        · rw [Array.setIfInBounds_comm _ _ hji, ← Act.put_comm a v u p2]; exact k2

def sel (ops : Array Oper) : List Nat → List Oper
  | [] => []
  | i :: l => match ops[i]? with
    | some o => o :: sel ops l
    | none => []

/-- The order is one that serves: what reads may be taken first; what may act stands alone. -/
def seqB (ops : Array Oper) (S : List (Option Tmp)) : List Nat → Array Bool → Bool
  | [], listed => (Region.ready .any ops listed).isEmpty
  | k :: l, listed => (match ops[k]? with
      | some o => if loud o && !(barred S o.dst) then Region.ready .any ops listed == [k] else (Region.ready .any ops listed).contains k && Region.free .any ops listed k
      | none => false) && seqB ops S l (listed.setIfInBounds k true)

theorem AW_of_DW {S : List (Option Tmp)} (hsel : Region.noSelect ops = true) : ∀ (l : List Nat) {H : List Hold} {HH : Held} {F : Fr} {L : List HP} {listed : Array Bool} {a : Act}, seqB ops S l listed = true → FrOk a n F ds →
    (∀ (o : Oper) L', (∀ h ∈ H, waits ops o h.o = true ∨ Runs P h.o n h.F ds L' (is h.v L')) → ∀ h ∈ HH, waits ops o h.1 = true ∨ YI P ops h.1 h.2.1 h.2.2 L') →
    DW P ops Q n ds S H (sel ops l) F L → AW P ops Q HH l.length listed a L
  | [], H, HH, F, L, listed, a, hB, hf, _, h => ⟨by simpa [seqB] using hB, fun w hw => h a w hf hw⟩
  | k :: l, H, HH, F, L, listed, a, hB, hf, hH, h => by
    simp only [seqB, Bool.and_eq_true] at hB
    obtain ⟨hB1, hB2⟩ := hB
    cases hk : ops[k]? with
    | none => simp [hk] at hB1
    | some o =>
      simp only [hk] at hB1
      simp only [sel, hk] at h
      obtain ⟨hd, h⟩ := h
      have hns := Region.noSelect_spec hsel
      -- what reads, in its turn or alone
      have quiet : ∀ v, YI P ops o v a L → ((loud o && !(barred S o.dst)) = true ∨ AW P ops Q ((o, v, a) :: HH) l.length (listed.setIfInBounds k true) (a.put o.dst v) L) → AW P ops Q HH l.length (listed.setIfInBounds k true) (a.put o.dst v) L → AW P ops Q HH (l.length + 1) listed a L := by
        intro v hy hor hrest
        by_cases hl : (loud o && !(barred S o.dst)) = true
        · rw [if_pos (by simpa using hl)] at hB1
          simp only [beq_iff_eq] at hB1
          refine ⟨fun e => (by rw [hB1] at e; cases e), fun j hj oj hoj => ?_⟩
          rw [hB1] at hj
          obtain rfl : j = k := by simpa using hj
          rw [hk] at hoj; cases hoj
          exact .inl ⟨v, hy, hrest⟩
        · rw [if_neg (by simpa using hl)] at hB1
          simp only [Bool.and_eq_true] at hB1
          exact AW_first hk hns l.length listed a L (Region.free_spec hk hB1.2) (by simpa using hB1.1) (fun _ h => h) hy (hor.resolve_left hl)
      rcases h with ⟨hg, h⟩ | ⟨hg, ⟨v, h1, h2⟩ | ⟨v, h1, h2⟩ | ⟨hl, R, h1, h2⟩⟩
      · have hy : ∀ M, YI P ops o undef a M := fun M => .inr ⟨gOff_wanted hf hg, rfl⟩
        exact quiet undef (hy L) (.inr (AW_of_DW hsel l hB2 (hf.put hd _) (fun o' L' hh h hm => by
          rcases List.mem_cons.1 hm with rfl | hm
          · exact .inr (hy L')
          · exact hH o' L' hh h hm) h)) (AW_of_DW hsel l hB2 (hf.put hd _) hH h)
      · have hy : ∀ M, YI P ops o v a M := fun M => .inl ⟨gOn_wanted hf hg, (h1 M).plain, fun w hw => ((h1 M).run a w hf hw).mono fun v' w' ⟨L', ⟨e1, e2⟩, e3⟩ => ⟨e1, e2 ▸ e3⟩⟩
        exact quiet v (hy L) (.inr (AW_of_DW hsel l hB2 (hf.put hd _) (fun o' L' hh h hm => by
          rcases List.mem_cons.1 hm with rfl | hm
          · exact .inr (hy L')
          · exact hH o' L' hh h hm) h2)) (AW_of_DW hsel l hB2 (hf.put hd _) hH h2)
      · have hy : ∀ M, Runs P o n F ds M (is v M) → YI P ops o v a M := fun M hM => .inl ⟨gOn_wanted hf hg, hM.plain, fun w hw => (hM.run a w hf hw).mono fun v' w' ⟨L', ⟨e1, e2⟩, e3⟩ => ⟨e1, e2 ▸ e3⟩⟩
        exact quiet v (hy L h1) (.inr (AW_of_DW hsel l hB2 (hf.put hd _) (fun o' L' hh h hm => by
          rcases List.mem_cons.1 hm with rfl | hm
          · rcases hh _ (List.mem_cons_self ..) with h | h
            · exact .inl h
            · exact .inr (hy L' h)
          · exact hH o' L' (fun h hm => hh h (List.mem_cons_of_mem _ hm)) h hm) h2)) (AW_of_DW hsel l hB2 (hf.put hd _) (fun o' L' hh h hm => hH o' L' (fun h hm => hh h (List.mem_cons_of_mem _ hm)) h hm) h2)
      · have hc : (loud o && !(barred S o.dst)) = true := by rw [hl.1, hl.2]; rfl
        rw [if_pos (by simpa using hc)] at hB1
        simp only [beq_iff_eq] at hB1
        refine ⟨fun e => (by rw [hB1] at e; cases e), fun j hj oj hoj => ?_⟩
        rw [hB1] at hj
        obtain rfl : j = k := by simpa using hj
        rw [hk] at hoj; cases hoj
        exact .inr ⟨gOn_wanted hf hg, h1.plain, fun w hw => (h1.run a w hf hw).mono fun v w' ⟨L', hR, hs⟩ => ⟨L', ⟨hH o L' (h2 v L' hR).1, AW_of_DW hsel l hB2 (hf.put hd _) hH (h2 v L' hR).2⟩, hs⟩⟩

theorem wpAny_of_AW : ∀ (fuel : Nat) {H : Held} {listed : Array Bool} {a : Act} {L : List HP} {w : World}, Sat w L → AW P ops Q H fuel listed a L → wpAnyIn (Fw ro) 1 P .any ops Q fuel listed a w
  | 0, _, _, _, _, _, hw, h => ⟨h.1, h.2 _ hw⟩
  | fuel + 1, _, _, a, _, w, hw, h => by
    refine ⟨fun e => h.1 e _ hw, fun j hj => ?_⟩
    unfold wpOpIn
    cases ho : ops[j]? with
    | none => obtain ⟨_, o, h2, _⟩ := mem_ready.1 hj; rw [ho] at h2; cases h2
    | some o =>
      simp only []
      rcases h.2 j hj o ho with ⟨v, ⟨h1, h2, h3⟩ | ⟨h1, rfl⟩, h4⟩ | ⟨h1, h2, h3⟩
      · rw [if_pos h1]
        refine ⟨fun _ _ => trivial, ?_⟩
        rw [Oper.semAt_eq _ _ _ (fun c e => by rw [e] at h2; cases h2)]
        exact uponIn_of_upon (h3 w hw) fun v' w' ⟨e1, e2⟩ => by subst e1; exact wpAny_of_AW fuel e2 h4
      · rw [if_neg (by rw [h1]; exact Bool.false_ne_true)]
        exact ⟨fun _ _ => trivial, wpAny_of_AW fuel hw h4⟩
      · rw [if_pos h1]
        refine ⟨fun _ _ => trivial, ?_⟩
        rw [Oper.semAt_eq _ _ _ (fun c e => by rw [e] at h2; cases h2)]
        exact uponIn_of_upon (h3 w hw) fun v' w' ⟨L', ⟨_, k2⟩, k3⟩ => wpAny_of_AW fuel k3 k2

theorem Sat.drawn {w : World} {L : List HP} (h : Sat w L) : Sat { w with drawn := w.drawn + 1 } L := h

/-- **A region that draws its order**, by one order that serves. -/
theorem C_draw {id : Nat} {l : List Oper} (S : List (Option Tmp)) (idx : List Nat) (hm : P.follows .mixedOrders = true) (hs : Region.noSelect l.toArray = true) (hl : Nat.beq idx.length l.length = true) (hB : seqB l.toArray S idx (Array.replicate l.length false) = true)
    (h : W P ro (some ⟨[], S⟩) l.toArray Q n (sel l.toArray idx) F ds L) : C P ro (.region id l.toArray true) Q n F ds L := fun a w hf hw => by
  refine wpIn_region_any hm ?_
  have := AW_of_DW (HH := []) hs idx (by simpa using hB) hf (fun _ _ _ h hm => by cases hm) h
  have e : idx.length = l.toArray.size := by simpa using Nat.eq_of_beq_eq_true hl
  rw [e] at this
  exact wpAny_of_AW _ hw.drawn (by simpa using this)

/-! ### Turning the assertions and the frame -/
theorem W_sat {l : List Oper} {L' : List HP} (hl : ∀ w, Sat w L → Sat w L') (h : W P ro none ops Q n l F ds L') : W P ro none ops Q n l F ds L := fun a w hf hs => h a w hf (hl w hs)
theorem W_sub {l : List Oper} {F' : Fr} (hl : subF F F') (h : W P ro m ops Q n l F' ds L) : W P ro m ops Q n l F ds L := W_subL (subF_spec hl) h
theorem C_sat {c : Code} {L' : List HP} (hl : ∀ w, Sat w L → Sat w L') (h : C P ro c Q n F ds L') : C P ro c Q n F ds L := fun a w hf hs => h a w hf (hl w hs)
theorem C_sub {c : Code} {F' : Fr} (hl : subF F F') (h : C P ro c Q n F' ds L) : C P ro c Q n F ds L := fun a w hf hs => h a w (hf.sub (subF_spec hl)) hs
theorem At_sat {e : Exit} {L' : List HP} (hl : ∀ w, Sat w L → Sat w L') (h : At Q e n F ds L') : At Q e n F ds L := fun a w hf hs => h a w hf (hl w hs)
theorem At_sub {e : Exit} {F' : Fr} (hl : subF F F') (h : At Q e n F' ds L) : At Q e n F ds L := fun a w hf hs => h a w (hf.sub (subF_spec hl)) hs
theorem C_ex {α : Type} {f : α → HP} {R : List HP} {c : Code} (h : ∀ x, C P ro c Q n F ds (f x :: R)) : C P ro c Q n F ds (ex f :: R) := fun a w hf hs => by
  obtain ⟨x, hx⟩ := Sat.ex_iff.1 hs; exact h x a w hf hx
theorem C_ex_head {α : Type} {f : α → HP} {R : List HP} {c : Code} (h : ∀ x, C P ro c Q n F ds (f x :: R)) : C P ro c Q n F ds (ex f :: R) := C_ex h
theorem C_fact {p : Prop} {R : List HP} {c : Code} (h : p → C P ro c Q n F ds R) : C P ro c Q n F ds (fact p :: R) := fun a w hf hs => by
  obtain ⟨hp, hx⟩ := Sat.fact_iff.1 hs; exact h hp a w hf hx
theorem C_know {p : Prop} {c : Code} (hl : ∀ w, Sat w L → p) (h : p → C P ro c Q n F ds L) : C P ro c Q n F ds L := fun a w hf hs => h (hl w hs) a w hf hs
theorem W_know {p : Prop} {l : List Oper} (hl : ∀ w, Sat w L → p) (h : p → W P ro none ops Q n l F ds L) : W P ro none ops Q n l F ds L := fun a w hf hs => h (hl w hs) a w hf hs
theorem W_ex {α : Type} {f : α → HP} {R : List HP} {l : List Oper} (h : ∀ x, W P ro none ops Q n l F ds (f x :: R)) : W P ro none ops Q n l F ds (ex f :: R) := fun a w hf hs => by
  obtain ⟨x, hx⟩ := Sat.ex_iff.1 hs; exact h x a w hf hx

/-! ### Statements -/
theorem C_seq {x y : Code} (h : C P ro x (Exit.then (y.wpIn (Fw ro) 1 P Q) Q) n F ds L) : C P ro (.seq x y) Q n F ds L := fun a w hf hs => wpIn_seq (h a w hf hs)
theorem C_skip (h : At Q .normal n F ds L) : C P ro .skip Q n F ds L := fun a w hf hs => wpIn_skip (h a w hf hs)
theorem C_label {l : Nat} (h : At Q .normal n F ds L) : C P ro (.label l) Q n F ds L := fun a w hf hs => wpIn_label (h a w hf hs)
theorem C_exit {id : Nat} (h : At Q (.exit id) n F ds L) : C P ro (.exit id) Q n F ds L := fun a w hf hs => wpIn_exit (h a w hf hs)
theorem C_goto {id : Nat} (h : At Q (.goto id) n F ds L) : C P ro (.goto id) Q n F ds L := fun a w hf hs => wpIn_goto (h a w hf hs)
theorem C_ret (h : At Q .ret n F ds L) : C P ro .ret Q n F ds L := fun a w hf hs => wpIn_ret (h a w hf hs)
theorem C_block {id : Nat} {c : Code} (h : C P ro c (Exit.inBlock id Q) n F ds L) : C P ro (.block id c) Q n F ds L := fun a w hf hs => wpIn_block (h a w hf hs)
theorem C_cond {c : Operand} {x y : Code} {b : Bool} (hc : ev F c = some (.bool b)) (ht : b = true → C P ro x Q n F ds L) (hf : b = false → C P ro y Q n F ds L) :
    C P ro (.cond c x y) Q n F ds L := fun a w hfr hs => wpIn_cond_split (hfr.ev hc) (fun h => ht h a w hfr hs) (fun h => hf h a w hfr hs)
theorem C_true {c : Operand} {x y : Code} (hc : ev F c = some (.bool true)) (h : C P ro x Q n F ds L) : C P ro (.cond c x y) Q n F ds L := fun a w hfr hs => wpIn_cond_true (hfr.ev hc) (h a w hfr hs)
theorem C_false {c : Operand} {x y : Code} (hc : ev F c = some (.bool false)) (h : C P ro y Q n F ds L) : C P ro (.cond c x y) Q n F ds L := fun a w hfr hs => wpIn_cond_false (hfr.ev hc) (h a w hfr hs)
theorem C_region {id : Nat} {l : List Oper} (h : W P ro none l.toArray Q n l F ds L) : C P ro (.region id l.toArray false) Q n F ds L := fun a w hf hs => wpIn_region_lit (h a w hf hs)

theorem At_then_normal {y : Code} (h : C P ro y Q n F ds L) : At (Exit.then (y.wpIn (Fw ro) 1 P Q) Q) .normal n F ds L := h
theorem At_then_exit {K : Act → World → Prop} {id : Nat} (h : At Q (.exit id) n F ds L) : At (Exit.then K Q) (.exit id) n F ds L := h
theorem At_then_ret {K : Act → World → Prop} (h : At Q .ret n F ds L) : At (Exit.then K Q) .ret n F ds L := h
theorem At_then_goto {K : Act → World → Prop} {id : Nat} (h : At Q (.goto id) n F ds L) : At (Exit.then K Q) (.goto id) n F ds L := h
theorem At_block_normal {id : Nat} (h : At Q .normal n F ds L) : At (Exit.inBlock id Q) .normal n F ds L := h
theorem At_block_ret {id : Nat} (h : At Q .ret n F ds L) : At (Exit.inBlock id Q) .ret n F ds L := h
theorem At_block_exit {id : Nat} (h : At Q .normal n F ds L) : At (Exit.inBlock id Q) (.exit id) n F ds L := fun a w hf hs => by simp only [Exit.inBlock, if_true]; exact h a w hf hs
theorem At_block_other {id id' : Nat} (hne : Nat.beq id' id = false) (h : At Q (.exit id') n F ds L) : At (Exit.inBlock id Q) (.exit id') n F ds L := fun a w hf hs => by
  have : id' ≠ id := fun e => by subst e; simp at hne
  simp only [Exit.inBlock, if_neg this]; exact h a w hf hs

/-! ### Scopes of labels that nothing goes to -/
def NoGoto (Q : Exit → Act → World → Prop) : Exit → Act → World → Prop
  | .goto _, _, _ => False
  | e, a, w => Q e a w

theorem stepR_scope {b : Frame} {a : Act} {k : List Item} {cs : List Frame} {w : World} {c : Code} : step P (lone (b.atR a (.code (.scope c) :: k)) cs w) = .next (lone (b.atR a (.code c :: .inScope c :: k)) cs w) :=
  step_lone_go (by simp [stepG, stepG.exec, Frame.atR])
theorem stepR_inScope {b : Frame} {a : Act} {k : List Item} {cs : List Frame} {w : World} {c : Code} : step P (lone (b.atR a (.inScope c :: k)) cs w) = .next (lone (b.atR a k) cs w) :=
  step_lone_go (by simp [stepG, stepG.exec, Frame.atR])

theorem C_scope {c : Code} (h : C P ro c (NoGoto Q) n F ds L) : C P ro (.scope c) Q n F ds L := fun a w hf hs => by
  intro b k cs hro hb hr
  have h0 : (lone (b.atR a (.code (.scope c) :: k)) cs w).fenced P (Fw ro) := fenced_calm hb hr rfl
  obtain ⟨e, a1, w1, hq, harr⟩ := h a w hf hs b (.inScope c :: k) cs hro hb hr
  cases e with
  | normal => exact ⟨.normal, a1, w1, hq, .head h0 stepR_scope (StepsIn.trans harr (.one (fenced_calm hb hr rfl) stepR_inScope))⟩
  | exit id =>
    have hx : exitTo id (.inScope c :: k) = exitTo id k := by simp [exitTo]
    exact ⟨.exit id, a1, w1, hq, fun k' hk => .head h0 stepR_scope (harr.1 k' (by rw [hx]; exact hk)),
      fun hr' hk => let ⟨k1, h1, h2⟩ := harr.2 hr' (by rw [hx]; exact hk); ⟨k1, h1, .head h0 stepR_scope h2⟩⟩
  | goto l => exact hq.elim
  | ret => exact ⟨_, a1, w1, hq, .of_steps (.one h0 stepR_scope) harr⟩
  | panic ch => exact ⟨_, a1, w1, hq, .of_steps (.one h0 stepR_scope) harr⟩
  | outgrown => exact ⟨_, a1, w1, hq, .of_steps (b := b) (k := k) (cs := cs) (e := .outgrown) (.one h0 stepR_scope) harr⟩
theorem At_scope_normal (h : At Q .normal n F ds L) : At (NoGoto Q) .normal n F ds L := h
theorem At_scope_ret (h : At Q .ret n F ds L) : At (NoGoto Q) .ret n F ds L := h
theorem At_scope_exit {id : Nat} (h : At Q (.exit id) n F ds L) : At (NoGoto Q) (.exit id) n F ds L := h

/-! ### Loops -/
/-- Behind a round: the invariant anew, at a smaller number. -/
def Again (inv : Nat → Fr → List HP → Prop) (n : Nat) (ds : List Deferred) (m : Nat) (Q : Exit → Act → World → Prop) : Exit → Act → World → Prop :=
  Exit.then (fun a w => ∃ m' F' L', m' < m ∧ inv m' F' L' ∧ FrOk a n F' ds ∧ Sat w L') Q

theorem C_loopS {c : Code} (inv : Nat → Fr → List HP → Prop) (m0 : Nat) (F0 : Fr) (L0 : List HP) (h0 : inv m0 F0 L0) (hF : ∀ t v, look F0 t = some v → look F t = some v) (hL : ∀ w, Sat w L → Sat w L0)
    (round : ∀ m F' L', inv m F' L' → C P ro c (Again inv n ds m Q) n F' ds L') : C P ro (.loop c) Q n F ds L := fun a w hf hs => by
  have key : ∀ (I : Nat → Act → World → Prop), (∀ m a w, I m a w → c.wpIn (Fw ro) 1 P (Exit.then (fun a w => ∃ m', m' < m ∧ I m' a w) Q) a w) → ∀ m a w, I m a w → (Code.loop c).wpIn (Fw ro) 1 P Q a w := by
    intro I hr m a w hI
    intro b k cs hro hb hroom
    have inner : ∀ j a w, I j a w → ∃ e a' w', Q e a' w' ∧ ArrivesIn (Machine.fenced P (Fw ro)) P (lone (b.atR a (.code c :: .inLoop c :: k)) cs w) b k cs e a' w' := by
      intro j
      induction j using Nat.strongRecOn with
      | _ j ih =>
        intro a w hI
        obtain ⟨e, a1, w1, hq, harr⟩ := hr j a w hI b (.inLoop c :: k) cs hro hb hroom
        cases e with
        | normal =>
          obtain ⟨m', hlt, hI1⟩ := hq
          obtain ⟨e2, a2, w2, hq2, harr2⟩ := ih m' hlt a1 w1 hI1
          exact ⟨e2, a2, w2, hq2, .of_steps (StepsIn.trans harr (.one (fenced_calm hb hroom rfl) stepR_inLoop)) harr2⟩
        | exit id => exact ⟨_, a1, w1, hq, .pass (x := .inLoop c) rfl (fun _ _ => .inl (by simp)) harr⟩
        | goto l => exact ⟨_, a1, w1, hq, .pass (x := .inLoop c) rfl (fun _ _ => .inl (by simp)) harr⟩
        | ret => exact ⟨_, a1, w1, hq, .pass (x := .inLoop c) rfl (fun _ _ => .inl (by simp)) harr⟩
        | panic ch => exact ⟨_, a1, w1, hq, .pass (x := .inLoop c) rfl (fun _ _ => .inl (by simp)) harr⟩
        | outgrown => exact ⟨_, a1, w1, hq, .pass (x := .inLoop c) rfl (fun _ _ => .inl (by simp)) harr⟩
    obtain ⟨e, a', w', hq, harr⟩ := inner m a w hI
    exact ⟨e, a', w', hq, .of_steps (.one (fenced_calm hb hroom rfl) stepR_loop) harr⟩
  refine key (fun m a w => ∃ F' L', inv m F' L' ∧ FrOk a n F' ds ∧ Sat w L') ?_ m0 a w ⟨F0, L0, h0, hf.sub hF, hL w hs⟩
  rintro m a w ⟨F', L', hi, hfr, hst⟩
  refine wpIn_mono (round m F' L' hi a w hfr hst) ?_
  intro e a w hq
  cases e with
  | normal => obtain ⟨m', F'', L'', h1, h2, h3, h4⟩ := hq; exact ⟨m', h1, F'', L'', h2, h3, h4⟩
  | exit id => exact hq
  | goto l => exact hq
  | ret => exact hq
  | panic ch => exact hq
  | outgrown => exact hq

theorem C_loop {c : Code} (inv : Nat → Fr → List HP → Prop) (m0 : Nat) (F0 : Fr) (L0 : List HP) (h0 : inv m0 F0 L0) (hF : subF F F0) (hL : ∀ w, Sat w L → Sat w L0)
    (round : ∀ m F' L', inv m F' L' → C P ro c (Again inv n ds m Q) n F' ds L') : C P ro (.loop c) Q n F ds L := C_loopS inv m0 F0 L0 h0 (subF_spec hF) hL round
theorem At_againS {inv : Nat → Fr → List HP → Prop} {m : Nat} (m' : Nat) (F' : Fr) (L' : List HP) (hlt : m' < m) (hi : inv m' F' L') (hF : ∀ t v, look F' t = some v → look F t = some v) (hL : ∀ w, Sat w L → Sat w L') :
    At (Again inv n ds m Q) .normal n F ds L := fun _ w hf hs => ⟨m', F', L', hlt, hi, hf.sub hF, hL w hs⟩
theorem At_again {inv : Nat → Fr → List HP → Prop} {m : Nat} (m' : Nat) (F' : Fr) (L' : List HP) (hlt : m' < m) (hi : inv m' F' L') (hF : subF F F') (hL : ∀ w, Sat w L → Sat w L') :
    At (Again inv n ds m Q) .normal n F ds L := At_againS m' F' L' hlt hi (subF_spec hF) hL
theorem At_again_exit {inv : Nat → Fr → List HP → Prop} {m : Nat} {id : Nat} (h : At Q (.exit id) n F ds L) : At (Again inv n ds m Q) (.exit id) n F ds L := h
theorem At_again_ret {inv : Nat → Fr → List HP → Prop} {m : Nat} (h : At Q .ret n F ds L) : At (Again inv n ds m Q) .ret n F ds L := h

end

/-! ### Functions -/
/-- Called with these, under these assertions, a function returns, and R holds of its result and of the assertions behind it. -/
structure Called (P : Program) (f : FuncId) (args : List Value) (L : List HP) (R : Value → List HP → Prop) : Prop where
  out : ∀ w, Sat w L → Calls P f args.toArray w fun e w' => ∃ v, e = .returned v ∧ ∃ L', R v L' ∧ Sat w' L'

def argsF : Nat → List Value → Fr
  | _, [] => []
  | i, v :: vs => (i, v) :: argsF (i + 1) vs

/-- What a function's body must come to. -/
def Ret (P : Program) (fn : Func) (R : Value → List HP → Prop) : Exit → Act → World → Prop :=
  bodyPost P fn fun e w' => ∃ v, e = .returned v ∧ ∃ L', R v L' ∧ Sat w' L'

theorem look_argsF : ∀ (vs : List Value) (i t : Nat) (v : Value), look (argsF i vs) t = some v → i ≤ t ∧ vs[t - i]? = some v
  | [], _, _, _, h => by cases h
  | u :: vs, i, t, v, h => by
    simp only [argsF, look] at h
    cases hb : Nat.beq i t with
    | true =>
      rw [hb] at h; cases h
      have e := Nat.eq_of_beq_eq_true hb
      subst e; simp
    | false =>
      rw [hb] at h
      obtain ⟨h1, h2⟩ := look_argsF vs (i + 1) t v h
      refine ⟨by omega, ?_⟩
      rw [show t - i = (t - (i + 1)) + 1 by omega, List.getElem?_cons_succ]; exact h2

theorem FrOk_args (vs : List Value) (n : Nat) (hn : vs.length ≤ n) : FrOk { tmps := vs.toArray ++ Array.replicate (n - vs.toArray.size) undef, defers := [] } n (argsF 0 vs) [] := by
  refine ⟨by simp; omega, rfl, fun t v h => ?_⟩
  obtain ⟨_, h2⟩ := look_argsF vs 0 t v h
  have hlt := (List.getElem?_eq_some_iff.1 h2).1
  rw [Array.getElem?_append_left (by simpa using hlt)]
  simpa using h2

theorem Called_body {P : Program} {f : FuncId} {fn : Func} {c : Code} {args : List Value} {L : List HP} {R : Value → List HP → Prop} {n : Nat}
    (hf : P.funcs[f]? = some fn) (hb : fn.body = some c) (hn : fn.ntmps = n) (hl : Nat.ble args.length n = true)
    (h : C P none c (Ret P fn R) n (argsF 0 args) [] L) : Called P f args L R := by
  refine ⟨fun w hs => ?_⟩
  subst hn
  rw [← callsIn_wide (n := 1)]
  exact callsIn_of_wp hf hb trivial (h _ w (FrOk_args args _ (Nat.le_of_ble_eq_true hl)) hs)

section
variable {P : Program} {f : FuncId} {fn : Func} {c : Code} {L : List HP} {R : Value → List HP → Prop} {n : Nat} {u0 u1 u2 u3 u4 u5 u6 : Value}
theorem Fn0 (hf : P.funcs[f]? = some fn) (hb : fn.body = some c) (hn : fn.ntmps = n) (h : C P none c (Ret P fn R) n [] [] L) : Called P f [] L R := Called_body hf hb hn (by simp) h
theorem Fn1 (hf : P.funcs[f]? = some fn) (hb : fn.body = some c) (hn : fn.ntmps = n) (hl : Nat.ble 1 n = true) (h : C P none c (Ret P fn R) n [(0, u0)] [] L) : Called P f [u0] L R := Called_body hf hb hn hl h
theorem Fn2 (hf : P.funcs[f]? = some fn) (hb : fn.body = some c) (hn : fn.ntmps = n) (hl : Nat.ble 2 n = true) (h : C P none c (Ret P fn R) n [(0, u0), (1, u1)] [] L) : Called P f [u0, u1] L R := Called_body hf hb hn hl h
theorem Fn3 (hf : P.funcs[f]? = some fn) (hb : fn.body = some c) (hn : fn.ntmps = n) (hl : Nat.ble 3 n = true) (h : C P none c (Ret P fn R) n [(0, u0), (1, u1), (2, u2)] [] L) : Called P f [u0, u1, u2] L R := Called_body hf hb hn hl h
theorem Fn4 (hf : P.funcs[f]? = some fn) (hb : fn.body = some c) (hn : fn.ntmps = n) (hl : Nat.ble 4 n = true) (h : C P none c (Ret P fn R) n [(0, u0), (1, u1), (2, u2), (3, u3)] [] L) : Called P f [u0, u1, u2, u3] L R := Called_body hf hb hn hl h
theorem Fn5 (hf : P.funcs[f]? = some fn) (hb : fn.body = some c) (hn : fn.ntmps = n) (hl : Nat.ble 5 n = true) (h : C P none c (Ret P fn R) n [(0, u0), (1, u1), (2, u2), (3, u3), (4, u4)] [] L) : Called P f [u0, u1, u2, u3, u4] L R := Called_body hf hb hn hl h
theorem Fn6 (hf : P.funcs[f]? = some fn) (hb : fn.body = some c) (hn : fn.ntmps = n) (hl : Nat.ble 6 n = true) (h : C P none c (Ret P fn R) n [(0, u0), (1, u1), (2, u2), (3, u3), (4, u4), (5, u5)] [] L) : Called P f [u0, u1, u2, u3, u4, u5] L R := Called_body hf hb hn hl h
theorem Fn7 (hf : P.funcs[f]? = some fn) (hb : fn.body = some c) (hn : fn.ntmps = n) (hl : Nat.ble 7 n = true) (h : C P none c (Ret P fn R) n [(0, u0), (1, u1), (2, u2), (3, u3), (4, u4), (5, u5), (6, u6)] [] L) : Called P f [u0, u1, u2, u3, u4, u5, u6] L R := Called_body hf hb hn hl h
end

theorem At_ret {P : Program} {fn : Func} {R : Value → List HP → Prop} {n : Nat} {F : Fr} {L : List HP} {v : Value} {e : Exit} (he : e = .ret ∨ e = .normal)
    (hres : ∀ a w, FrOk a n F [] → Sat w L → (results fn a.tmps).run P w = .ok v w) {L' : List HP} (hR : R v L') (hL : ∀ w, Sat w L → Sat w L') : At (Ret P fn R) e n F [] L := fun a w hf hs => by
  rcases he with rfl | rfl <;> exact ⟨hf.defers, v, hres a w hf hs, v, rfl, L', hR, hL w hs⟩

/-- One result, in a slot. -/
theorem At_ret1 {P : Program} {fn : Func} {R : Value → List HP → Prop} {n : Nat} {F : Fr} {L : List HP} {v : Value} {t : Tmp} {e : Exit} (he : e = .ret ∨ e = .normal)
    (h : fn.results = #[.tmp t]) (hv : look F t = some v) {L' : List HP} (hR : R v L') (hL : ∀ w, Sat w L → Sat w L') : At (Ret P fn R) e n F [] L :=
  At_ret he (fun a w hf _ => by simp [results, h, Array.getD_eq_getD_getElem?, hf.slot _ _ hv]) hR hL

theorem At_ret0 {P : Program} {fn : Func} {R : Value → List HP → Prop} {n : Nat} {F : Fr} {L : List HP} {e : Exit} (he : e = .ret ∨ e = .normal)
    (h : fn.results = #[]) {L' : List HP} (hR : R (.tuple #[]) L') (hL : ∀ w, Sat w L → Sat w L') : At (Ret P fn R) e n F [] L :=
  At_ret he (fun a w _ _ => by simp [results, h]) hR hL

theorem At_ret2 {P : Program} {fn : Func} {R : Value → List HP → Prop} {n : Nat} {F : Fr} {L : List HP} {v v' : Value} {t t' : Tmp} {e : Exit} (he : e = .ret ∨ e = .normal)
    (h : fn.results = #[.tmp t, .tmp t']) (hv : look F t = some v) (hv' : look F t' = some v') {L' : List HP} (hR : R (.tuple #[v, v']) L') (hL : ∀ w, Sat w L → Sat w L') : At (Ret P fn R) e n F [] L :=
  At_ret he (fun a w hf _ => by simp [results, h, Array.getD_eq_getD_getElem?, hf.slot _ _ hv, hf.slot _ _ hv']) hR hL

theorem C_intro {P : Program} {ro : Option Nat} {c : Code} {Q : Exit → Act → World → Prop} {n : Nat} {F : Fr} {ds : List Deferred} {L : List HP} (h : ∀ a w, FrOk a n F ds → Sat w L → c.wpIn (Fw ro) 1 P Q a w) : C P ro c Q n F ds L := h
theorem C_elim {P : Program} {ro : Option Nat} {c : Code} {Q : Exit → Act → World → Prop} {n : Nat} {F : Fr} {ds : List Deferred} {L : List HP} (h : C P ro c Q n F ds L) : ∀ a w, FrOk a n F ds → Sat w L → c.wpIn (Fw ro) 1 P Q a w := h
theorem At_intro {Q : Exit → Act → World → Prop} {e : Exit} {n : Nat} {F : Fr} {ds : List Deferred} {L : List HP} (h : ∀ a w, FrOk a n F ds → Sat w L → Q e a w) : At Q e n F ds L := h
theorem At_elim {Q : Exit → Act → World → Prop} {e : Exit} {n : Nat} {F : Fr} {ds : List Deferred} {L : List HP} (h : At Q e n F ds L) : ∀ a w, FrOk a n F ds → Sat w L → Q e a w := h
attribute [irreducible] W C At

end Go.Sep
