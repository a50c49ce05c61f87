/- mutex: the document's answer: how it lies, and its small functions. Conditions: none. -/
import Derived.Test.YtoaaoijdknbanaaMutH
set_option linter.all false
set_option linter.deprecated false
namespace Go.Proofs.Ytoaaoijdknbanaa
open Go.Sep
variable [B0 : Base]
structure RT where
  own : List Int
  fl : List Bool
  fo : List Int
  at' : List Int
def gi (l : List Int) (i : Nat) : Int := l.getD i 0
def gb (l : List Bool) (i : Nat) : Bool := l.getD i false
theorem gi_get {l : List Int} {i : Nat} (h : i < l.length) : l[i]? = some (gi l i) := by
  unfold gi; rw [List.getD_eq_getElem?_getD, List.getElem?_eq_getElem h]; rfl
theorem gb_get {l : List Bool} {i : Nat} (h : i < l.length) : l[i]? = some (gb l i) := by
  unfold gb; rw [List.getD_eq_getElem?_getD, List.getElem?_eq_getElem h]; rfl
theorem gi_mem {l : List Int} {i : Nat} (h : i < l.length) : gi l i ∈ l := List.mem_of_getElem? (gi_get h)
theorem gi_set {l : List Int} {i j : Nat} {x : Int} (h : i < l.length) : gi (l.set i x) j = if i = j then x else gi l j := by
  unfold gi
  rw [List.getD_eq_getElem?_getD, List.getD_eq_getElem?_getD, List.getElem?_set]
  by_cases e : i = j
  · subst e; simp [h]
  · simp [e]
def firstS (fo at' : List Int) (m : Int) (no : List Bool) (out : Int) (i : Nat) : Int := if gi fo i ≠ m ∨ gb no i = true then out else if out < 0 ∨ gi at' i < gi at' out.toNat then (i : Int) else out
def firstK (fo at' : List Int) (m : Int) (no : List Bool) (k : Nat) : Int := (List.range k).foldl (firstS fo at' m no) (-1)
def firstR (fo at' : List Int) (m : Int) (no : List Bool) : Int := firstK fo at' m no 64
theorem firstK_succ (fo at' : List Int) (m : Int) (no : List Bool) (k : Nat) : firstK fo at' m no (k + 1) = firstS fo at' m no (firstK fo at' m no k) k := by
  unfold firstK; rw [List.range_succ, List.foldl_append]; rfl
theorem firstK_b (fo at' : List Int) (m : Int) (no : List Bool) (k : Nat) : -1 ≤ firstK fo at' m no k ∧ firstK fo at' m no k < k := by
  induction k with
  | zero => exact ⟨Int.le_refl _, show (-1 : Int) < 0 by decide⟩
  | succ k ih =>
    rw [firstK_succ]
    unfold firstS
    split
    · omega
    · split <;> omega
def no0 : List Bool := List.replicate 64 false
def handR (X : RT) (k : Nat) (f : Bool) : Int × RT := (firstR X.fo X.at' k no0, ⟨X.own.set k (firstR X.fo X.at' k no0), X.fl.set k f, if 0 ≤ firstR X.fo X.at' k no0 then X.fo.set (firstR X.fo X.at' k no0).toNat (-1) else X.fo, X.at'⟩)
def lockR (X : RT) (m n t : Int) : (Bool × Int) × RT :=
  if mayB X.own.length m n t = false then ((false, 10), X) else
  if 0 ≤ gi X.fo n.toNat then ((false, 16), X) else
  if gi X.own m.toNat = n then ((false, 15), X) else
  if 0 ≤ gi X.own m.toNat then ((false, 0), { X with fo := X.fo.set n.toNat m, at' := X.at'.set n.toNat t }) else
  ((true, 0), { X with own := X.own.set m.toNat n })
def tryR (X : RT) (m n : Int) : Int × RT :=
  if mayB X.own.length m n 0 = true ∧ gi X.fo n.toNat < 0 ∧ 0 ≤ gi X.own m.toNat ∧ gi X.own m.toNat ≠ n then (20, X) else ((lockR X m n 0).1.2, (lockR X m n 0).2)
def unlockR (X : RT) (m n : Int) : (Int × Int) × RT :=
  if mayB X.own.length m n 0 = false then ((0, 10), X) else
  if gi X.own m.toNat ≠ n then ((0, 19), X) else (((handR X m.toNat false).1, 0), (handR X m.toNat false).2)
def rekeyR (X : RT) (n t : Int) : Int × RT :=
  if mayB X.own.length 0 n t = false then (10, X) else
  if gi X.fo n.toNat < 0 then (14, X) else (0, { X with at' := X.at'.set n.toNat t })
def leaveR (X : RT) (n : Int) : Int × RT :=
  if mayB X.own.length 0 n 0 = false then (10, X) else
  if gi X.fo n.toNat < 0 then (14, X) else (0, { X with fo := X.fo.set n.toNat (-1) })
def quitRS (n : Int) (s : (List Int × List Int) × RT) (m : Nat) : (List Int × List Int) × RT :=
  if gi s.2.own m = n then ((s.1.1 ++ [(m : Int)], s.1.2 ++ [(handR s.2 m true).1]), (handR s.2 m true).2) else s
def quitRK (X : RT) (n : Int) (k : Nat) : (List Int × List Int) × RT := (List.range k).foldl (quitRS n) (([], []), { X with fo := X.fo.set n.toNat (-1) })
theorem quitRK_succ (X : RT) (n : Int) (k : Nat) : quitRK X n (k + 1) = quitRS n (quitRK X n k) k := by
  unfold quitRK; rw [List.range_succ, List.foldl_append]; rfl
def quitR (X : RT) (n : Int) : ((List Int × List Int) × Int) × RT :=
  if mayB X.own.length 0 n 0 = false then ((([], []), 10), X) else (((quitRK X n X.own.length).1, 0), (quitRK X n X.own.length).2)
structure WfR (X : RT) : Prop where
  l1 : X.fl.length = X.own.length
  l2 : X.fo.length = 64
  l3 : X.at'.length = 64
  pos : 1 ≤ X.own.length
  few : X.own.length ≤ 32
  ob : ∀ o ∈ X.own, -1 ≤ o ∧ o < 64
  fb : ∀ f ∈ X.fo, -1 ≤ f ∧ f < X.own.length
theorem mayB_iff {N : Nat} {m n t : Int} : mayB N m n t = true ↔ 0 ≤ m ∧ m < N ∧ 0 ≤ n ∧ n < 64 ∧ 0 ≤ t ∧ t < 1099511627776 := by
  unfold mayB
  simp only [Bool.and_eq_true, decide_eq_true_eq]
  constructor
  · rintro ⟨⟨⟨a, b⟩, c, d⟩, e, f⟩; exact ⟨a, b, c, d, e, f⟩
  · rintro ⟨a, b, c, d, e, f⟩; exact ⟨⟨⟨a, b⟩, c, d⟩, e, f⟩
theorem WfR.ownSet {X : RT} (h : WfR X) {k : Nat} {o : Int} (ho : -1 ≤ o ∧ o < 64) : WfR { X with own := X.own.set k o } where
  l1 := by rw [List.length_set]; exact h.l1
  l2 := h.l2
  l3 := h.l3
  pos := by rw [List.length_set]; exact h.pos
  few := by rw [List.length_set]; exact h.few
  ob := fun x hx => by
    rcases List.mem_or_eq_of_mem_set hx with hx | rfl
    · exact h.ob x hx
    · exact ho
  fb := by rw [List.length_set]; exact h.fb
theorem WfR.foSet {X : RT} (h : WfR X) {k : Nat} {o : Int} (ho : -1 ≤ o ∧ o < X.own.length) : WfR { X with fo := X.fo.set k o } where
  l1 := h.l1
  l2 := by rw [List.length_set]; exact h.l2
  l3 := h.l3
  pos := h.pos
  few := h.few
  ob := h.ob
  fb := fun x hx => by
    rcases List.mem_or_eq_of_mem_set hx with hx | rfl
    · exact h.fb x hx
    · exact ho
theorem WfR.flSet {X : RT} (h : WfR X) {k : Nat} {o : Bool} : WfR { X with fl := X.fl.set k o } where
  l1 := by rw [List.length_set]; exact h.l1
  l2 := h.l2
  l3 := h.l3
  pos := h.pos
  few := h.few
  ob := h.ob
  fb := h.fb
theorem WfR.atSet {X : RT} (h : WfR X) {k : Nat} {o : Int} : WfR { X with at' := X.at'.set k o } where
  l1 := h.l1
  l2 := h.l2
  l3 := by rw [List.length_set]; exact h.l3
  pos := h.pos
  few := h.few
  ob := h.ob
  fb := h.fb
theorem WfR.hand {X : RT} (h : WfR X) (k : Nat) (f : Bool) : WfR (handR X k f).2 := by
  have hb := firstK_b X.fo X.at' k no0 64
  have he : firstR X.fo X.at' k no0 = firstK X.fo X.at' k no0 64 := rfl
  unfold handR
  rw [he]
  have h1 := (h.ownSet (k := k) (o := firstK X.fo X.at' k no0 64) ⟨hb.1, by omega⟩).flSet (k := k) (o := f)
  dsimp only at h1 ⊢
  split
  · exact h1.foSet (k := (firstK X.fo X.at' k no0 64).toNat) (o := -1) ⟨Int.le_refl _, by omega⟩
  · exact h1
theorem hand_len (X : RT) (k : Nat) (f : Bool) : (handR X k f).2.own.length = X.own.length := by unfold handR; simp
theorem WfR.lock {X : RT} (h : WfR X) (m n t : Int) : WfR (lockR X m n t).2 := by
  unfold lockR
  by_cases hm : mayB X.own.length m n t = false
  · rw [if_pos hm]; exact h
  · rw [if_neg hm]
    obtain ⟨a, b, c, d, -⟩ := mayB_iff.1 (by simpa using hm)
    split
    · exact h
    split
    · exact h
    split
    · exact (h.foSet (k := n.toNat) (o := m) ⟨by omega, b⟩).atSet
    · exact h.ownSet ⟨by omega, d⟩
theorem WfR.try {X : RT} (h : WfR X) (m n : Int) : WfR (tryR X m n).2 := by
  unfold tryR
  split
  · exact h
  · exact h.lock m n 0
theorem WfR.unlock {X : RT} (h : WfR X) (m n : Int) : WfR (unlockR X m n).2 := by
  unfold unlockR
  split
  · exact h
  split
  · exact h
  · exact h.hand _ _
theorem WfR.rekey {X : RT} (h : WfR X) (n t : Int) : WfR (rekeyR X n t).2 := by
  unfold rekeyR
  split
  · exact h
  split
  · exact h
  · exact h.atSet
theorem WfR.leave {X : RT} (h : WfR X) (n : Int) : WfR (leaveR X n).2 := by
  unfold leaveR
  split
  · exact h
  split
  · exact h
  · exact h.foSet ⟨Int.le_refl _, by omega⟩
theorem WfR.quitK {X : RT} (h : WfR X) (n : Int) (k : Nat) : WfR (quitRK X n k).2 ∧ (quitRK X n k).2.own.length = X.own.length ∧ (quitRK X n k).1.1.length ≤ k ∧ (quitRK X n k).1.2.length = (quitRK X n k).1.1.length := by
  induction k with
  | zero => exact ⟨h.foSet ⟨Int.le_refl _, by omega⟩, rfl, Nat.le_refl _, rfl⟩
  | succ k ih =>
    rw [quitRK_succ]
    obtain ⟨a, b, c, d⟩ := ih
    unfold quitRS
    split
    · refine ⟨a.hand _ _, ?_, ?_, ?_⟩
      · show (handR _ k true).2.own.length = _
        rw [hand_len, b]
      · show (_ ++ [_]).length ≤ _
        rw [List.length_append]; simp only [List.length_singleton]; omega
      · show (_ ++ [_]).length = (_ ++ [_]).length
        rw [List.length_append, List.length_append]; simp only [List.length_singleton]; omega
    · exact ⟨a, b, by omega, d⟩
theorem WfR.quit {X : RT} (h : WfR X) (n : Int) : WfR (quitR X n).2 := by
  unfold quitR
  split
  · exact h
  · exact (h.quitK n _).1
/-! ### As it lies -/
def ioE (x : Int) : List Value := [int x]
def boE (x : Bool) : List Value := [.bool x]
theorem io_one (x : Int) : (ioE x).all Value.oneCell' = true := rfl
theorem bo_one (x : Bool) : (boE x).all Value.oneCell' = true := rfl
def rcl (ov fv : Value) (fo at' : List Int) : List Value := ov :: fv :: (fo.map int ++ at'.map int)
structure RtOk (X : RT) (ov fv : Value) : Prop where
  wf : WfR X
  ov1 : IsSl ov X.own.length
  fv1 : IsSl fv X.fl.length
def rtb (b : Nat) (X : RT) : HP := ex fun p : Value × Value => all [fact (RtOk X p.1 p.2), pt b 84 (rcl p.1 p.2 X.fo X.at'), sl 3 1 p.1 (X.own.map ioE), sl 4 1 p.2 (X.fl.map boE)]
theorem rtb_fold {b : Nat} {X : RT} {ov fv : Value} (h : RtOk X ov fv) {w : World} {R : List HP} (hs : Sat w (pt b 84 (rcl ov fv X.fo X.at') :: sl 3 1 ov (X.own.map ioE) :: sl 4 1 fv (X.fl.map boE) :: R)) : Sat w (rtb b X :: R) :=
  Sat.ex_iff.2 ⟨(ov, fv), Sat.all_iff.2 (Sat.fact_iff.2 ⟨h, hs⟩)⟩
theorem C_rtb {P : Program} {ro : Option Nat} {Q : Exit → Act → World → Prop} {n : Nat} {F : Fr} {ds : List Deferred} {R : List HP} {cd : Code} {b : Nat} {X : RT}
    (h : ∀ ov fv, RtOk X ov fv → C P ro cd Q n F ds (pt b 84 (rcl ov fv X.fo X.at') :: sl 3 1 ov (X.own.map ioE) :: sl 4 1 fv (X.fl.map boE) :: R)) : C P ro cd Q n F ds (rtb b X :: R) := by
  unfold rtb
  refine C_ex fun x => ?_
  refine C_sat (fun w h => Sat.all_iff.1 h) ?_
  exact C_fact fun hok => h x.1 x.2 hok
theorem Rd.own {b : Nat} {ov fv : Value} {fo at' : List Int} {L : List HP} : Rd (pt b 84 (rcl ov fv fo at') :: L) ⟨b, 0 + 0, none⟩ ov := Rd.pt rfl
theorem Rd.fl {b : Nat} {ov fv : Value} {fo at' : List Int} {L : List HP} : Rd (pt b 84 (rcl ov fv fo at') :: L) ⟨b, 0 + 1, none⟩ fv := Rd.pt rfl
theorem rcl_fo {ov fv : Value} {fo at' : List Int} {i : Nat} (h : i < fo.length) : (rcl ov fv fo at')[2 + i]? = some (int (gi fo i)) := by
  unfold rcl
  rw [show 2 + i = i + 1 + 1 by omega, List.getElem?_cons_succ, List.getElem?_cons_succ, List.getElem?_append_left (by simpa using h), List.getElem?_map, gi_get h]; rfl
theorem rcl_at {ov fv : Value} {fo at' : List Int} (hl : fo.length = 64) {i : Nat} (h : i < at'.length) : (rcl ov fv fo at')[66 + i]? = some (int (gi at' i)) := by
  unfold rcl
  rw [show 66 + i = (64 + i) + 1 + 1 by omega, List.getElem?_cons_succ, List.getElem?_cons_succ, List.getElem?_append_right (by simp; omega), List.length_map, hl, show 64 + i - 64 = i by omega, List.getElem?_map, gi_get h]; rfl
theorem Rd.fo {b : Nat} {ov fv : Value} {fo at' : List Int} {L : List HP} {i : Nat} (h : i < fo.length) : Rd (pt b 84 (rcl ov fv fo at') :: L) ⟨b, 0 + 2 + i * 1, none⟩ (int (gi fo i)) :=
  Rd.pt (by rw [show 0 + 2 + i * 1 = 2 + i by omega]; exact rcl_fo h)
theorem Rd.at {b : Nat} {ov fv : Value} {fo at' : List Int} {L : List HP} {i : Nat} (hl : fo.length = 64) (h : i < at'.length) : Rd (pt b 84 (rcl ov fv fo at') :: L) ⟨b, 0 + 66 + i * 1, none⟩ (int (gi at' i)) :=
  Rd.pt (by rw [show 0 + 66 + i * 1 = 66 + i by omega]; exact rcl_at hl h)
theorem St.fo {b : Nat} {ov fv : Value} {fo at' : List Int} {L : List HP} {i : Nat} {x : Int} (h : i < fo.length) : St (pt b 84 (rcl ov fv fo at') :: L) ⟨b, 0 + 2 + i * 1, none⟩ (int x) (pt b 84 (rcl ov fv (fo.set i x) at') :: L) := by
  have e : (rcl ov fv fo at').set (2 + i) (int x) = rcl ov fv (fo.set i x) at' := by
    unfold rcl
    rw [show 2 + i = i + 1 + 1 by omega, List.set_cons_succ, List.set_cons_succ, List.set_append_left _ _ (by simpa using h), List.map_set]
  rw [show 0 + 2 + i * 1 = 2 + i by omega]
  exact .pt' (by rw [Nat.blt_eq]; exact (List.getElem?_eq_some_iff.1 (rcl_fo (ov := ov) (fv := fv) (at' := at') h)).1) e
theorem St.at {b : Nat} {ov fv : Value} {fo at' : List Int} {L : List HP} {i : Nat} {x : Int} (hl : fo.length = 64) (h : i < at'.length) : St (pt b 84 (rcl ov fv fo at') :: L) ⟨b, 0 + 66 + i * 1, none⟩ (int x) (pt b 84 (rcl ov fv fo (at'.set i x)) :: L) := by
  have e : (rcl ov fv fo at').set (66 + i) (int x) = rcl ov fv fo (at'.set i x) := by
    unfold rcl
    rw [show 66 + i = (64 + i) + 1 + 1 by omega, List.set_cons_succ, List.set_cons_succ, List.set_append_right _ _ (by simp; omega), List.length_map, hl, show 64 + i - 64 = i by omega, List.map_set]
  rw [show 0 + 66 + i * 1 = 66 + i by omega]
  exact .pt' (by rw [Nat.blt_eq]; exact (List.getElem?_eq_some_iff.1 (rcl_at (ov := ov) (fv := fv) hl h)).1) e
end Go.Proofs.Ytoaaoijdknbanaa
