/- prog: Holds. Conditions: none. -/
import Derived.Test.YtelmljbblklblaaDoorPrL
set_option linter.all false
set_option linter.deprecated false
namespace Go.Proofs.YtelmljbblklblaaDoor
open Go.Sep
variable [B0 : Base]
/-- Rows of numbers, each of an array of its own. -/
def rowsH : List Value → List (List Int) → HP
  | u :: us, h :: hs => all [sl 3 1 u (h.map iE), rowsH us hs]
  | _, _ => emp
theorem rows_snoc {us : List Value} {hs : List (List Int)} {u : Value} {h : List Int} {w : World} {R : List HP} (he : us.length = hs.length) (hw : Sat w (rowsH us hs :: sl 3 1 u (h.map iE) :: R)) : Sat w (rowsH (us ++ [u]) (hs ++ [h]) :: R) := by
  induction us generalizing hs w R with
  | nil =>
    cases hs with
    | nil =>
      refine Sat.all_iff.2 ?_
      exact (hw.perm (.swap ..))
    | cons _ _ => simp at he
  | cons u' us ih =>
    cases hs with
    | nil => simp at he
    | cons h' hs =>
      have h1 : Sat w (sl 3 1 u' (h'.map iE) :: rowsH us hs :: sl 3 1 u (h.map iE) :: R) := Sat.all_iff.1 hw
      have h2 := ih (hs := hs) (w := w) (R := sl 3 1 u' (h'.map iE) :: R) (by simpa using he) (Sel.sat (by (focus ((repeat (first | exact Sel.refl | (apply Sel.cons; (focus ((repeat (first | exact Del.here | apply Del.there)); done))) | refine Sel.drop ?_)); done))) h1)
      refine Sat.all_iff.2 ?_
      exact (h2.perm (.swap ..))
theorem rows_sl {us : List Value} {hs : List (List Int)} {w : World} {R : List HP} (hw : Sat w (rowsH us hs :: R)) {i : Nat} {u : Value} {h : List Int} (hu : us[i]? = some u) (hh : hs[i]? = some h) : ∃ X, Sat w (sl 3 1 u (h.map iE) :: X) := by
  induction us generalizing hs w R i with
  | nil => simp at hu
  | cons u' us ih =>
    cases hs with
    | nil => simp at hh
    | cons h' hs =>
      have h1 : Sat w (sl 3 1 u' (h'.map iE) :: rowsH us hs :: R) := Sat.all_iff.1 hw
      cases i with
      | zero =>
        simp at hu hh
        subst hu; subst hh
        exact ⟨_, h1⟩
      | succ i => exact ih (hs := hs) h1.drop (by simpa using hu) (by simpa using hh)
theorem rows_in {us : List Value} {hs : List (List Int)} {R : List HP} {i : Nat} {u : Value} {h : List Int} (hu : us[i]? = some u) (hh : hs[i]? = some h) (hi : IsSl u h.length) : InIn (rowsH us hs :: R) u h :=
  ⟨hi, ⟨fun w hw => by
    obtain ⟨X, hx⟩ := rows_sl hw hu hh
    exact (Sep.Src.sl (E := 3) (n := 1) (v := u) (cs := h.map iE) (L := X)).each w hx, fun w hw => by
    obtain ⟨X, hx⟩ := rows_sl hw hu hh
    exact (Sep.Src.sl (E := 3) (n := 1) (v := u) (cs := h.map iE) (L := X)).out w hx⟩⟩
theorem rows_isl {us : List Value} {hs : List (List Int)} {w : World} {R : List HP} (hw : Sat w (rowsH us hs :: R)) {i : Nat} {u : Value} {h : List Int} (hu : us[i]? = some u) (hh : hs[i]? = some h) : IsSl u h.length := by
  obtain ⟨X, hx⟩ := rows_sl hw hu hh
  exact Len.slm.out _ hx
attribute [irreducible] rowsH
def uE (u : Value) : List Value := [u]
/-- Rows, of a slice of slices. -/
structure RowsOk (us : List Value) (hs : List (List Int)) : Prop where
  len : us.length = hs.length
  isl : ∀ (i : Nat) (u : Value) (h : List Int), us[i]? = some u → hs[i]? = some h → IsSl u h.length
theorem RowsOk.snoc {us : List Value} {hs : List (List Int)} (h : RowsOk us hs) {u : Value} {x : List Int} (hu : IsSl u x.length) : RowsOk (us ++ [u]) (hs ++ [x]) := by
  refine ⟨by simp [h.len], fun i u' h' h1 h2 => ?_⟩
  rcases Nat.lt_or_ge i us.length with hi | hi
  · rw [List.getElem?_append_left hi] at h1
    rw [List.getElem?_append_left (by rw [← h.len]; exact hi)] at h2
    exact h.isl i u' h' h1 h2
  · rw [List.getElem?_append_right hi] at h1
    rw [List.getElem?_append_right (by rw [← h.len]; exact hi), ← h.len] at h2
    cases hk : i - us.length with
    | zero => rw [hk] at h1 h2; simp at h1 h2; subst h1; subst h2; exact hu
    | succ k => rw [hk] at h1; simp at h1
def outH (b : Nat) (out : List (List Int)) : HP := ex fun o => ex fun us => all [fact (RowsOk us out ∧ out.length ≤ 100), pt b 47 [o], sl 50 1 o (us.map uE), rowsH us out]
theorem outH_fold {b : Nat} {out : List (List Int)} {o : Value} {us : List Value} {w : World} {R : List HP} (ho : RowsOk us out ∧ out.length ≤ 100) (hs : Sat w (pt b 47 [o] :: sl 50 1 o (us.map uE) :: rowsH us out :: R)) : Sat w (outH b out :: R) :=
  Sat.ex_iff.2 ⟨o, Sat.ex_iff.2 ⟨us, Sat.all_iff.2 (Sat.fact_iff.2 ⟨ho, hs⟩)⟩⟩
theorem outH_open {b : Nat} {out : List (List Int)} {w : World} {R : List HP} (hs : Sat w (outH b out :: R)) : ∃ o us, RowsOk us out ∧ out.length ≤ 100 ∧ Sat w (pt b 47 [o] :: sl 50 1 o (us.map uE) :: rowsH us out :: R) := by
  obtain ⟨o, h⟩ := Sat.ex_iff.1 hs
  obtain ⟨us, h⟩ := Sat.ex_iff.1 h
  obtain ⟨h1, h2⟩ := Sat.fact_iff.1 (Sat.all_iff.1 h)
  exact ⟨o, us, h1.1, h1.2, h2⟩
theorem W_outH {P : Program} {ro : Option Nat} {ops : Array Oper} {Q : Exit → Act → World → Prop} {n : Nat} {F : Fr} {ds : List Deferred} {R : List HP} {cd : List Oper} {b : Nat} {out : List (List Int)}
    (hk : ∀ o us, RowsOk us out → out.length ≤ 100 → IsSl o us.length → W P ro none ops Q n cd F ds (pt b 47 [o] :: sl 50 1 o (us.map uE) :: rowsH us out :: R)) : W P ro none ops Q n cd F ds (outH b out :: R) := by
  unfold outH
  refine W_ex fun o => ?_
  refine W_sat (L' := ex (fun us => all [fact (RowsOk us out ∧ out.length ≤ 100), pt b 47 [o], sl 50 1 o (us.map uE), rowsH us out]) :: R) (fun w h => h) ?_
  refine W_ex fun us => ?_
  refine W_know (p := RowsOk us out ∧ out.length ≤ 100) (fun w h => (Sat.fact_iff.1 (Sat.all_iff.1 h)).1) fun ho => ?_
  refine W_sat (fun w h => (Sat.fact_iff.1 (Sat.all_iff.1 h)).2) ?_
  exact W_know (p := IsSl o us.length) (fun w hs => Len.slm.there.out w hs) fun hN => hk o us ho.1 ho.2 hN
theorem C_outH {P : Program} {ro : Option Nat} {Q : Exit → Act → World → Prop} {n : Nat} {F : Fr} {ds : List Deferred} {R : List HP} {cd : Code} {b : Nat} {out : List (List Int)}
    (hk : ∀ o us, RowsOk us out → out.length ≤ 100 → IsSl o us.length → C P ro cd Q n F ds (pt b 47 [o] :: sl 50 1 o (us.map uE) :: rowsH us out :: R)) : C P ro cd Q n F ds (outH b out :: R) := by
  unfold outH
  refine C_ex fun o => ?_
  refine C_sat (L' := ex (fun us => all [fact (RowsOk us out ∧ out.length ≤ 100), pt b 47 [o], sl 50 1 o (us.map uE), rowsH us out]) :: R) (fun w h => h) ?_
  refine C_ex fun us => ?_
  refine C_sat (fun w h => Sat.all_iff.1 h) ?_
  refine C_fact fun ho => ?_
  exact C_isl (v := o) (by (focus ((repeat (first | assumption | exact Len.of ‹_› | exact .slm | exact .sl | apply Len.there)); done))) fun hN _ => hk o us ho.1 ho.2 hN
theorem outH_empty {b : Nat} {w : World} {R : List HP} (hs : Sat w (pt b 47 [.slice none 0 0] :: R)) : Sat w (outH b [] :: R) := by
  refine outH_fold (o := .slice none 0 0) (us := []) ⟨⟨rfl, fun i u h h1 => by simp at h1⟩, by simp⟩ ?_
  have h0 : Sat w (sl 50 1 (.slice none 0 0) (([] : List Value).map uE) :: pt b 47 [.slice none 0 0] :: R) := hs.sl_nil (E := 50) (n := 1)
  have h1 : Sat w (emp :: sl 50 1 (.slice none 0 0) (([] : List Value).map uE) :: pt b 47 [.slice none 0 0] :: R) := by
    obtain ⟨ho, S, h⟩ := h0
    exact ⟨ho, S, fun _ => False, S, fun _ h => h, h, fun _ h => h.elim, fun b => by simp⟩
  have h2 : Sat w (rowsH [] [] :: sl 50 1 (.slice none 0 0) (([] : List Value).map uE) :: pt b 47 [.slice none 0 0] :: R) := by unfold rowsH; exact h1
  exact Sel.sat (by (focus ((repeat (first | exact Sel.refl | (apply Sel.cons; (focus ((repeat (first | exact Del.here | apply Del.there)); done))) | refine Sel.drop ?_)); done))) h2
attribute [irreducible] outH
/-- What is held behind each instruction. -/
def holdsL : List Int → List Ins → List (List Int)
  | _, [] => []
  | h, x :: l => turn h x :: holdsL (turn h x) l
def hoNx (s : List (List Int) × List Int) (x : Ins) : List (List Int) × List Int := (s.1 ++ [turn s.2 x], turn s.2 x)
theorem ho_fold (l : List Ins) : ∀ s : List (List Int) × List Int, l.foldl hoNx s = (s.1 ++ holdsL s.2 l, l.foldl turn s.2) := by
  induction l with
  | nil => intro s; simp [holdsL]
  | cons x l ih =>
    intro s
    rw [List.foldl_cons, ih]
    simp [hoNx, holdsL]
theorem holdsL_len (l : List Ins) : ∀ h, (holdsL h l).length = l.length := by
  induction l with
  | nil => intro h; rfl
  | cons x l ih => intro h; simp [holdsL, ih]
theorem fold_len (l : List Ins) : ∀ h : List Int, (l.foldl turn h).length ≤ h.length + l.length := by
  induction l with
  | nil => intro h; simp
  | cons x l ih =>
    intro h
    have h1 := ih (turn h x)
    have h2 := turn_len h x
    rw [List.foldl_cons, List.length_cons]; omega
theorem fold_sorted (l : List Ins) : ∀ h : List Int, h.Pairwise (· < ·) → (l.foldl turn h).Pairwise (· < ·) := by
  induction l with
  | nil => intro h hh; exact hh
  | cons x l ih => intro h hh; exact ih _ (turn_sorted hh x)
def holdsM (l : List Ins) : List (List Int) := if progE l ≠ 0 then [] else holdsL [] (listed l)
def hoStep (s : List (List Int) × List Int) (xs : List Value) : Option Code × (List (List Int) × List Int) := match xs with
  | [_, .agg ⟨[.int _ op, .int _ n]⟩] => (none, hoNx s ⟨op, n⟩)
  | _ => (none, s)
def hoDom (s : List (List Int) × List Int) (xs : List Value) : Prop := ∃ (i : Nat) (x : Ins), xs = [int i, .agg (insE x).toArray] ∧ s.2.length < 100 ∧ s.2.Pairwise (· < ·) ∧ s.1.length < 100
theorem ho_goes {l : List Ins} (hl : l.length ≤ 64) : Goes (fun (s : (List (List Int) × List Int) × Option Code) xs => ((hoStep s.1 xs).1.isNone, ((hoStep s.1 xs).2, (hoStep s.1 xs).1))) (fun s xs => s.2 = none ∧ hoDom s.1 xs) (alG l) 0 (([], []), none) ((holdsL [] (listed l), (listed l).foldl turn []), none) := by
  have := goes_fold (listed l) (fun i x => [int i, .agg (insE x).toArray]) hoNx hoStep hoDom ([], []) fun i x hx => by
    have h1 := (List.getElem?_eq_some_iff.1 hx).1
    have h2 := listed_len l
    have h3 := fold_len ((listed l).take i) []
    have h4 := holdsL_len ((listed l).take i) []
    have h5 : ((listed l).take i).length = i := by rw [List.length_take]; omega
    rw [ho_fold]
    refine ⟨⟨i, x, rfl, ?_, fold_sorted _ _ List.Pairwise.nil, ?_⟩, rfl⟩
    · show (((listed l).take i).foldl turn []).length < 100
      simp only [List.length_nil] at h3
      omega
    · show ([] ++ holdsL [] ((listed l).take i)).length < 100
      rw [List.nil_append, h4]; omega
  rw [ho_fold] at this
  exact this
def hoH (bo bh : Nat) (s : List (List Int) × List Int) : HP := all [outH bo s.1, heldH bh s.2]
end Go.Proofs.YtelmljbblklblaaDoor
