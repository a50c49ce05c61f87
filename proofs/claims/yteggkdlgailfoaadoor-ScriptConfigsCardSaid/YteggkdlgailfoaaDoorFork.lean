/- A region whose order is open at one place between two acts: both orders are walked. Conditions: none. -/
import Derived.Test.YteggkdlgailfoaaDoorMord
set_option linter.all false
set_option linter.deprecated false
namespace Go.Sep
variable [B0 : Base]
section
variable {P : Program} {ro : Option Nat} {ops : Array Oper} {Q : Exit → Act → World → Prop} {n : Nat} {ds : List Deferred}
/-- What is ahead of the fork: operations that do not act. -/
def DK (P : Program) (ops : Array Oper) (n : Nat) (ds : List Deferred) (K : List Hold → Fr → List HP → Prop) : List Hold → List Oper → Fr → List HP → Prop
  | H, [], F, L => K H F L
  | H, o :: rest, F, L => dstOk n o.dst = true ∧ gOn ops o F ∧
      ((∃ v, (∀ M, Runs P o n F ds M (is v M)) ∧ DK P ops n ds K H rest (putF F o.dst v) L) ∨
       (∃ v, Runs P o n F ds L (is v L) ∧ DK P ops n ds K (⟨o, v, F⟩ :: H) rest (putF F o.dst v) L))
theorem dk_pure {K : List Hold → Fr → List HP → Prop} {H : List Hold} {o : Oper} {rest : List Oper} {F : Fr} {L : List HP} {v : Value} (hd : dstOk n o.dst = true) (hg : o.guard = none) (h : ∀ M, Runs P o n F ds M (is v M)) (hk : DK P ops n ds K H rest (putF F o.dst v) L) :
    DK P ops n ds K H (o :: rest) F L := ⟨hd, .inl hg, .inl ⟨v, h, hk⟩⟩
theorem dk_read {K : List Hold → Fr → List HP → Prop} {H : List Hold} {o : Oper} {rest : List Oper} {F : Fr} {L : List HP} {v : Value} (hd : dstOk n o.dst = true) (hg : o.guard = none) (h : Runs P o n F ds L (is v L)) (hk : DK P ops n ds K (⟨o, v, F⟩ :: H) rest (putF F o.dst v) L) :
    DK P ops n ds K H (o :: rest) F L := ⟨hd, .inl hg, .inr ⟨v, h, hk⟩⟩
def preB (ops : Array Oper) : List Nat → Array Bool → Option (Array Bool)
  | [], listed => some listed
  | k :: l, listed => match ops[k]? with
      | some _ => if (Region.ready .any ops listed).contains k && Region.free .any ops listed k then preB ops l (listed.setIfInBounds k true) else none
      | none => none
/-- How what is held is known. -/
def HHrel (P : Program) (ops : Array Oper) (n : Nat) (ds : List Deferred) (H : List Hold) (HH : Held) : Prop :=
  ∀ (o : Oper) L', (∀ h ∈ H, waits ops o h.o = true ∨ Runs P h.o n h.F ds L' (is h.v L')) → ∀ h ∈ HH, waits ops o h.1 = true ∨ YI P ops h.1 h.2.1 h.2.2 L'
theorem AW_of_DK (hsel : Region.noSelect ops = true) {K : List Hold → Fr → List HP → Prop} {r : Nat} {fin : Array Bool}
    (hK : ∀ {H : List Hold} {HH : Held} {F : Fr} {L : List HP} {a : Act}, FrOk a n F ds → HHrel P ops n ds H HH → K H F L → AW P ops Q HH r fin a L) :
    ∀ (l : List Nat) {H : List Hold} {HH : Held} {F : Fr} {L : List HP} {listed : Array Bool} {a : Act}, preB ops l listed = some fin → FrOk a n F ds → HHrel P ops n ds H HH →
    DK P ops n ds K H (sel ops l) F L → AW P ops Q HH (l.length + r) listed a L
  | [], H, HH, F, L, listed, a, hB, hf, hH, h => by
    simp only [preB, Option.some.injEq] at hB
    subst hB
    rw [List.length_nil, Nat.zero_add]
    exact hK hf hH h
  | k :: l, H, HH, F, L, listed, a, hB, hf, hH, h => by
    simp only [preB] at hB
    cases hk : ops[k]? with
    | none => simp [hk] at hB
    | some o =>
      simp only [hk] at hB
      split at hB
      · rename_i hB1
        simp only [Bool.and_eq_true] at hB1
        simp only [sel, hk] at h
        obtain ⟨hd, hg, h⟩ := h
        have hns := Region.noSelect_spec hsel
        have quiet : ∀ v, YI P ops o v a L → AW P ops Q ((o, v, a) :: HH) (l.length + r) (listed.setIfInBounds k true) (a.put o.dst v) L → AW P ops Q HH (l.length + r + 1) listed a L := fun v hy hrest =>
          AW_first hk hns (l.length + r) listed a L (Region.free_spec hk hB1.2) (by simpa using hB1.1) (fun _ h => h) hy hrest
        rw [List.length_cons, show l.length + 1 + r = l.length + r + 1 by omega]
        rcases h with ⟨v, h1, h2⟩ | ⟨v, h1, h2⟩
        · have hy : ∀ M, YI P ops o v a M := fun M => .inl ⟨gOn_wanted hf hg, (h1 M).plain, fun w hw => ((h1 M).run a w hf hw).mono fun v' w' ⟨L', ⟨e1, e2⟩, e3⟩ => ⟨e1, e2 ▸ e3⟩⟩
          exact quiet v (hy L) (AW_of_DK hsel hK l hB (hf.put hd _) (fun o' L' hh h hm => by
            rcases List.mem_cons.1 hm with rfl | hm
            · exact .inr (hy L')
            · exact hH o' L' hh h hm) h2)
        · have hy : ∀ M, Runs P o n F ds M (is v M) → YI P ops o v a M := fun M hM => .inl ⟨gOn_wanted hf hg, hM.plain, fun w hw => (hM.run a w hf hw).mono fun v' w' ⟨L', ⟨e1, e2⟩, e3⟩ => ⟨e1, e2 ▸ e3⟩⟩
          exact quiet v (hy L h1) (AW_of_DK hsel hK l hB (hf.put hd _) (fun o' L' hh h hm => by
            rcases List.mem_cons.1 hm with rfl | hm
            · rcases hh _ (List.mem_cons_self ..) with h | h
              · exact .inl h
              · exact .inr (hy L' h)
            · exact hH o' L' (fun h hm => hh h (List.mem_cons_of_mem _ hm)) h hm) h2)
      · cases hB
/-- One act, at the fork. -/
theorem step_of_DW {S : List (Option Tmp)} (hsel : Region.noSelect ops = true) {k : Nat} {l : List Nat} {o : Oper} {H : List Hold} {HH : Held} {F : Fr} {L : List HP} {listed : Array Bool} {a : Act}
    (ho : ops[k]? = some o) (hB : seqB ops S l (listed.setIfInBounds k true) = true) (hf : FrOk a n F ds) (hH : HHrel P ops n ds H HH) (h : DW P ops Q n ds S H (sel ops (k :: l)) F L) :
    (∃ v, YI P ops o v a L ∧ AW P ops Q HH l.length (listed.setIfInBounds k true) (a.put o.dst v) L) ∨
      AS P ops o a L fun v L' => (∀ h ∈ HH, waits ops o h.1 = true ∨ YI P ops h.1 h.2.1 h.2.2 L') ∧ AW P ops Q HH l.length (listed.setIfInBounds k true) (a.put o.dst v) L' := by
  simp only [sel, ho] at h
  obtain ⟨hd, h⟩ := h
  rcases h with ⟨hg, h⟩ | ⟨hg, ⟨v, h1, h2⟩ | ⟨v, h1, h2⟩ | ⟨hl, R, h1, h2⟩⟩
  · exact .inl ⟨undef, .inr ⟨gOff_wanted hf hg, rfl⟩, AW_of_DW hsel l hB (hf.put hd _) hH h⟩
  · exact .inl ⟨v, .inl ⟨gOn_wanted hf hg, (h1 L).plain, fun w hw => ((h1 L).run a w hf hw).mono fun v' w' ⟨L', ⟨e1, e2⟩, e3⟩ => ⟨e1, e2 ▸ e3⟩⟩, AW_of_DW hsel l hB (hf.put hd _) hH h2⟩
  · exact .inl ⟨v, .inl ⟨gOn_wanted hf hg, h1.plain, fun w hw => (h1.run a w hf hw).mono fun v' w' ⟨L', ⟨e1, e2⟩, e3⟩ => ⟨e1, e2 ▸ e3⟩⟩, AW_of_DW hsel l hB (hf.put hd _) (fun o' L' hh h hm => hH o' L' (fun h hm => hh h (List.mem_cons_of_mem _ hm)) h hm) h2⟩
  · exact .inr ⟨gOn_wanted hf hg, h1.plain, fun w hw => (h1.run a w hf hw).mono fun v w' ⟨L', hR, hs⟩ => ⟨L', ⟨hH o L' (h2 v L' hR).1, AW_of_DW hsel l hB (hf.put hd _) hH (h2 v L' hR).2⟩, hs⟩⟩
def forkB (ops : Array Oper) (S : List (Option Tmp)) (j1 j2 : Nat) (A B : List Nat) (fin : Array Bool) : Bool :=
  Region.ready .any ops fin == [j1, j2] && Nat.beq A.length B.length && seqB ops S A (fin.setIfInBounds j1 true) && seqB ops S B (fin.setIfInBounds j2 true)
/-- **A region whose order is open between two acts.** -/
theorem C_fork {id : Nat} {l pre' A' B' : List Oper} {F : Fr} {L : List HP} [hm : Mixed P] (S : List (Option Tmp)) (pre : List Nat) (j1 j2 : Nat) (A B : List Nat) (hs : Region.noSelect l.toArray = true) (hlen : Nat.beq (pre.length + (A.length + 1)) l.length = true)
    (hB : (preB l.toArray pre (Array.replicate l.length false)).any (forkB l.toArray S j1 j2 A B) = true) (hpre : sel l.toArray pre = pre') (hA : sel l.toArray (j1 :: A) = A') (hB' : sel l.toArray (j2 :: B) = B')
    (h : DK P l.toArray n ds (fun H F L => W P ro (some ⟨H, S⟩) l.toArray Q n A' F ds L ∧ W P ro (some ⟨H, S⟩) l.toArray Q n B' F ds L) [] pre' F L) : C P ro (.region id l.toArray true) Q n F ds L := by
  refine C_intro fun a w hf hw => ?_
  subst hpre; subst hA; subst hB'
  cases hp : preB l.toArray pre (Array.replicate l.length false) with
  | none => rw [hp] at hB; cases hB
  | some fin =>
    rw [hp] at hB
    simp only [Option.any_some, forkB, Bool.and_eq_true, beq_iff_eq] at hB
    obtain ⟨⟨⟨hr, hl⟩, hsA⟩, hsB⟩ := hB
    have hl' := Nat.eq_of_beq_eq_true hl
    refine wpIn_region_any hm.out ?_
    have := AW_of_DK (HH := []) (Q := Q) (r := A.length + 1) hs (fun {H HH F L a} hf hH hK => ?_) pre hp hf (fun _ _ _ h hm => by cases hm) h
    · have e : pre.length + (A.length + 1) = l.toArray.size := by simpa using Nat.eq_of_beq_eq_true hlen
      rw [e] at this
      exact wpAny_of_AW _ hw.drawn (by simpa using this)
    · obtain ⟨kA, kB⟩ := hK
      unfold W at kA kB
      dsimp only at kA kB
      refine ⟨fun e => (by rw [hr] at e; cases e), fun j hj oj hoj => ?_⟩
      rw [hr] at hj
      rcases List.mem_cons.1 hj with rfl | hj
      · exact step_of_DW hs hoj hsA hf hH kA
      · obtain rfl : j = j2 := by simpa using hj
        have := step_of_DW hs hoj hsB hf hH kB
        rw [← hl'] at this
        exact this
end
end Go.Sep
