/- A region whose order is open at two places, between two acts each: all three orders are walked. Conditions: none. -/
import Derived.Test.YteggkdlgailfoaaDoorFork
import Derived.Test.YteggkdlgailfoaaDoorQG
set_option linter.all false
set_option linter.deprecated false
namespace Go.Sep
variable [B0 : Base]
section
variable {P : Program} {ro : Option Nat} {ops : Array Oper} {Q : Exit → Act → World → Prop} {n : Nat} {ds : List Deferred}
/-- One act, and what is to hold behind it. -/
def DA (P : Program) (ops : Array Oper) (n : Nat) (ds : List Deferred) (H : List Hold) (K : Fr → List HP → Prop) : List Oper → Fr → List HP → Prop
  | [o], F, L => dstOk n o.dst = true ∧ gOn ops o F ∧ ∃ R, Runs P o n F ds L R ∧ ∀ v L', R v L' → (∀ h ∈ H, waits ops o h.o = true ∨ Runs P h.o n h.F ds L' (is h.v L')) ∧ K (putF F o.dst v) L'
  | _, _, _ => False
def forkB2 (ops : Array Oper) (S : List (Option Tmp)) (j1 j2 k1 k2 : Nat) (A1 A2 B : List Nat) (fin : Array Bool) : Bool :=
  Region.ready .any ops fin == [j1, j2] && Nat.beq B.length (A1.length + 1) && seqB ops S B (fin.setIfInBounds j2 true) && forkB ops S k1 k2 A1 A2 (fin.setIfInBounds j1 true)
theorem C_fork2 {id : Nat} {l pre' J' A1' A2' B' : List Oper} {F : Fr} {L : List HP} [hm : Mixed P] (S : List (Option Tmp)) (pre : List Nat) (j1 j2 k1 k2 : Nat) (A1 A2 B : List Nat) (hs : Region.noSelect l.toArray = true) (hlen : Nat.beq (pre.length + (A1.length + 1 + 1)) l.length = true)
    (hB : (preB l.toArray pre (Array.replicate l.length false)).any (forkB2 l.toArray S j1 j2 k1 k2 A1 A2 B) = true) (hpre : sel l.toArray pre = pre') (hJ : sel l.toArray [j1] = J') (hA1 : sel l.toArray (k1 :: A1) = A1') (hA2 : sel l.toArray (k2 :: A2) = A2') (hB' : sel l.toArray (j2 :: B) = B')
    (h : DK P l.toArray n ds (fun H F L => DA P l.toArray n ds H (fun F L => W P ro (some ⟨H, S⟩) l.toArray Q n A1' F ds L ∧ W P ro (some ⟨H, S⟩) l.toArray Q n A2' F ds L) J' F L ∧ W P ro (some ⟨H, S⟩) l.toArray Q n B' F ds L) [] pre' F L) : C P ro (.region id l.toArray true) Q n F ds L := by
  refine C_intro fun a w hf hw => ?_
  subst hpre; subst hJ; subst hA1; subst hA2; subst hB'
  cases hp : preB l.toArray pre (Array.replicate l.length false) with
  | none => rw [hp] at hB; cases hB
  | some fin =>
    rw [hp] at hB
    simp only [Option.any_some, forkB2, forkB, Bool.and_eq_true, beq_iff_eq] at hB
    obtain ⟨⟨⟨hr, hl⟩, hsB⟩, ⟨⟨hr2, hl2⟩, hsA1⟩, hsA2⟩ := hB
    have hl' := Nat.eq_of_beq_eq_true hl
    have hl2' := Nat.eq_of_beq_eq_true hl2
    refine wpIn_region_any hm.out ?_
    have := AW_of_DK (HH := []) (Q := Q) (r := A1.length + 1 + 1) hs (fun {H HH F L a} hf hH hK => ?_) pre hp hf (fun _ _ _ h hm => by cases hm) h
    · have e : pre.length + (A1.length + 1 + 1) = l.toArray.size := by simpa using Nat.eq_of_beq_eq_true hlen
      rw [e] at this
      exact wpAny_of_AW _ hw.drawn (by simpa using this)
    · obtain ⟨kA, kB⟩ := hK
      unfold W at kA kB
      dsimp only at kA kB
      refine ⟨fun e => (by rw [hr] at e; cases e), fun j hj oj hoj => ?_⟩
      rw [hr] at hj
      rcases List.mem_cons.1 hj with rfl | hj
      · simp only [sel, hoj, DA] at kA
        obtain ⟨hd, hg, R, h1, h2⟩ := kA
        refine .inr ⟨gOn_wanted hf hg, h1.plain, fun w hw => (h1.run a w hf hw).mono fun v w' ⟨L', hR, hs'⟩ => ⟨L', ⟨hH oj L' (h2 v L' hR).1, ?_⟩, hs'⟩⟩
        obtain ⟨k1A, k2A⟩ := (h2 v L' hR).2
        have hf2 := hf.put hd v
        refine ⟨fun e => (by rw [hr2] at e; cases e), fun j hj oj hoj => ?_⟩
        rw [hr2] at hj
        rcases List.mem_cons.1 hj with rfl | hj
        · exact step_of_DW hs hoj hsA1 hf2 hH k1A
        · obtain rfl : j = k2 := by simpa using hj
          have := step_of_DW hs hoj hsA2 hf2 hH k2A
          rw [← hl2'] at this
          exact this
      · obtain rfl : j = j2 := by simpa using hj
        have := step_of_DW hs hoj hsB hf hH kB
        rw [hl'] at this
        exact this
/-- The act is the building of a slice. -/
theorem da_bs {H : List Hold} {K : Fr → List HP → Prop} {d : Nat} {ty : TypeId} {pos : String} {aft : Array Edge} {F : Fr} {L : List HP} {S : List (Option Tmp)} {t e k bytes N : Nat} {ps : List (Nat × Operand)} {es : List (List Value)} [hB : ElemB P t e k bytes] (hd : Nat.blt d n = true) (h : Parts F k 0 ps es) (hN : Nat.beq ps.length N = true) (hes : Nat.beq es.length N = true) (hlim : Nat.ble (N * k) 16777216 = true)
    (hk : ∀ v', IsSl v' N → KeepsM P ops ⟨some d, .buildSlice t N ps.toArray, ty, pos, aft, none⟩ n ds (sl e k v' es :: L) (some ⟨H, S⟩) ∧ K ((d, v') :: F) (sl e k v' es :: L)) : DA P ops n ds H K [⟨some d, .buildSlice t N ps.toArray, ty, pos, aft, none⟩] F L := by
  have hN := Nat.eq_of_beq_eq_true hN
  have hes := Nat.eq_of_beq_eq_true hes
  have hlim := Nat.le_of_ble_eq_true hlim
  have hr := Runs.isl (E := e) (k := k) (cs := es) (f := fun v' => sl e k v' es :: L) (runs_buildSlice (F := F) (ds := ds) (L := L) (n := n) (d := some d) (ty := ty) (pos := pos) (aft := aft) (g := none) hB.out hN hlim h hes) (fun v' w hs => .inr ⟨_, hs⟩)
  refine ⟨hd, .inl rfl, _, hr, fun v' L' hR => ?_⟩
  obtain ⟨hi, rfl⟩ := hR
  rw [hes] at hi
  obtain ⟨h1, h2⟩ := hk v' hi
  exact ⟨h1.2.all, h2⟩
end
end Go.Sep

namespace Go.Proofs.YteggkdlgailfoaaDoor
open Go.Shelf Go.RowKit
/-- What a builder's call leaves as it is, besides what lies below: all but the builder and its bytes. -/
def KeptBy (b : Nat) (w w' : World) : Prop := ∀ (k : Nat) (u : Value), w.cell? ⟨b, 1, none⟩ = some u → k < w.heap.size → k ≠ b → some k ≠ u.ownBlock → w'.heap[k]? = w.heap[k]?
theorem check_okK (b : Nat) (bs : List Value) (w : World) (h : Lib.IsBuilder 73 5 b b bs w) :
    Calls Tryd.prog 47 #[.pointer (some ⟨b, 0, none⟩)] w fun e w' => e = .returned (.tuple #[]) ∧ (Lib.BuilderAt 73 5 b b (.pointer (some ⟨b, 0, none⟩)) bs w' ∧ Below b w w' ∧ (∀ k, k ≠ b → w'.heap[k]? = w.heap[k]?) ∧ ∀ u, w.cell? ⟨b, 1, none⟩ = some u → w'.cell? ⟨b, 1, none⟩ = some u) := by
  rcases h with h | h
  · refine (check_fresh b w h.cell0 h.shape h.frozen0).mono ?_
    rintro e w' ⟨rfl, rfl⟩
    refine ⟨rfl, h.used _, (Below.refl b w).setCell (p := ⟨b, 0, none⟩) h.1 _, fun k hk => Below.heap_setCell _ _ _ _ hk, fun u hu => ?_⟩
    refine Eq.trans ?_ hu
    have hne : (⟨b, 0, none⟩ : Addr) ≠ ⟨b, 1, none⟩ := fun e => by injection e with _ h2 _; cases h2
    first
      | exact World.cell?_setCell_other w hne
      | exact World.cell?_setCell_other w _ hne
      | exact World.cell?_setCell_other w _ _ _ hne
  · refine (check_used b w h.cell0).mono ?_
    rintro e w' ⟨rfl, rfl⟩
    exact ⟨rfl, h, Below.refl b _, fun k _ => rfl, fun u hu => hu⟩
set_option maxHeartbeats 2000000 in
set_option maxRecDepth 100000 in
theorem write_okK (b : Nat) (bs : List Value) (s : ByteArray) (w : World) (h : Lib.IsBuilder 73 5 b b bs w) (hlen : bs.length + s.size ≤ 140737488355328) (hBw : b ≤ w.heap.size) :
    Calls Tryd.prog 28 #[.pointer (some ⟨b, 0, none⟩), .string s] w fun e w' => e = .returned (.tuple #[.int .i64 s.size, .nilIface]) ∧ (Lib.BuilderAt 73 5 b b (.pointer (some ⟨b, 0, none⟩)) (bs ++ Lib.strCells s) w' ∧ Below b w w' ∧ KeptBy b w w') := by
  obtain ⟨i0, hi, hz0, hz1, hz2⟩ := info_parts (show (Tryd.prog.info? 5).map (fun i => (i.zero, i.size, i.bytes)) = some (some (.int .u8 0), 1, 1) by kernel_rfl)
  have mixed : Tryd.prog.follows .mixedOrders = true := by kernel_rfl
  have t72 := Tryd.underlying73; have a72 := Tryd.isAgg73; have z72 := Tryd.sizeOf73; have v72 := Tryd.zeroValue73; have u72 := run_underlying Tryd.underlying73
  have t70 := Tryd.underlying70; have a70 := Tryd.isAgg70; have z70 := Tryd.sizeOf70; have v70 := Tryd.zeroValue70; have u70 := run_underlying Tryd.underlying70
  have t37 := Tryd.underlying71; have a37 := Tryd.isAgg71; have z37 := Tryd.sizeOf71; have v37 := Tryd.zeroValue71; have u37 := run_underlying Tryd.underlying71
  have t3 := Tryd.underlying3; have a3 := Tryd.isAgg3; have z3 := Tryd.sizeOf3; have v3 := Tryd.zeroValue3; have u3 := run_underlying Tryd.underlying3
  have t9 := Tryd.underlying9; have a9 := Tryd.isAgg9; have z9 := Tryd.sizeOf9; have v9 := Tryd.zeroValue9; have u9 := run_underlying Tryd.underlying9
  have t4 := Tryd.underlying4; have a4 := Tryd.isAgg4; have z4 := Tryd.sizeOf4; have v4 := Tryd.zeroValue4; have u4 := run_underlying Tryd.underlying4
  have t164 := Tryd.underlying117; have a164 := Tryd.isAgg117; have z164 := Tryd.sizeOf117; have v164 := Tryd.zeroValue117; have u164 := run_underlying Tryd.underlying117
  have t5 := Tryd.underlying5; have a5 := Tryd.isAgg5; have z5 := Tryd.sizeOf5; have v5 := Tryd.zeroValue5; have u5 := run_underlying Tryd.underlying5
  have e240 : ∀ args w, (callFunc 47 args).run Tryd.prog w = .ok (.enter 47 args) w := enters_of Tryd.func47 (by kernel_rfl) rfl
  go_enter Tryd.func28, Tryd.ntmps28
  go_wp2_with (go_at_fn 47; refine (check_okK b bs _ h).mono ?_)
  rintro e w1 ⟨rfl, h1, hb1, hk1, hc1⟩
  obtain ⟨hB, v, hbk, hown, hne⟩ := h1
  have c0 : w1.cell? ⟨b, 0, none⟩ = some (.pointer (some ⟨b, 0, none⟩)) := by rw [Lib.cell_of_heap hbk]; rfl
  have c1 : w1.cell? ⟨b, 1, none⟩ = some v := by rw [Lib.cell_of_heap hbk]; rfl
  go_wp2_with (at_builtin; refine Lib.wpList_append_own_string _ rfl _ _ 71 9 rfl b 5 i0 t37 t9 hi hz0 hz1 hz2 _ _ _ rfl hown s rfl ?c3 ?c4 ?c5 ?_)
  case c3 => unfold maxLen; omega
  case c4 => omega
  case c5 => have := hb1.size; omega
  intro v' w2 hown' hgrow _
  have hlt : b < w1.heap.size := by
    rcases Nat.lt_or_ge b w1.heap.size with h' | h'
    · exact h'
    · simp [Array.getElem?_eq_none h'] at hbk
  have hb2 : w2.heap[b]? = some (.cells #[.pointer (some ⟨b, 0, none⟩), v] 73 (0, 0)) := by
    rw [hgrow.block b hlt (fun e => hne e.symm)]
    exact hbk
  have d0 : w2.cell? ⟨b, 0, none⟩ = some (.pointer (some ⟨b, 0, none⟩)) := by rw [Lib.cell_of_heap hb2]; rfl
  have d1 : w2.cell? ⟨b, 1, none⟩ = some v := by rw [Lib.cell_of_heap hb2]; rfl
  have f1 : w2.frozen? ⟨b, 1, none⟩ = false := Lib.frozen_of_heap hb2 1
  obtain ⟨ao, n', cap, rfl⟩ : ∃ ao n' cap, v' = .slice ao n' cap := by
    rcases hown'.2 with ⟨hv, _⟩ | ⟨g, cap, cur, hv, _⟩
    · exact ⟨_, _, _, hv⟩
    · exact ⟨_, _, _, hv⟩
  go_wp2
  go_ret2
  refine ⟨rfl, ?_, ?_, ?_⟩
  · exact Lib.BuilderAt.put (T := 73) (e := 5) hB hb2 (bs' := bs ++ Lib.strCells s) (by simpa [Lib.strCells_length] using hown') (by decide)
  · exact (hb1.grown hgrow (by have := hb1.size; omega) (fun k hk => (hown.lt k hk).1)).setCell (p := ⟨b, 1, none⟩) hB _
  · intro k u hu hk hkb hko
    have hu1 := hc1 u hu
    rw [c1] at hu1
    obtain rfl : v = u := Option.some.inj hu1
    have e1 := hk1 k hkb
    have hks : k < w1.heap.size := by have := hb1.size; omega
    have e2 := hgrow.block k hks hko
    rw [Below.heap_setCell _ _ _ _ (by show k ≠ b; exact hkb), e2, e1]
end Go.Proofs.YteggkdlgailfoaaDoor
namespace Go.Proofs.YteggkdlgailfoaaDoor
open Go.Sep
variable [B0 : Base]
/-- Written to, beside a thing above that is no row of bytes. -/
theorem WriteK_ok (b : Nat) (l s : List UInt8) (R : List HP) (k : Nat) (T : TypeId) (vs : List Value) (hT : T ≠ 5) (h : l.length + s.length ≤ 140737488355328) :
    Called Tryd.prog 28 [ptr b, str s] [pt k T vs, bld b l, und b R] (is (.tuple #[int s.length, .nilIface]) [pt k T vs, bld b (l ++ s), und b R]) := ⟨fun w hs => by
  have hs1 : Sat w [bld b l, und b R] := hs.drop
  have hb := sat_bld hs1
  have hlt := isBuilder_lt hb
  refine (write_okK b (Lib.byteCells l) ⟨s.toArray⟩ w hb (by rw [Lib.byteCells_length]; exact h) (by omega)).mono fun e w' ⟨he, hb', hB, hK⟩ => ⟨_, he, _, ⟨rfl, rfl⟩, ?_⟩
  rw [strCells_str, byteCells_append] at hb'
  obtain ⟨ho, S, S1, S2, h1, h2, h3, h4⟩ := hs
  obtain ⟨hk, hS1⟩ := (show w.heap[k]? = some (.cells vs.toArray T (0, 0)) ∧ ∀ x, S1 x ↔ x = k from by unfold pt at h1; exact h1)
  have hkk : S1 k := (hS1 k).2 rfl
  obtain ⟨T1, T2, t1, t2, t3, t4⟩ := h2
  have hkT1 : ¬ T1 k := fun hh => h3 k hkk ((t4 k).2 (.inl hh))
  have hkT2 : ¬ T2 k := fun hh => h3 k hkk ((t4 k).2 (.inr hh))
  have hkeep : w'.heap[k]? = w.heap[k]? := by
    obtain ⟨p, v, hp, hbb, hv⟩ := t1
    refine hK k v (by rw [Lib.cell_of_heap hbb]; rfl) (lt_of_some hk) ?_ ?_
    · rintro rfl
      rcases hv with ⟨_, _, hS⟩ | ⟨g, cap, cur, _, _, _, _, _, _, _, _, hS⟩
      · exact hkT1 ((hS _).2 rfl)
      · exact hkT1 ((hS _).2 (.inl rfl))
    · rcases hv with ⟨rfl, _, hS⟩ | ⟨g, cap, cur, rfl, _, _, _, _, _, _, _, hS⟩
      · simp [Value.ownBlock]
      · simp only [Value.ownBlock]
        intro hh
        have : k = g := Option.some.inj hh
        exact hkT1 ((hS _).2 (.inr this))
  obtain ⟨X1, X2, x1, x2, x3, x4⟩ := t2
  have hund : ∀ x, T2 x → x < b := fun x hx => by
    rcases (x4 x).1 hx with hh | hh
    · exact x1.2 x hh
    · exact (x2 x hh).elim
  have t2' : (Sep.all [und b R]).ok w'.heap T2 := (Sep.all [und b R]).loc (S := T2) (h := w.heap) ⟨X1, X2, x1, x2, x3, x4⟩ fun x hx => hB.block x (hund x hx)
  obtain ⟨U1, u1, hU1⟩ := builder_bld (.inr hb')
  have hkU1 : ¬ U1 k := fun hh => by
    obtain ⟨p, v, hp, hbb, hv⟩ := u1
    have hne : k ≠ b := by
      rintro rfl
      obtain ⟨p0, v0, hp0, hbb0, hv0⟩ := t1
      rcases hv0 with ⟨_, _, hS⟩ | ⟨g, cap, cur, _, _, _, _, _, _, _, _, hS⟩
      · exact hkT1 ((hS _).2 rfl)
      · exact hkT1 ((hS _).2 (.inl rfl))
    rcases hv with ⟨_, _, hS⟩ | ⟨g, cap, cur, _, _, hg, _, _, _, _, _, hS⟩
    · exact hne ((hS k).1 hh)
    · rcases (hS k).1 hh with e | e
      · exact hne e
      · subst e
        rw [hkeep, hk] at hg
        injection hg with hg
        injection hg with _ hg2
        exact hT hg2
  refine ⟨ho.to ⟨hB.os, hB.tape, hB.output⟩, fun x => S1 x ∨ (U1 x ∨ T2 x), S1, fun x => U1 x ∨ T2 x, (by unfold pt; exact ⟨hkeep.trans hk, hS1⟩), ⟨U1, T2, u1, t2', fun x hx hx' => ?_, fun _ => Iff.rfl⟩, fun x hx hx' => ?_, fun _ => Iff.rfl⟩
  · have h1 := hU1 x hx
    have h2 := hund x hx'
    omega
  · have e := (hS1 x).1 hx
    subst e
    rcases hx' with hh | hh
    · exact hkU1 hh
    · exact hkT2 hh⟩
end Go.Proofs.YteggkdlgailfoaaDoor
