/- A builder and what lies below it, as assertions; the calls on it; Itoa. Conditions: none. -/
import Derived.Test.YteggkdlgailfoaaDoorQF
set_option linter.all false
set_option linter.deprecated false
namespace Go.Proofs.YteggkdlgailfoaaDoor
open Go.Sep
variable [B0 : Base]
instance : StrT Tryd.prog 9 := ⟨Tryd.underlying9⟩
/-- What lies below block B. -/
def und (B : Nat) (R : List HP) : HP where
  ok h S := (all R).ok h S ∧ ∀ x, S x → x < B
  lt := fun h => (all R).lt h.1
  loc := fun h e => ⟨(all R).loc h.1 e, h.2⟩
/-- A builder in block b, which holds these bytes. -/
def bld (b : Nat) (l : List UInt8) : HP where
  ok h S := ∃ p v, (p = .pointer none ∨ p = .pointer (some ⟨b, 0, none⟩)) ∧ h[b]? = some (.cells #[p, v] 73 (0, 0)) ∧
    ((v = .slice none 0 0 ∧ l = [] ∧ ∀ x, S x ↔ x = b) ∨
     ∃ g cap cur, v = .slice (some ⟨g, 0, none⟩) l.length cap ∧ b ≤ g ∧ h[g]? = some (.cells cur 5 (0, 0)) ∧ l.length ≤ cap ∧ cap ≤ maxLen ∧ cur.size = cap * 1 ∧ cur.toList.take (l.length * 1) = Lib.byteCells l ∧ g ≠ b ∧ ∀ x, S x ↔ x = b ∨ x = g)
  lt := by
    rintro h S ⟨p, v, _, hb, ⟨_, _, hS⟩ | ⟨g, cap, cur, _, _, hg, _, _, _, _, _, hS⟩⟩ x hx
    · rw [(hS x).1 hx]; exact lt_of_some hb
    · rcases (hS x).1 hx with rfl | rfl
      · exact lt_of_some hb
      · exact lt_of_some hg
  loc := by
    rintro h h' S ⟨p, v, hp, hb, ⟨hv, hl, hS⟩ | ⟨g, cap, cur, h1, h2, hg, h3, h4, h5, h6, h7, hS⟩⟩ e
    · exact ⟨p, v, hp, (e b ((hS b).2 rfl)).trans hb, .inl ⟨hv, hl, hS⟩⟩
    · exact ⟨p, v, hp, (e b ((hS b).2 (.inl rfl))).trans hb, .inr ⟨g, cap, cur, h1, h2, (e g ((hS g).2 (.inr rfl))).trans hg, h3, h4, h5, h6, h7, hS⟩⟩
theorem bld_builder {b : Nat} {l : List UInt8} {w : World} {S : Nat → Prop} (h : (bld b l).ok w.heap S) : Lib.IsBuilder 73 5 b b (Lib.byteCells l) w ∧ ∀ x, S x → b ≤ x := by
  obtain ⟨p, v, hp, hb, hv⟩ := h
  have key : Lib.BuilderAt 73 5 b b p (Lib.byteCells l) w ∧ ∀ x, S x → b ≤ x := by
    refine ⟨⟨Nat.le_refl _, v, hb, ?_, ?_⟩, ?_⟩
    · refine ⟨by simp [Lib.byteCells_length], ?_⟩
      rw [Lib.byteCells_length]
      rcases hv with ⟨hv, hl, hS⟩ | ⟨g, cap, cur, h1, h2, hg, h3, h4, h5, h6, h7, hS⟩
      · exact .inl ⟨hv, by rw [hl]; rfl⟩
      · exact .inr ⟨g, cap, cur, h1, h2, hg, h3, h4, h5, h6⟩
    · rcases hv with ⟨hv, hl, hS⟩ | ⟨g, cap, cur, h1, h2, hg, h3, h4, h5, h6, h7, hS⟩
      · rw [hv]; simp [Value.ownBlock]
      · rw [h1]; simp [Value.ownBlock]; exact h7
    · intro x hx
      rcases hv with ⟨hv, hl, hS⟩ | ⟨g, cap, cur, h1, h2, hg, h3, h4, h5, h6, h7, hS⟩
      · rw [(hS x).1 hx]; exact Nat.le_refl _
      · rcases (hS x).1 hx with rfl | rfl
        · exact Nat.le_refl _
        · exact h2
  refine ⟨?_, key.2⟩
  rcases hp with rfl | rfl
  · exact .inl key.1
  · exact .inr key.1
theorem builder_bld {b : Nat} {l : List UInt8} {w : World} (h : Lib.IsBuilder 73 5 b b (Lib.byteCells l) w) : ∃ S, (bld b l).ok w.heap S ∧ ∀ x, S x → b ≤ x := by
  have key : ∃ p, (p = .pointer none ∨ p = .pointer (some ⟨b, 0, none⟩)) ∧ Lib.BuilderAt 73 5 b b p (Lib.byteCells l) w := by
    rcases h with h | h
    · exact ⟨_, .inl rfl, h⟩
    · exact ⟨_, .inr rfl, h⟩
  obtain ⟨p, hp, _, v, hb, hown, hne⟩ := key
  rw [Lib.byteCells_length] at hown
  rcases hown.2 with ⟨hv, hl⟩ | ⟨g, cap, cur, h1, h2, hg, h3, h4, h5, h6⟩
  · exact ⟨fun x => x = b, ⟨p, v, hp, hb, .inl ⟨hv, List.length_eq_zero_iff.1 hl, fun _ => Iff.rfl⟩⟩, fun x hx => by rw [hx]; exact Nat.le_refl _⟩
  · refine ⟨fun x => x = b ∨ x = g, ⟨p, v, hp, hb, .inr ⟨g, cap, cur, h1, h2, hg, h3, h4, h5, h6, ?_, fun _ => Iff.rfl⟩⟩, fun x hx => ?_⟩
    · intro e; subst e; rw [h1] at hne; simp [Value.ownBlock] at hne
    · rcases hx with rfl | rfl
      · exact Nat.le_refl _
      · exact h2
/-- What was there stays. -/
theorem sat_kept {w w' : World} {R : List HP} (hs : Sat w R) (hb : RowKit.Below w.heap.size w w') : Sat w' R := by
  obtain ⟨ho, S, h⟩ := hs
  exact ⟨ho.to ⟨hb.os, hb.tape, hb.output⟩, S, (all R).loc h fun b hS => hb.block b ((all R).lt h b hS)⟩
theorem sat_und {w w' : World} {b : Nat} {A : List HP} {R : List HP} (hs : Sat w (A ++ [und b R])) (hb : RowKit.Below b w w') : Sat w' [und b R] := by
  have h1 : Sat w [und b R] := by
    have := hs.perm List.perm_append_comm
    clear hs
    obtain ⟨ho, S, h⟩ := this
    obtain ⟨S1, S2, h1, h2, h3, h4⟩ := h
    exact ⟨ho, S1, S1, fun _ => False, h1, fun _ h => h, fun _ _ h => h, fun b => by simp⟩
  obtain ⟨ho, S, S1, S2, h1, h2, h3, h4⟩ := h1
  refine ⟨ho.to ⟨hb.os, hb.tape, hb.output⟩, S, S1, S2, ?_, h2, h3, h4⟩
  exact (und b R).loc h1 fun x hx => hb.block x (h1.2 x hx)
theorem sat_und_out {w : World} {b : Nat} {R : List HP} (hs : Sat w [und b R]) : Sat w R := by
  obtain ⟨ho, S, S1, S2, h1, h2, h3, h4⟩ := hs
  exact ⟨ho, S1, h1.1⟩
theorem sat_und_src {w : World} {b : Nat} {A R : List HP} (hs : Sat w (A ++ [und b R])) : Sat w R := sat_und_out (sat_und hs (RowKit.Below.refl _ _))
theorem src_und {b : Nat} {A R : List HP} {x : Value} {n : Nat} {es : List (List Value)} (h : Src R x n es) : Src (A ++ [und b R]) x n es :=
  ⟨fun w hs => h.each w (sat_und_src hs), fun w hs => h.out w (sat_und_src hs)⟩
/-- A builder beside what lies below it. -/
theorem sat_bld_und {w : World} {b : Nat} {l : List UInt8} {R : List HP} (hb : Lib.IsBuilder 73 5 b b (Lib.byteCells l) w) (hu : Sat w [und b R]) : Sat w [bld b l, und b R] := by
  obtain ⟨S1, h1, hS1⟩ := builder_bld hb
  obtain ⟨ho, S, h⟩ := hu
  refine ⟨ho, fun x => S1 x ∨ S x, S1, S, h1, h, fun x hx hx' => ?_, fun _ => Iff.rfl⟩
  obtain ⟨T1, T2, k1, k2, k3, k4⟩ := h
  rcases (k4 x).1 hx' with hx' | hx'
  · have := k1.2 x hx'; have := hS1 x hx; omega
  · exact k2 x hx'
theorem sat_bld {w : World} {b : Nat} {l : List UInt8} {R : List HP} (hs : Sat w (bld b l :: R)) : Lib.IsBuilder 73 5 b b (Lib.byteCells l) w := by
  obtain ⟨ho, S, S1, S2, h1, _⟩ := hs
  exact (bld_builder h1).1
theorem isBuilder_lt {b : Nat} {l : List Value} {w : World} (h : Lib.IsBuilder 73 5 b b l w) : b < w.heap.size := by
  rcases h with h | h
  · exact h.lt
  · exact h.lt
theorem strCells_str (s : List UInt8) : Lib.strCells ⟨s.toArray⟩ = Lib.byteCells s := by rw [Lib.strCells_eq]
theorem byteCells_append (l s : List UInt8) : Lib.byteCells l ++ Lib.byteCells s = Lib.byteCells (l ++ s) := by simp [Lib.byteCells]
theorem Write_ok (b : Nat) (l s : List UInt8) (R : List HP) (h : l.length + s.length ≤ 140737488355328) :
    Called Tryd.prog 28 [ptr b, str s] [bld b l, und b R] (is (.tuple #[int s.length, .nilIface]) [bld b (l ++ s), und b R]) := ⟨fun w hs => by
  have hb := sat_bld hs
  have hlt := isBuilder_lt hb
  refine (write_ok b b (Lib.byteCells l) ⟨s.toArray⟩ w hb (by rw [Lib.byteCells_length]; exact h) (by omega)).mono fun e w' ⟨he, hb', hB⟩ => ⟨_, he, _, ⟨rfl, rfl⟩, ?_⟩
  rw [strCells_str, byteCells_append] at hb'
  exact sat_bld_und (.inr hb') (sat_und (A := [bld b l]) hs hB)⟩
theorem String_ok (b : Nat) (l : List UInt8) (R : List HP) : Called Tryd.prog 30 [ptr b] [bld b l, und b R] (is (str l) R) := ⟨fun w hs => by
  have hb := sat_bld hs
  have hlt := isBuilder_lt hb
  refine (Tryd.Builder_String_any b b l w hb (by omega)).mono fun e w' ⟨he, hB⟩ => ⟨_, he, _, ⟨rfl, rfl⟩, ?_⟩
  exact sat_und_out (sat_und (A := [bld b l]) hs hB)⟩
/-- A new builder. -/
theorem runs_builder {d : Option Tmp} {ty : TypeId} {pos : String} {aft : Array Edge} {g : Option (Nat × Bool)} {n : Nat} {F : Fr} {ds : List Deferred} (R : List HP) :
    Runs Tryd.prog ⟨d, .alloc 73, ty, pos, aft, g⟩ n F ds R (fun p L' => ∃ b, p = ptr b ∧ L' = [bld b [], und b R]) :=
  ⟨rfl, fun ac w hf hs => by
    have h : zeroOf Tryd.prog 73 = some [.pointer none, .slice none 0 0] := by kernel_rfl
    unfold zeroOf at h
    split at h
    · rename_i i hi
      split at h
      · rename_i z hz
        have hzz : z.cells = #[.pointer none, .slice none 0 0] := by
          have := congrArg (fun x => x.map List.toArray) h
          simpa using this
        simp only [execOp, Instr.alloc, newVar, newRow, zeroValue, typeInfo, Sem.run_bind, run_program, hi, hz, run_newObj, Sem.run_pure, Result.andThen_ok, Upon, hzz]
        refine ⟨_, ⟨w.heap.size, rfl, rfl⟩, sat_bld_und (Lib.fresh_isBuilder _ _ w) ?_⟩
        have hs' := sat_kept hs (w' := w.alloc (.cells #[.pointer none, .slice none 0 0] 73)) ⟨rfl, rfl, rfl, (by show w.heap.size ≤ (w.heap.push _).size; simp), fun k hk => Lib.alloc_old w _ k hk⟩
        obtain ⟨ho, S, h⟩ := hs
        obtain ⟨ho', _⟩ := hs'
        exact ⟨ho', S, S, fun _ => False, ⟨(all R).loc h fun x hx => Lib.alloc_old w _ x ((all R).lt h x hx), fun x hx => (all R).lt h x hx⟩, fun _ h => h, fun _ _ h => h, fun b => by simp⟩
      · cases h
    · cases h⟩
/-! ### The variables -/
class HasV (R : List HP) : Prop where
  out : ∀ w, Sat w R → Lib.TabIs Tryd.prog w "internal/strconv.uint64pow10" .u64 Lib.pow10Tab
instance hasV_cons {A : HP} {R : List HP} [h : HasV R] : HasV (A :: R) := ⟨fun w hs => h.out w hs.drop⟩
theorem hasV_und {b : Nat} {R : List HP} (h : HasV R) : HasV [und b R] := ⟨fun w hs => h.out w (sat_und_out hs)⟩
instance {b : Nat} {R : List HP} [h : HasV R] : HasV [und b R]   := hasV_und h
theorem hasV_all {R X : List HP} (h : HasV R) : HasV (Sep.all R :: X) := ⟨fun w hs => h.out w hs.all_left⟩
theorem Itoa_ok (n : Int) (R : List HP) [h : HasV R] (hn : W64 n) : Called Tryd.prog 55 [int n] R (is (str (Lib.itoa n)) R) := ⟨fun w hs => by
  refine (Tryd.strconv_Itoa n hn.1 hn.2 w (h.out w hs)).mono fun e w' ⟨he, k, os, hw⟩ => ⟨_, he, _, ⟨rfl, rfl⟩, ?_⟩
  subst hw
  exact sat_kept hs ⟨rfl, rfl, rfl, (by show w.heap.size ≤ (w.heap ++ os).size; rw [Array.size_append]; omega), fun j hj => (by show (w.heap ++ os)[j]? = w.heap[j]?; exact Array.getElem?_append_left hj)⟩⟩
end Go.Proofs.YteggkdlgailfoaaDoor
