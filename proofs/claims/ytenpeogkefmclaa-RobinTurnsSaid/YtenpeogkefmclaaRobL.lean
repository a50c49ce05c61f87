/- Robin: plain laws of the row. Conditions: none. -/
import Derived.Test.YtenpeogkefmclaaRobE
set_option linter.all false
set_option linter.deprecated false
namespace Go.Proofs.Ytenpeogkefmclaa
open Go.Sep
variable [B0 : Base]

def ids (l : List Th) : List Int := l.map (·.id)

theorem findIx_nodup {l : List Th} (hn : (ids l).Nodup) {k : Nat} {t : Th} (hk : l[k]? = some t) : findIx l t.id = some k := by
  refine findIx_at hk rfl fun j u hj hu he => ?_
  have h1 : (ids l)[j]? = some u.id := by simp [ids, hu]
  have h2 : (ids l)[k]? = some t.id := by simp [ids, hk]
  rw [he] at h1
  have hjl := (List.getElem?_eq_some_iff.1 h1).1
  have := (List.getElem?_inj hjl hn).1 (h1.trans h2.symm)
  omega
theorem findIx_mem {l : List Th} {id : Int} (h : (findIx l id).isSome = true) : id ∈ ids l := by
  obtain ⟨k, hk⟩ := Option.isSome_iff_exists.1 h
  obtain ⟨t, ht, e⟩ := findIx_lt hk
  exact List.mem_map.2 ⟨t, List.mem_of_getElem? ht, e⟩
theorem findIx_out {l : List Th} {id : Int} (h : id ∉ ids l) : findIx l id = none :=
  findIx_no fun j t _ ht e => h (List.mem_map.2 ⟨t, List.mem_of_getElem? ht, e⟩)

def fresh (is : List Int) : List Th := is.map fun i => ⟨i, 0⟩
@[simp] theorem ids_fresh (is : List Int) : ids (fresh is) = is := by simp [ids, fresh, Function.comp_def]

theorem addGo_ok : ∀ {is : List Int} {l l' : List Th}, addGo l is = .ok l' → (ids l).Nodup → l.length ≤ 64 → l' = l ++ fresh is ∧ (ids l').Nodup ∧ l'.length ≤ 64 ∧ ∀ i ∈ is, 0 ≤ i
  | [], l, l', h, hn, hl => by
    simp only [addGo, Except.ok.injEq] at h
    subst h
    exact ⟨by simp [fresh], hn, hl, fun _ h => by cases h⟩
  | i :: is, l, l', h, hn, hl => by
    simp only [addGo] at h
    split at h
    · cases h
    · split at h
      · cases h
      · split at h
        · cases h
        · rename_i h1 h2 h3
          have hnot : i ∉ ids l := by
            intro hm
            obtain ⟨t, ht, e⟩ := List.mem_map.1 hm
            obtain ⟨k, hk⟩ := List.getElem?_of_mem ht
            have := findIx_nodup hn hk
            rw [e] at this
            rw [this] at h2
            exact h2 rfl
          have hn' : (ids (l ++ [⟨i, 0⟩])).Nodup := by
            simp only [ids, List.map_append, List.map_cons, List.map_nil]
            refine List.nodup_append.2 ⟨hn, by simp, ?_⟩
            intro a ha b hb e
            simp at hb; subst hb; subst e
            exact hnot ha
          obtain ⟨e1, e2, e3, e4⟩ := addGo_ok h hn' (by simp; omega)
          refine ⟨by rw [e1]; simp [fresh], e2, e3, fun j hj => ?_⟩
          rcases List.mem_cons.1 hj with rfl | hj
          · omega
          · exact e4 j hj

theorem addGo_one {l : List Th} {i : Int} (h0 : 0 ≤ i) (hi : i ∉ ids l) (hl : l.length < 64) : addGo l [i] = .ok (l ++ [⟨i, 0⟩]) := by
  simp only [addGo]
  rw [if_neg (by omega), if_neg (by rw [findIx_out hi]; simp), if_neg (by omega)]

/-- The first one runs for what is left to it: it comes to the end. -/
theorem runM_full {q : Int} {t : Th} {l : List Th} (hn : (ids (t :: l)).Nodup) (hl : (t :: l).length ≤ 64) (h0 : 0 ≤ t.id) (hr : 0 ≤ t.ran ∧ t.ran < q) :
    runM ⟨q, t :: l⟩ t.id (q - t.ran) = (⟨q, l ++ [⟨t.id, 0⟩]⟩, 0) := by
  have hf : findIx (t :: l) t.id = some 0 := findIx_nodup hn rfl
  have hnot : t.id ∉ ids l := by
    have := List.nodup_cons.1 (show (t.id :: ids l).Nodup from hn)
    exact this.1
  unfold runM
  simp only [hf, List.getElem?_cons_zero, List.set_cons_zero]
  rw [if_neg (by omega), if_pos (by omega)]
  have hf2 : findIx ((⟨t.id, t.ran + (q - t.ran)⟩ : Th) :: l) t.id = some 0 := by
    refine findIx_nodup (t := ⟨t.id, t.ran + (q - t.ran)⟩) ?_ rfl
    exact hn
  unfold yieldM dropM
  simp only [hf2, List.eraseIdx_zero, List.tail_cons]
  rw [if_pos trivial]
  unfold addM
  rw [addGo_one h0 hnot (by simp at hl; show l.length < 64; omega)]

/-- One runs for less than what is left to it. -/
theorem runM_part {q : Int} {l : List Th} {k : Nat} {t : Th} {x : Int} (hn : (ids l).Nodup) (ht : l[k]? = some t) (hx : 0 ≤ x) (hq : t.ran + x < q) :
    runM ⟨q, l⟩ t.id x = (⟨q, l.set k ⟨t.id, t.ran + x⟩⟩, 0) := by
  unfold runM
  simp only [findIx_nodup hn ht, ht]
  rw [if_neg (by omega), if_neg (by omega)]
theorem leftV_at {q : Int} {l : List Th} {k : Nat} {t : Th} (hn : (ids l).Nodup) (ht : l[k]? = some t) : leftV ⟨q, l⟩ t.id = (q - t.ran, 0) := by
  unfold leftV
  simp [findIx_nodup hn ht, ht]
theorem ids_set {l : List Th} {k : Nat} {t : Th} {r : Int} (ht : l[k]? = some t) : ids (l.set k ⟨t.id, r⟩) = ids l := by
  unfold ids
  rw [List.map_set]
  have hk := (List.getElem?_eq_some_iff.1 ht).1
  have : (l.map (·.id))[k]? = some t.id := by simp [ht]
  rw [List.getElem?_eq_some_iff] at this
  obtain ⟨h1, h2⟩ := this
  conv => rhs; rw [← List.set_getElem_self h1]
  rw [h2]

theorem firstM_all {q : Int} {l : List Th} : firstM ⟨q, l⟩ l.length = ids l := by
  unfold firstM ids
  rw [List.take_of_length_le]
  simp
theorem firstM_one {q : Int} {t : Th} {l : List Th} : firstM ⟨q, t :: l⟩ 1 = [t.id] := by
  unfold firstM
  have : (min 1 ((t :: l).length : Int)).toNat = 1 := by simp; omega
  simp only [] at this ⊢
  rw [this]; rfl
theorem addGo_err : ∀ {is : List Int} {l : List Th} {e : Int}, addGo l is = .error e → e = 1 ∨ e = 15 ∨ e = 13
  | [], l, e, h => by simp [addGo] at h
  | i :: is, l, e, h => by
    simp only [addGo] at h
    split at h
    · simp only [Except.error.injEq] at h; omega
    · split at h
      · simp only [Except.error.injEq] at h; omega
      · split at h
        · simp only [Except.error.injEq] at h; omega
        · exact addGo_err h
theorem ints_eq (u v : Value) (xs : List Int) (R : List HP) (hu : IsSl u xs.length) (hv : IsSl v xs.length) (hus : Src R u 1 (xs.map inE)) (hvs : Src R v 1 (xs.map inE)) :
    Called Try.prog 12 [u, v] R (is (.bool true) R) := by
  have := ints_ok u v xs xs R hu hv hus hvs
  rwa [decide_eq_true rfl] at this
end Go.Proofs.Ytenpeogkefmclaa
