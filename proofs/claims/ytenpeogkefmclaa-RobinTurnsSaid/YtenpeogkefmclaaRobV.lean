/- Robin: Run and Yield turn nothing but the order and the times: the plain law. Conditions: none. -/
import Derived.Test.YtenpeogkefmclaaRobU
set_option linter.all false
set_option linter.deprecated false
namespace Go.Proofs.Ytenpeogkefmclaa
open Go.Sep
variable [B0 : Base]

theorem ids_get {l : List Th} {id : Int} {k : Nat} (hf : findIx l id = some k) : (ids l)[k]? = some id := by
  obtain ⟨t, ht, hid⟩ := findIx_lt hf; unfold ids; simp [ht, hid]
theorem filter_erase {l : List Int} {id : Int} : ∀ {k : Nat}, l[k]? = some id → (l.eraseIdx k).filter (fun i => decide (i ≠ id)) = l.filter (fun i => decide (i ≠ id)) := by
  induction l with
  | nil => intro k h; simp at h
  | cons a l ih =>
    intro k h
    cases k with
    | zero => simp at h; subst h; simp
    | succ k => simp only [List.eraseIdx_cons_succ, List.filter_cons]; rw [ih (by simpa using h)]

/-- The same, but for the place of one thread, and times. -/
structure Sim (id : Int) (c d : Cls) : Prop where
  len : d.l.length = c.l.length
  fil : (ids d.l).filter (fun i => decide (i ≠ id)) = (ids c.l).filter (fun i => decide (i ≠ id))
theorem Sim.refl {id : Int} {c : Cls} : Sim id c c := ⟨rfl, rfl⟩
theorem Sim.trans {id : Int} {c d e : Cls} (h : Sim id c d) (h' : Sim id d e) : Sim id c e := ⟨h'.len.trans h.len, h'.fil.trans h.fil⟩
theorem sim_yield {c : Cls} (h64 : c.l.length ≤ 64) (h : c.Wf) (id : Int) : Sim id c (yieldM c id).1 ∧ ((yieldM c id).2 = 0 → id ∈ ids c.l) ∧ ((yieldM c id).2 ≠ 0 → id ∉ ids c.l ∧ (yieldM c id).1 = c) := by
  cases hf : findIx c.l id with
  | none =>
    rw [yieldM_none hf]
    have : id ∉ ids c.l := fun hm => by
      obtain ⟨t, ht, hid⟩ := List.mem_map.1 hm
      obtain ⟨k, hk⟩ := List.getElem?_of_mem ht
      have := findIx_nodup h.nd hk
      rw [hid, hf] at this; cases this
    exact ⟨Sim.refl, fun h => by simp at h, fun _ => ⟨this, rfl⟩⟩
  | some k =>
    have hg := ids_get hf
    have hk : k < c.l.length := by have := (List.getElem?_eq_some_iff.1 hg).1; rwa [ids_length] at this
    have hy : yieldM c id = (⟨c.q, c.l.eraseIdx k ++ [⟨id, 0⟩]⟩, 0) := by
      unfold yieldM
      rw [dropM_some hf, if_pos rfl]
      unfold addM
      rw [addGo_one (findIx_pos h hf) (drop_out h hf) (by show (c.l.eraseIdx k).length < 64; rw [List.length_eraseIdx_of_lt hk]; omega)]
    rw [hy]
    refine ⟨⟨?_, ?_⟩, fun _ => List.mem_of_getElem? hg, fun h => absurd rfl h⟩
    · show (c.l.eraseIdx k ++ [_]).length = _
      rw [List.length_append, List.length_eraseIdx_of_lt hk]; simp; omega
    · show (ids (c.l.eraseIdx k ++ [⟨id, 0⟩])).filter _ = _
      rw [show ids (c.l.eraseIdx k ++ [⟨id, 0⟩]) = ids (c.l.eraseIdx k) ++ [id] from List.map_append .., List.filter_append, ids_eraseIdx, filter_erase hg]
      simp
theorem sim_run {c : Cls} (h64 : c.l.length ≤ 64) (h : c.Wf) (id x : Int) : Sim id c (runM c id x).1 ∧ ((runM c id x).2 = 0 → id ∈ ids c.l) ∧ ((runM c id x).2 ≠ 0 → (runM c id x).1 = c) ∧ (id ∈ ids (runM c id x).1.l → id ∈ ids c.l) := by
  cases hf : findIx c.l id with
  | none => rw [runM_none hf]; exact ⟨Sim.refl, fun h => by simp at h, fun _ => rfl, fun h => h⟩
  | some k =>
    obtain ⟨t, ht, _⟩ := findIx_lt hf
    have hg := ids_get hf
    have hm := List.mem_of_getElem? hg
    rw [runM_some hf ht]
    split
    · exact ⟨Sim.refl, fun h => by simp at h, fun _ => rfl, fun h => h⟩
    · have hids := ids_set (r := t.ran + x) ht
      have hs : Sim id c ⟨c.q, c.l.set k ⟨t.id, t.ran + x⟩⟩ := ⟨by simp, by show (ids (c.l.set k _)).filter _ = _; rw [hids]⟩
      split
      · obtain ⟨h1, h2, h3⟩ := sim_yield (c := ⟨c.q, c.l.set k ⟨t.id, t.ran + x⟩⟩) (by simpa using h64) (setWf h ht _) id
        refine ⟨hs.trans h1, fun _ => hm, fun he => ?_, fun _ => hm⟩
        have := (h3 he).1
        rw [show (Cls.mk c.q (c.l.set k ⟨t.id, t.ran + x⟩)).l = c.l.set k ⟨t.id, t.ran + x⟩ from rfl, hids] at this
        exact absurd hm this
      · exact ⟨hs, fun _ => hm, fun he => absurd rfl he, fun _ => hm⟩

/-- What the law's calls make of the row, and the last answer. -/
def kept (c : Cls) (id a b : Int) : Cls × Int := if b.tmod 2 ≠ 0 then yieldM (runM c id a).1 id else runM c id a
theorem filter_len {l : List Int} (hn : l.Nodup) {id : Int} (hm : id ∈ l) : (l.filter fun i => decide (i ≠ id)).length + 1 = l.length := by
  induction l with
  | nil => cases hm
  | cons a l ih =>
    rw [List.nodup_cons] at hn
    rcases List.mem_cons.1 hm with rfl | hm
    · have : l.filter (fun i => decide (i ≠ id)) = l := List.filter_eq_self.2 fun b hb => by simp; rintro rfl; exact hn.1 hb
      rw [List.filter_cons, if_neg (by simp), this]; rfl
    · have hne : a ≠ id := by rintro rfl; exact hn.1 hm
      rw [List.filter_cons, if_pos (by simpa using hne), List.length_cons, List.length_cons, ih hn.2 hm]
theorem kept_law {c : Cls} (h64 : c.l.length ≤ 64) (h : c.Wf) (id a b : Int) :
    (kept c id a b).1.l.length = c.l.length ∧ (ids (kept c id a b).1.l).filter (fun i => decide (i ≠ id)) = (ids c.l).filter (fun i => decide (i ≠ id)) ∧
    ((kept c id a b).2 ≠ 0 → ids (kept c id a b).1.l = ids c.l) ∧ ((kept c id a b).2 = 0 → ((ids c.l).filter fun i => decide (i ≠ id)).length + 1 = c.l.length) := by
  obtain ⟨r1, r2, r3, r4⟩ := sim_run h64 h id a
  obtain ⟨w1, w2⟩ := runM_Wf h64 h id a
  unfold kept
  split
  · obtain ⟨y1, y2, y3⟩ := sim_yield w2 w1 id
    obtain ⟨s1, s2⟩ := r1.trans y1
    refine ⟨s1, s2, fun he => ?_, fun he => by rw [filter_len h.nd (r4 (y2 he)), ids_length]⟩
    obtain ⟨z1, z2⟩ := y3 he
    rw [z2] at s2 ⊢
    have e1 : ∀ l : List Int, id ∉ l → l.filter (fun i => decide (i ≠ id)) = l := fun l hl => List.filter_eq_self.2 fun b hb => by simp; rintro rfl; exact hl hb
    have hno : id ∉ ids c.l := fun hm => by
      have q1 := filter_len h.nd hm
      rw [← s2, e1 _ z1] at q1
      have := r1.len
      rw [ids_length, ids_length] at q1; omega
    rw [e1 _ z1, e1 _ hno] at s2
    exact s2
  · exact ⟨r1.len, r1.fil, fun he => by rw [r3 he], fun he => by rw [filter_len h.nd (r2 he), ids_length]⟩
end Go.Proofs.Ytenpeogkefmclaa
