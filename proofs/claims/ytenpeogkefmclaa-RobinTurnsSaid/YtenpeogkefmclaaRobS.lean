/- Robin: the document's Run; the calls of the law. Conditions: none. -/
import Derived.Test.YtenpeogkefmclaaRobR
set_option linter.all false
set_option linter.deprecated false
namespace Go.Proofs.Ytenpeogkefmclaa
open Go.Sep
variable [B0 : Base]

theorem setOk {c : Cls} (ho : c.Ok) {k : Nat} {t : Th} (ht : c.l[k]? = some t) {r : Int} (h : 0 ≤ r ∧ r ≤ c.q) : (Cls.mk c.q (c.l.set k ⟨t.id, r⟩)).Ok := by
  refine ⟨ho.1, ho.2.1, by simpa using ho.2.2.1, fun u hu => ?_⟩
  rcases List.mem_or_eq_of_mem_set hu with h' | h'
  · exact ho.2.2.2 u h'
  · subst h'; exact h
theorem setWf {c : Cls} (h : c.Wf) {k : Nat} {t : Th} (ht : c.l[k]? = some t) (r : Int) : (Cls.mk c.q (c.l.set k ⟨t.id, r⟩)).Wf :=
  ⟨by show (ids (c.l.set k _)).Nodup; rw [ids_set ht]; exact h.nd, fun i hi => h.pos i (by rw [← ids_set (r := r) ht]; exact hi)⟩
theorem rans_set {l : List Th} {k : Nat} {i r : Int} : rans (l.set k ⟨i, r⟩) = (rans l).set k r := by unfold rans; rw [List.map_set]
theorem runM_none {c : Cls} {id x : Int} (hf : findIx c.l id = none) : runM c id x = (c, 14) := by unfold runM; rw [hf]
theorem runM_some {c : Cls} {id x : Int} {k : Nat} {t : Th} (hf : findIx c.l id = some k) (ht : c.l[k]? = some t) : runM c id x = if x < 0 ∨ c.q - t.ran < x then (c, 10) else
      if t.ran + x = c.q then yieldM ⟨c.q, c.l.set k ⟨t.id, t.ran + x⟩⟩ id else (⟨c.q, c.l.set k ⟨t.id, t.ran + x⟩⟩, 0) := by unfold runM; rw [hf]; simp only [ht]

set_option maxHeartbeats 4000000 in
theorem RRun_ok (p : Nat) (c : Cls) (id x : Int) (hx : -9223372036854775808 ≤ x ∧ x ≤ 9223372036854775807) (h : c.Wf) (R : List HP) :
    Called Try.prog 27 [ptr p, int id, int x] (rcl p c :: R) (Sep.is (int (runM c id x).2) (rcl p (runM c id x).1 :: R)) := by
  refine Fn3 Try.func27 rfl Try.ntmps27 rfl ?_
  refine C_rcl fun v u ho hv hu => ?_
  have h64 := ho.2.2.1
  have hA := fun R => At_ok p (int c.q) u v (ids c.l) id (by rw [ids_length]; exact hv) R
  cases hf : findIx c.l id with
  | none =>
    rw [show ixI (idx (ids c.l) id) = -1 by rw [← findIx_idx, hf]; rfl] at hA
    rw [runM_none hf]
    (repeat' first | refine stp ?_ | intro v' hv' | intro (b : Nat) | refine spl ?_ ?_ | intro hc)
    exact At_ret1 (by (first | exact .inl rfl | exact .inr rfl)) Try.results27 rfl ⟨rfl, rfl⟩ (fun w h => rcl_fold ho h)
  | some k =>
    rw [show ixI (idx (ids c.l) id) = k by rw [← findIx_idx, hf]; rfl] at hA
    obtain ⟨t, ht, hid⟩ := findIx_lt hf
    have hk : k < c.l.length := (List.getElem?_eq_some_iff.1 ht).1
    obtain ⟨hr0, hr1⟩ := ho.2.2.2 t (List.mem_of_getElem? ht)
    have hq1 := ho.1
    have hq2 := ho.2.1
    rw [runM_some hf ht]
    have hg : ((rans c.l).map inE)[k]? = some [int t.ran] := by simp [rans, ht, inE]
    by_cases h1 : x < 0
    · rw [if_pos (.inl h1)]
      (repeat' first | refine stp ?_ | intro v' hv' | intro (b : Nat) | refine spl ?_ ?_ | intro hc)
      exact At_ret1 (by (first | exact .inl rfl | exact .inr rfl)) Try.results27 rfl ⟨rfl, rfl⟩ (fun w h => rcl_fold ho h)
    · by_cases h2 : c.q - t.ran < x
      · rw [if_pos (.inr h2)]
        (repeat' first | refine stp ?_ | intro v' hv' | intro (b : Nat) | refine spl ?_ ?_ | intro hc)
        exact At_ret1 (by (first | exact .inl rfl | exact .inr rfl)) Try.results27 rfl ⟨rfl, rfl⟩ (fun w h => rcl_fold ho h)
      · rw [if_neg (by omega)]
        have hset : ((rans c.l).map inE).set k [int (t.ran + x)] = (rans (c.l.set k ⟨t.id, t.ran + x⟩)).map inE := by rw [rans_set, List.map_set]; rfl
        have hget2 : (((rans c.l).map inE).set k [int (t.ran + x)])[k]? = some [int (t.ran + x)] := by simp [hk]
        have hok := setOk ho ht (r := t.ran + x) ⟨by omega, by omega⟩
        have hfold : ∀ w, Sat w (pt p 41 [int c.q, v, u] :: sl 3 1 v ((ids c.l).map inE) :: sl 3 1 u (((rans c.l).map inE).set k [int (t.ran + x)]) :: R) → Sat w (rcl p ⟨c.q, c.l.set k ⟨t.id, t.ran + x⟩⟩ :: R) := fun w hs => by
          rw [hset, show ids c.l = ids (c.l.set k ⟨t.id, t.ran + x⟩) from (ids_set ht).symm] at hs
          exact rcl_fold hok hs
        by_cases h3 : t.ran + x = c.q
        · rw [if_pos h3]
          have hY := RYield_ok p ⟨c.q, c.l.set k ⟨t.id, t.ran + x⟩⟩ id (setWf h ht _) R
          (repeat' first | refine stp ?_ | intro v' hv' | intro (b : Nat) | refine spl ?_ ?_ | intro hc)
          apply w_cd
          rfl; rfl; exact hY.pre hfold; ((exact kmf))
          (repeat' first | refine stp ?_ | intro v' hv' | intro (b : Nat) | refine spl ?_ ?_ | intro hc)
          exact At_ret1 (by (first | exact .inl rfl | exact .inr rfl)) Try.results27 rfl ⟨rfl, rfl⟩ (fun w h => h)
        · rw [if_neg h3]
          (repeat' first | refine stp ?_ | intro v' hv' | intro (b : Nat) | refine spl ?_ ?_ | intro hc)
          exact At_ret1 (by (first | exact .inl rfl | exact .inr rfl)) Try.results27 rfl ⟨rfl, rfl⟩ (fun w h => hfold w h)
end Go.Proofs.Ytenpeogkefmclaa
