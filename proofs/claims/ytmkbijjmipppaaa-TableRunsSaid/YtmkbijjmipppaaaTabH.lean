/- TableSpawns: what is so of it in plain words. Conditions: none. -/
import Derived.Test.YtmkbijjmipppaaaTabG
set_option linter.all false
set_option linter.deprecated false
namespace Go.Proofs.Ytmkbijjmipppaaa
open Go.Sep
variable [B0 : Base]
def spL : List (List Ins) := [[], [⟨1, 3⟩, ⟨1, 3⟩]]
def t0 : Tm := ⟨1, 0, 3⟩
def spT (k : Nat) : Tab := ⟨spL, List.replicate k (some t0) ++ List.replicate (64 - k) none⟩
theorem spT_len {k : Nat} (hk : k ≤ 64) : (spT k).ths.length = 64 := by unfold spT; simp; omega
theorem spT_get {k i : Nat} (hk : k ≤ 64) (hi : i < 64) : (spT k).ths[i]? = some (if i < k then some t0 else none) := by
  unfold spT
  dsimp only
  by_cases h : i < k
  · rw [if_pos h, List.getElem?_append_left (by simpa using h), List.getElem?_replicate, if_pos h]
  · rw [if_neg h, List.getElem?_append_right (by simp; omega), List.getElem?_replicate, if_pos (by simp; omega)]
theorem first_none {l : List (Option Tm)} {k : Nat} (h1 : l[k]? = some none) (h2 : ∀ i, i < k → ∃ t, l[i]? = some (some t)) : l.findIdx? (fun o => o.isNone) = some k := by
  obtain ⟨hk, hn⟩ := List.getElem?_eq_some_iff.1 h1
  rw [List.findIdx?_eq_some_iff_getElem]
  refine ⟨hk, by rw [hn]; rfl, fun j hj => ?_⟩
  obtain ⟨t, ht⟩ := h2 j hj
  obtain ⟨hj', hn'⟩ := List.getElem?_eq_some_iff.1 ht
  rw [hn']; simp
theorem spawn_sp {k : Nat} (hk : k < 64) : spawnT (spT k) 1 = (((k : Int), 0), spT (k + 1)) := by
  have hf : (spT k).ths.findIdx? (fun o => o.isNone) = some k := first_none (by rw [spT_get (by omega) hk, if_neg (by omega)]) fun i hi => ⟨t0, by rw [spT_get (by omega) (by omega), if_pos hi]⟩
  unfold spawnT
  rw [if_neg (by show ¬ ((1 : Int) < 0 ∨ ((2 : Nat) : Int) ≤ 1); omega), hf]
  have e : (spT k).setT k (some t0) = spT (k + 1) := by
    unfold Tab.setT spT
    dsimp only
    rw [List.set_append_right _ _ (by simp), List.length_replicate, Nat.sub_self, show 64 - k = (64 - (k + 1)) + 1 by omega, List.replicate_succ, List.set_cons_zero, List.replicate_succ', List.append_assoc]
    rfl
  rw [← e]; rfl
theorem spawn_sp64 : spawnT (spT 64) 1 = ((0, 13), spT 64) := by
  have hf : (spT 64).ths.findIdx? (fun o => o.isNone) = none := by
    rw [List.findIdx?_eq_none_iff]
    intro o ho
    obtain ⟨i, hi⟩ := List.getElem?_of_mem ho
    have hlt : i < 64 := by rw [← spT_len (Nat.le_refl 64)]; exact (List.getElem?_eq_some_iff.1 hi).1
    rw [spT_get (Nat.le_refl 64) hlt, if_pos hlt] at hi
    cases hi; rfl
  unfold spawnT
  rw [if_neg (by show ¬ ((1 : Int) < 0 ∨ ((2 : Nat) : Int) ≤ 1); omega), hf]
/-! ### How many there are -/
def cnt (l : List (Option Tm)) : Nat := l.countP fun o => o.isSome
theorem live_cnt (T : Tab) : (liveT T).length = cnt T.ths := by
  have key : ∀ (l : List (Option Tm)) (i : Nat), (liveT.go T i l).length = cnt l := by
    intro l
    induction l with
    | nil => intro i; rfl
    | cons o l ih =>
      intro i
      cases o with
      | none => show (liveT.go T (i + 1) l).length = _; rw [ih]; unfold cnt; rw [List.countP_cons_of_neg (by simp)]
      | some t => show (liveT.go T (i + 1) l).length + 1 = _; rw [ih]; unfold cnt; rw [List.countP_cons_of_pos (by simp)]
  exact key T.ths 0
theorem cnt_le (l : List (Option Tm)) : cnt l ≤ l.length := List.countP_le_length
theorem cnt_sp {k : Nat} : cnt (spT k).ths = k := by
  unfold cnt spT
  rw [List.countP_append, List.countP_replicate, List.countP_replicate]; simp
theorem cnt_set {l : List (Option Tm)} {i : Nat} {t : Tm} (o : Option Tm) (h : l[i]? = some (some t)) : cnt (l.set i o) = cnt l - 1 + (if o.isSome then 1 else 0) := by
  obtain ⟨hi, hn⟩ := List.getElem?_eq_some_iff.1 h
  unfold cnt
  rw [List.countP_set hi, hn]; rfl
theorem cnt_pos {l : List (Option Tm)} {i : Nat} {t : Tm} (h : l[i]? = some (some t)) : 0 < cnt l := by
  unfold cnt
  exact List.countP_pos_iff.2 ⟨some t, List.mem_of_getElem? h, rfl⟩
theorem full_none {l : List (Option Tm)} (h : cnt l = l.length) : l.findIdx? (fun o => o.isNone) = none := by
  rw [List.findIdx?_eq_none_iff]
  intro o ho
  have := List.countP_eq_length.1 h o ho
  cases o with
  | none => cases this
  | some t => rfl
/-! ### The calls, one by one -/
theorem find_no {T : Tab} {K : Nat} {id : Int} (h : ∀ i, i < 64 → ∃ o, T.ths[i]? = some o ∧ (o.isSome = true ↔ i < K)) (hid : ¬ (0 ≤ id ∧ id < K)) : ∃ e, e ≠ 0 ∧ findT T id = (none, e) := by
  unfold findT
  by_cases hi : id < 0 ∨ 64 ≤ id
  · rw [if_pos hi]; exact ⟨10, by decide, rfl⟩
  · rw [if_neg hi]
    obtain ⟨o, h1, h2⟩ := h id.toNat (by omega)
    rw [h1]
    cases o with
    | none => exact ⟨14, by decide, rfl⟩
    | some t => exact absurd (h2.1 rfl) (by omega)
theorem find_yes {T : Tab} {id : Int} {t : Tm} (h0 : 0 ≤ id) (h1 : id < 64) (h : T.ths[id.toNat]? = some (some t)) : findT T id = (some t, 0) := by
  unfold findT
  rw [if_neg (by omega), h]
/-- Behind the law's Run. -/
def T1 (K : Nat) (run : Int) : Tab := if 0 ≤ run ∧ run < K then (spT K).setT run.toNat (some ⟨1, 1, 3⟩) else spT K
theorem T1_get {K i : Nat} {run : Int} (hK : K ≤ 64) (hi : i < 64) : (T1 K run).ths[i]? = some (if i < K then some ⟨1, if (i : Int) = run then 1 else 0, 3⟩ else none) := by
  unfold T1
  by_cases hr : 0 ≤ run ∧ run < K
  · rw [if_pos hr]
    unfold Tab.setT
    dsimp only
    by_cases he : run.toNat = i
    · have : (i : Int) = run := by omega
      rw [he, List.getElem?_set_self (by rw [spT_len hK]; exact hi), if_pos (by omega), if_pos this]
    · rw [List.getElem?_set_ne he, spT_get hK hi]
      by_cases hik : i < K
      · rw [if_pos hik, if_pos hik, if_neg (by omega)]; rfl
      · rw [if_neg hik, if_neg hik]
  · rw [if_neg hr, spT_get hK hi]
    by_cases hik : i < K
    · rw [if_pos hik, if_pos hik, if_neg (by omega)]; rfl
    · rw [if_neg hik, if_neg hik]
theorem T1_progs {K : Nat} {run : Int} : (T1 K run).progs = spL := by unfold T1; split <;> rfl
theorem T1_len {K : Nat} {run : Int} (hK : K ≤ 64) : (T1 K run).ths.length = 64 := by unfold T1; split; (unfold Tab.setT; rw [List.length_set]; exact spT_len hK); exact spT_len hK
theorem T1_cnt {K : Nat} {run : Int} (hK : K ≤ 64) : cnt (T1 K run).ths = K := by
  unfold T1
  split
  · rename_i hr
    have hg : (spT K).ths[run.toNat]? = some (some t0) := by rw [spT_get hK (by omega), if_pos (by omega)]
    have hp := cnt_pos hg
    unfold Tab.setT
    dsimp only
    rw [cnt_set _ hg]
    rw [cnt_sp] at *
    simp; omega
  · exact cnt_sp
theorem run_sp {K : Nat} {run : Int} (hK : K ≤ 64) : ∃ n f, runT (spT K) run 4 = ((n, f), T1 K run) ∧ ((0 ≤ run ∧ run < K) ∧ n = 3 ∧ f = 0 ∨ ¬ (0 ≤ run ∧ run < K) ∧ f ≠ 0) := by
  by_cases hr : 0 ≤ run ∧ run < K
  · refine ⟨3, 0, ?_, .inl ⟨hr, rfl, rfl⟩⟩
    have hf := find_yes (T := spT K) (id := run) hr.1 (by omega) (t := t0) (by rw [spT_get hK (by omega), if_pos (by omega)])
    unfold runT T1
    rw [hf, if_pos hr]; rfl
  · obtain ⟨e, he, hf⟩ := find_no (T := spT K) (K := K) (id := run) (fun i hi => ⟨_, spT_get hK hi, by split <;> simp_all⟩) hr
    refine ⟨0, e, ?_, .inr ⟨hr, he⟩⟩
    unfold runT T1
    rw [hf, if_neg hr]
theorem where_sp {K i : Nat} {run : Int} (hK : K ≤ 64) (hi : i < K) : whereT (T1 K run) i = ((1, (if (i : Int) = run then 1 else 0), 3), 0) := by
  have hf := find_yes (T := T1 K run) (id := (i : Int)) (by omega) (by omega) (t := ⟨1, if (i : Int) = run then 1 else 0, 3⟩) (by rw [Int.toNat_natCast, T1_get hK (by omega), if_pos hi])
  unfold whereT
  rw [hf]
  dsimp only
  split <;> rfl
/-- Behind the law's Kill. -/
def T2 (K : Nat) (run kill : Int) : Tab := if 0 ≤ kill ∧ kill < K then (T1 K run).setT kill.toNat none else T1 K run
theorem kill_sp {K : Nat} {run kill : Int} (hK : K ≤ 64) : ∃ g, killT (T1 K run) kill = (g, T2 K run kill) ∧ ((0 ≤ kill ∧ kill < K) ∧ g = 0 ∨ ¬ (0 ≤ kill ∧ kill < K) ∧ g ≠ 0) := by
  by_cases hr : 0 ≤ kill ∧ kill < K
  · refine ⟨0, ?_, .inl ⟨hr, rfl⟩⟩
    have hf := find_yes (T := T1 K run) (id := kill) hr.1 (by omega) (by rw [T1_get hK (by omega), if_pos (by omega)])
    unfold killT T2
    rw [hf, if_pos hr]
  · obtain ⟨e, he, hf⟩ := find_no (T := T1 K run) (K := K) (id := kill) (fun i hi => ⟨_, T1_get hK hi, by split <;> simp_all⟩) hr
    refine ⟨e, ?_, .inr ⟨hr, he⟩⟩
    unfold killT T2
    rw [hf, if_neg hr]
theorem T2_len {K : Nat} {run kill : Int} (hK : K ≤ 64) : (T2 K run kill).ths.length = 64 := by unfold T2; split; (unfold Tab.setT; rw [List.length_set]; exact T1_len hK); exact T1_len hK
theorem T2_progs {K : Nat} {run kill : Int} : (T2 K run kill).progs = spL := by unfold T2; split <;> exact T1_progs
theorem T2_cnt {K : Nat} {run kill : Int} (hK : K ≤ 64) : cnt (T2 K run kill).ths = if 0 ≤ kill ∧ kill < K then K - 1 else K := by
  unfold T2
  by_cases hr : 0 ≤ kill ∧ kill < K
  · rw [if_pos hr, if_pos hr]
    unfold Tab.setT
    dsimp only
    rw [cnt_set (t := ⟨1, if ((kill.toNat : Nat) : Int) = run then 1 else 0, 3⟩) _ (by rw [T1_get hK (by omega), if_pos (by omega)]), T1_cnt hK]; rfl
  · rw [if_neg hr, if_neg hr, T1_cnt hK]
/-- The law's last Spawn. -/
theorem last_sp {K : Nat} {run kill : Int} (hK : K ≤ 64) : (cnt (T2 K run kill).ths = 64 ∧ spawnT (T2 K run kill) 0 = ((0, 13), T2 K run kill)) ∨ (cnt (T2 K run kill).ths ≠ 64 ∧ ∃ (id : Nat) (T3 : Tab), spawnT (T2 K run kill) 0 = (((id : Int), 0), T3) ∧ actT T3 id = ((9, 0), 0) ∧ (id : Int) = if 0 ≤ kill ∧ kill < K then kill else K) := by
  have hp : ¬ ((0 : Int) < 0 ∨ (((T2 K run kill).progs.length : Nat) : Int) ≤ 0) := by rw [T2_progs]; show ¬ ((0 : Int) < 0 ∨ ((2 : Nat) : Int) ≤ 0); omega
  by_cases hc : cnt (T2 K run kill).ths = 64
  · refine .inl ⟨hc, ?_⟩
    unfold spawnT
    rw [if_neg hp, full_none (by rw [hc, T2_len hK])]
  · have hlast : ∀ id : Nat, id < 64 → (T2 K run kill).ths.findIdx? (fun o => o.isNone) = some id → ∃ T3, spawnT (T2 K run kill) 0 = (((id : Int), 0), T3) ∧ actT T3 id = ((9, 0), 0) := by
      intro id hid hf
      unfold spawnT
      rw [if_neg hp, hf, T2_progs]
      refine ⟨_, rfl, ?_⟩
      have hg := find_yes (T := (T2 K run kill).setT id (some ⟨0, 0, 0⟩)) (id := (id : Int)) (by omega) (by omega) (t := ⟨0, 0, 0⟩) (by
        unfold Tab.setT
        dsimp only
        rw [Int.toNat_natCast, List.getElem?_set_self (by rw [T2_len hK]; exact hid)])
      show actT ((T2 K run kill).setT id (some ⟨0, 0, 0⟩)) id = _
      unfold actT
      rw [hg]
      have : ((T2 K run kill).setT id (some ⟨0, 0, 0⟩)).l ⟨0, 0, 0⟩ = [] := by unfold Tab.l Tab.setT; dsimp only; rw [T2_progs]; rfl
      dsimp only
      rw [this]; rfl
    by_cases hr : 0 ≤ kill ∧ kill < K
    · have hT : T2 K run kill = (T1 K run).setT kill.toNat none := by unfold T2; rw [if_pos hr]
      have hlt : kill.toNat < 64 := by omega
      obtain ⟨T3, h1, h2⟩ := hlast kill.toNat hlt (first_none (by
          rw [hT]; unfold Tab.setT; dsimp only
          rw [List.getElem?_set_self (by rw [T1_len hK]; exact hlt)]) fun i hi => by
          rw [hT]; unfold Tab.setT; dsimp only
          rw [List.getElem?_set_ne (by omega), T1_get hK (by omega), if_pos (by omega)]; exact ⟨_, rfl⟩)
      refine .inr ⟨hc, kill.toNat, T3, h1, h2, ?_⟩
      rw [if_pos hr]; omega
    · have hT : T2 K run kill = T1 K run := by unfold T2; rw [if_neg hr]
      have hlt : K < 64 := by
        rw [T2_cnt hK, if_neg hr] at hc; omega
      obtain ⟨T3, h1, h2⟩ := hlast K hlt (first_none (by rw [hT, T1_get hK hlt, if_neg (by omega)]) fun i hi => by
          rw [hT, T1_get hK (by omega), if_pos hi]; exact ⟨_, rfl⟩)
      refine .inr ⟨hc, K, T3, h1, h2, ?_⟩
      rw [if_neg hr]
end Go.Proofs.Ytmkbijjmipppaaa
