/- spread: what the calls make of workers, in plain words. Conditions: none. -/
import Derived.Test.YtoddjdghjpdomaaSpA
set_option linter.all false
set_option linter.deprecated false
namespace Go.Proofs.Ytoddjdghjpdomaa
open Go.Sep
theorem WfS.of_perm {M M' : List Wk} (h : WfS M) (hp : (rk M' ++ wq M').Perm (rk M ++ wq M)) (hs : ∀ i, i < M'.length → Srt (wkA M' i).q) : WfS M' where
  nodup := (hp.map (·.id)).nodup_iff.2 h.nodup
  kb x hx := h.kb x (hp.mem_iff.1 hx)
  srt := hs
theorem WfS.q_ne {M : List Wk} (h : WfS M) {i j : Nat} (hi : i < M.length) (hr : (wkA M i).runs = true) (hj : j < M.length) : ∀ z ∈ (wkA M j).q, z.id ≠ (wkA M i).k.id :=
  fun z hz => (id_ne_app h.nodup (rk_mem.2 ⟨i, hi, hr, rfl⟩) (wq_mem.2 ⟨j, hj, hz⟩)).symm
theorem settle_len (M : List Wk) : (settleM M).2.length = M.length := by
  unfold settleM
  cases hs : stepM M with
  | none => rfl
  | some p =>
    obtain ⟨m, M'⟩ := p
    dsimp only
    unfold stepM at hs
    split at hs
    · cases hs
    split at hs
    · cases hs
    simp only [Option.some.injEq, Prod.mk.injEq] at hs
    rw [← hs.2, List.length_set, popM_len]
theorem WfS.step {M M' : List Wk} {m : Int × Int × Int} (h : WfS M) (hs : stepM M = some (m, M')) : WfS M' := by
  obtain ⟨hst, f, t, x, r, rfl, hf, ht, hq, rfl, hlf, hlt⟩ := step_some h hs
  refine h.of_perm hst.perm fun i hi => ?_
  rw [List.length_set, popM_len] at hi
  have hp : ∀ j, j < M.length → (wkA (popM M f) j).q.Sublist (wkA M j).q := fun j hj => by
    unfold popM
    rw [wkA_set hf]
    by_cases e : f = j
    · subst e; rw [if_pos rfl]; exact List.tail_sublist _
    · rw [if_neg e]; exact List.Sublist.refl _
  rw [wkA_set (by rw [popM_len]; exact ht)]
  by_cases e : t = i
  · subst e
    rw [if_pos rfl]
    unfold runW
    dsimp only
    have hs1 : Srt (wkA (popM M f) t).q := (h.srt t ht).sublist (hp t ht)
    split
    · rename_i hr
      rw [(popM_at hf t).1] at hr
      refine insK_srt hs1 fun y hy => ?_
      rw [(popM_at hf t).2]
      exact h.q_ne ht hr ht y ((hp t ht).subset hy)
    · exact hs1
  · rw [if_neg e]; exact (h.srt i hi).sublist (hp i hi)
structure InvS (M : List Wk) : Prop where
  wf : WfS M
  sett : Sett M.length (rk M) (wq M)
  pos : 1 ≤ M.length
  few : M.length ≤ 16
/-- Behind settling. -/
structure SettleK (M : List Wk) : Prop where
  inv : InvS (settleM M).2
  perm : (rk (settleM M).2 ++ wq (settleM M).2).Perm (rk M ++ wq M)
  twice : ∀ m M', stepM M = some (m, M') → stepM M' = none
theorem settleK_of {M : List Wk} (h : WfS M) (hp : 1 ≤ M.length) (hf : M.length ≤ 16) (hs : ∀ R' W', Step M.length (rk M) (wq M) R' W' → Sett M.length R' W') : SettleK M := by
  cases hst : stepM M with
  | none =>
    have e : settleM M = ([], M) := by unfold settleM; rw [hst]
    rw [show SettleK M = SettleK M from rfl]
    exact ⟨by rw [e]; exact ⟨h, (step_none h).1 hst, hp, hf⟩, by rw [e], fun m M' hh => by rw [hst] at hh; cases hh⟩
  | some p =>
    obtain ⟨m, M'⟩ := p
    have e : settleM M = ([m], M') := by unfold settleM; rw [hst]
    have hw := h.step hst
    have hsm := (step_some h hst).1
    have hl : M'.length = M.length := by have := settle_len M; rw [e] at this; exact this
    have hse := hs _ _ hsm
    rw [← hl] at hse
    refine ⟨(by rw [e]; exact ⟨hw, hse, (by rw [hl]; exact hp), (by rw [hl]; exact hf)⟩), by rw [e]; exact hsm.perm, fun m1 M1 hh => ?_⟩
    rw [hst] at hh
    cases hh
    exact (step_none hw).2 hse
/-! ### The calls -/
def isK (n : Int) (x : Ky) : Bool := decide (x.id = n)
def hasW (n : Int) (x : Wk) : Bool := (x.runs && decide (x.k.id = n)) || x.q.any (isK n)
def findM (M : List Wk) (n : Int) : Option (Nat × Int) := match M.findIdx? (hasW n) with
  | none => none
  | some w => some (w, if (wkA M w).runs = true ∧ (wkA M w).k.id = n then -1 else findI (isK n) (wkA M w).q)
def mayK (k : Ky) : Bool := decide (0 ≤ k.id) && decide (k.id < 64) && decide (0 ≤ k.at') && decide (k.at' < 1099511627776)
theorem mayK_iff {k : Ky} : mayK k = true ↔ 0 ≤ k.id ∧ k.id < 64 ∧ 0 ≤ k.at' ∧ k.at' < 1099511627776 := by
  unfold mayK; simp only [Bool.and_eq_true, decide_eq_true_eq, and_assoc]
abbrev Mv : Type := Int × Int × Int
def addW (M : List Wk) (w : Nat) (k : Ky) : List Wk := M.set w { wkA M w with q := insK (wkA M w).q k }
def putM (M : List Wk) (k : Ky) (home : Int) : (List Mv × Int) × List Wk :=
  if mayK k = false ∨ home < 0 ∨ (M.length : Int) ≤ home then (([], 10), M) else
  if (findM M k.id).isSome = true then (([], 15), M) else
  (((settleM (addW M home.toNat k)).1, 0), (settleM (addW M home.toNat k)).2)
def takeM (M : List Wk) (n t : Int) : ((Int × Bool) × Int) × List Wk :=
  if mayK ⟨t, n⟩ = false then (((0, false), 10), M) else
  match findM M n with
  | none => (((0, false), 14), M)
  | some (w, i) => if i = -1 then ((((w : Int), true), 0), M.set w { wkA M w with runs := false }) else ((((w : Int), false), 0), M.set w { wkA M w with q := (wkA M w).q.eraseIdx i.toNat })
def dropM (M : List Wk) (n : Int) : (List Mv × Int) × List Wk :=
  if (takeM M n 0).1.2 ≠ 0 then (([], (takeM M n 0).1.2), M) else (((settleM (takeM M n 0).2).1, 0), (settleM (takeM M n 0).2).2)
def backW (M : List Wk) (w : Nat) (ran : Bool) (k : Ky) : List Wk := if ran then M.set w ⟨true, k, (wkA M w).q⟩ else addW M w k
def rekeyM (M : List Wk) (n t : Int) : (List Mv × Int) × List Wk :=
  if (takeM M n t).1.2 ≠ 0 then (([], (takeM M n t).1.2), M) else
  (((settleM (backW (takeM M n t).2 (takeM M n t).1.1.1.toNat (takeM M n t).1.1.2 ⟨t, n⟩)).1, 0), (settleM (backW (takeM M n t).2 (takeM M n t).1.1.1.toNat (takeM M n t).1.1.2 ⟨t, n⟩)).2)
theorem hasW_iff {n : Int} {x : Wk} : hasW n x = true ↔ (x.runs = true ∧ x.k.id = n) ∨ ∃ y ∈ x.q, y.id = n := by
  unfold hasW isK
  simp only [Bool.or_eq_true, Bool.and_eq_true, decide_eq_true_eq, List.any_eq_true]
theorem findM_none {M : List Wk} {n : Int} : findM M n = none ↔ ∀ x ∈ rk M ++ wq M, x.id ≠ n := by
  unfold findM
  constructor
  · intro h x hx e
    cases hf : M.findIdx? (hasW n) with
    | some w => rw [hf] at h; cases h
    | none =>
      have hn := List.findIdx?_eq_none_iff.1 hf
      rcases List.mem_append.1 hx with hx | hx
      · obtain ⟨i, hi, hr, rfl⟩ := rk_mem.1 hx
        have := hn _ (List.mem_of_getElem? (wk_some hi))
        rw [hasW_iff.2 (.inl ⟨hr, e⟩)] at this; cases this
      · obtain ⟨i, hi, hq⟩ := wq_mem.1 hx
        have := hn _ (List.mem_of_getElem? (wk_some hi))
        rw [hasW_iff.2 (.inr ⟨x, hq, e⟩)] at this; cases this
  · intro h
    have : M.findIdx? (hasW n) = none := List.findIdx?_eq_none_iff.2 fun w hw => by
      obtain ⟨i, hi⟩ := List.getElem?_of_mem hw
      have hl := (List.getElem?_eq_some_iff.1 hi).1
      cases hh : hasW n w with
      | false => rfl
      | true =>
        exfalso
        rw [← wkA_eq hi] at hh
        rcases hasW_iff.1 hh with ⟨hr, e⟩ | ⟨y, hy, e⟩
        · exact h _ (List.mem_append_left _ (rk_mem.2 ⟨i, hl, hr, rfl⟩)) e
        · exact h _ (List.mem_append_right _ (wq_mem.2 ⟨i, hl, hy⟩)) e
    rw [this]
theorem findM_some {M : List Wk} {n : Int} {w : Nat} {i : Int} (h : findM M n = some (w, i)) : w < M.length ∧ ((i = -1 ∧ (wkA M w).runs = true ∧ (wkA M w).k.id = n) ∨ (∃ (j : Nat) (x : Ky), i = (j : Int) ∧ (wkA M w).q[j]? = some x ∧ x.id = n)) := by
  unfold findM at h
  cases hf : M.findIdx? (hasW n) with
  | none => rw [hf] at h; cases h
  | some w' =>
    rw [hf] at h
    simp only [Option.some.injEq, Prod.mk.injEq] at h
    obtain ⟨rfl, hi⟩ := h
    obtain ⟨hl, h1, -⟩ := List.findIdx?_eq_some_iff_getElem.1 hf
    refine ⟨hl, ?_⟩
    have he := wkA_eq (List.getElem?_eq_getElem hl)
    rw [← he] at h1
    by_cases hc : (wkA M w').runs = true ∧ (wkA M w').k.id = n
    · rw [if_pos hc] at hi; exact .inl ⟨hi.symm, hc⟩
    · rw [if_neg hc] at hi
      right
      obtain ⟨y, hy, e⟩ := (hasW_iff.1 h1).resolve_left hc
      unfold findI at hi
      cases hg : (wkA M w').q.findIdx? (isK n) with
      | none => have := List.findIdx?_eq_none_iff.1 hg y hy; simp [isK, e] at this
      | some j =>
        rw [hg] at hi
        obtain ⟨hj1, hj2, -⟩ := List.findIdx?_eq_some_iff_getElem.1 hg
        exact ⟨j, _, hi.symm, List.getElem?_eq_getElem hj1, by simpa [isK] using hj2⟩
theorem findM_at {M : List Wk} (h : WfS M) {w : Nat} (hw : w < M.length) : ((wkA M w).runs = true → findM M (wkA M w).k.id = some (w, -1)) ∧ ∀ (j : Nat) (x : Ky), (wkA M w).q[j]? = some x → findM M x.id = some (w, (j : Int)) := by
  constructor
  · intro hr
    cases hf : findM M (wkA M w).k.id with
    | none => exact absurd rfl (findM_none.1 hf _ (List.mem_append_left _ (rk_mem.2 ⟨w, hw, hr, rfl⟩)))
    | some p =>
      obtain ⟨v, i⟩ := p
      obtain ⟨hv, ⟨rfl, h2, h3⟩ | ⟨j, x, rfl, hx, e⟩⟩ := findM_some hf
      · have hk := id_inj (l := rk M) (by have := h.nodup; rw [List.map_append] at this; exact (List.nodup_append.1 this).1) (rk_mem.2 ⟨v, hv, h2, rfl⟩) (rk_mem.2 ⟨w, hw, hr, rfl⟩) h3
        by_cases e : v = w
        · subst e; rfl
        · exfalso
          have hg := fm_get hv rkf
          have h5 : rkf (wkA M v) = [(wkA M v).k] := by unfold rkf; rw [if_pos h2]
          have hnd := h.nodup
          rw [List.map_append] at hnd
          have h6 := (hg.map (·.id)).nodup_iff.1 (List.nodup_append.1 hnd).1
          rw [h5, List.singleton_append, List.map_cons, List.nodup_cons] at h6
          refine h6.1 (List.mem_map.2 ⟨(wkA M w).k, List.mem_flatMap.2 ⟨wkA M w, List.mem_eraseIdx_iff_getElem?.2 ⟨w, fun x => e x.symm, wk_some hw⟩, ?_⟩, h3.symm⟩)
          unfold rkf; rw [if_pos hr]; exact List.mem_singleton.2 rfl
      · exact absurd e (h.q_ne hw hr hv x (List.mem_of_getElem? hx))
  · intro j x hx
    have hxm := List.mem_of_getElem? hx
    cases hf : findM M x.id with
    | none => exact absurd rfl (findM_none.1 hf _ (List.mem_append_right _ (wq_mem.2 ⟨w, hw, hxm⟩)))
    | some p =>
      obtain ⟨v, i⟩ := p
      obtain ⟨hv, ⟨rfl, h2, h3⟩ | ⟨j', x', rfl, hx', e⟩⟩ := findM_some hf
      · exact absurd h3.symm (h.q_ne hv h2 hw x hxm)
      · have hnd := h.nodup
        rw [List.map_append] at hnd
        have hnq := (List.nodup_append.1 hnd).2.1
        have hxx := id_inj hnq (wq_mem.2 ⟨v, hv, List.mem_of_getElem? hx'⟩) (wq_mem.2 ⟨w, hw, hxm⟩) e
        subst hxx
        have h6 := ((fm_get hv (·.q)).map (·.id)).nodup_iff.1 hnq
        rw [List.map_append] at h6
        by_cases ew : v = w
        · subst ew
          have h7 := (List.nodup_append.1 h6).1
          obtain ⟨a1, a2⟩ := List.getElem?_eq_some_iff.1 hx
          obtain ⟨b1, b2⟩ := List.getElem?_eq_some_iff.1 hx'
          have : ((wkA M v).q.map (·.id))[j]'(by rw [List.length_map]; exact a1) = ((wkA M v).q.map (·.id))[j']'(by rw [List.length_map]; exact b1) := by
            rw [List.getElem_map, List.getElem_map, a2, b2]
          have := (List.getElem_inj h7).1 this
          rw [this]
        · exfalso
          refine (List.nodup_append.1 h6).2.2 x'.id (List.mem_map.2 ⟨x', List.mem_of_getElem? hx', rfl⟩) x'.id (List.mem_map.2 ⟨x', List.mem_flatMap.2 ⟨wkA M w, List.mem_eraseIdx_iff_getElem?.2 ⟨w, fun x => ew x.symm, wk_some hw⟩, hxm⟩, rfl⟩) rfl
/-- One more waits. -/
theorem addW_perm {M : List Wk} {w : Nat} (hw : w < M.length) (k : Ky) : (rk (addW M w k)).Perm (rk M) ∧ (wq (addW M w k)).Perm (k :: wq M) := by
  unfold addW rk wq
  refine ⟨(fm_set hw rkf _).trans (fm_get hw rkf).symm, ?_⟩
  refine (fm_set hw (·.q) _).trans (((insK_perm _ _).append_right _).trans ?_)
  exact ((fm_get hw (·.q)).symm).cons k
theorem addW_len (M : List Wk) (w : Nat) (k : Ky) : (addW M w k).length = M.length := by unfold addW; simp
theorem WfS.add {M : List Wk} (h : WfS M) {w : Nat} (hw : w < M.length) {k : Ky} (hk : mayK k = true) (hn : ∀ x ∈ rk M ++ wq M, x.id ≠ k.id) : WfS (addW M w k) := by
  obtain ⟨h1, h2⟩ := addW_perm hw k
  have hp : (rk (addW M w k) ++ wq (addW M w k)).Perm (k :: (rk M ++ wq M)) := (h1.append h2).trans List.perm_middle
  refine ⟨(hp.map (·.id)).nodup_iff.2 ?_, fun x hx => ?_, fun i hi => ?_⟩
  · rw [List.map_cons, List.nodup_cons]
    exact ⟨fun hc => by obtain ⟨x, hx, e⟩ := List.mem_map.1 hc; exact hn x hx e, h.nodup⟩
  · rcases List.mem_cons.1 (hp.mem_iff.1 hx) with rfl | hx
    · exact mayK_iff.1 hk
    · exact h.kb x hx
  · rw [addW_len] at hi
    unfold addW
    rw [wkA_set hw]
    by_cases e : w = i
    · subst e; rw [if_pos rfl]
      exact insK_srt (h.srt w hw) fun y hy => hn y (List.mem_append_right _ (wq_mem.2 ⟨w, hw, hy⟩))
    · rw [if_neg e]; exact h.srt i hi
theorem add_settle {M : List Wk} (h : WfS M) (hs : Sett M.length (rk M) (wq M)) (hp : 1 ≤ M.length) (hf : M.length ≤ 16) {w : Nat} (hw : w < M.length) {k : Ky} (hk : mayK k = true) (hn : ∀ x ∈ rk M ++ wq M, x.id ≠ k.id) : SettleK (addW M w k) := by
  have hl := addW_len M w k
  obtain ⟨h1, h2⟩ := addW_perm hw k
  refine settleK_of (h.add hw hk hn) (by omega) (by omega) fun R' W' hst => ?_
  rw [hl] at hst ⊢
  exact hst.sett1 (hs.of_perm h1 (.refl _)) h2 fun z hz e => hn z (List.mem_append_right _ hz) (by rw [e])
theorem put_inv {M : List Wk} (h : InvS M) (k : Ky) (home : Int) : InvS (putM M k home).2 ∧ ((putM M k home).1.2 ≠ 0 → (putM M k home).2 = M) ∧
    ((putM M k home).1.2 = 0 → mayK k = true ∧ 0 ≤ home ∧ home < M.length ∧ (∀ x ∈ rk M ++ wq M, x.id ≠ k.id) ∧ SettleK (addW M home.toNat k) ∧ (putM M k home).2 = (settleM (addW M home.toNat k)).2 ∧ (putM M k home).1.1 = (settleM (addW M home.toNat k)).1) := by
  unfold putM
  by_cases h1 : mayK k = false ∨ home < 0 ∨ (M.length : Int) ≤ home
  · rw [if_pos h1]; exact ⟨h, fun _ => rfl, fun e => (by cases e)⟩
  rw [if_neg h1]
  have hk : mayK k = true := by cases hm : mayK k with | true => rfl | false => exact absurd (.inl hm) h1
  have hh : 0 ≤ home ∧ home < M.length := ⟨Int.not_lt.1 fun h => h1 (.inr (.inl h)), Int.not_le.1 fun h => h1 (.inr (.inr h))⟩
  by_cases h2 : (findM M k.id).isSome = true
  · rw [if_pos h2]; exact ⟨h, fun _ => rfl, fun e => (by cases e)⟩
  rw [if_neg h2]
  have hn : ∀ x ∈ rk M ++ wq M, x.id ≠ k.id := findM_none.1 (by cases hf : findM M k.id with | none => rfl | some p => rw [hf] at h2; exact absurd rfl h2)
  have hS := add_settle h.wf h.sett h.pos h.few (w := home.toNat) (by omega) hk hn
  exact ⟨hS.inv, fun e => absurd rfl e, fun _ => ⟨hk, hh.1, hh.2, hn, hS, rfl, rfl⟩⟩
/-- One is taken off. -/
structure TakeK (M M' : List Wk) (w : Nat) (ran : Bool) (y : Ky) (n : Int) : Prop where
  len : M'.length = M.length
  lt : w < M.length
  yid : y.id = n
  wf : WfS M'
  run : ran = true → (wkA M w).runs = true ∧ (wkA M w).k = y ∧ M' = M.set w { wkA M w with runs := false } ∧ (rk M).Perm (y :: rk M') ∧ wq M' = wq M
  wait : ran = false → ∃ j, (wkA M w).q[j]? = some y ∧ M' = M.set w { wkA M w with q := (wkA M w).q.eraseIdx j } ∧ (wq M).Perm (y :: wq M') ∧ (rk M').Perm (rk M)
theorem erase_perm {q : List Ky} {j : Nat} {x : Ky} (h : q[j]? = some x) : q.Perm (x :: q.eraseIdx j) := by
  obtain ⟨hj, rfl⟩ := List.getElem?_eq_some_iff.1 h
  conv => lhs; rw [← List.take_append_drop j q, List.drop_eq_getElem_cons hj]
  rw [List.eraseIdx_eq_take_drop_succ]
  exact List.perm_middle
theorem take_k {M : List Wk} (h : WfS M) (n t : Int) : ((takeM M n t).1.2 ≠ 0 → (takeM M n t).2 = M ∧ (takeM M n t).1.1 = (0, false)) ∧
    ((takeM M n t).1.2 = 0 → mayK ⟨t, n⟩ = true ∧ ∃ (w : Nat) (ran : Bool) (y : Ky), (takeM M n t).1.1 = ((w : Int), ran) ∧ findM M n = some (w, if ran then -1 else findI (isK n) (wkA M w).q) ∧ TakeK M (takeM M n t).2 w ran y n) := by
  unfold takeM
  by_cases h1 : mayK ⟨t, n⟩ = false
  · rw [if_pos h1]; exact ⟨fun _ => ⟨rfl, rfl⟩, fun e => (by cases e)⟩
  rw [if_neg h1]
  have hk : mayK ⟨t, n⟩ = true := by cases hm : mayK ⟨t, n⟩ with | true => rfl | false => exact absurd hm h1
  cases hf : findM M n with
  | none => exact ⟨fun _ => ⟨rfl, rfl⟩, fun e => (by cases e)⟩
  | some p =>
    obtain ⟨w, i⟩ := p
    dsimp only
    obtain ⟨hw, ⟨rfl, h2, h3⟩ | ⟨j, x, rfl, hx, e⟩⟩ := findM_some hf
    · rw [if_pos rfl]
      refine ⟨fun e => absurd rfl e, fun _ => ⟨hk, w, true, (wkA M w).k, rfl, rfl, ?_⟩⟩
      have hr : (rk M).Perm ((wkA M w).k :: rk (M.set w { wkA M w with runs := false })) := by
        have h4 := fm_get hw rkf
        have h5 : rkf (wkA M w) = [(wkA M w).k] := by unfold rkf; rw [if_pos h2]
        rw [h5] at h4
        refine h4.trans (.cons _ ?_)
        exact (fm_set hw rkf { wkA M w with runs := false }).symm
      have hq : wq (M.set w { wkA M w with runs := false }) = wq M := by
        unfold wq
        rw [List.flatMap_def, List.flatMap_def]
        congr 1
        refine List.ext_getElem? fun a => ?_
        rw [List.getElem?_map, List.getElem?_map, List.getElem?_set]
        by_cases e : w = a
        · subst e; rw [if_pos rfl, if_pos hw, wk_some hw]; rfl
        · rw [if_neg e]
      have hpp : (rk M ++ wq M).Perm ((wkA M w).k :: (rk (M.set w { wkA M w with runs := false }) ++ wq (M.set w { wkA M w with runs := false }))) := by
        rw [hq]; exact hr.append_right _
      have hnd := (hpp.map (·.id)).nodup_iff.1 h.nodup
      rw [List.map_cons, List.nodup_cons] at hnd
      refine ⟨by simp, hw, h3, ⟨hnd.2, fun x hx => h.kb x (hpp.mem_iff.2 (List.mem_cons_of_mem _ hx)), fun a ha => ?_⟩, fun _ => ⟨h2, rfl, rfl, hr, hq⟩, fun e => (by cases e)⟩
      rw [List.length_set] at ha
      rw [wkA_set hw]
      by_cases e : w = a
      · subst e; rw [if_pos rfl]; exact h.srt w hw
      · rw [if_neg e]; exact h.srt a ha
    · have hj : ¬ ((j : Int) = -1) := by omega
      rw [if_neg hj]
      refine ⟨fun e => absurd rfl e, fun _ => ⟨hk, w, false, x, rfl, ?_, ?_⟩⟩
      · have hf2 := hf
        unfold findM at hf2
        cases hg : M.findIdx? (hasW n) with
        | none => rw [hg] at hf2; cases hf2
        | some w' =>
          rw [hg] at hf2
          simp only [Option.some.injEq, Prod.mk.injEq] at hf2
          obtain ⟨rfl, h6⟩ := hf2
          by_cases hc : (wkA M w').runs = true ∧ (wkA M w').k.id = n
          · rw [if_pos hc] at h6; omega
          · rw [if_neg hc] at h6; rw [h6]; rfl
      · rw [Int.toNat_natCast]
        have hr : (rk (M.set w { wkA M w with q := (wkA M w).q.eraseIdx j })).Perm (rk M) := (fm_set hw rkf _).trans (fm_get hw rkf).symm
        have hq : (wq M).Perm (x :: wq (M.set w { wkA M w with q := (wkA M w).q.eraseIdx j })) := by
          refine (fm_get hw (·.q)).trans (((erase_perm hx).append_right _).trans ?_)
          exact .cons x (fm_set hw (·.q) { wkA M w with q := (wkA M w).q.eraseIdx j }).symm
        have hpp : (rk M ++ wq M).Perm (x :: (rk (M.set w { wkA M w with q := (wkA M w).q.eraseIdx j }) ++ wq (M.set w { wkA M w with q := (wkA M w).q.eraseIdx j }))) :=
          (hr.symm.append hq).trans List.perm_middle
        have hnd := (hpp.map (·.id)).nodup_iff.1 h.nodup
        rw [List.map_cons, List.nodup_cons] at hnd
        refine ⟨by simp, hw, e, ⟨hnd.2, fun y hy => h.kb y (hpp.mem_iff.2 (List.mem_cons_of_mem _ hy)), fun a ha => ?_⟩, (fun e => by cases e), fun _ => ⟨j, hx, rfl, hq, hr⟩⟩
        rw [List.length_set] at ha
        rw [wkA_set hw]
        by_cases e : w = a
        · subst e; rw [if_pos rfl]; exact (h.srt w hw).sublist (List.eraseIdx_sublist _ _)
        · rw [if_neg e]; exact h.srt a ha
theorem TakeK.perm {M M' : List Wk} {w : Nat} {ran : Bool} {y : Ky} {n : Int} (h : TakeK M M' w ran y n) : (rk M ++ wq M).Perm (y :: (rk M' ++ wq M')) := by
  cases ran with
  | true => obtain ⟨h1, h2, h3, h4, h5⟩ := h.run rfl; rw [h5]; exact h4.append_right _
  | false => obtain ⟨j, h1, h2, h3, h4⟩ := h.wait rfl; exact (h4.symm.append h3).trans List.perm_middle
theorem TakeK.gone {M M' : List Wk} {w : Nat} {ran : Bool} {y : Ky} {n : Int} (hw : WfS M) (h : TakeK M M' w ran y n) : ∀ x ∈ rk M' ++ wq M', x.id ≠ n := by
  have hnd := (h.perm.map (·.id)).nodup_iff.1 hw.nodup
  rw [List.map_cons, List.nodup_cons] at hnd
  intro x hx e
  exact hnd.1 (List.mem_map.2 ⟨x, hx, by rw [e, h.yid]⟩)
theorem take_settle {M M' : List Wk} (h : InvS M) {w : Nat} {ran : Bool} {y : Ky} {n : Int} (ht : TakeK M M' w ran y n) : SettleK M' := by
  have hp := h.pos
  have hf := h.few
  have hl := ht.len
  refine settleK_of ht.wf (by omega) (by omega) fun R' W' hst => ?_
  rw [hl] at hst ⊢
  cases ran with
  | true =>
    obtain ⟨h1, h2, h3, h4, h5⟩ := ht.run rfl
    refine hst.sett2 (.inl (.refl _)) (fun r hr z hz => h.sett.1 r (h4.mem_iff.2 (List.mem_cons_of_mem _ hr)) z (by rw [← h5]; exact hz)) fun hne => ?_
    have := h4.length_eq
    rw [List.length_cons] at this
    rw [← this]
    exact h.sett.2 (by rw [← h5]; exact hne)
  | false =>
    obtain ⟨j, h1, h2, h3, h4⟩ := ht.wait rfl
    exfalso
    have hs : Sett M.length (rk M') (wq M') := ⟨fun r hr z hz => h.sett.1 r (h4.mem_iff.1 hr) z (h3.mem_iff.2 (List.mem_cons_of_mem _ hz)), fun hne => by
      rw [h4.length_eq]; exact h.sett.2 fun e => by rw [e] at h3; have := h3.length_eq; simp at this⟩
    cases hst with
    | idle x V a1 a2 a3 =>
      have := hs.2 fun e => by rw [e] at a1; have := a1.length_eq; simp at this
      omega
    | full x g V S a1 a2 a3 a4 a5 =>
      have := hs.1 g (a4.mem_iff.2 List.mem_cons_self) x (a1.mem_iff.2 List.mem_cons_self)
      rw [kyB_asymm a5] at this; cases this
/-- One that was taken off comes back, with another key. -/
theorem back_settle {M M' : List Wk} (h : InvS M) {w : Nat} {ran : Bool} {y k : Ky} {n : Int} (ht : TakeK M M' w ran y n) (hk : mayK k = true) (hkn : k.id = n) :
    SettleK (backW M' w ran k) ∧ (rk (backW M' w ran k) ++ wq (backW M' w ran k)).Perm (k :: (rk M' ++ wq M')) ∧ WfS (backW M' w ran k) ∧ (backW M' w ran k).length = M.length := by
  have hp := h.pos
  have hf := h.few
  have hl := ht.len
  have hgone := ht.gone h.wf
  rw [← hkn] at hgone
  have hw : w < M'.length := by rw [hl]; exact ht.lt
  cases ran with
  | false =>
    obtain ⟨j, h1, h2, h3, h4⟩ := ht.wait rfl
    have hs : Sett M'.length (rk M') (wq M') := ⟨fun r hr z hz => h.sett.1 r (h4.mem_iff.1 hr) z (h3.mem_iff.2 (List.mem_cons_of_mem _ hz)), fun hne => by
      rw [h4.length_eq, hl]; exact h.sett.2 fun e => by rw [e] at h3; have := h3.length_eq; simp at this⟩
    obtain ⟨p1, p2⟩ := addW_perm hw k
    exact ⟨add_settle ht.wf hs (by omega) (by omega) hw hk hgone, (p1.append p2).trans List.perm_middle, ht.wf.add hw hk hgone, by rw [show backW M' w false k = addW M' w k from rfl, addW_len, hl]⟩
  | true =>
    obtain ⟨h1, h2, h3, h4, h5⟩ := ht.run rfl
    have hidle : (wkA M' w).runs = false := by rw [h3, wkA_set ht.lt, if_pos rfl]
    have e : backW M' w true k = M'.set w ⟨true, k, (wkA M' w).q⟩ := rfl
    rw [e]
    have hr : (rk (M'.set w ⟨true, k, (wkA M' w).q⟩)).Perm (k :: rk M') := by
      refine (fm_set hw rkf _).trans ?_
      rw [rkf_run]
      refine .cons k ?_
      have h6 := fm_get hw rkf
      have h7 : rkf (wkA M' w) = [] := by unfold rkf; rw [hidle]; rfl
      rw [h7] at h6
      exact h6.symm
    have hq : (wq (M'.set w ⟨true, k, (wkA M' w).q⟩)).Perm (wq M') := (fm_set hw (·.q) _).trans (fm_get hw (·.q)).symm
    have hpp : (rk (M'.set w ⟨true, k, (wkA M' w).q⟩) ++ wq (M'.set w ⟨true, k, (wkA M' w).q⟩)).Perm (k :: (rk M' ++ wq M')) := hr.append hq
    have hwf : WfS (M'.set w ⟨true, k, (wkA M' w).q⟩) := by
      refine ⟨(hpp.map (·.id)).nodup_iff.2 ?_, fun x hx => ?_, fun i hi => ?_⟩
      · rw [List.map_cons, List.nodup_cons]
        exact ⟨fun hc => by obtain ⟨x, hx, e⟩ := List.mem_map.1 hc; exact hgone x hx e, ht.wf.nodup⟩
      · rcases List.mem_cons.1 (hpp.mem_iff.1 hx) with rfl | hx
        · exact mayK_iff.1 hk
        · exact ht.wf.kb x hx
      · rw [List.length_set] at hi
        rw [wkA_set hw]
        by_cases e : w = i
        · subst e; rw [if_pos rfl]; exact ht.wf.srt w hw
        · rw [if_neg e]; exact ht.wf.srt i hi
    have hlen : (M'.set w ⟨true, k, (wkA M' w).q⟩).length = M.length := by rw [List.length_set, hl]
    refine ⟨settleK_of hwf (by omega) (by omega) fun R' W' hst => ?_, hpp, hwf, hlen⟩
    rw [hlen] at hst ⊢
    refine hst.sett2 (.inr ⟨k, hr⟩) (fun r hr z hz => h.sett.1 r (h4.mem_iff.2 (List.mem_cons_of_mem _ hr)) z (by rw [← h5]; exact hq.mem_iff.1 hz)) fun hne => ?_
    have := h4.length_eq
    rw [List.length_cons] at this
    rw [← this]
    exact h.sett.2 (by rw [← h5]; intro e; rw [e] at hq; exact hne hq.eq_nil)
theorem drop_inv {M : List Wk} (h : InvS M) (n : Int) : InvS (dropM M n).2 ∧ ((dropM M n).1.2 ≠ 0 → (dropM M n).2 = M) := by
  obtain ⟨-, h2⟩ := take_k h.wf n 0
  unfold dropM
  by_cases he : (takeM M n 0).1.2 = 0
  · rw [if_neg (by simpa using he)]
    obtain ⟨-, w, ran, y, -, -, ht⟩ := h2 he
    exact ⟨(take_settle h ht).inv, fun e => absurd rfl e⟩
  · rw [if_pos he]; exact ⟨h, fun _ => rfl⟩
theorem rekey_inv {M : List Wk} (h : InvS M) (n t : Int) : InvS (rekeyM M n t).2 ∧ ((rekeyM M n t).1.2 ≠ 0 → (rekeyM M n t).2 = M) := by
  obtain ⟨-, h2⟩ := take_k h.wf n t
  unfold rekeyM
  by_cases he : (takeM M n t).1.2 = 0
  · rw [if_neg (by simpa using he)]
    obtain ⟨hk, w, ran, y, e1, -, ht⟩ := h2 he
    rw [e1]
    exact ⟨(back_settle h ht hk rfl).1.inv, fun e => absurd rfl e⟩
  · rw [if_pos he]; exact ⟨h, fun _ => rfl⟩
def newM (N : Nat) : List Wk := List.replicate N wk0
theorem newM_len (N : Nat) : (newM N).length = N := List.length_replicate
theorem newM_at (N i : Nat) : wkA (newM N) i = wk0 := by
  unfold wkA newM
  rw [List.getD_eq_getElem?_getD, List.getElem?_replicate]
  split <;> rfl
theorem newM_rk (N : Nat) : rk (newM N) = [] ∧ wq (newM N) = [] := by
  refine ⟨List.eq_nil_iff_forall_not_mem.2 fun x hx => ?_, List.eq_nil_iff_forall_not_mem.2 fun x hx => ?_⟩
  · obtain ⟨i, hi, hr, -⟩ := rk_mem.1 hx
    rw [newM_at] at hr; cases hr
  · obtain ⟨i, hi, hr⟩ := wq_mem.1 hx
    rw [newM_at] at hr; cases hr
theorem newM_inv {N : Nat} (h1 : 1 ≤ N) (h2 : N ≤ 16) : InvS (newM N) where
  wf := ⟨by rw [(newM_rk N).1, (newM_rk N).2]; exact List.nodup_nil, fun x hx => (by rw [(newM_rk N).1, (newM_rk N).2] at hx; cases hx), fun i _ => by rw [newM_at]; exact List.Pairwise.nil⟩
  sett := by rw [(newM_rk N).1, (newM_rk N).2]; exact ⟨fun r hr => (by cases hr), fun h => absurd rfl h⟩
  pos := by rw [newM_len]; exact h1
  few := by rw [newM_len]; exact h2
end Go.Proofs.Ytoddjdghjpdomaa
