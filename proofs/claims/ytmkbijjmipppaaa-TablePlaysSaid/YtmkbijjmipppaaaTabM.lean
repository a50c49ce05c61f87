/- TablePlays: both tables hold the same, in plain words. Conditions: none. -/
import Derived.Test.YtmkbijjmipppaaaTabL
set_option linter.all false
set_option linter.deprecated false
namespace Go.Proofs.Ytmkbijjmipppaaa
open Go.Sep
variable [B0 : Base]
/-- What a thread has yet to do. -/
inductive RelL (l : List Ins) (t : Tm) (todo : List Ins) : Prop
  | fin : l[t.at']? = none → todo = [] → t.left = 0 → RelL l t todo
  | other (x : Ins) : l[t.at']? = some x → x.op ≠ 1 → todo = x :: l.drop (t.at' + 1) → t.left = 0 → RelL l t todo
  | comp (x : Ins) : l[t.at']? = some x → x.op = 1 → todo = ⟨1, t.left⟩ :: l.drop (t.at' + 1) → 1 ≤ t.left → t.left ≤ x.n → RelL l t todo
structure RelT (ps : List (List Ins)) (t : Tm) (z : RTm) : Prop where
  is : z.is = true
  pr : z.pr = t.pr
  at' : z.at' = t.at'
  lt : t.pr < ps.length
  todo : RelL (ps.getD t.pr []) t z.todo
structure Rel (T : Tab) (Z : RTab) : Prop where
  progs : Z.progs = T.progs
  okp : ∀ l ∈ T.progs, progE l = 0
  nT : T.ths.length = 64
  nZ : Z.ths.length = 64
  each : ∀ i, i < 64 → (T.ths[i]? = some none ∧ ∃ z, Z.ths[i]? = some z ∧ z.is = false) ∨ (∃ t z, T.ths[i]? = some (some t) ∧ Z.ths[i]? = some z ∧ RelT T.progs t z)
theorem drop_at {l : List Ins} {k : Nat} {x : Ins} (h : l[k]? = some x) : l.drop k = x :: l.drop (k + 1) := by
  obtain ⟨hk, rfl⟩ := List.getElem?_eq_some_iff.1 h
  exact List.drop_eq_getElem_cons hk
theorem RelL.fresh {l : List Ins} (hl : progE l = 0) (t : Tm) : RelL l (freshP l t) (l.drop t.at') := by
  unfold freshP
  cases h : l[t.at']? with
  | none => exact .fin h (List.drop_eq_nil_of_le (List.getElem?_eq_none_iff.1 h)) rfl
  | some x =>
    dsimp only
    have hx := may_n ((progE_may hl).2 x (List.mem_of_getElem? h))
    by_cases h1 : x.op = 1
    · rw [if_pos h1]
      refine .comp x h h1 ?_ (hx.2.2.2.2 h1) (Int.le_refl _)
      rw [drop_at h]
      obtain ⟨op, n⟩ := x
      dsimp only at h1; subst h1; rfl
    · rw [if_neg h1]; exact .other x h h1 (drop_at h) rfl
def topX : List Ins → Int × Int
  | [] => (9, 0)
  | x :: _ => (x.op, x.n)
theorem RelL.act {l : List Ins} {t : Tm} {todo : List Ins} (h : RelL l t todo) : actP l t = topX todo := by
  unfold actP
  cases h with
  | fin h1 h2 h3 => rw [h1, h2]; rfl
  | other x h1 h2 h3 h4 => rw [h1, h3]; exact if_neg h2
  | comp x h1 h2 h3 h4 h5 => rw [h1, h3]; exact if_pos h2
theorem rest_false (l : List Ins) : ∀ k : Int, l.foldl restN (k, false) = (l.foldl costN k, false) := by
  induction l with
  | nil => intro k; rfl
  | cons x l ih =>
    intro k
    rw [List.foldl_cons, List.foldl_cons]
    have : restN (k, false) x = (costN k x, false) := by
      unfold restN costN
      by_cases h : x.op = 1
      · rw [if_pos ⟨h, rfl⟩, if_pos h]
      · rw [if_neg fun h2 => h h2.1, if_neg h]
    rw [this, ih]
theorem RelL.rest {l : List Ins} {t : Tm} {todo : List Ins} (h : RelL l t todo) : restP l t = sumC (listed todo) := by
  unfold restP sumC
  cases h with
  | fin h1 h2 h3 =>
    rw [h2, List.drop_eq_nil_of_le (List.getElem?_eq_none_iff.1 h1), h3]; rfl
  | other x h1 h2 h3 h4 =>
    have e : restN (t.left, true) x = (0, false) := by unfold restN; rw [h4, if_neg fun h => h2 h.1]
    have e2 : costN 0 x = 0 := by unfold costN; rw [if_neg h2]
    rw [h3, drop_at h1]
    unfold listed
    split
    · rw [List.foldl_cons, List.foldl_cons, e, e2]; rfl
    · rw [List.foldl_cons, List.foldl_cons, e, e2, rest_false]
  | comp x h1 h2 h3 h4 h5 =>
    have e : restN (t.left, true) x = (t.left, false) := by unfold restN; rw [if_neg fun h => by simp at h]
    rw [h3, drop_at h1]
    unfold listed
    rw [if_neg (by omega), if_neg (show ¬ ((1 : Int) = 9) by decide), List.foldl_cons, List.foldl_cons, e, rest_false]
    unfold costN
    rw [if_pos rfl]; simp
theorem progE_zero {l : List Ins} (h1 : l.length ≤ 64) (h2 : ∀ x ∈ l, mayE x = 0) : progE l = 0 := by
  unfold progE
  rw [if_neg (by omega)]
  have hf : ((l.map mayE).find? (fun e => e != 0)) = none := by rw [List.find?_eq_none]; intro x hx; obtain ⟨y, hy, rfl⟩ := List.mem_map.1 hx; simp [h2 y hy]
  rw [hf]; rfl
theorem RelL.may {l : List Ins} {t : Tm} {todo : List Ins} (hl : progE l = 0) (h : RelL l t todo) : progE todo = 0 := by
  obtain ⟨h64, hm⟩ := progE_may hl
  cases h with
  | fin h1 h2 h3 => rw [h2]; rfl
  | other x h1 h2 h3 h4 =>
    rw [h3, ← drop_at h1]
    exact progE_zero (by rw [List.length_drop]; omega) fun y hy => hm y (List.mem_of_mem_drop hy)
  | comp x h1 h2 h3 h4 h5 =>
    have hlt := (List.getElem?_eq_some_iff.1 h1).1
    have hx := may_n (hm x (List.mem_of_getElem? h1))
    rw [h3]
    refine progE_zero (by rw [List.length_cons, List.length_drop]; omega) fun y hy => ?_
    rcases List.mem_cons.1 hy with rfl | hy
    · have e1 : kLo 1 = 1 := rfl
      have e2 : kHi 1 = 1099511627775 := rfl
      unfold mayE
      dsimp only
      rw [e1, e2, if_neg (by omega), if_neg (by omega)]
    · exact hm y (List.mem_of_mem_drop hy)
theorem RelL.cost {l : List Ins} {t : Tm} {todo : List Ins} (hl : progE l = 0) (h : RelL l t todo) : (if 1099511627776 ≤ restP l t then ((0 : Int), (11 : Int)) else (restP l t, 0)) = costM todo := by
  unfold costM
  rw [h.rest, h.may hl]
  exact (if_neg (show ¬ ((0 : Int) ≠ 0) by simp)).symm
/-! ### What is found -/
theorem Rel.okl {T : Tab} {Z : RTab} (h : Rel T Z) {t : Tm} {z : RTm} (ht : RelT T.progs t z) : progE (T.l t) = 0 := by
  unfold Tab.l
  rw [List.getD_eq_getElem?_getD, List.getElem?_eq_getElem ht.lt]
  exact h.okp _ (List.getElem_mem _)
theorem Rel.find {T : Tab} {Z : RTab} (h : Rel T Z) (id : Int) : (∃ e, e ≠ 0 ∧ findT T id = (none, e) ∧ rfindZ Z id = e) ∨ ∃ t z, 0 ≤ id ∧ id < 64 ∧ findT T id = (some t, 0) ∧ rfindZ Z id = 0 ∧ Z.ths[id.toNat]? = some z ∧ RelT T.progs t z := by
  unfold findT rfindZ
  by_cases hi : id < 0 ∨ 64 ≤ id
  · rw [if_pos hi, if_pos (by omega)]; exact .inl ⟨10, by decide, rfl, rfl⟩
  · rw [if_neg hi, if_neg (by omega)]
    rcases h.each id.toNat (by omega) with ⟨h1, z, h2, h3⟩ | ⟨t, z, h1, h2, h3⟩
    · rw [h1, h2]; dsimp only; rw [h3]; exact .inl ⟨14, by decide, rfl, rfl⟩
    · rw [h1, h2]; dsimp only; rw [h3.is]; exact .inr ⟨t, z, by omega, by omega, rfl, rfl, rfl, h3⟩
theorem ract_at {Z : RTab} {id : Int} {z : RTm} (h : Z.ths[id.toNat]? = some z) : ractZ Z id = topX z.todo := by
  unfold ractZ
  rw [h]
  dsimp only
  cases z.todo <;> rfl
theorem Rel.act {T : Tab} {Z : RTab} {t : Tm} {z : RTm} {id : Int} (hz : Z.ths[id.toNat]? = some z) (ht : RelT T.progs t z) : ractZ Z id = actP (T.l t) t := by
  rw [ract_at hz]
  exact ht.todo.act.symm
theorem Rel.left {T : Tab} {Z : RTab} {t : Tm} {z : RTm} {id : Int} (hz : Z.ths[id.toNat]? = some z) (ht : RelT T.progs t z) : rleftZ Z id = t.left := by
  unfold rleftZ
  rw [ract_at hz]
  cases ht.todo with
  | fin h1 h2 h3 => rw [h2, h3]; rfl
  | other x h1 h2 h3 h4 => rw [h3, h4]; exact if_neg h2
  | comp x h1 h2 h3 h4 h5 => rw [h3]; exact if_pos rfl
theorem Rel.seen {T : Tab} {Z : RTab} (h : Rel T Z) (id : Int) : SeenOk T Z id := by
  rcases h.find id with ⟨e, he, h1, h2⟩ | ⟨t, z, i0, i1, h1, h2, hz, ht⟩
  · refine ⟨fun _ => ?_, fun h3 => absurd (h2.symm.trans h3) he⟩
    unfold actT whereT restT
    rw [h1, h2]; exact ⟨rfl, rfl, rfl⟩
  · refine ⟨fun h3 => absurd h2 h3, fun _ => ?_⟩
    have hr : rthZ Z id = z := by unfold rthZ; rw [hz]; rfl
    unfold actT whereT restT
    rw [h1, hr, Rel.act hz ht, Rel.left hz ht, ht.pr, ht.at']
    exact ⟨rfl, rfl, ht.todo.cost (h.okl ht)⟩
/-! ### What a call makes of them -/
theorem Rel.set {T : Tab} {Z : RTab} (h : Rel T Z) {i : Nat} {t : Tm} {z : RTm} (ht : RelT T.progs t z) : Rel (T.setT i (some t)) (Z.setZ i z) where
  progs := h.progs
  okp := h.okp
  nT := by unfold Tab.setT; rw [List.length_set]; exact h.nT
  nZ := by unfold RTab.setZ; rw [List.length_set]; exact h.nZ
  each := fun j hj => by
    unfold Tab.setT RTab.setZ
    dsimp only
    by_cases hij : i = j
    · subst hij
      rw [List.getElem?_set_self (by rw [h.nT]; exact hj), List.getElem?_set_self (by rw [h.nZ]; exact hj)]
      exact .inr ⟨t, z, rfl, rfl, ht⟩
    · rw [List.getElem?_set_ne hij, List.getElem?_set_ne hij]; exact h.each j hj
theorem Rel.clear {T : Tab} {Z : RTab} (h : Rel T Z) {i : Nat} : Rel (T.setT i none) (Z.setZ i zeroR) where
  progs := h.progs
  okp := h.okp
  nT := by unfold Tab.setT; rw [List.length_set]; exact h.nT
  nZ := by unfold RTab.setZ; rw [List.length_set]; exact h.nZ
  each := fun j hj => by
    unfold Tab.setT RTab.setZ
    dsimp only
    by_cases hij : i = j
    · subst hij
      rw [List.getElem?_set_self (by rw [h.nT]; exact hj), List.getElem?_set_self (by rw [h.nZ]; exact hj)]
      exact .inl ⟨rfl, zeroR, rfl, rfl⟩
    · rw [List.getElem?_set_ne hij, List.getElem?_set_ne hij]; exact h.each j hj
theorem Rel.free {T : Tab} {Z : RTab} (h : Rel T Z) : Z.ths.findIdx? (fun t => !t.is) = T.ths.findIdx? (fun o => o.isNone) := by
  cases hf : T.ths.findIdx? (fun o => o.isNone) with
  | none =>
    rw [List.findIdx?_eq_none_iff] at hf ⊢
    intro z hz
    obtain ⟨i, hi⟩ := List.getElem?_of_mem hz
    have hlt : i < 64 := by rw [← h.nZ]; exact (List.getElem?_eq_some_iff.1 hi).1
    rcases h.each i hlt with ⟨h1, z', h2, h3⟩ | ⟨t, z', h1, h2, h3⟩
    · have := hf _ (List.mem_of_getElem? h1); simp at this
    · rw [hi] at h2; cases h2; simp [h3.is]
  | some k =>
    rw [List.findIdx?_eq_some_iff_getElem] at hf ⊢
    obtain ⟨hk, h1, h2⟩ := hf
    have hk64 : k < 64 := by rw [← h.nT]; exact hk
    have hkZ : k < Z.ths.length := by rw [h.nZ]; exact hk64
    refine ⟨hkZ, ?_, fun j hj => ?_⟩
    · rcases h.each k hk64 with ⟨g1, z', g2, g3⟩ | ⟨t, z', g1, g2, g3⟩
      · obtain ⟨_, g⟩ := List.getElem?_eq_some_iff.1 g2; rw [g, g3]; rfl
      · obtain ⟨_, g⟩ := List.getElem?_eq_some_iff.1 g1; rw [g] at h1; cases h1
    · rcases h.each j (by omega) with ⟨g1, z', g2, g3⟩ | ⟨t, z', g1, g2, g3⟩
      · obtain ⟨_, g⟩ := List.getElem?_eq_some_iff.1 g1; have := h2 j hj; rw [g] at this; simp at this
      · obtain ⟨_, g⟩ := List.getElem?_eq_some_iff.1 g2; rw [g, g3.is]; simp
theorem Rel.spawn {T : Tab} {Z : RTab} (h : Rel T Z) (p : Int) : (spawnT T p).1 = (rspawnZ Z p).1 ∧ Rel (spawnT T p).2 (rspawnZ Z p).2 := by
  unfold spawnT rspawnZ
  rw [h.free, h.progs]
  by_cases hp : p < 0 ∨ (T.progs.length : Int) ≤ p
  · rw [if_pos hp, if_pos hp]; exact ⟨rfl, h⟩
  · rw [if_neg hp, if_neg hp]
    cases hf : T.ths.findIdx? (fun o => o.isNone) with
    | none => exact ⟨rfl, h⟩
    | some k =>
      refine ⟨rfl, h.set ⟨rfl, ?_, rfl, ?_, ?_⟩⟩
      · show p = ((p.toNat : Nat) : Int); omega
      · show p.toNat < _; omega
      · show RelL (T.progs.getD p.toNat []) _ (T.progs.getD p.toNat [])
        exact RelL.fresh (l := T.progs.getD p.toNat []) (by rw [List.getD_eq_getElem?_getD, List.getElem?_eq_getElem (show p.toNat < T.progs.length by omega)]; exact h.okp _ (List.getElem_mem _)) ⟨p.toNat, 0, 0⟩
theorem RelL.tail {l : List Ins} (hl : progE l = 0) {t : Tm} {todo : List Ins} (h : RelL l t todo) : RelL l (nextP l t) todo.tail := by
  have hn := RelL.fresh hl { t with at' := t.at' + 1 }
  cases h with
  | fin h1 h2 h3 =>
    have : l.drop (t.at' + 1) = [] := List.drop_eq_nil_of_le (by have := List.getElem?_eq_none_iff.1 h1; omega)
    rw [h2]; rw [this] at hn; exact hn
  | other x h1 h2 h3 h4 => rw [h3]; exact hn
  | comp x h1 h2 h3 h4 h5 => rw [h3]; exact hn
theorem Rel.on {T : Tab} {Z : RTab} (h : Rel T Z) {t : Tm} {z : RTm} (ht : RelT T.progs t z) : RelT T.progs (nextP (T.l t) t) (onR z) where
  is := ht.is
  pr := ht.pr
  at' := by show z.at' + 1 = t.at' + 1; rw [ht.at']
  lt := ht.lt
  todo := ht.todo.tail (h.okl ht)
theorem Rel.run {T : Tab} {Z : RTab} (h : Rel T Z) (id n : Int) : (runT T id n).1 = (rrunZ Z id n).1 ∧ Rel (runT T id n).2 (rrunZ Z id n).2 := by
  rcases h.find id with ⟨e, he, h1, h2⟩ | ⟨t, z, i0, i1, h1, h2, hz, ht⟩
  · unfold runT rrunZ
    rw [h1, h2, if_pos he]; exact ⟨rfl, h⟩
  · have hl := Rel.left hz ht
    unfold rleftZ at hl
    unfold runT rrunZ
    rw [h1, h2, if_neg (by simp), hz]
    dsimp only
    rw [Rel.act hz ht] at *
    by_cases ha : (actP (T.l t) t).1 = 1
    · rw [if_pos ha] at hl
      have hna : ¬ ((actP (T.l t) t).1 ≠ 1) := fun h => h ha
      rw [if_neg hna, if_neg hna]
      by_cases hn : n < 0
      · rw [if_pos hn, if_pos hn]; exact ⟨rfl, h⟩
      · rw [if_neg hn, if_neg hn, hl]
        have hnext : RelT T.progs (ranP (T.l t) t t.left) (onR z) := by
          unfold ranP
          rw [if_pos (by omega)]
          show RelT T.progs (nextP (T.l t) t) (onR z)
          exact h.on ht
        by_cases hle : t.left ≤ n
        · rw [if_pos hle]
          by_cases hlt : t.left < n
          · rw [if_pos hlt]; exact ⟨rfl, h.set hnext⟩
          · rw [if_neg hlt]
            have : n = t.left := by omega
            subst this
            exact ⟨rfl, h.set hnext⟩
        · rw [if_neg hle, if_neg (by omega)]
          refine ⟨rfl, h.set ?_⟩
          unfold ranP
          rw [if_neg (by omega)]
          refine ⟨ht.is, ht.pr, ht.at', ht.lt, ?_⟩
          have hact := ha
          unfold actP Tab.l at hact
          cases ht.todo with
          | fin g1 g2 g3 => rw [g1] at hact; simp at hact
          | other x g1 g2 g3 g4 => rw [g1] at hact; dsimp only at hact; rw [if_neg g2] at hact; exact absurd hact g2
          | comp x g1 g2 g3 g4 g5 =>
            refine .comp x g1 g2 ?_ ?_ ?_
            · dsimp only; rw [g3]; rfl
            · show 1 ≤ t.left - n; omega
            · show t.left - n ≤ x.n; omega
    · have hna : (actP (T.l t) t).1 ≠ 1 := ha
      rw [if_pos hna, if_pos hna]; exact ⟨rfl, h⟩
theorem Rel.done {T : Tab} {Z : RTab} (h : Rel T Z) (id : Int) : (doneT T id).1 = (rdoneZ Z id).1 ∧ Rel (doneT T id).2 (rdoneZ Z id).2 := by
  rcases h.find id with ⟨e, he, h1, h2⟩ | ⟨t, z, i0, i1, h1, h2, hz, ht⟩
  · unfold doneT rdoneZ
    rw [h1, h2, if_pos he]; exact ⟨rfl, h⟩
  · unfold doneT rdoneZ
    rw [h1, h2, if_neg (by simp), hz]
    dsimp only
    rw [Rel.act hz ht]
    by_cases ha : (actP (T.l t) t).1 = 1
    · rw [if_pos ha, if_pos ha]; exact ⟨rfl, h⟩
    · rw [if_neg ha, if_neg ha]
      by_cases h9 : (actP (T.l t) t).1 = 9
      · rw [if_pos h9, if_pos h9]; exact ⟨rfl, h.clear⟩
      · rw [if_neg h9, if_neg h9]; exact ⟨rfl, h.set (h.on ht)⟩
theorem Rel.kill {T : Tab} {Z : RTab} (h : Rel T Z) (id : Int) : (killT T id).1 = (rkillZ Z id).1 ∧ Rel (killT T id).2 (rkillZ Z id).2 := by
  rcases h.find id with ⟨e, he, h1, h2⟩ | ⟨t, z, i0, i1, h1, h2, hz, ht⟩
  · unfold killT rkillZ
    rw [h1, h2, if_neg he]; exact ⟨rfl, h⟩
  · unfold killT rkillZ
    rw [h1, h2, if_pos rfl]; exact ⟨rfl, h.clear⟩
theorem Rel.does {T : Tab} {Z : RTab} (h : Rel T Z) (o : OpM) : (doesM T Z o).1 = true ∧ Rel (doesM T Z o).2.1 (doesM T Z o).2.2 := by
  unfold doesM
  split
  · obtain ⟨h1, h2⟩ := h.spawn o.n; dsimp only; rw [h1]; exact ⟨by simp, h2⟩
  · split
    · obtain ⟨h1, h2⟩ := h.run o.id o.n; dsimp only; rw [h1]; exact ⟨by simp, h2⟩
    · split
      · obtain ⟨h1, h2⟩ := h.done o.id; dsimp only; rw [h1]; exact ⟨by simp, h2⟩
      · obtain ⟨h1, h2⟩ := h.kill o.id; dsimp only; rw [h1]; exact ⟨by simp, h2⟩
theorem Rel.start {ls : List (List Ins)} (h : ∀ l ∈ ls, progE l = 0) : Rel ⟨ls, List.replicate 64 none⟩ ⟨ls, List.replicate 64 zeroR⟩ where
  progs := rfl
  okp := h
  nT := List.length_replicate
  nZ := List.length_replicate
  each := fun i hi => .inl ⟨by rw [List.getElem?_replicate, if_pos hi], zeroR, by rw [List.getElem?_replicate, if_pos hi], rfl⟩
/-! ### Those that there are -/
def livP' (Z : RTab) (i : Nat) : Bool := (rthZ Z i).is
def livI (Z : RTab) : List Nat := (List.range' 0 64).filter (livP' Z)
def livX (s : Nat × Nat) (i : Nat) : Nat × Nat := (i + 1, s.2 + 1)
theorem liv_fold {p : Nat → Bool} : ∀ (m i : Nat) (s : Nat × Nat), s.1 ≤ i → (∀ j, s.1 ≤ j → j < i → p j = false) →
    (∀ k x, ((List.range' i m).filter p)[k]? = some x → ((((List.range' i m).filter p).take k).foldl livX s).1 ≤ x ∧ x < i + m ∧ p x = true ∧ (∀ j, ((((List.range' i m).filter p).take k).foldl livX s).1 ≤ j → j < x → p j = false) ∧ ((((List.range' i m).filter p).take k).foldl livX s).2 = s.2 + k)
    ∧ (((List.range' i m).filter p).foldl livX s).1 ≤ i + m ∧ (∀ j, (((List.range' i m).filter p).foldl livX s).1 ≤ j → j < i + m → p j = false) ∧ (((List.range' i m).filter p).foldl livX s).2 = s.2 + ((List.range' i m).filter p).length := by
  intro m
  induction m with
  | zero => intro i s h1 h2; exact ⟨fun k x h => by simp at h, by simpa using h1, fun j a b => h2 j (by simpa using a) (by omega), by simp⟩
  | succ m ih =>
    intro i s h1 h2
    rw [List.range'_succ]
    cases hp : p i with
    | true =>
      rw [List.filter_cons_of_pos hp]
      obtain ⟨a1, a2, a3, a4⟩ := ih (i + 1) (livX s i) (Nat.le_refl _) (fun j h3 h4 => by have : i + 1 ≤ j := h3; omega)
      refine ⟨fun k x h => ?_, ?_, fun j h3 h4 => a3 j h3 (by omega), ?_⟩
      · cases k with
        | zero =>
          simp at h; subst h
          exact ⟨h1, by omega, hp, h2, rfl⟩
        | succ k =>
          rw [List.take_succ_cons, List.foldl_cons]
          obtain ⟨b1, b2, b3, b4, b5⟩ := a1 k x (by simpa using h)
          refine ⟨b1, by omega, b3, b4, ?_⟩
          rw [b5]; show s.2 + 1 + k = _; omega
      · rw [List.foldl_cons]; omega
      · rw [List.foldl_cons, a4, List.length_cons]; show s.2 + 1 + _ = _; omega
    | false =>
      rw [List.filter_cons_of_neg (by simp [hp])]
      obtain ⟨a1, a2, a3, a4⟩ := ih (i + 1) s (by omega) (fun j h3 h4 => by
        by_cases h5 : j = i
        · subst h5; exact hp
        · exact h2 j h3 (by omega))
      refine ⟨fun k x h => ?_, by omega, fun j h3 h4 => a3 j h3 (by omega), a4⟩
      obtain ⟨b1, b2, b3, b4, b5⟩ := a1 k x h
      exact ⟨b1, by omega, b3, b4, b5⟩
theorem Rel.live {T : Tab} {Z : RTab} (h : Rel T Z) : liveT T = (livI Z).map fun i : Nat => ((i : Int), ractZ Z i) := by
  have key : ∀ (l : List (Option Tm)) (i : Nat), T.ths.drop i = l → i + l.length = 64 → liveT.go T i l = ((List.range' i l.length).filter (livP' Z)).map fun i : Nat => ((i : Int), ractZ Z i) := by
    intro l
    induction l with
    | nil => intro i _ _; rfl
    | cons o l ih =>
      intro i hd hi
      rw [List.length_cons] at hi ⊢
      have hg : T.ths[i]? = some o := by rw [← List.head?_drop, hd]; rfl
      have ih := ih (i + 1) (by rw [← List.drop_drop, hd]; rfl) (by omega)
      rw [List.range'_succ]
      rcases h.each i (by omega) with ⟨h1, z, h2, h3⟩ | ⟨t, z, h1, h2, h3⟩
      · rw [hg] at h1; cases h1
        have hp : livP' Z i = false := by unfold livP' rthZ; rw [Int.toNat_natCast, h2]; exact h3
        rw [List.filter_cons_of_neg (by simp [hp])]
        exact ih
      · rw [hg] at h1; cases h1
        have hp : livP' Z i = true := by unfold livP' rthZ; rw [Int.toNat_natCast, h2]; exact h3.is
        rw [List.filter_cons_of_pos hp, List.map_cons, ← ih, Rel.act (T := T) (id := (i : Int)) (by rw [Int.toNat_natCast]; exact h2) h3]
        rfl
  have := key T.ths 0 (by simp) (by rw [h.nT])
  rw [h.nT] at this
  exact this
end Go.Proofs.Ytmkbijjmipppaaa
