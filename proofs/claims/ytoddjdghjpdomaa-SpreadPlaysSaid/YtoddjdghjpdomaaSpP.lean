/- SpreadSame, in plain words. Conditions: none. -/
import Derived.Test.YtoddjdghjpdomaaSpM
set_option linter.all false
set_option linter.deprecated false
namespace Go.Sep
variable [B0 : Base]
section
variable {P : Program} {ro : Option Nat} {m : Option Mode} {ops : Array Oper} {Q : Exit → Act → World → Prop} {n : Nat} {rest : List Oper} {F : Fr} {ds : List Deferred} {L : List HP} {d : Nat} {ty : TypeId} {pos : String} {aft : Array Edge}
theorem w_remE {t u : TypeId} {x y : Operand} {a b c : Int} (hd : Nat.blt d n = true) (hx : ev F x = some (.int .i64 a)) (hy : ev F y = some (.int .i64 b)) (hc : b ≠ 0 ∧ a.tmod b = c) (hk : W P ro m ops Q n rest ((d, .int .i64 c) :: F) ds L) : W P ro m ops Q n (⟨some d, .binOp .rem t x y u, ty, pos, aft, none⟩ :: rest) F ds L := by
  obtain ⟨hb, rfl⟩ := hc
  exact w_rem hd hx hy hb hk
end
end Go.Sep
namespace Go.Proofs.Ytoddjdghjpdomaa
open Go.Sep
variable [B0 : Base]
/-- Who runs does not hang on where: it hangs on how many are less. -/
theorem runs_iff {M : List Wk} (h : InvS M) {x : Ky} (hx : x ∈ rk M ++ wq M) : x ∈ rk M ↔ (rk M ++ wq M).countP (fun y => kyB y x) < M.length := by
  have hle := rk_len (M := M)
  rw [List.countP_append]
  constructor
  · intro hr
    have h2 : (wq M).countP (fun y => kyB y x) = 0 := List.countP_eq_zero.2 fun y hy hc => by
      have := h.sett.1 x hr y hy
      rw [kyB_asymm this] at hc; cases hc
    have h1 : (rk M).countP (fun y => kyB y x) < (rk M).length := by
      rcases Nat.lt_or_ge ((rk M).countP (fun y => kyB y x)) (rk M).length with h | h
      · exact h
      · have := List.countP_eq_length.1 (Nat.le_antisymm List.countP_le_length h) x hr
        rw [kyB_irr] at this; cases this
    omega
  · intro hc
    rcases List.mem_append.1 hx with hr | hw
    · exact hr
    · exfalso
      have hN := h.sett.2 (fun e => by rw [e] at hw; cases hw)
      have h1 : (rk M).countP (fun y => kyB y x) = (rk M).length := List.countP_eq_length.2 fun r hr => h.sett.1 r hr x hw
      omega
theorem put_succ {M : List Wk} (h : InvS M) {k : Ky} (hk : mayK k = true) {home : Nat} (hh : home < M.length) (hn : ∀ x ∈ rk M ++ wq M, x.id ≠ k.id) :
    (putM M k home).1.2 = 0 ∧ InvS (putM M k home).2 ∧ (rk (putM M k home).2 ++ wq (putM M k home).2).Perm (k :: (rk M ++ wq M)) ∧ (putM M k home).2.length = M.length := by
  have he : (putM M k home).1.2 = 0 := by
    unfold putM
    rw [if_neg (fun hc => by rcases hc with hc | hc | hc; (rw [hk] at hc; cases hc); (omega); (omega)), if_neg (by rw [findM_none.2 hn]; simp)]
  obtain ⟨h1, -, h3⟩ := put_inv h k home
  obtain ⟨-, -, -, -, hS, e1, -⟩ := h3 he
  refine ⟨he, h1, ?_, ?_⟩
  · rw [e1]
    refine hS.perm.trans ?_
    obtain ⟨p1, p2⟩ := addW_perm (M := M) (w := (home : Int).toNat) (by rw [Int.toNat_natCast]; exact hh) k
    exact (p1.append p2).trans List.perm_middle
  · rw [e1, settle_len, addW_len]
theorem where_present {M : List Wk} (h : InvS M) {x : Ky} (hx : x ∈ rk M ++ wq M) : ∃ w : Int, whereM M x.id = ((w, decide ((rk M ++ wq M).countP (fun y => kyB y x) < M.length)), 0) := by
  obtain ⟨b0, b1, -, -⟩ := h.wf.kb x hx
  have hm : mayK ⟨0, x.id⟩ = true := mayK_iff.2 ⟨b0, b1, Int.le_refl 0, by show (0 : Int) < 1099511627776; decide⟩
  unfold whereM
  rw [if_neg (by rw [hm]; simp)]
  have hiff := runs_iff h hx
  rcases List.mem_append.1 hx with hr | hw
  · obtain ⟨i, hi, hri, rfl⟩ := rk_mem.1 hr
    have := (findM_at h.wf hi).1 hri
    rw [this]
    exact ⟨i, by rw [decide_eq_true (hiff.1 hr)]; rfl⟩
  · obtain ⟨i, hi, hq⟩ := wq_mem.1 hw
    obtain ⟨j, hj⟩ := List.getElem?_of_mem hq
    have := (findM_at h.wf hi).2 j x hj
    rw [this]
    have hnr : x ∉ rk M := fun hr => id_ne_app h.wf.nodup hr hw rfl
    refine ⟨i, ?_⟩
    rw [decide_eq_false (fun hc => hnr (hiff.2 hc))]
    dsimp only
    rw [decide_eq_false (by omega)]
theorem same_where {A B : List Wk} {l : List Ky} (hA : InvS A) (hB : InvS B) (pA : (rk A ++ wq A).Perm l) (pB : (rk B ++ wq B).Perm l) (hl : A.length = B.length) {x : Ky} (hx : x ∈ l) :
    ∃ (wa wb : Int) (r : Bool), whereM A x.id = ((wa, r), 0) ∧ whereM B x.id = ((wb, r), 0) := by
  obtain ⟨wa, ha⟩ := where_present hA (pA.mem_iff.2 hx)
  obtain ⟨wb, hb⟩ := where_present hB (pB.mem_iff.2 hx)
  rw [pA.countP_eq, hl] at ha
  rw [pB.countP_eq] at hb
  exact ⟨wa, wb, _, ha, hb⟩
theorem many_perm {A : List Wk} {l : List Ky} (pA : (rk A ++ wq A).Perm l) : manyM A = l.length := by
  rw [many_eq, ← pA.length_eq, List.length_append]; omega
/-! ### The keys that count -/
def selS (l : List Ky) (x : Ky) : List Ky := if mayK x = true ∧ x.id ∉ l.map (·.id) then l ++ [x] else l
def selL (ks : List Ky) : List Ky := ks.foldl selS []
structure SelOk (l : List Ky) : Prop where
  nodup : (l.map (·.id)).Nodup
  may : ∀ x ∈ l, mayK x = true
theorem selS_ok {l : List Ky} (h : SelOk l) (x : Ky) : SelOk (selS l x) ∧ (selS l x).length ≤ l.length + 1 := by
  unfold selS
  split
  · rename_i hc
    refine ⟨⟨?_, fun y hy => ?_⟩, by simp⟩
    · rw [List.map_append, List.nodup_append]
      exact ⟨h.nodup, by simp, fun a ha b hb e => by simp at hb; subst hb; subst e; exact hc.2 ha⟩
    · rcases List.mem_append.1 hy with hy | hy
      · exact h.may y hy
      · rw [List.mem_singleton] at hy; subst hy; exact hc.1
  · exact ⟨h, Nat.le_succ _⟩
theorem selL_take {ks : List Ky} {i : Nat} (h : i < ks.length) : selL (ks.take (i + 1)) = selS (selL (ks.take i)) ks[i] := by
  unfold selL
  rw [List.take_add_one, List.getElem?_eq_getElem h, List.foldl_append]; rfl
theorem selL_ok (ks : List Ky) : SelOk (selL ks) ∧ (selL ks).length ≤ ks.length := by
  unfold selL
  have : ∀ (l : List Ky) (a : List Ky), SelOk a → SelOk (l.foldl selS a) ∧ (l.foldl selS a).length ≤ a.length + l.length := by
    intro l
    induction l with
    | nil => intro a h; exact ⟨h, Nat.le_refl _⟩
    | cons x l ih =>
      intro a h
      obtain ⟨h1, h2⟩ := selS_ok h x
      obtain ⟨h3, h4⟩ := ih _ h1
      rw [List.foldl_cons, List.length_cons]
      exact ⟨h3, by omega⟩
  have := this ks [] ⟨List.nodup_nil, fun x hx => by cases hx⟩
  simpa using this
def seenL (l : List Ky) : List Bool := (List.range 64).map fun (j : Nat) => decide ((j : Int) ∈ l.map (·.id))
theorem seenL_len (l : List Ky) : (seenL l).length = 64 := by unfold seenL; simp
theorem seenL_0 : seenL [] = List.replicate 64 false := by decide +kernel
theorem seenL_get (l : List Ky) {j : Nat} (h : j < 64) : (seenL l)[j]? = some (decide ((j : Int) ∈ l.map (·.id))) := by
  unfold seenL; rw [List.getElem?_map, List.getElem?_range h]; rfl
theorem seenL_set (l : List Ky) {x : Ky} {jd : Nat} (he : x.id = (jd : Int)) (h : jd < 64) : (seenL l).set jd true = seenL (l ++ [x]) := by
  unfold seenL
  refine List.ext_getElem? fun j => ?_
  rw [List.getElem?_set, List.getElem?_map, List.getElem?_map]
  by_cases hj : jd = j
  · subst hj
    rw [if_pos rfl, if_pos (by simp; exact h), List.getElem?_range h]
    simp [he]
  · rw [if_neg hj]
    by_cases hj2 : j < 64
    · rw [List.getElem?_range hj2]
      have : ¬ ((j : Int) = x.id) := by omega
      simp [this]
    · rw [List.getElem?_eq_none (by simp; omega)]; rfl
/-- Both tables behind some calls. -/
structure Two (N : Nat) (l : List Ky) (i : Nat) (A B : List Wk) : Prop where
  a : InvS A
  b : InvS B
  la : A.length = N
  lb : B.length = N
  pa : (rk A ++ wq A).Perm (l.take i)
  pb : (rk B ++ wq B).Perm (l.drop (l.length - i))
theorem two_0 {N : Nat} (h1 : 1 ≤ N) (h2 : N ≤ 16) (l : List Ky) : Two N l 0 (newM N) (newM N) := by
  refine ⟨newM_inv h1 h2, newM_inv h1 h2, newM_len N, newM_len N, ?_, ?_⟩
  · rw [(newM_rk N).1, (newM_rk N).2, List.take_zero]; exact .refl _
  · rw [(newM_rk N).1, (newM_rk N).2, Nat.sub_zero, List.drop_length]; exact .refl _
theorem two_succ {N : Nat} {l : List Ky} (hl : SelOk l) {i : Nat} (hi : i < l.length) {A B : List Wk} (h : Two N l i A B) {home : Nat} (hh : home < N) {x y : Ky} (hx : l[i]? = some x) (hy : l[l.length - 1 - i]? = some y) :
    (putM A x (0 : Nat)).1.2 = 0 ∧ (putM B y home).1.2 = 0 ∧ Two N l (i + 1) (putM A x (0 : Nat)).2 (putM B y home).2 := by
  have hinj : ∀ a b (ha : a < l.length) (hb : b < l.length), l[a].id = l[b].id → a = b := fun a b ha hb e => by
    have : (l.map (·.id))[a]'(by rw [List.length_map]; exact ha) = (l.map (·.id))[b]'(by rw [List.length_map]; exact hb) := by
      rw [List.getElem_map, List.getElem_map]; exact e
    exact (List.getElem_inj hl.nodup).1 this
  obtain ⟨hx1, hx2⟩ := List.getElem?_eq_some_iff.1 hx
  obtain ⟨hy1, hy2⟩ := List.getElem?_eq_some_iff.1 hy
  have hp := h.a.pos
  have hA := put_succ h.a (hl.may x (List.mem_of_getElem? hx)) (home := 0) (by omega) (fun z hz e => by
    obtain ⟨j, hj⟩ := List.getElem?_of_mem (h.pa.mem_iff.1 hz)
    obtain ⟨hj1, hj2⟩ := List.getElem?_eq_some_iff.1 hj
    rw [List.length_take] at hj1
    rw [List.getElem_take] at hj2
    have := hinj j i (by omega) hx1 (by rw [hj2, hx2]; exact e)
    omega)
  have hB := put_succ h.b (hl.may y (List.mem_of_getElem? hy)) (home := home) (by rw [h.lb]; exact hh) (fun z hz e => by
    obtain ⟨j, hj⟩ := List.getElem?_of_mem (h.pb.mem_iff.1 hz)
    obtain ⟨hj1, hj2⟩ := List.getElem?_eq_some_iff.1 hj
    rw [List.length_drop] at hj1
    rw [List.getElem_drop] at hj2
    have := hinj (l.length - i + j) (l.length - 1 - i) (by omega) hy1 (by rw [hj2, hy2]; exact e)
    omega)
  refine ⟨hA.1, hB.1, hA.2.1, hB.2.1, by rw [hA.2.2.2, h.la], by rw [hB.2.2.2, h.lb], ?_, ?_⟩
  · refine hA.2.2.1.trans ((h.pa.cons x).trans ?_)
    rw [List.take_add_one, hx]
    exact (List.perm_append_singleton x (l.take i)).symm
  · refine hB.2.2.1.trans ((h.pb.cons y).trans ?_)
    have e1 : l.length - (i + 1) = l.length - 1 - i := by omega
    have e2 : l.length - i = l.length - 1 - i + 1 := by omega
    rw [e1, e2, List.drop_eq_getElem_cons hy1, hy2]
theorem two_end {N : Nat} {l : List Ky} {A B : List Wk} (h : Two N l l.length A B) : (rk A ++ wq A).Perm l ∧ (rk B ++ wq B).Perm l := by
  have h1 := h.pa
  have h2 := h.pb
  rw [List.take_length] at h1
  rw [Nat.sub_self, List.drop_zero] at h2
  exact ⟨h1, h2⟩
end Go.Proofs.Ytoddjdghjpdomaa
