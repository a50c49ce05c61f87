/- Robin: what a class is, and its small functions. Conditions: none. -/
import Derived.Test.YtenpeogkefmclaaRows
import Derived.Test.YtenpeogkefmclaaTab
set_option linter.all false
set_option linter.deprecated false
namespace Go.Proofs.Ytenpeogkefmclaa
open Go.Sep
variable [B0 : Base]

/-- A thread of the row: its number, and how long it ran. -/
structure Th where
  id : Int
  ran : Int
structure Cls where
  q : Int
  l : List Th
def Cls.Ok (c : Cls) : Prop := 1 ≤ c.q ∧ c.q ≤ 1073741824 ∧ c.l.length ≤ 64 ∧ ∀ t ∈ c.l, 0 ≤ t.ran ∧ t.ran ≤ c.q

def thE (t : Th) : List Value := [.int .i64 t.id, .int .i64 t.ran]
@[simp] theorem thE_one (t : Th) : (thE t).all Value.oneCell' = true := rfl
@[simp] theorem thE_len (t : Th) : (thE t).length = 2 := rfl
abbrev ptr (p : Nat) : Value := .pointer (some ⟨p, 0, none⟩)
abbrev int (i : Int) : Value := .int .i64 i

/-- p is this class's, which is a sound one. -/
def cls (p : Nat) (c : Cls) : HP := ex fun v => all [fact c.Ok, pt p 58 [.int .i64 c.q, v], sl 61 2 v (c.l.map thE)]

theorem cls_fold {p : Nat} {c : Cls} {v : Value} {w : World} {R : List HP} (ho : c.Ok) (h : Sat w (pt p 58 [.int .i64 c.q, v] :: sl 61 2 v (c.l.map thE) :: R)) : Sat w (cls p c :: R) :=
  Sat.ex_iff.2 ⟨v, Sat.all_iff.2 (Sat.fact_iff.2 ⟨ho, h⟩)⟩
theorem cls_open {p : Nat} {c : Cls} {w : World} {R : List HP} (h : Sat w (cls p c :: R)) : ∃ v, c.Ok ∧ Sat w (pt p 58 [.int .i64 c.q, v] :: sl 61 2 v (c.l.map thE) :: R) := by
  obtain ⟨v, h⟩ := Sat.ex_iff.1 h
  exact ⟨v, Sat.fact_iff.1 (Sat.all_iff.1 h)⟩
theorem C_cls {P : Program} {ro : Option Nat} {Q : Exit → Act → World → Prop} {n : Nat} {F : Fr} {ds : List Deferred} {R : List HP} {cd : Code} {p : Nat} {c : Cls}
    (h : ∀ v, c.Ok → IsSl v c.l.length → C P ro cd Q n F ds (pt p 58 [.int .i64 c.q, v] :: sl 61 2 v (c.l.map thE) :: R)) : C P ro cd Q n F ds (cls p c :: R) := by
  unfold cls
  refine C_ex fun v => ?_
  refine C_sat (fun w h => Sat.all_iff.1 h) ?_
  refine C_fact fun ho => ?_
  exact C_isl (v := v) (by (focus ((repeat (first | assumption | exact Len.of ‹_› | exact .slm | exact .sl | apply Len.there)); done))) fun hN _ => h v ho hN
attribute [irreducible] cls

/-! ### find, place -/
def findIx (l : List Th) (id : Int) : Option Nat := l.findIdx? fun t => t.id == id
def ixI (o : Option Nat) : Int := match o with | some i => i | none => -1

theorem findIx_at {l : List Th} {id : Int} {k : Nat} {t : Th} (hk : l[k]? = some t) (h : t.id = id) (hb : ∀ (j : Nat) (t : Th), j < k → l[j]? = some t → t.id ≠ id) : findIx l id = some k := by
  have hlt := (List.getElem?_eq_some_iff.1 hk).1
  unfold findIx
  rw [List.findIdx?_eq_some_iff_getElem]
  refine ⟨hlt, ?_, fun j hj => ?_⟩
  · rw [(List.getElem?_eq_some_iff.1 hk).2, h]; simp
  · have := hb j _ hj (List.getElem?_eq_getElem (Nat.lt_trans hj hlt)); simpa using this
theorem findIx_no {l : List Th} {id : Int} (hb : ∀ (j : Nat) (t : Th), j < l.length → l[j]? = some t → t.id ≠ id) : findIx l id = none := by
  unfold findIx
  rw [List.findIdx?_eq_none_iff]
  intro t ht
  obtain ⟨j, hj⟩ := List.getElem?_of_mem ht
  have := hb j t (List.getElem?_eq_some_iff.1 hj).1 hj; simpa using this
theorem findIx_lt {l : List Th} {id : Int} {k : Nat} (h : findIx l id = some k) : ∃ t, l[k]? = some t ∧ t.id = id := by
  unfold findIx at h
  rw [List.findIdx?_eq_some_iff_getElem] at h
  obtain ⟨hlt, h1, _⟩ := h
  exact ⟨l[k], List.getElem?_eq_getElem hlt, by simpa using h1⟩

set_option maxHeartbeats 1000000 in
theorem find_ok (p : Nat) (q : Int) (l : List Th) (id : Int) (v : Value) (hv : IsSl v l.length) (R : List HP) : Called Try.prog 23 [ptr p, int id] (pt p 58 [.int .i64 q, v] :: sl 61 2 v (l.map thE) :: R) (is (int (ixI (findIx l id))) (pt p 58 [.int .i64 q, v] :: sl 61 2 v (l.map thE) :: R)) := by
  refine Fn2 Try.func23 rfl Try.ntmps23 rfl ?_
  have hN := hv.len
  (repeat' first | refine stp ?_ | intro v' hv' | intro (b : Nat))
  refine C_loop (fun m F L' => ∃ k : Nat, k ≤ l.length ∧ m = l.length - k ∧ (∀ (j : Nat) (t : Th), j < k → l[j]? = some t → t.id ≠ id) ∧ F = [(1, .int .i64 id), (5, .int .i64 (-1)), (11, v), (12, .int .i64 l.length), (13, .int .i64 k)] ∧ L' = pt p 58 [.int .i64 q, v] :: sl 61 2 v (l.map thE) :: R) l.length _ _ ⟨0, Nat.zero_le _, rfl, (by intro j t h; omega), rfl, rfl⟩ (by (exact sbf)) (fun _ h => h) ?_
  rintro m F L' ⟨k, hk, rfl, hno, rfl, rfl⟩
  (repeat' first | refine stp ?_ | intro v' hv' | intro (b : Nat))
  refine C_cond rfl (fun hc => ?_) (fun hc => ?_)
  · have hk' : k < l.length := by simpa using hc
    obtain ⟨t, ht⟩ : ∃ t, l[k]? = some t := ⟨l[k], by simp [hk']⟩
    have hget : (l.map thE)[k]? = some (thE t) := by simp [ht]
    (repeat' first | refine stp ?_ | intro v' hv' | intro (b : Nat))
    refine C_cond rfl (fun hc => ?_) (fun hne => ?_)
    · (repeat' first | refine stp ?_ | intro v' hv' | intro (b : Nat))
      exact At_ret1 (.inl rfl) Try.results23 rfl ⟨by rw [findIx_at ht (by simpa using hc) hno]; rfl, rfl⟩ (fun w h => h.drop)
    · (repeat' first | refine stp ?_ | intro v' hv' | intro (b : Nat))
      refine At_again (l.length - (k + 1)) _ _ (by omega) ⟨k + 1, hk', rfl, ?_, rfl, rfl⟩ (by (exact sbf)) (fun w h => h.drop)
      intro j u hj hu
      rcases Nat.lt_or_eq_of_le (Nat.lt_succ_iff.1 hj) with h | rfl
      · exact hno j u h hu
      · rw [ht] at hu; cases hu; simpa using hne
  · obtain rfl : k = l.length := by simp at hc; omega
    (repeat' first | refine stp ?_ | intro v' hv' | intro (b : Nat))
    exact At_ret1 (.inl rfl) Try.results23 rfl ⟨by rw [findIx_no hno]; rfl, rfl⟩ (fun w h => h)

set_option maxHeartbeats 1000000 in
theorem place_none (p : Nat) (q : Int) (l : List Th) (id : Int) (v : Value) (hv : IsSl v l.length) (hf : findIx l id = none) (R : List HP) : Called Try.prog 24 [ptr p, int id] (pt p 58 [.int .i64 q, v] :: sl 61 2 v (l.map thE) :: R) (is (.tuple #[int 0, int 14]) (pt p 58 [.int .i64 q, v] :: sl 61 2 v (l.map thE) :: R)) := by
  refine Fn2 Try.func24 rfl Try.ntmps24 rfl ?_
  have hi : ixI (findIx l id) = -1 := by rw [hf]; rfl
  (repeat' first | refine stp ?_ | intro v' hv' | intro (b : Nat) | (apply w_cq0; rfl; rfl; exact Called.at2 (by (focus ((repeat (first | refine Rep2.here (by (focus ((repeat (first | exact Rep.here | apply Rep.there)); done))) | refine Rep2.other (by (focus ((repeat (first | exact Rep.here | apply Rep.there)); done))) | apply Rep2.there)); done))) (find_ok _ _ _ _ _ (by assumption))))
  exact At_ret2 (.inl rfl) Try.results24 rfl rfl ⟨rfl, rfl⟩ (fun w h => h)
set_option maxHeartbeats 1000000 in
theorem place_some (p : Nat) (q : Int) (l : List Th) (id : Int) (k : Nat) (v : Value) (hv : IsSl v l.length) (hf : findIx l id = some k) (R : List HP) : Called Try.prog 24 [ptr p, int id] (pt p 58 [.int .i64 q, v] :: sl 61 2 v (l.map thE) :: R) (is (.tuple #[int k, int 0]) (pt p 58 [.int .i64 q, v] :: sl 61 2 v (l.map thE) :: R)) := by
  refine Fn2 Try.func24 rfl Try.ntmps24 rfl ?_
  have hi : ixI (findIx l id) = k := by rw [hf]; rfl
  (repeat' first | refine stp ?_ | intro v' hv' | intro (b : Nat) | (apply w_cq0; rfl; rfl; exact Called.at2 (by (focus ((repeat (first | refine Rep2.here (by (focus ((repeat (first | exact Rep.here | apply Rep.there)); done))) | refine Rep2.other (by (focus ((repeat (first | exact Rep.here | apply Rep.there)); done))) | apply Rep2.there)); done))) (find_ok _ _ _ _ _ (by assumption))))
  exact At_ret2 (.inl rfl) Try.results24 rfl rfl ⟨by rw [hi], rfl⟩ (fun w h => h)

set_option maxHeartbeats 1000000 in
theorem Len_ok (p : Nat) (c : Cls) (R : List HP) : Called Try.prog 15 [ptr p] (cls p c :: R) (is (int c.l.length) (cls p c :: R)) := by
  refine Fn1 Try.func15 rfl Try.ntmps15 rfl ?_
  refine C_cls fun v ho hv => ?_
  (repeat' first | refine stp ?_ | intro v' hv' | intro (b : Nat) | (apply w_cq0; rfl; rfl; exact Called.at2 (by (focus ((repeat (first | refine Rep2.here (by (focus ((repeat (first | exact Rep.here | apply Rep.there)); done))) | refine Rep2.other (by (focus ((repeat (first | exact Rep.here | apply Rep.there)); done))) | apply Rep2.there)); done))) (find_ok _ _ _ _ _ (by assumption))))
  exact At_ret1 (.inl rfl) Try.results15 rfl ⟨rfl, rfl⟩ (fun w h => cls_fold ho h)

end Go.Proofs.Ytenpeogkefmclaa
