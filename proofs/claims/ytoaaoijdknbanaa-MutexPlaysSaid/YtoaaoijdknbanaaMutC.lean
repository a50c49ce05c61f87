/- mutex: where a thread waits. Conditions: none. -/
import Derived.Test.YtoaaoijdknbanaaMutB
set_option linter.all false
set_option linter.deprecated false
namespace Go.Proofs.Ytoaaoijdknbanaa
open Go.Sep
variable [B0 : Base]
theorem qsSrc {ls : List (Value × Lk)} {i : Nat} {p : Value × Lk} (h : ls[i]? = some p) {R : List HP} : Sep.Src (qsH ls :: R) p.1 2 (p.2.q.map kyE) :=
  ⟨fun w hs => (Sep.Src.sl (E := 46) (L := qsH (ls.eraseIdx i) :: R)).each w (qs_open h hs), fun w hs => (Sep.Src.sl (E := 46) (L := qsH (ls.eraseIdx i) :: R)).out w (qs_open h hs)⟩
theorem MtOk.get {M : List Lk} {lv : Value} {ls : List (Value × Lk)} (h : MtOk M lv ls) {i : Nat} {p : Value × Lk} (hp : ls[i]? = some p) : M[i]? = some p.2 ∧ lkA M i = p.2 ∧ IsSl p.1 p.2.q.length ∧ p.2.q.length ≤ 64 ∧ -1 ≤ p.2.own ∧ p.2.own < 64 := by
  have h1 : M[i]? = some p.2 := by rw [h.eq, List.getElem?_map, hp]; rfl
  have hm := List.mem_of_getElem? h1
  exact ⟨h1, lkA_eq h1, h.isl p (List.mem_of_getElem? hp), h.wf.q64 hm, h.wf.own _ hm⟩
theorem MtOk.len {M : List Lk} {lv : Value} {ls : List (Value × Lk)} (h : MtOk M lv ls) : M.length = ls.length := by rw [h.eq, List.length_map]
theorem MtOk.set {M : List Lk} {lv : Value} {ls : List (Value × Lk)} (h : MtOk M lv ls) {i : Nat} {v : Value} {k : Lk} (hv : IsSl v k.q.length) (hw : WfM (M.set i k)) : MtOk (M.set i k) lv (ls.set i (v, k)) where
  eq := by rw [h.eq, List.map_set]
  lisl := by rw [List.length_set]; exact h.lisl
  pos := by rw [List.length_set]; exact h.pos
  few := by rw [List.length_set]; exact h.few
  isl := fun p hp => by
    rcases List.mem_or_eq_of_mem_set hp with hp | rfl
    · exact h.isl p hp
    · exact hv
  wf := hw
theorem isK1_ok (x : Ky) (n : Int) (bn : Nat) (L : List HP) (hr : Rd L ⟨bn, 0, none⟩ (int n)) : Called Try.prog 52 [kyV x, ptr bn] L (is (.bool (isK n x)) L) := by
  unfold isK
  refine Fn2 Try.func52 rfl Try.ntmps52 rfl ?_
  unfold kyV kyE
  (repeat' first | refine stp ?_ | intro v' hv' | intro (b : Nat) | (apply w_convU; rfl; rfl; omega; omega) | (apply w_convI; rfl; rfl; omega; omega) | (apply w_quoU; rfl; rfl; rfl; omega; omega; omega) | (apply w_remU; rfl; rfl; rfl; omega; omega) | (apply w_minL; rfl; rfl; rfl; omega) | (apply w_minG; rfl; rfl; rfl; omega) | (apply w_min; rfl; rfl; rfl) | (apply w_mfR; rfl; rfl) | (apply w_cvp; rfl; rfl; exact inferInstance; rfl; rfl; assumption) | (apply w_eqS2T; rfl; rfl; rfl; omega) | (apply w_eqS2F; rfl; rfl; rfl; omega) | (apply w_neS2T; rfl; rfl; rfl; omega) | (apply w_neS2F; rfl; rfl; rfl; omega) | (apply w_eqS3T; rfl; rfl; rfl; omega) | (apply w_eqS3F; rfl; rfl; rfl; omega) | (apply w_neS3T; rfl; rfl; rfl; omega) | (apply w_neS3F; rfl; rfl; rfl; omega) | (apply w_eqS3; rfl; rfl; rfl) | (apply w_neS3; rfl; rfl; rfl) | (apply w_eqS2; rfl; rfl; rfl) | (apply w_neS2; rfl; rfl; rfl) | (apply w_maxL; rfl; rfl; rfl; omega) | (apply w_maxG; rfl; rfl; rfl; omega) | (apply w_max; rfl; rfl; rfl) | (apply w_neB; rfl; rfl; rfl; rfl) | (apply w_eqB; rfl; rfl; rfl; rfl) | refine spl ?_ ?_ | intro hc)
  all_goals (refine At_ret1 (by (first | exact .inl rfl | exact .inr rfl)) Try.results52 rfl ⟨by rfl, rfl⟩ (by (exact frm)))
theorem isK2_ok (x : Ky) (n : Int) (bn : Nat) (L : List HP) (hr : Rd L ⟨bn, 0, none⟩ (int n)) : Called Try.prog 37 [kyV x, ptr bn] L (is (.bool (isK n x)) L) := by
  unfold isK
  refine Fn2 Try.func37 rfl Try.ntmps37 rfl ?_
  unfold kyV kyE
  (repeat' first | refine stp ?_ | intro v' hv' | intro (b : Nat) | (apply w_convU; rfl; rfl; omega; omega) | (apply w_convI; rfl; rfl; omega; omega) | (apply w_quoU; rfl; rfl; rfl; omega; omega; omega) | (apply w_remU; rfl; rfl; rfl; omega; omega) | (apply w_minL; rfl; rfl; rfl; omega) | (apply w_minG; rfl; rfl; rfl; omega) | (apply w_min; rfl; rfl; rfl) | (apply w_mfR; rfl; rfl) | (apply w_cvp; rfl; rfl; exact inferInstance; rfl; rfl; assumption) | (apply w_eqS2T; rfl; rfl; rfl; omega) | (apply w_eqS2F; rfl; rfl; rfl; omega) | (apply w_neS2T; rfl; rfl; rfl; omega) | (apply w_neS2F; rfl; rfl; rfl; omega) | (apply w_eqS3T; rfl; rfl; rfl; omega) | (apply w_eqS3F; rfl; rfl; rfl; omega) | (apply w_neS3T; rfl; rfl; rfl; omega) | (apply w_neS3F; rfl; rfl; rfl; omega) | (apply w_eqS3; rfl; rfl; rfl) | (apply w_neS3; rfl; rfl; rfl) | (apply w_eqS2; rfl; rfl; rfl) | (apply w_neS2; rfl; rfl; rfl) | (apply w_maxL; rfl; rfl; rfl; omega) | (apply w_maxG; rfl; rfl; rfl; omega) | (apply w_max; rfl; rfl; rfl) | (apply w_neB; rfl; rfl; rfl; rfl) | (apply w_eqB; rfl; rfl; rfl; rfl) | refine spl ?_ ?_ | intro hc)
  all_goals (refine At_ret1 (by (first | exact .inl rfl | exact .inr rfl)) Try.results37 rfl ⟨by rfl, rfl⟩ (by (exact frm)))
/-! ### The iterator -/
def wStep (_ : Bool) (_ : List Value) : Option Code × Bool := (some .ret, true)
def wDom (M : List Lk) (n : Int) (lv : Value) (s : Bool) (xs : List Value) : Prop := s = false ∧ ∃ i j : Nat, waitAt M n = some (i, j) ∧ xs = [.pointer (some ⟨vb lv, vo lv + i * 3, none⟩), int j]
def wEnd (M : List Lk) (n : Int) : Bool × Option Code := match waitAt M n with
  | none => (false, none)
  | some _ => (true, some .ret)
theorem waitAt_at {M : List Lk} {n : Int} {i j : Nat} {k : Lk} (hk : M[i]? = some k) (h1 : ∀ k' ∈ M.take i, ∀ y ∈ k'.q, y.id ≠ n) (hj : k.q.findIdx? (isK n) = some j) : waitAt M n = some (i, j) := by
  obtain ⟨hi, rfl⟩ := List.getElem?_eq_some_iff.1 hk
  have hf : M.findIdx? (hasB n) = some i := by
    rw [List.findIdx?_eq_some_iff_getElem]
    refine ⟨hi, ?_, fun a ha => ?_⟩
    · obtain ⟨hj1, hj2, -⟩ := List.findIdx?_eq_some_iff_getElem.1 hj
      unfold hasB
      exact List.any_eq_true.2 ⟨_, List.getElem_mem hj1, hj2⟩
    · have : M[a] ∈ M.take i := List.mem_iff_getElem.2 ⟨a, by simp; omega, by simp⟩
      have h2 := h1 _ this
      rw [Bool.not_eq_true]
      unfold hasB
      rw [List.any_eq_false]
      intro y hy
      simp [isK, h2 y hy]
  unfold waitAt
  rw [hf]
  dsimp only
  rw [lkA_eq hk, hj]; rfl
theorem findIdx?_isK_none {q : List Ky} {n : Int} : q.findIdx? (isK n) = none ↔ ∀ y ∈ q, y.id ≠ n := by
  rw [List.findIdx?_eq_none_iff]
  constructor
  · intro h y hy e
    have := h y hy
    simp [isK, e] at this
  · intro h y hy
    simp [isK, h y hy]
set_option maxHeartbeats 4000000 in
theorem waiting1_ok (A : Bool → HP) (E : HP) (lv : Value) (ls : List (Value × Lk)) (M : List Lk) (n : Int) (tb bt bn : Nat) (hok : MtOk M lv ls)
    (hA : A false = all [pt tb 69 [lv], sl 66 3 lv (ls.map lkE), qsH ls, pt bt 25 [ptr tb], pt bn 3 [int n], E])
    (B : Bool × Option Code → HP) (H : Option Code → HP) (yf : Value) (X : List HP) (hB : ∀ s, B s = all [A s.1, H s.2])
    (hy : Sep.Yields Try.prog yf B (fun s xs => ((wStep s.1 xs).1.isNone, ((wStep s.1 xs).2, (wStep s.1 xs).1))) (fun s xs => s.2 = none ∧ wDom M n lv s.1 xs)) :
    Called Try.prog 51 ([] ++ [yf] ++ [ptr bt, ptr bn]) (B (false, none) :: X) (is (.tuple #[]) (B (wEnd M n) :: X)) := by
  show Called Try.prog 51 [yf, ptr bt, ptr bn] (B (false, none) :: X) (is (.tuple #[]) (B (wEnd M n) :: X))
  have hopen : ∀ w, Sat w (B (false, none) :: X) → Sat w (pt tb 69 [lv] :: sl 66 3 lv (ls.map lkE) :: qsH ls :: pt bt 25 [ptr tb] :: pt bn 3 [int n] :: E :: H none :: X) := fun w hs => by
    rw [hB, hA] at hs
    exact Sat.all_iff.1 (Sat.all_iff.1 hs)
  have hshut : ∀ w, Sat w (pt tb 69 [lv] :: sl 66 3 lv (ls.map lkE) :: qsH ls :: pt bt 25 [ptr tb] :: pt bn 3 [int n] :: E :: H none :: X) → Sat w (B (false, none) :: X) := fun w hs => by
    rw [hB, hA]
    refine Sat.all_iff.2 ?_
    exact Sat.all_iff.2 hs
  have hlv := hok.lisl
  have hN := hlv.len
  have hlen := hok.len
  refine Fn3 Try.func51 rfl Try.ntmps51 rfl ?_
  refine C_sat hopen ?_
  (repeat' first | refine stp ?_ | intro v' hv' | intro (b : Nat) | (apply w_convU; rfl; rfl; omega; omega) | (apply w_convI; rfl; rfl; omega; omega) | (apply w_quoU; rfl; rfl; rfl; omega; omega; omega) | (apply w_remU; rfl; rfl; rfl; omega; omega) | (apply w_minL; rfl; rfl; rfl; omega) | (apply w_minG; rfl; rfl; rfl; omega) | (apply w_min; rfl; rfl; rfl) | (apply w_mfR; rfl; rfl) | (apply w_cvp; rfl; rfl; exact inferInstance; rfl; rfl; assumption) | (apply w_eqS2T; rfl; rfl; rfl; omega) | (apply w_eqS2F; rfl; rfl; rfl; omega) | (apply w_neS2T; rfl; rfl; rfl; omega) | (apply w_neS2F; rfl; rfl; rfl; omega) | (apply w_eqS3T; rfl; rfl; rfl; omega) | (apply w_eqS3F; rfl; rfl; rfl; omega) | (apply w_neS3T; rfl; rfl; rfl; omega) | (apply w_neS3F; rfl; rfl; rfl; omega) | (apply w_eqS3; rfl; rfl; rfl) | (apply w_neS3; rfl; rfl; rfl) | (apply w_eqS2; rfl; rfl; rfl) | (apply w_neS2; rfl; rfl; rfl) | (apply w_maxL; rfl; rfl; rfl; omega) | (apply w_maxG; rfl; rfl; rfl; omega) | (apply w_max; rfl; rfl; rfl) | (apply w_neB; rfl; rfl; rfl; rfl) | (apply w_eqB; rfl; rfl; rfl; rfl) | (apply w_cq; rfl; rfl; exact hI _ (by (focus ((repeat (first | exact hsq _ | apply Sep.Src.there)); done))) (by (focus ((repeat (first | assumption | exact .pt rfl | exact .sl ‹_› rfl | exact .sl1 (by first | assumption | rfl) | apply Rd.there)); done)))) | refine spl ?_ ?_ | intro hc)
  refine C_loopK [4, 5, 6, 12, 13, 14, 15, 16, 17, 18, 19, 20, 21, 22, 23, 24, 25, 26, 27, 28, 29, 30, 31, 32, 33, 34, 35, 36, 37] (fun k : Nat => ls.length - k) (fun k => [(12, int k)]) (fun _ => pt tb 69 [lv] :: sl 66 3 lv (ls.map lkE) :: qsH ls :: pt bt 25 [ptr tb] :: pt bn 3 [int n] :: E :: H none :: X) (fun k => k ≤ ls.length ∧ ∀ k' ∈ M.take k, ∀ y ∈ k'.q, y.id ≠ n) 0 ⟨Nat.zero_le _, by simp⟩ (by (focus ((repeat (first | exact Keep.nil | apply Keep.drop rfl | apply Keep.keep rfl)); done))) (by (exact sbf)) (by (exact frm)) ?_
  rintro k ⟨hk, hz⟩
  dsimp only [List.cons_append, List.nil_append]
  by_cases hlt : k < ls.length
  · have hp : ls[k]? = some ls[k] := by simp [hlt]
    obtain ⟨hMk, hlk, hpi, hp64, -, -⟩ := hok.get hp
    have hsq : ∀ X, Sep.Src (qsH ls :: X) ls[k].1 2 (ls[k].2.q.map kyE) := fun X => qsSrc hp
    have hrl : ∀ X, Rd (sl 66 3 lv (ls.map lkE) :: X) ⟨vb lv, vo lv + k * 3 + 2, none⟩ ls[k].1 := fun X => Rd.lk hp rfl
    have hrl0 : Rd (sl 66 3 lv (ls.map lkE) :: qsH ls :: pt bt 25 [ptr tb] :: pt bn 3 [int n] :: E :: H none :: X) ⟨vb lv, vo lv + k * 3 + 2 + 0, none⟩ ls[k].1 := hrl _
    have htk : M.take (k + 1) = M.take k ++ [ls[k].2] := by rw [List.take_add_one, hMk]; rfl
    clear hrl
    generalize ls[k] = p at *
    obtain ⟨v, kk⟩ := p
    dsimp only at *
    have hI0 : ∀ L, Sep.Src L v 2 (kk.q.map kyE) → Rd L ⟨bn, 0, none⟩ (int n) → Called Try.prog 48 [v, .func (.func 52) #[] #[ptr bn]] L (is (int (findI (isK n) kk.q)) L) :=
      fun L hL hr => KIndexFunc_ok v _ kk.q (isK n) L ⟨hpi, hL⟩ (fun y _ => Does.func (fs := []) (cs := [ptr bn]) (CanEnter.out (P := Try.prog) (f := 52)) (isK1_ok y n bn L hr))
    unfold findI at hI0
    cases hf : kk.q.findIdx? (isK n) with
    | none =>
      rw [hf] at hI0
      have hI : ∀ L, Sep.Src L v 2 (kk.q.map kyE) → Rd L ⟨bn, 0, none⟩ (int n) → Called Try.prog 48 [v, .func (.func 52) #[] #[ptr bn]] L (is (int (-1)) L) := hI0
      clear hI0
      (repeat' first | refine stp ?_ | intro v' hv' | intro (b : Nat) | (apply w_convU; rfl; rfl; omega; omega) | (apply w_convI; rfl; rfl; omega; omega) | (apply w_quoU; rfl; rfl; rfl; omega; omega; omega) | (apply w_remU; rfl; rfl; rfl; omega; omega) | (apply w_minL; rfl; rfl; rfl; omega) | (apply w_minG; rfl; rfl; rfl; omega) | (apply w_min; rfl; rfl; rfl) | (apply w_mfR; rfl; rfl) | (apply w_cvp; rfl; rfl; exact inferInstance; rfl; rfl; assumption) | (apply w_eqS2T; rfl; rfl; rfl; omega) | (apply w_eqS2F; rfl; rfl; rfl; omega) | (apply w_neS2T; rfl; rfl; rfl; omega) | (apply w_neS2F; rfl; rfl; rfl; omega) | (apply w_eqS3T; rfl; rfl; rfl; omega) | (apply w_eqS3F; rfl; rfl; rfl; omega) | (apply w_neS3T; rfl; rfl; rfl; omega) | (apply w_neS3F; rfl; rfl; rfl; omega) | (apply w_eqS3; rfl; rfl; rfl) | (apply w_neS3; rfl; rfl; rfl) | (apply w_eqS2; rfl; rfl; rfl) | (apply w_neS2; rfl; rfl; rfl) | (apply w_maxL; rfl; rfl; rfl; omega) | (apply w_maxG; rfl; rfl; rfl; omega) | (apply w_max; rfl; rfl; rfl) | (apply w_neB; rfl; rfl; rfl; rfl) | (apply w_eqB; rfl; rfl; rfl; rfl) | (apply w_cq; rfl; rfl; exact hI _ (by (focus ((repeat (first | exact hsq _ | apply Sep.Src.there)); done))) (by (focus ((repeat (first | assumption | exact .pt rfl | exact .sl ‹_› rfl | exact .sl1 (by first | assumption | rfl) | apply Rd.there)); done)))) | refine spl ?_ ?_ | intro hc)
      refine At_againK (k + 1) ⟨hlt, ?_⟩ (by omega) (by (exact sbf)) (by (exact sbf)) (by (exact frm))
      intro k' hk' y hy
      rw [htk] at hk'
      rcases List.mem_append.1 hk' with h | h
      · exact hz k' h y hy
      · rw [List.mem_singleton] at h; subst h
        exact findIdx?_isK_none.1 hf y hy
    | some j =>
      rw [hf] at hI0
      have hI : ∀ L, Sep.Src L v 2 (kk.q.map kyE) → Rd L ⟨bn, 0, none⟩ (int n) → Called Try.prog 48 [v, .func (.func 52) #[] #[ptr bn]] L (is (int (j : Int)) L) := hI0
      clear hI0
      have hw := waitAt_at hMk hz hf
      (repeat' first | refine stp ?_ | intro v' hv' | intro (b : Nat) | (apply w_convU; rfl; rfl; omega; omega) | (apply w_convI; rfl; rfl; omega; omega) | (apply w_quoU; rfl; rfl; rfl; omega; omega; omega) | (apply w_remU; rfl; rfl; rfl; omega; omega) | (apply w_minL; rfl; rfl; rfl; omega) | (apply w_minG; rfl; rfl; rfl; omega) | (apply w_min; rfl; rfl; rfl) | (apply w_mfR; rfl; rfl) | (apply w_cvp; rfl; rfl; exact inferInstance; rfl; rfl; assumption) | (apply w_eqS2T; rfl; rfl; rfl; omega) | (apply w_eqS2F; rfl; rfl; rfl; omega) | (apply w_neS2T; rfl; rfl; rfl; omega) | (apply w_neS2F; rfl; rfl; rfl; omega) | (apply w_eqS3T; rfl; rfl; rfl; omega) | (apply w_eqS3F; rfl; rfl; rfl; omega) | (apply w_neS3T; rfl; rfl; rfl; omega) | (apply w_neS3F; rfl; rfl; rfl; omega) | (apply w_eqS3; rfl; rfl; rfl) | (apply w_neS3; rfl; rfl; rfl) | (apply w_eqS2; rfl; rfl; rfl) | (apply w_neS2; rfl; rfl; rfl) | (apply w_maxL; rfl; rfl; rfl; omega) | (apply w_maxG; rfl; rfl; rfl; omega) | (apply w_max; rfl; rfl; rfl) | (apply w_neB; rfl; rfl; rfl; rfl) | (apply w_eqB; rfl; rfl; rfl; rfl) | (apply w_cq; rfl; rfl; exact hI _ (by (focus ((repeat (first | exact hsq _ | apply Sep.Src.there)); done))) (by (focus ((repeat (first | assumption | exact .pt rfl | exact .sl ‹_› rfl | exact .sl1 (by first | assumption | rfl) | apply Rd.there)); done)))) | refine spl ?_ ?_ | intro hc)
      refine W_sat (L' := B (false, none) :: X) hshut ?_
      apply w_yield (s := ((false : Bool), (none : Option Code)))
      rfl; rfl; rfl; exact hy; exact ⟨rfl, rfl, k, j, hw, rfl⟩; ((focus ((repeat (first | exact Del.here | apply Del.there)); done))); ((exact kmf))
      have he : wEnd M n = (true, some .ret) := by unfold wEnd; rw [hw]
      rw [he]
      dsimp only [wStep, Option.isNone]
      (repeat' first | refine stp ?_ | intro v' hv' | intro (b : Nat) | (apply w_convU; rfl; rfl; omega; omega) | (apply w_convI; rfl; rfl; omega; omega) | (apply w_quoU; rfl; rfl; rfl; omega; omega; omega) | (apply w_remU; rfl; rfl; rfl; omega; omega) | (apply w_minL; rfl; rfl; rfl; omega) | (apply w_minG; rfl; rfl; rfl; omega) | (apply w_min; rfl; rfl; rfl) | (apply w_mfR; rfl; rfl) | (apply w_cvp; rfl; rfl; exact inferInstance; rfl; rfl; assumption) | (apply w_eqS2T; rfl; rfl; rfl; omega) | (apply w_eqS2F; rfl; rfl; rfl; omega) | (apply w_neS2T; rfl; rfl; rfl; omega) | (apply w_neS2F; rfl; rfl; rfl; omega) | (apply w_eqS3T; rfl; rfl; rfl; omega) | (apply w_eqS3F; rfl; rfl; rfl; omega) | (apply w_neS3T; rfl; rfl; rfl; omega) | (apply w_neS3F; rfl; rfl; rfl; omega) | (apply w_eqS3; rfl; rfl; rfl) | (apply w_neS3; rfl; rfl; rfl) | (apply w_eqS2; rfl; rfl; rfl) | (apply w_neS2; rfl; rfl; rfl) | (apply w_maxL; rfl; rfl; rfl; omega) | (apply w_maxG; rfl; rfl; rfl; omega) | (apply w_max; rfl; rfl; rfl) | (apply w_neB; rfl; rfl; rfl; rfl) | (apply w_eqB; rfl; rfl; rfl; rfl) | (apply w_cq; rfl; rfl; exact hI _ (by (focus ((repeat (first | exact hsq _ | apply Sep.Src.there)); done))) (by (focus ((repeat (first | assumption | exact .pt rfl | exact .sl ‹_› rfl | exact .sl1 (by first | assumption | rfl) | apply Rd.there)); done)))) | refine spl ?_ ?_ | intro hc)
      exact At_ret0 (by (first | exact .inl rfl | exact .inr rfl)) Try.results51 ⟨rfl, rfl⟩ (by (exact frm))
  · obtain rfl : k = ls.length := by omega
    have hw : waitAt M n = none := by
      rw [waitAt_none]
      rw [← hlen, List.take_length] at hz
      exact hz
    have he : wEnd M n = (false, none) := by unfold wEnd; rw [hw]
    rw [he]
    (repeat' first | refine stp ?_ | intro v' hv' | intro (b : Nat) | (apply w_convU; rfl; rfl; omega; omega) | (apply w_convI; rfl; rfl; omega; omega) | (apply w_quoU; rfl; rfl; rfl; omega; omega; omega) | (apply w_remU; rfl; rfl; rfl; omega; omega) | (apply w_minL; rfl; rfl; rfl; omega) | (apply w_minG; rfl; rfl; rfl; omega) | (apply w_min; rfl; rfl; rfl) | (apply w_mfR; rfl; rfl) | (apply w_cvp; rfl; rfl; exact inferInstance; rfl; rfl; assumption) | (apply w_eqS2T; rfl; rfl; rfl; omega) | (apply w_eqS2F; rfl; rfl; rfl; omega) | (apply w_neS2T; rfl; rfl; rfl; omega) | (apply w_neS2F; rfl; rfl; rfl; omega) | (apply w_eqS3T; rfl; rfl; rfl; omega) | (apply w_eqS3F; rfl; rfl; rfl; omega) | (apply w_neS3T; rfl; rfl; rfl; omega) | (apply w_neS3F; rfl; rfl; rfl; omega) | (apply w_eqS3; rfl; rfl; rfl) | (apply w_neS3; rfl; rfl; rfl) | (apply w_eqS2; rfl; rfl; rfl) | (apply w_neS2; rfl; rfl; rfl) | (apply w_maxL; rfl; rfl; rfl; omega) | (apply w_maxG; rfl; rfl; rfl; omega) | (apply w_max; rfl; rfl; rfl) | (apply w_neB; rfl; rfl; rfl; rfl) | (apply w_eqB; rfl; rfl; rfl; rfl) | (apply w_cq; rfl; rfl; exact hI _ (by (focus ((repeat (first | exact hsq _ | apply Sep.Src.there)); done))) (by (focus ((repeat (first | assumption | exact .pt rfl | exact .sl ‹_› rfl | exact .sl1 (by first | assumption | rfl) | apply Rd.there)); done)))) | refine spl ?_ ?_ | intro hc)
    exact At_ret0 (by (first | exact .inl rfl | exact .inr rfl)) Try.results51 ⟨rfl, rfl⟩ (fun w hs => hshut w (Sel.sat (by (focus ((repeat (first | exact Sel.refl | (apply Sel.cons; (focus ((repeat (first | exact Del.here | apply Del.there)); done))) | refine Sel.drop ?_)); done))) hs))
end Go.Proofs.Ytoaaoijdknbanaa
