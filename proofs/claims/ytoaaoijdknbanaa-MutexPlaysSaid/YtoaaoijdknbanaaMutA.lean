/- mutex: what a table is, and its small functions. Conditions: none. -/
import Derived.Test.YtoaaoijdknbanaaIns
import Derived.Test.YtoaaoijdknbanaaMth
set_option linter.all false
set_option linter.deprecated false
namespace Go.Proofs.Ytoaaoijdknbanaa
open Go.Sep
variable [B0 : Base]
instance : NoIface Try.prog 46 := ⟨by kernel_rfl⟩
instance : MethT Try.prog 46 "Before" 20 := ⟨by kernel_rfl⟩
/-! ### In plain words -/
structure Lk where
  own : Int
  flag : Bool
  q : List Ky
def insAt (q : List Ky) (x : Ky) : Nat := match q.findIdx? (kyB x) with
  | none => q.length
  | some k => k
def insK (q : List Ky) (x : Ky) : List Ky := q.take (insAt q x) ++ [x] ++ q.drop (insAt q x)
theorem insAt_le (q : List Ky) (x : Ky) : insAt q x ≤ q.length := by
  unfold insAt
  split
  · exact Nat.le_refl _
  · rename_i k hk
    exact Nat.le_of_lt (List.findIdx?_eq_some_iff_getElem.1 hk).1
theorem insK_len (q : List Ky) (x : Ky) : (insK q x).length = q.length + 1 := by
  have := insAt_le q x
  unfold insK; simp; omega
def handM (k : Lk) (flag : Bool) : Lk := match k.q with
  | [] => ⟨-1, flag, []⟩
  | x :: q => ⟨x.id, flag, q⟩
structure WfM (M : List Lk) : Prop where
  own : ∀ k ∈ M, -1 ≤ k.own ∧ k.own < 64
  keys : ∀ k ∈ M, ∀ x ∈ k.q, 0 ≤ x.id ∧ x.id < 64 ∧ 0 ≤ x.at' ∧ x.at' < 1099511627776
  nodup : ((M.flatMap (·.q)).map (·.id)).Nodup
/-! ### As it lies -/
def lkE (p : Value × Lk) : List Value := [int p.2.own, .bool p.2.flag, p.1]
def qsH (ls : List (Value × Lk)) : HP := all (ls.map fun p => sl 46 2 p.1 (p.2.q.map kyE))
structure MtOk (M : List Lk) (lv : Value) (ls : List (Value × Lk)) : Prop where
  eq : M = ls.map (·.2)
  lisl : IsSl lv ls.length
  pos : 1 ≤ ls.length
  few : ls.length ≤ 32
  isl : ∀ p ∈ ls, IsSl p.1 p.2.q.length
  wf : WfM M
def mtb (b : Nat) (M : List Lk) : HP := ex fun x : Value × List (Value × Lk) => all [fact (MtOk M x.1 x.2), pt b 69 [x.1], sl 66 3 x.1 (x.2.map lkE), qsH x.2]
theorem mtb_fold {b : Nat} {M : List Lk} {lv : Value} {ls : List (Value × Lk)} (h : MtOk M lv ls) {w : World} {R : List HP} (hs : Sat w (pt b 69 [lv] :: sl 66 3 lv (ls.map lkE) :: qsH ls :: R)) : Sat w (mtb b M :: R) :=
  Sat.ex_iff.2 ⟨(lv, ls), Sat.all_iff.2 (Sat.fact_iff.2 ⟨h, hs⟩)⟩
theorem C_mtb {P : Program} {ro : Option Nat} {Q : Exit → Act → World → Prop} {n : Nat} {F : Fr} {ds : List Deferred} {R : List HP} {cd : Code} {b : Nat} {M : List Lk}
    (h : ∀ lv ls, MtOk M lv ls → C P ro cd Q n F ds (pt b 69 [lv] :: sl 66 3 lv (ls.map lkE) :: qsH ls :: R)) : C P ro cd Q n F ds (mtb b M :: R) := by
  unfold mtb
  refine C_ex fun x => ?_
  refine C_sat (fun w h => Sat.all_iff.1 h) ?_
  exact C_fact fun hok => h x.1 x.2 hok
theorem qs_perm {ls : List (Value × Lk)} {i : Nat} {p : Value × Lk} (h : ls[i]? = some p) : (ls.map fun p => sl 46 2 p.1 (p.2.q.map kyE)).Perm (sl 46 2 p.1 (p.2.q.map kyE) :: (ls.eraseIdx i).map fun p => sl 46 2 p.1 (p.2.q.map kyE)) := by
  obtain ⟨hi, rfl⟩ := List.getElem?_eq_some_iff.1 h
  conv => lhs; rw [← List.take_append_drop i ls, List.drop_eq_getElem_cons hi]
  rw [List.eraseIdx_eq_take_drop_succ, List.map_append, List.map_cons, List.map_append]
  exact List.perm_middle
theorem qs_open {ls : List (Value × Lk)} {i : Nat} {p : Value × Lk} (h : ls[i]? = some p) {w : World} {R : List HP} (hs : Sat w (qsH ls :: R)) : Sat w (sl 46 2 p.1 (p.2.q.map kyE) :: qsH (ls.eraseIdx i) :: R) := by
  unfold qsH at hs ⊢
  have h1 := (Sat.all_iff.1 hs).perm ((qs_perm h).append_right R)
  have h2 : Sat w (all ((ls.eraseIdx i).map fun p => sl 46 2 p.1 (p.2.q.map kyE)) :: sl 46 2 p.1 (p.2.q.map kyE) :: R) := Sat.all_iff.2 (h1.perm List.perm_middle.symm)
  exact h2.perm (.swap ..)
theorem qs_close {ls : List (Value × Lk)} {i : Nat} (hi : i < ls.length) {v : Value} {k : Lk} {w : World} {R : List HP} (hs : Sat w (sl 46 2 v (k.q.map kyE) :: qsH (ls.eraseIdx i) :: R)) : Sat w (qsH (ls.set i (v, k)) :: R) := by
  unfold qsH at hs ⊢
  have hg : (ls.set i (v, k))[i]? = some (v, k) := List.getElem?_set_self hi
  have he : (ls.set i (v, k)).eraseIdx i = ls.eraseIdx i := by
    rw [List.eraseIdx_eq_take_drop_succ, List.eraseIdx_eq_take_drop_succ, List.take_set_of_le (Nat.le_refl _), List.drop_set_of_lt (Nat.lt_succ_self _)]
  have hp := qs_perm hg
  rw [he] at hp
  refine Sat.all_iff.2 ?_
  have h1 := Sat.all_iff.1 (hs.perm (.swap ..))
  exact (h1.perm List.perm_middle).perm (hp.append_right R).symm
theorem qs_same {ls : List (Value × Lk)} {i : Nat} {p : Value × Lk} (h : ls[i]? = some p) {w : World} {R : List HP} (hs : Sat w (sl 46 2 p.1 (p.2.q.map kyE) :: qsH (ls.eraseIdx i) :: R)) : Sat w (qsH ls :: R) := by
  obtain ⟨hi, rfl⟩ := List.getElem?_eq_some_iff.1 h
  have := qs_close hi (v := ls[i].1) (k := ls[i].2) hs
  rwa [show (ls[i].1, ls[i].2) = ls[i] from rfl, List.set_getElem_self] at this
/-- The cells of a lock. -/
theorem Rd.lk {lv : Value} {ls : List (Value × Lk)} {L : List HP} {i k : Nat} {p : Value × Lk} {u : Value} (h : ls[i]? = some p) (hu : (lkE p)[k]? = some u) : Rd (sl 66 3 lv (ls.map lkE) :: L) ⟨vb lv, vo lv + i * 3 + k, none⟩ u :=
  Rd.sl (n := 3) (e := lkE p) (by rw [List.getElem?_map, h]; rfl) hu
theorem St.lk {lv : Value} {ls : List (Value × Lk)} {L : List HP} {i k : Nat} {p p' : Value × Lk} {u : Value} (h : ls[i]? = some p) (hk : k < 3) (hu : (lkE p).set k u = lkE p') : St (sl 66 3 lv (ls.map lkE) :: L) ⟨vb lv, vo lv + i * 3 + k, none⟩ u (sl 66 3 lv ((ls.set i p').map lkE) :: L) := by
  obtain ⟨hi, rfl⟩ := List.getElem?_eq_some_iff.1 h
  exact St.slm (f := lkE) p' hi (by show k < 3; exact hk) hu.symm
/-! ### put -/
set_option maxHeartbeats 4000000 in
theorem put_ok (bq o : Nat) (v : Value) (q : List Ky) (x : Ky) (hq : q.length ≤ 1000) (L : List HP) (L' : Value → List HP) (hv : IsSl v q.length) (hR : Rd L ⟨bq, o, none⟩ v) (hS : ∀ v', St L ⟨bq, o, none⟩ v' (L' v')) :
    Called Try.prog 30 [.pointer (some ⟨bq, o, none⟩), kyV x] (sl 46 2 v (q.map kyE) :: L) (fun u M => u = .tuple #[] ∧ ∃ v', IsSl v' (insK q x).length ∧ M = sl 46 2 v' ((insK q x).map kyE) :: L' v') := by
  have hI : ∀ M, Sep.Src M v 2 (q.map kyE) → Called Try.prog 48 [v, .func (.method "Before") #[.iface 46 (kyV x)] #[]] M (is (int (findI (kyB x) q)) M) :=
    fun M hM => KIndexFunc_ok v _ q (kyB x) M ⟨hv, hM⟩ (fun y _ => Does.meth (Before_ok x y M))
  have hR0 : Rd L ⟨bq, o + 0, none⟩ v := hR
  have hins : insK q x = q.take (insAt q x) ++ [x] ++ q.drop (insAt q x) := rfl
  have hle := insAt_le q x
  unfold kyV at hI ⊢
  unfold findI at hI
  have hat : insAt q x = (match q.findIdx? (kyB x) with | none => q.length | some k => k) := rfl
  cases hf : q.findIdx? (kyB x) with
  | none =>
    rw [hf] at hI hat
    dsimp only at hI hat
    refine Fn2 Try.func30 rfl Try.ntmps30 rfl ?_
    (repeat' first | refine stp ?_ | intro v' hv' | intro (b : Nat) | (apply w_convU; rfl; rfl; omega; omega) | (apply w_convI; rfl; rfl; omega; omega) | (apply w_quoU; rfl; rfl; rfl; omega; omega; omega) | (apply w_remU; rfl; rfl; rfl; omega; omega) | (apply w_minL; rfl; rfl; rfl; omega) | (apply w_minG; rfl; rfl; rfl; omega) | (apply w_min; rfl; rfl; rfl) | (apply w_mfR; rfl; rfl) | (apply w_cvp; rfl; rfl; exact inferInstance; rfl; rfl; assumption) | (apply w_eqS2T; rfl; rfl; rfl; omega) | (apply w_eqS2F; rfl; rfl; rfl; omega) | (apply w_neS2T; rfl; rfl; rfl; omega) | (apply w_neS2F; rfl; rfl; rfl; omega) | (apply w_eqS3T; rfl; rfl; rfl; omega) | (apply w_eqS3F; rfl; rfl; rfl; omega) | (apply w_neS3T; rfl; rfl; rfl; omega) | (apply w_neS3F; rfl; rfl; rfl; omega) | (apply w_eqS3; rfl; rfl; rfl) | (apply w_neS3; rfl; rfl; rfl) | (apply w_eqS2; rfl; rfl; rfl) | (apply w_neS2; rfl; rfl; rfl) | (apply w_maxL; rfl; rfl; rfl; omega) | (apply w_maxG; rfl; rfl; rfl; omega) | (apply w_max; rfl; rfl; rfl) | (apply w_neB; rfl; rfl; rfl; rfl) | (apply w_eqB; rfl; rfl; rfl; rfl) | (apply w_mki; rfl; rfl) | (apply w_cq; rfl; rfl; exact hI _ srf) | (apply w_st; rfl; rfl; (first | rfl | exact hv2.one); (focus ((repeat (first | exact hSt | apply St.there)); done)); ((exact kmf))) | refine spl ?_ ?_ | intro hc)
    apply w_clS
    rfl; rfl; exact (KInsert_ok v v' (q.map kyE) (kyE x) q.length (by simp) (ky_one q) rfl (by simp; omega) (pt b 46 (kyE x) :: L)).pre (fun w hs => Sel.sat (by (focus ((repeat (first | exact Sel.refl | (apply Sel.cons; (focus ((repeat (first | exact Del.here | apply Del.there)); done))) | refine Sel.drop ?_)); done))) hs)
    (simp; omega)
    intro v2 hv2
    have hSt : St L ⟨bq, o + 0, none⟩ v2 (L' v2) := hS v2
    refine ⟨by (exact kmf), ?_⟩
    (repeat' first | refine stp ?_ | intro v' hv' | intro (b : Nat) | (apply w_convU; rfl; rfl; omega; omega) | (apply w_convI; rfl; rfl; omega; omega) | (apply w_quoU; rfl; rfl; rfl; omega; omega; omega) | (apply w_remU; rfl; rfl; rfl; omega; omega) | (apply w_minL; rfl; rfl; rfl; omega) | (apply w_minG; rfl; rfl; rfl; omega) | (apply w_min; rfl; rfl; rfl) | (apply w_mfR; rfl; rfl) | (apply w_cvp; rfl; rfl; exact inferInstance; rfl; rfl; assumption) | (apply w_eqS2T; rfl; rfl; rfl; omega) | (apply w_eqS2F; rfl; rfl; rfl; omega) | (apply w_neS2T; rfl; rfl; rfl; omega) | (apply w_neS2F; rfl; rfl; rfl; omega) | (apply w_eqS3T; rfl; rfl; rfl; omega) | (apply w_eqS3F; rfl; rfl; rfl; omega) | (apply w_neS3T; rfl; rfl; rfl; omega) | (apply w_neS3F; rfl; rfl; rfl; omega) | (apply w_eqS3; rfl; rfl; rfl) | (apply w_neS3; rfl; rfl; rfl) | (apply w_eqS2; rfl; rfl; rfl) | (apply w_neS2; rfl; rfl; rfl) | (apply w_maxL; rfl; rfl; rfl; omega) | (apply w_maxG; rfl; rfl; rfl; omega) | (apply w_max; rfl; rfl; rfl) | (apply w_neB; rfl; rfl; rfl; rfl) | (apply w_eqB; rfl; rfl; rfl; rfl) | (apply w_mki; rfl; rfl) | (apply w_cq; rfl; rfl; exact hI _ srf) | (apply w_st; rfl; rfl; (first | rfl | exact hv2.one); (focus ((repeat (first | exact hSt | apply St.there)); done)); ((exact kmf))) | refine spl ?_ ?_ | intro hc)
    refine At_ret0 (by (first | exact .inl rfl | exact .inr rfl)) Try.results30 ⟨rfl, v2, ?_, rfl⟩ (fun w hs => ?_)
    · rw [insK_len]; simpa using hv2
    · rw [hins, hat, List.map_append, List.map_append, List.map_take, List.map_drop]
      exact Sel.sat (by (focus ((repeat (first | exact Sel.refl | (apply Sel.cons; (focus ((repeat (first | exact Del.here | apply Del.there)); done))) | refine Sel.drop ?_)); done))) hs
  | some k =>
    rw [hf] at hI hat
    dsimp only at hI hat
    rw [hat] at hle
    refine Fn2 Try.func30 rfl Try.ntmps30 rfl ?_
    (repeat' first | refine stp ?_ | intro v' hv' | intro (b : Nat) | (apply w_convU; rfl; rfl; omega; omega) | (apply w_convI; rfl; rfl; omega; omega) | (apply w_quoU; rfl; rfl; rfl; omega; omega; omega) | (apply w_remU; rfl; rfl; rfl; omega; omega) | (apply w_minL; rfl; rfl; rfl; omega) | (apply w_minG; rfl; rfl; rfl; omega) | (apply w_min; rfl; rfl; rfl) | (apply w_mfR; rfl; rfl) | (apply w_cvp; rfl; rfl; exact inferInstance; rfl; rfl; assumption) | (apply w_eqS2T; rfl; rfl; rfl; omega) | (apply w_eqS2F; rfl; rfl; rfl; omega) | (apply w_neS2T; rfl; rfl; rfl; omega) | (apply w_neS2F; rfl; rfl; rfl; omega) | (apply w_eqS3T; rfl; rfl; rfl; omega) | (apply w_eqS3F; rfl; rfl; rfl; omega) | (apply w_neS3T; rfl; rfl; rfl; omega) | (apply w_neS3F; rfl; rfl; rfl; omega) | (apply w_eqS3; rfl; rfl; rfl) | (apply w_neS3; rfl; rfl; rfl) | (apply w_eqS2; rfl; rfl; rfl) | (apply w_neS2; rfl; rfl; rfl) | (apply w_maxL; rfl; rfl; rfl; omega) | (apply w_maxG; rfl; rfl; rfl; omega) | (apply w_max; rfl; rfl; rfl) | (apply w_neB; rfl; rfl; rfl; rfl) | (apply w_eqB; rfl; rfl; rfl; rfl) | (apply w_mki; rfl; rfl) | (apply w_cq; rfl; rfl; exact hI _ srf) | (apply w_st; rfl; rfl; (first | rfl | exact hv2.one); (focus ((repeat (first | exact hSt | apply St.there)); done)); ((exact kmf))) | refine spl ?_ ?_ | intro hc)
    apply w_clS
    rfl; rfl; exact (KInsert_ok v v' (q.map kyE) (kyE x) k (by simpa using hle) (ky_one q) rfl (by simp; omega) (pt b 46 (kyE x) :: L)).pre (fun w hs => Sel.sat (by (focus ((repeat (first | exact Sel.refl | (apply Sel.cons; (focus ((repeat (first | exact Del.here | apply Del.there)); done))) | refine Sel.drop ?_)); done))) hs)
    (simp; omega)
    intro v2 hv2
    have hSt : St L ⟨bq, o + 0, none⟩ v2 (L' v2) := hS v2
    refine ⟨by (exact kmf), ?_⟩
    (repeat' first | refine stp ?_ | intro v' hv' | intro (b : Nat) | (apply w_convU; rfl; rfl; omega; omega) | (apply w_convI; rfl; rfl; omega; omega) | (apply w_quoU; rfl; rfl; rfl; omega; omega; omega) | (apply w_remU; rfl; rfl; rfl; omega; omega) | (apply w_minL; rfl; rfl; rfl; omega) | (apply w_minG; rfl; rfl; rfl; omega) | (apply w_min; rfl; rfl; rfl) | (apply w_mfR; rfl; rfl) | (apply w_cvp; rfl; rfl; exact inferInstance; rfl; rfl; assumption) | (apply w_eqS2T; rfl; rfl; rfl; omega) | (apply w_eqS2F; rfl; rfl; rfl; omega) | (apply w_neS2T; rfl; rfl; rfl; omega) | (apply w_neS2F; rfl; rfl; rfl; omega) | (apply w_eqS3T; rfl; rfl; rfl; omega) | (apply w_eqS3F; rfl; rfl; rfl; omega) | (apply w_neS3T; rfl; rfl; rfl; omega) | (apply w_neS3F; rfl; rfl; rfl; omega) | (apply w_eqS3; rfl; rfl; rfl) | (apply w_neS3; rfl; rfl; rfl) | (apply w_eqS2; rfl; rfl; rfl) | (apply w_neS2; rfl; rfl; rfl) | (apply w_maxL; rfl; rfl; rfl; omega) | (apply w_maxG; rfl; rfl; rfl; omega) | (apply w_max; rfl; rfl; rfl) | (apply w_neB; rfl; rfl; rfl; rfl) | (apply w_eqB; rfl; rfl; rfl; rfl) | (apply w_mki; rfl; rfl) | (apply w_cq; rfl; rfl; exact hI _ srf) | (apply w_st; rfl; rfl; (first | rfl | exact hv2.one); (focus ((repeat (first | exact hSt | apply St.there)); done)); ((exact kmf))) | refine spl ?_ ?_ | intro hc)
    refine At_ret0 (by (first | exact .inl rfl | exact .inr rfl)) Try.results30 ⟨rfl, v2, ?_, rfl⟩ (fun w hs => ?_)
    · rw [insK_len]; simp at hv2
      have e : min k q.length + (q.length - k + 1) = q.length + 1 := by omega
      rwa [e] at hv2
    · rw [hins, hat, List.map_append, List.map_append, List.map_take, List.map_drop]
      exact Sel.sat (by (focus ((repeat (first | exact Sel.refl | (apply Sel.cons; (focus ((repeat (first | exact Del.here | apply Del.there)); done))) | refine Sel.drop ?_)); done))) hs
/-! ### hand -/
theorem set_self' {α : Type} {l : List α} {i : Nat} {x : α} (h : l[i]? = some x) : l.set i x = l := by
  obtain ⟨hi, rfl⟩ := List.getElem?_eq_some_iff.1 h
  exact List.set_getElem_self hi
theorem St.lk' {lv : Value} {ls : List (Value × Lk)} {L : List HP} {i k : Nat} {p p' : Value × Lk} {u : Value} (h : i < ls.length) (hk : k < 3) (hu : (lkE p).set k u = lkE p') : St (sl 66 3 lv ((ls.set i p).map lkE) :: L) ⟨vb lv, vo lv + i * 3 + k, none⟩ u (sl 66 3 lv ((ls.set i p').map lkE) :: L) := by
  have := St.lk (lv := lv) (ls := ls.set i p) (L := L) (i := i) (k := k) (p := p) (p' := p') (u := u) (List.getElem?_set_self h) hk hu
  rwa [List.set_set] at this
theorem Rd.lk' {lv : Value} {ls : List (Value × Lk)} {L : List HP} {i k : Nat} {p : Value × Lk} {u : Value} (h : i < ls.length) (hu : (lkE p)[k]? = some u) : Rd (sl 66 3 lv ((ls.set i p).map lkE) :: L) ⟨vb lv, vo lv + i * 3 + k, none⟩ u := Rd.lk (List.getElem?_set_self h) hu
set_option maxHeartbeats 4000000 in
theorem hand_ok (lv : Value) (ls : List (Value × Lk)) (i : Nat) (p : Value × Lk) (h : ls[i]? = some p) (hp : IsSl p.1 p.2.q.length) (hq : p.2.q.length ≤ 1000) (flag : Bool) (R : List HP) :
    Called Try.prog 32 [.pointer (some ⟨vb lv, vo lv + i * 3, none⟩), .bool flag] (sl 66 3 lv (ls.map lkE) :: sl 46 2 p.1 (p.2.q.map kyE) :: R) (fun u M => ∃ v', u = int (handM p.2 flag).own ∧ IsSl v' (handM p.2 flag).q.length ∧ M = sl 66 3 lv ((ls.set i (v', handM p.2 flag)).map lkE) :: sl 46 2 v' ((handM p.2 flag).q.map kyE) :: R) := by
  have hi := (List.getElem?_eq_some_iff.1 h).1
  obtain ⟨v, own, fl, q⟩ := p
  dsimp only at *
  have hs1 : ∀ L, St (sl 66 3 lv ((ls.set i (v, ⟨own, fl, q⟩)).map lkE) :: L) ⟨vb lv, vo lv + i * 3 + 0, none⟩ (int (-1)) (sl 66 3 lv ((ls.set i (v, ⟨-1, fl, q⟩)).map lkE) :: L) := fun L => St.lk' hi (by decide) rfl
  have hs2 : ∀ L, St (sl 66 3 lv ((ls.set i (v, ⟨-1, fl, q⟩)).map lkE) :: L) ⟨vb lv, vo lv + i * 3 + 1, none⟩ (.bool flag) (sl 66 3 lv ((ls.set i (v, ⟨-1, flag, q⟩)).map lkE) :: L) := fun L => St.lk' hi (by decide) rfl
  have hr1 : ∀ L, Rd (sl 66 3 lv ((ls.set i (v, ⟨-1, flag, q⟩)).map lkE) :: L) ⟨vb lv, vo lv + i * 3 + 2 + 0, none⟩ v := fun L => Rd.lk' (k := 2) hi rfl
  refine Fn2 Try.func32 rfl Try.ntmps32 rfl ?_
  refine C_sat (L' := sl 66 3 lv ((ls.set i (v, ⟨own, fl, q⟩)).map lkE) :: sl 46 2 v (q.map kyE) :: R) (fun w hs => by rw [set_self' h]; exact hs) ?_
  cases q with
  | nil =>
    have hr2 : ∀ L, Rd (sl 66 3 lv ((ls.set i (v, ⟨-1, flag, []⟩)).map lkE) :: L) ⟨vb lv, vo lv + i * 3 + 0, none⟩ (int (-1)) := fun L => Rd.lk' (k := 0) hi rfl
    have hp0 : IsSl v 0 := hp
    (repeat' first | refine stp ?_ | intro v' hv' | intro (b : Nat) | (apply w_convU; rfl; rfl; omega; omega) | (apply w_convI; rfl; rfl; omega; omega) | (apply w_quoU; rfl; rfl; rfl; omega; omega; omega) | (apply w_remU; rfl; rfl; rfl; omega; omega) | (apply w_minL; rfl; rfl; rfl; omega) | (apply w_minG; rfl; rfl; rfl; omega) | (apply w_min; rfl; rfl; rfl) | (apply w_mfR; rfl; rfl) | (apply w_cvp; rfl; rfl; exact inferInstance; rfl; rfl; assumption) | (apply w_eqS2T; rfl; rfl; rfl; omega) | (apply w_eqS2F; rfl; rfl; rfl; omega) | (apply w_neS2T; rfl; rfl; rfl; omega) | (apply w_neS2F; rfl; rfl; rfl; omega) | (apply w_eqS3T; rfl; rfl; rfl; omega) | (apply w_eqS3F; rfl; rfl; rfl; omega) | (apply w_neS3T; rfl; rfl; rfl; omega) | (apply w_neS3F; rfl; rfl; rfl; omega) | (apply w_eqS3; rfl; rfl; rfl) | (apply w_neS3; rfl; rfl; rfl) | (apply w_eqS2; rfl; rfl; rfl) | (apply w_neS2; rfl; rfl; rfl) | (apply w_maxL; rfl; rfl; rfl; omega) | (apply w_maxG; rfl; rfl; rfl; omega) | (apply w_max; rfl; rfl; rfl) | (apply w_neB; rfl; rfl; rfl; rfl) | (apply w_eqB; rfl; rfl; rfl; rfl) | (apply w_st; rfl; rfl; (first | rfl | exact hv2.one); ((focus ((repeat (first | exact hs1 _ | exact hs2 _ | exact hs3 _ | exact hs4 _ | apply St.there)); done))); ((exact kmf))) | (apply w_ld0; rfl; rfl; ((focus ((repeat (first | assumption | exact hr1 _ | exact hr2 _ | exact hr3 _ | exact hr4 _ | apply Rd.there)); done)))) | (apply w_ld; rfl; rfl; ((focus ((repeat (first | assumption | exact hr1 _ | exact hr2 _ | exact hr3 _ | exact hr4 _ | apply Rd.there)); done)))) | refine spl ?_ ?_ | intro hc)
    refine At_ret1 (by (first | exact .inl rfl | exact .inr rfl)) Try.results32 rfl ⟨v, rfl, hp, rfl⟩ (by (exact frm))
  | cons x q =>
    have hp1 : IsSl v (q.length + 1) := hp
    have hrx : ∀ L, Rd (sl 46 2 v ((x :: q).map kyE) :: L) ⟨vb v, vo v + 0 * 2 + 1, none⟩ (int x.id) := fun L => Rd.sl (n := 2) (i := 0) (k := 1) rfl rfl
    have hr2 : ∀ L, Rd (sl 66 3 lv ((ls.set i (v, ⟨x.id, flag, x :: q⟩)).map lkE) :: L) ⟨vb lv, vo lv + i * 3 + 2 + 0, none⟩ v := fun L => Rd.lk' (k := 2) hi rfl
    have hs3 : ∀ L, St (sl 66 3 lv ((ls.set i (v, ⟨-1, flag, x :: q⟩)).map lkE) :: L) ⟨vb lv, vo lv + i * 3 + 0, none⟩ (int x.id) (sl 66 3 lv ((ls.set i (v, ⟨x.id, flag, x :: q⟩)).map lkE) :: L) := fun L => St.lk' hi (by decide) rfl
    have hr3 := hrx
    (repeat' first | refine stp ?_ | intro v' hv' | intro (b : Nat) | (apply w_convU; rfl; rfl; omega; omega) | (apply w_convI; rfl; rfl; omega; omega) | (apply w_quoU; rfl; rfl; rfl; omega; omega; omega) | (apply w_remU; rfl; rfl; rfl; omega; omega) | (apply w_minL; rfl; rfl; rfl; omega) | (apply w_minG; rfl; rfl; rfl; omega) | (apply w_min; rfl; rfl; rfl) | (apply w_mfR; rfl; rfl) | (apply w_cvp; rfl; rfl; exact inferInstance; rfl; rfl; assumption) | (apply w_eqS2T; rfl; rfl; rfl; omega) | (apply w_eqS2F; rfl; rfl; rfl; omega) | (apply w_neS2T; rfl; rfl; rfl; omega) | (apply w_neS2F; rfl; rfl; rfl; omega) | (apply w_eqS3T; rfl; rfl; rfl; omega) | (apply w_eqS3F; rfl; rfl; rfl; omega) | (apply w_neS3T; rfl; rfl; rfl; omega) | (apply w_neS3F; rfl; rfl; rfl; omega) | (apply w_eqS3; rfl; rfl; rfl) | (apply w_neS3; rfl; rfl; rfl) | (apply w_eqS2; rfl; rfl; rfl) | (apply w_neS2; rfl; rfl; rfl) | (apply w_maxL; rfl; rfl; rfl; omega) | (apply w_maxG; rfl; rfl; rfl; omega) | (apply w_max; rfl; rfl; rfl) | (apply w_neB; rfl; rfl; rfl; rfl) | (apply w_eqB; rfl; rfl; rfl; rfl) | (apply w_st; rfl; rfl; (first | rfl | exact hv2.one); ((focus ((repeat (first | exact hs1 _ | exact hs2 _ | exact hs3 _ | exact hs4 _ | apply St.there)); done))); ((exact kmf))) | (apply w_ld0; rfl; rfl; ((focus ((repeat (first | assumption | exact hr1 _ | exact hr2 _ | exact hr3 _ | exact hr4 _ | apply Rd.there)); done)))) | (apply w_ld; rfl; rfl; ((focus ((repeat (first | assumption | exact hr1 _ | exact hr2 _ | exact hr3 _ | exact hr4 _ | apply Rd.there)); done)))) | refine spl ?_ ?_ | intro hc)
    apply w_clS
    rfl; rfl; exact (KDelete_ok v ((x :: q).map kyE) 0 1 (by decide) (by simp) (ky_one _) (sl 66 3 lv ((ls.set i (v, ⟨x.id, flag, x :: q⟩)).map lkE) :: R)).pre (fun w hs => Sel.sat (by (focus ((repeat (first | exact Sel.refl | (apply Sel.cons; (focus ((repeat (first | exact Del.here | apply Del.there)); done))) | refine Sel.drop ?_)); done))) hs)
    (simp at hq ⊢; omega)
    intro v2 hv2
    have hs4 : ∀ L, St (sl 66 3 lv ((ls.set i (v, ⟨x.id, flag, x :: q⟩)).map lkE) :: L) ⟨vb lv, vo lv + i * 3 + 2 + 0, none⟩ v2 (sl 66 3 lv ((ls.set i (v2, ⟨x.id, flag, q⟩)).map lkE) :: L) := fun L => St.lk' (k := 2) hi (by decide) rfl
    have hr4 : ∀ L, Rd (sl 66 3 lv ((ls.set i (v2, ⟨x.id, flag, q⟩)).map lkE) :: L) ⟨vb lv, vo lv + i * 3 + 0, none⟩ (int x.id) := fun L => Rd.lk' (k := 0) hi rfl
    refine ⟨by (exact kmf), ?_⟩
    (repeat' first | refine stp ?_ | intro v' hv' | intro (b : Nat) | (apply w_convU; rfl; rfl; omega; omega) | (apply w_convI; rfl; rfl; omega; omega) | (apply w_quoU; rfl; rfl; rfl; omega; omega; omega) | (apply w_remU; rfl; rfl; rfl; omega; omega) | (apply w_minL; rfl; rfl; rfl; omega) | (apply w_minG; rfl; rfl; rfl; omega) | (apply w_min; rfl; rfl; rfl) | (apply w_mfR; rfl; rfl) | (apply w_cvp; rfl; rfl; exact inferInstance; rfl; rfl; assumption) | (apply w_eqS2T; rfl; rfl; rfl; omega) | (apply w_eqS2F; rfl; rfl; rfl; omega) | (apply w_neS2T; rfl; rfl; rfl; omega) | (apply w_neS2F; rfl; rfl; rfl; omega) | (apply w_eqS3T; rfl; rfl; rfl; omega) | (apply w_eqS3F; rfl; rfl; rfl; omega) | (apply w_neS3T; rfl; rfl; rfl; omega) | (apply w_neS3F; rfl; rfl; rfl; omega) | (apply w_eqS3; rfl; rfl; rfl) | (apply w_neS3; rfl; rfl; rfl) | (apply w_eqS2; rfl; rfl; rfl) | (apply w_neS2; rfl; rfl; rfl) | (apply w_maxL; rfl; rfl; rfl; omega) | (apply w_maxG; rfl; rfl; rfl; omega) | (apply w_max; rfl; rfl; rfl) | (apply w_neB; rfl; rfl; rfl; rfl) | (apply w_eqB; rfl; rfl; rfl; rfl) | (apply w_st; rfl; rfl; (first | rfl | exact hv2.one); ((focus ((repeat (first | exact hs1 _ | exact hs2 _ | exact hs3 _ | exact hs4 _ | apply St.there)); done))); ((exact kmf))) | (apply w_ld0; rfl; rfl; ((focus ((repeat (first | assumption | exact hr1 _ | exact hr2 _ | exact hr3 _ | exact hr4 _ | apply Rd.there)); done)))) | (apply w_ld; rfl; rfl; ((focus ((repeat (first | assumption | exact hr1 _ | exact hr2 _ | exact hr3 _ | exact hr4 _ | apply Rd.there)); done)))) | refine spl ?_ ?_ | intro hc)
    refine At_ret1 (by (first | exact .inl rfl | exact .inr rfl)) Try.results32 rfl ⟨v2, rfl, (show IsSl v2 q.length by simpa using hv2), rfl⟩ (fun w hs => Sel.sat (by (focus ((repeat (first | exact Sel.refl | (apply Sel.cons; (focus ((repeat (first | exact Del.here | apply Del.there)); done))) | refine Sel.drop ?_)); done))) hs)
/-! ### What may be -/
theorem thread_ok (n : Int) (R : List HP) : Called Try.prog 38 [int n] R (is (.bool (decide (0 ≤ n ∧ n < 64))) R) := by
  by_cases h0 : 0 ≤ n
  · have e : decide (0 ≤ n ∧ n < 64) = decide (n < 64) := by congr 1; simp [h0]
    rw [e]
    refine Fn1 Try.func38 rfl Try.ntmps38 rfl ?_
    (repeat' first | refine stp ?_ | intro v' hv' | intro (b : Nat) | (apply w_convU; rfl; rfl; omega; omega) | (apply w_convI; rfl; rfl; omega; omega) | (apply w_quoU; rfl; rfl; rfl; omega; omega; omega) | (apply w_remU; rfl; rfl; rfl; omega; omega) | (apply w_minL; rfl; rfl; rfl; omega) | (apply w_minG; rfl; rfl; rfl; omega) | (apply w_min; rfl; rfl; rfl) | (apply w_mfR; rfl; rfl) | (apply w_cvp; rfl; rfl; exact inferInstance; rfl; rfl; assumption) | (apply w_eqS2T; rfl; rfl; rfl; omega) | (apply w_eqS2F; rfl; rfl; rfl; omega) | (apply w_neS2T; rfl; rfl; rfl; omega) | (apply w_neS2F; rfl; rfl; rfl; omega) | (apply w_eqS3T; rfl; rfl; rfl; omega) | (apply w_eqS3F; rfl; rfl; rfl; omega) | (apply w_neS3T; rfl; rfl; rfl; omega) | (apply w_neS3F; rfl; rfl; rfl; omega) | (apply w_eqS3; rfl; rfl; rfl) | (apply w_neS3; rfl; rfl; rfl) | (apply w_eqS2; rfl; rfl; rfl) | (apply w_neS2; rfl; rfl; rfl) | (apply w_maxL; rfl; rfl; rfl; omega) | (apply w_maxG; rfl; rfl; rfl; omega) | (apply w_max; rfl; rfl; rfl) | (apply w_neB; rfl; rfl; rfl; rfl) | (apply w_eqB; rfl; rfl; rfl; rfl) | refine spl ?_ ?_ | intro hc)
    all_goals (refine At_ret1 (by (first | exact .inl rfl | exact .inr rfl)) Try.results38 rfl ⟨by (simp_all; done), rfl⟩ (by (exact frm)))
  · have e : decide (0 ≤ n ∧ n < 64) = false := by simp [h0]
    rw [e]
    refine Fn1 Try.func38 rfl Try.ntmps38 rfl ?_
    (repeat' first | refine stp ?_ | intro v' hv' | intro (b : Nat) | (apply w_convU; rfl; rfl; omega; omega) | (apply w_convI; rfl; rfl; omega; omega) | (apply w_quoU; rfl; rfl; rfl; omega; omega; omega) | (apply w_remU; rfl; rfl; rfl; omega; omega) | (apply w_minL; rfl; rfl; rfl; omega) | (apply w_minG; rfl; rfl; rfl; omega) | (apply w_min; rfl; rfl; rfl) | (apply w_mfR; rfl; rfl) | (apply w_cvp; rfl; rfl; exact inferInstance; rfl; rfl; assumption) | (apply w_eqS2T; rfl; rfl; rfl; omega) | (apply w_eqS2F; rfl; rfl; rfl; omega) | (apply w_neS2T; rfl; rfl; rfl; omega) | (apply w_neS2F; rfl; rfl; rfl; omega) | (apply w_eqS3T; rfl; rfl; rfl; omega) | (apply w_eqS3F; rfl; rfl; rfl; omega) | (apply w_neS3T; rfl; rfl; rfl; omega) | (apply w_neS3F; rfl; rfl; rfl; omega) | (apply w_eqS3; rfl; rfl; rfl) | (apply w_neS3; rfl; rfl; rfl) | (apply w_eqS2; rfl; rfl; rfl) | (apply w_neS2; rfl; rfl; rfl) | (apply w_maxL; rfl; rfl; rfl; omega) | (apply w_maxG; rfl; rfl; rfl; omega) | (apply w_max; rfl; rfl; rfl) | (apply w_neB; rfl; rfl; rfl; rfl) | (apply w_eqB; rfl; rfl; rfl; rfl) | refine spl ?_ ?_ | intro hc)
    all_goals (refine At_ret1 (by (first | exact .inl rfl | exact .inr rfl)) Try.results38 rfl ⟨by rfl, rfl⟩ (by (exact frm)))
theorem there_low (b : Nat) (lv : Value) (N : Nat) (hl : IsSl lv N) (m : Int) (R : List HP) : Called Try.prog 50 [ptr b, int m] (pt b 69 [lv] :: R) (is (.bool (decide (0 ≤ m ∧ m < N))) (pt b 69 [lv] :: R)) := by
  have hN := hl.len
  by_cases h0 : 0 ≤ m
  · have e : decide (0 ≤ m ∧ m < (N : Int)) = decide (m < (N : Int)) := by congr 1; simp [h0]
    rw [e]
    refine Fn2 Try.func50 rfl Try.ntmps50 rfl ?_
    (repeat' first | refine stp ?_ | intro v' hv' | intro (b : Nat) | (apply w_convU; rfl; rfl; omega; omega) | (apply w_convI; rfl; rfl; omega; omega) | (apply w_quoU; rfl; rfl; rfl; omega; omega; omega) | (apply w_remU; rfl; rfl; rfl; omega; omega) | (apply w_minL; rfl; rfl; rfl; omega) | (apply w_minG; rfl; rfl; rfl; omega) | (apply w_min; rfl; rfl; rfl) | (apply w_mfR; rfl; rfl) | (apply w_cvp; rfl; rfl; exact inferInstance; rfl; rfl; assumption) | (apply w_eqS2T; rfl; rfl; rfl; omega) | (apply w_eqS2F; rfl; rfl; rfl; omega) | (apply w_neS2T; rfl; rfl; rfl; omega) | (apply w_neS2F; rfl; rfl; rfl; omega) | (apply w_eqS3T; rfl; rfl; rfl; omega) | (apply w_eqS3F; rfl; rfl; rfl; omega) | (apply w_neS3T; rfl; rfl; rfl; omega) | (apply w_neS3F; rfl; rfl; rfl; omega) | (apply w_eqS3; rfl; rfl; rfl) | (apply w_neS3; rfl; rfl; rfl) | (apply w_eqS2; rfl; rfl; rfl) | (apply w_neS2; rfl; rfl; rfl) | (apply w_maxL; rfl; rfl; rfl; omega) | (apply w_maxG; rfl; rfl; rfl; omega) | (apply w_max; rfl; rfl; rfl) | (apply w_neB; rfl; rfl; rfl; rfl) | (apply w_eqB; rfl; rfl; rfl; rfl) | refine spl ?_ ?_ | intro hc)
    all_goals (refine At_ret1 (by (first | exact .inl rfl | exact .inr rfl)) Try.results50 rfl ⟨by (simp_all; done), rfl⟩ (by (exact frm)))
  · have e : decide (0 ≤ m ∧ m < (N : Int)) = false := by simp [h0]
    rw [e]
    refine Fn2 Try.func50 rfl Try.ntmps50 rfl ?_
    (repeat' first | refine stp ?_ | intro v' hv' | intro (b : Nat) | (apply w_convU; rfl; rfl; omega; omega) | (apply w_convI; rfl; rfl; omega; omega) | (apply w_quoU; rfl; rfl; rfl; omega; omega; omega) | (apply w_remU; rfl; rfl; rfl; omega; omega) | (apply w_minL; rfl; rfl; rfl; omega) | (apply w_minG; rfl; rfl; rfl; omega) | (apply w_min; rfl; rfl; rfl) | (apply w_mfR; rfl; rfl) | (apply w_cvp; rfl; rfl; exact inferInstance; rfl; rfl; assumption) | (apply w_eqS2T; rfl; rfl; rfl; omega) | (apply w_eqS2F; rfl; rfl; rfl; omega) | (apply w_neS2T; rfl; rfl; rfl; omega) | (apply w_neS2F; rfl; rfl; rfl; omega) | (apply w_eqS3T; rfl; rfl; rfl; omega) | (apply w_eqS3F; rfl; rfl; rfl; omega) | (apply w_neS3T; rfl; rfl; rfl; omega) | (apply w_neS3F; rfl; rfl; rfl; omega) | (apply w_eqS3; rfl; rfl; rfl) | (apply w_neS3; rfl; rfl; rfl) | (apply w_eqS2; rfl; rfl; rfl) | (apply w_neS2; rfl; rfl; rfl) | (apply w_maxL; rfl; rfl; rfl; omega) | (apply w_maxG; rfl; rfl; rfl; omega) | (apply w_max; rfl; rfl; rfl) | (apply w_neB; rfl; rfl; rfl; rfl) | (apply w_eqB; rfl; rfl; rfl; rfl) | refine spl ?_ ?_ | intro hc)
    all_goals (refine At_ret1 (by (first | exact .inl rfl | exact .inr rfl)) Try.results50 rfl ⟨by rfl, rfl⟩ (by (exact frm)))
def mayB (N : Nat) (m n t : Int) : Bool := decide (0 ≤ m ∧ m < N) && decide (0 ≤ n ∧ n < 64) && decide (0 ≤ t ∧ t < 1099511627776)
def mayI (N : Nat) (m n t : Int) : Int := if mayB N m n t then 0 else 10
set_option maxHeartbeats 2000000 in
theorem may_low (b : Nat) (lv : Value) (N : Nat) (hl : IsSl lv N) (m n t : Int) (R : List HP) : Called Try.prog 31 [ptr b, int m, int n, int t] (pt b 69 [lv] :: R) (is (int (mayI N m n t)) (pt b 69 [lv] :: R)) := by
  have hT := there_low b lv N hl m
  have hn := thread_ok n
  unfold mayI mayB
  generalize decide (0 ≤ m ∧ m < (N : Int)) = c1 at *
  generalize decide (0 ≤ n ∧ n < 64) = c2 at *
  cases c1 with
  | false =>
    refine Fn4 Try.func31 rfl Try.ntmps31 rfl ?_
    (repeat' first | refine stp ?_ | intro v' hv' | intro (b : Nat) | (apply w_convU; rfl; rfl; omega; omega) | (apply w_convI; rfl; rfl; omega; omega) | (apply w_quoU; rfl; rfl; rfl; omega; omega; omega) | (apply w_remU; rfl; rfl; rfl; omega; omega) | (apply w_minL; rfl; rfl; rfl; omega) | (apply w_minG; rfl; rfl; rfl; omega) | (apply w_min; rfl; rfl; rfl) | (apply w_mfR; rfl; rfl) | (apply w_cvp; rfl; rfl; exact inferInstance; rfl; rfl; assumption) | (apply w_eqS2T; rfl; rfl; rfl; omega) | (apply w_eqS2F; rfl; rfl; rfl; omega) | (apply w_neS2T; rfl; rfl; rfl; omega) | (apply w_neS2F; rfl; rfl; rfl; omega) | (apply w_eqS3T; rfl; rfl; rfl; omega) | (apply w_eqS3F; rfl; rfl; rfl; omega) | (apply w_neS3T; rfl; rfl; rfl; omega) | (apply w_neS3F; rfl; rfl; rfl; omega) | (apply w_eqS3; rfl; rfl; rfl) | (apply w_neS3; rfl; rfl; rfl) | (apply w_eqS2; rfl; rfl; rfl) | (apply w_neS2; rfl; rfl; rfl) | (apply w_maxL; rfl; rfl; rfl; omega) | (apply w_maxG; rfl; rfl; rfl; omega) | (apply w_max; rfl; rfl; rfl) | (apply w_neB; rfl; rfl; rfl; rfl) | (apply w_eqB; rfl; rfl; rfl; rfl) | (apply w_cq; rfl; rfl; apply Called.at (h := hT); ((focus ((repeat (first | exact Rep.here | apply Rep.there)); done)))) | (apply w_cp; rfl; rfl; exact hn) | refine spl ?_ ?_ | intro hc)
    all_goals (refine At_ret1 (by (first | exact .inl rfl | exact .inr rfl)) Try.results31 rfl ⟨by rfl, rfl⟩ (by (exact frm)))
  | true =>
    cases c2 with
    | false =>
      refine Fn4 Try.func31 rfl Try.ntmps31 rfl ?_
      (repeat' first | refine stp ?_ | intro v' hv' | intro (b : Nat) | (apply w_convU; rfl; rfl; omega; omega) | (apply w_convI; rfl; rfl; omega; omega) | (apply w_quoU; rfl; rfl; rfl; omega; omega; omega) | (apply w_remU; rfl; rfl; rfl; omega; omega) | (apply w_minL; rfl; rfl; rfl; omega) | (apply w_minG; rfl; rfl; rfl; omega) | (apply w_min; rfl; rfl; rfl) | (apply w_mfR; rfl; rfl) | (apply w_cvp; rfl; rfl; exact inferInstance; rfl; rfl; assumption) | (apply w_eqS2T; rfl; rfl; rfl; omega) | (apply w_eqS2F; rfl; rfl; rfl; omega) | (apply w_neS2T; rfl; rfl; rfl; omega) | (apply w_neS2F; rfl; rfl; rfl; omega) | (apply w_eqS3T; rfl; rfl; rfl; omega) | (apply w_eqS3F; rfl; rfl; rfl; omega) | (apply w_neS3T; rfl; rfl; rfl; omega) | (apply w_neS3F; rfl; rfl; rfl; omega) | (apply w_eqS3; rfl; rfl; rfl) | (apply w_neS3; rfl; rfl; rfl) | (apply w_eqS2; rfl; rfl; rfl) | (apply w_neS2; rfl; rfl; rfl) | (apply w_maxL; rfl; rfl; rfl; omega) | (apply w_maxG; rfl; rfl; rfl; omega) | (apply w_max; rfl; rfl; rfl) | (apply w_neB; rfl; rfl; rfl; rfl) | (apply w_eqB; rfl; rfl; rfl; rfl) | (apply w_cq; rfl; rfl; apply Called.at (h := hT); ((focus ((repeat (first | exact Rep.here | apply Rep.there)); done)))) | (apply w_cp; rfl; rfl; exact hn) | refine spl ?_ ?_ | intro hc)
      all_goals (refine At_ret1 (by (first | exact .inl rfl | exact .inr rfl)) Try.results31 rfl ⟨by rfl, rfl⟩ (by (exact frm)))
    | true =>
      by_cases ht : 0 ≤ t ∧ t < 1099511627776
      · have e : decide (0 ≤ t ∧ t < 1099511627776) = true := by simp [ht]
        rw [e]
        obtain ⟨ht0, ht1⟩ := ht
        refine Fn4 Try.func31 rfl Try.ntmps31 rfl ?_
        (repeat' first | refine stp ?_ | intro v' hv' | intro (b : Nat) | (apply w_convU; rfl; rfl; omega; omega) | (apply w_convI; rfl; rfl; omega; omega) | (apply w_quoU; rfl; rfl; rfl; omega; omega; omega) | (apply w_remU; rfl; rfl; rfl; omega; omega) | (apply w_minL; rfl; rfl; rfl; omega) | (apply w_minG; rfl; rfl; rfl; omega) | (apply w_min; rfl; rfl; rfl) | (apply w_mfR; rfl; rfl) | (apply w_cvp; rfl; rfl; exact inferInstance; rfl; rfl; assumption) | (apply w_eqS2T; rfl; rfl; rfl; omega) | (apply w_eqS2F; rfl; rfl; rfl; omega) | (apply w_neS2T; rfl; rfl; rfl; omega) | (apply w_neS2F; rfl; rfl; rfl; omega) | (apply w_eqS3T; rfl; rfl; rfl; omega) | (apply w_eqS3F; rfl; rfl; rfl; omega) | (apply w_neS3T; rfl; rfl; rfl; omega) | (apply w_neS3F; rfl; rfl; rfl; omega) | (apply w_eqS3; rfl; rfl; rfl) | (apply w_neS3; rfl; rfl; rfl) | (apply w_eqS2; rfl; rfl; rfl) | (apply w_neS2; rfl; rfl; rfl) | (apply w_maxL; rfl; rfl; rfl; omega) | (apply w_maxG; rfl; rfl; rfl; omega) | (apply w_max; rfl; rfl; rfl) | (apply w_neB; rfl; rfl; rfl; rfl) | (apply w_eqB; rfl; rfl; rfl; rfl) | (apply w_cq; rfl; rfl; apply Called.at (h := hT); ((focus ((repeat (first | exact Rep.here | apply Rep.there)); done)))) | (apply w_cp; rfl; rfl; exact hn) | refine spl ?_ ?_ | intro hc)
        all_goals (refine At_ret1 (by (first | exact .inl rfl | exact .inr rfl)) Try.results31 rfl ⟨by rfl, rfl⟩ (by (exact frm)))
      · have e : decide (0 ≤ t ∧ t < 1099511627776) = false := by simp [ht]
        rw [e]
        by_cases ht0 : 0 ≤ t
        · have ht1 : ¬ t < 1099511627776 := fun h => ht ⟨ht0, h⟩
          refine Fn4 Try.func31 rfl Try.ntmps31 rfl ?_
          (repeat' first | refine stp ?_ | intro v' hv' | intro (b : Nat) | (apply w_convU; rfl; rfl; omega; omega) | (apply w_convI; rfl; rfl; omega; omega) | (apply w_quoU; rfl; rfl; rfl; omega; omega; omega) | (apply w_remU; rfl; rfl; rfl; omega; omega) | (apply w_minL; rfl; rfl; rfl; omega) | (apply w_minG; rfl; rfl; rfl; omega) | (apply w_min; rfl; rfl; rfl) | (apply w_mfR; rfl; rfl) | (apply w_cvp; rfl; rfl; exact inferInstance; rfl; rfl; assumption) | (apply w_eqS2T; rfl; rfl; rfl; omega) | (apply w_eqS2F; rfl; rfl; rfl; omega) | (apply w_neS2T; rfl; rfl; rfl; omega) | (apply w_neS2F; rfl; rfl; rfl; omega) | (apply w_eqS3T; rfl; rfl; rfl; omega) | (apply w_eqS3F; rfl; rfl; rfl; omega) | (apply w_neS3T; rfl; rfl; rfl; omega) | (apply w_neS3F; rfl; rfl; rfl; omega) | (apply w_eqS3; rfl; rfl; rfl) | (apply w_neS3; rfl; rfl; rfl) | (apply w_eqS2; rfl; rfl; rfl) | (apply w_neS2; rfl; rfl; rfl) | (apply w_maxL; rfl; rfl; rfl; omega) | (apply w_maxG; rfl; rfl; rfl; omega) | (apply w_max; rfl; rfl; rfl) | (apply w_neB; rfl; rfl; rfl; rfl) | (apply w_eqB; rfl; rfl; rfl; rfl) | (apply w_cq; rfl; rfl; apply Called.at (h := hT); ((focus ((repeat (first | exact Rep.here | apply Rep.there)); done)))) | (apply w_cp; rfl; rfl; exact hn) | refine spl ?_ ?_ | intro hc)
          all_goals (refine At_ret1 (by (first | exact .inl rfl | exact .inr rfl)) Try.results31 rfl ⟨by rfl, rfl⟩ (by (exact frm)))
        · refine Fn4 Try.func31 rfl Try.ntmps31 rfl ?_
          (repeat' first | refine stp ?_ | intro v' hv' | intro (b : Nat) | (apply w_convU; rfl; rfl; omega; omega) | (apply w_convI; rfl; rfl; omega; omega) | (apply w_quoU; rfl; rfl; rfl; omega; omega; omega) | (apply w_remU; rfl; rfl; rfl; omega; omega) | (apply w_minL; rfl; rfl; rfl; omega) | (apply w_minG; rfl; rfl; rfl; omega) | (apply w_min; rfl; rfl; rfl) | (apply w_mfR; rfl; rfl) | (apply w_cvp; rfl; rfl; exact inferInstance; rfl; rfl; assumption) | (apply w_eqS2T; rfl; rfl; rfl; omega) | (apply w_eqS2F; rfl; rfl; rfl; omega) | (apply w_neS2T; rfl; rfl; rfl; omega) | (apply w_neS2F; rfl; rfl; rfl; omega) | (apply w_eqS3T; rfl; rfl; rfl; omega) | (apply w_eqS3F; rfl; rfl; rfl; omega) | (apply w_neS3T; rfl; rfl; rfl; omega) | (apply w_neS3F; rfl; rfl; rfl; omega) | (apply w_eqS3; rfl; rfl; rfl) | (apply w_neS3; rfl; rfl; rfl) | (apply w_eqS2; rfl; rfl; rfl) | (apply w_neS2; rfl; rfl; rfl) | (apply w_maxL; rfl; rfl; rfl; omega) | (apply w_maxG; rfl; rfl; rfl; omega) | (apply w_max; rfl; rfl; rfl) | (apply w_neB; rfl; rfl; rfl; rfl) | (apply w_eqB; rfl; rfl; rfl; rfl) | (apply w_cq; rfl; rfl; apply Called.at (h := hT); ((focus ((repeat (first | exact Rep.here | apply Rep.there)); done)))) | (apply w_cp; rfl; rfl; exact hn) | refine spl ?_ ?_ | intro hc)
          all_goals (refine At_ret1 (by (first | exact .inl rfl | exact .inr rfl)) Try.results31 rfl ⟨by rfl, rfl⟩ (by (exact frm)))
end Go.Proofs.Ytoaaoijdknbanaa
