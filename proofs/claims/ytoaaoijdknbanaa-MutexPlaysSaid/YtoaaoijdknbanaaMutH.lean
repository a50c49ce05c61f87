/- mutex: Waiters, New, Quit. Conditions: none. -/
import Derived.Test.YtoaaoijdknbanaaMutG
set_option linter.all false
set_option linter.deprecated false
namespace Go.Proofs.Ytoaaoijdknbanaa
open Go.Sep
variable [B0 : Base]
/-! ### slices.Values -/
def vaH (bs : Nat) (v : Value) (l : List Ky) : HP := all [pt bs 42 [v], sl 46 2 v (l.map kyE)]
def vaG (l : List Ky) (i : Nat) : Option (List Value) := l[i]?.map fun x => [kyV x]
set_option maxHeartbeats 4000000 in
theorem Values1_ok (bs : Nat) (v : Value) (l : List Ky) (hv : IsSl v l.length) : Iter Try.prog 61 [] [ptr bs] (vaH bs v l) (vaG l) := by
  intro τ B st dom yf s t R hy hgo
  obtain ⟨m, hgo⟩ := hgo.steps
  show Called Try.prog 61 [yf, ptr bs] (vaH bs v l :: B s :: R) (is (.tuple #[]) (vaH bs v l :: B t :: R))
  have hN := hv.len
  have hv1 := hv.one
  refine Fn2 Try.func61 rfl Try.ntmps61 rfl ?_
  refine C_sat (L' := pt bs 42 [v] :: sl 46 2 v (l.map kyE) :: B s :: R) (fun w hs => Sat.all_iff.1 hs) ?_
  have hfold : ∀ s w, Sat w (pt bs 42 [v] :: sl 46 2 v (l.map kyE) :: B s :: R) → Sat w (vaH bs v l :: B s :: R) := fun s w h => Sat.all_iff.2 h
  (repeat' first | refine stp ?_ | intro v' hv' | intro (b : Nat) | (apply w_convU; rfl; rfl; omega; omega) | (apply w_convI; rfl; rfl; omega; omega) | (apply w_quoU; rfl; rfl; rfl; omega; omega; omega) | (apply w_remU; rfl; rfl; rfl; omega; omega) | (apply w_minL; rfl; rfl; rfl; omega) | (apply w_minG; rfl; rfl; rfl; omega) | (apply w_min; rfl; rfl; rfl) | (apply w_mfR; rfl; rfl) | (apply w_cvp; rfl; rfl; exact inferInstance; rfl; rfl; assumption) | (apply w_eqS2T; rfl; rfl; rfl; omega) | (apply w_eqS2F; rfl; rfl; rfl; omega) | (apply w_neS2T; rfl; rfl; rfl; omega) | (apply w_neS2F; rfl; rfl; rfl; omega) | (apply w_eqS3T; rfl; rfl; rfl; omega) | (apply w_eqS3F; rfl; rfl; rfl; omega) | (apply w_neS3T; rfl; rfl; rfl; omega) | (apply w_neS3F; rfl; rfl; rfl; omega) | (apply w_eqS3; rfl; rfl; rfl) | (apply w_neS3; rfl; rfl; rfl) | (apply w_eqS2; rfl; rfl; rfl) | (apply w_neS2; rfl; rfl; rfl) | (apply w_maxL; rfl; rfl; rfl; omega) | (apply w_maxG; rfl; rfl; rfl; omega) | (apply w_max; rfl; rfl; rfl) | (apply w_neB; rfl; rfl; rfl; rfl) | (apply w_eqB; rfl; rfl; rfl; rfl) | refine spl ?_ ?_ | intro hc)
  refine C_loopK (α := Nat × τ) [4, 7, 8, 9, 10, 11, 12, 13, 14, 15] (fun x => l.length - x.1) (fun x => [(7, int x.1)])
    (fun x => B x.2 :: pt bs 42 [v] :: sl 46 2 v (l.map kyE) :: R)
    (fun x => x.1 ≤ l.length ∧ ∃ k, GoesN st dom (vaG l) k x.1 x.2 t) (0, s) ⟨Nat.zero_le _, m, hgo⟩ (by (focus ((repeat (first | exact Keep.nil | apply Keep.drop rfl | apply Keep.keep rfl)); done))) (by (exact sbf)) (by (exact frm)) ?_
  rintro ⟨i, s⟩ ⟨hi, k, hgo⟩
  dsimp only [List.cons_append, List.nil_append] at *
  by_cases hlt : i < l.length
  · have hx : l[i]? = some l[i] := by simp [hlt]
    have hg : vaG l i = some [kyV l[i]] := by unfold vaG; rw [hx]; rfl
    obtain ⟨hd, hgo2⟩ := hgo.some hg
    have hpe : (l.map kyE)[i]? = some [int l[i].at', int l[i].id] := by rw [List.getElem?_map, hx]; rfl
    unfold kyV kyE at hd hgo2
    generalize l[i] = x at *
    obtain ⟨a, id⟩ := x
    dsimp only at *
    (repeat' first | refine stp ?_ | intro v' hv' | intro (b : Nat) | (apply w_convU; rfl; rfl; omega; omega) | (apply w_convI; rfl; rfl; omega; omega) | (apply w_quoU; rfl; rfl; rfl; omega; omega; omega) | (apply w_remU; rfl; rfl; rfl; omega; omega) | (apply w_minL; rfl; rfl; rfl; omega) | (apply w_minG; rfl; rfl; rfl; omega) | (apply w_min; rfl; rfl; rfl) | (apply w_mfR; rfl; rfl) | (apply w_cvp; rfl; rfl; exact inferInstance; rfl; rfl; assumption) | (apply w_eqS2T; rfl; rfl; rfl; omega) | (apply w_eqS2F; rfl; rfl; rfl; omega) | (apply w_neS2T; rfl; rfl; rfl; omega) | (apply w_neS2F; rfl; rfl; rfl; omega) | (apply w_eqS3T; rfl; rfl; rfl; omega) | (apply w_eqS3F; rfl; rfl; rfl; omega) | (apply w_neS3T; rfl; rfl; rfl; omega) | (apply w_neS3F; rfl; rfl; rfl; omega) | (apply w_eqS3; rfl; rfl; rfl) | (apply w_neS3; rfl; rfl; rfl) | (apply w_eqS2; rfl; rfl; rfl) | (apply w_neS2; rfl; rfl; rfl) | (apply w_maxL; rfl; rfl; rfl; omega) | (apply w_maxG; rfl; rfl; rfl; omega) | (apply w_max; rfl; rfl; rfl) | (apply w_neB; rfl; rfl; rfl; rfl) | (apply w_eqB; rfl; rfl; rfl; rfl) | refine spl ?_ ?_ | intro hc)
    apply w_yield
    rfl; rfl; rfl; exact hy; exact hd; ((focus ((repeat (first | exact Del.here | apply Del.there)); done))); ((exact kmf))
    rcases hgo2 with ⟨hb, rfl⟩ | ⟨hb, k', rfl, hgo2⟩
    · rw [hb]
      (repeat' first | refine stp ?_ | intro v' hv' | intro (b : Nat) | (apply w_convU; rfl; rfl; omega; omega) | (apply w_convI; rfl; rfl; omega; omega) | (apply w_quoU; rfl; rfl; rfl; omega; omega; omega) | (apply w_remU; rfl; rfl; rfl; omega; omega) | (apply w_minL; rfl; rfl; rfl; omega) | (apply w_minG; rfl; rfl; rfl; omega) | (apply w_min; rfl; rfl; rfl) | (apply w_mfR; rfl; rfl) | (apply w_cvp; rfl; rfl; exact inferInstance; rfl; rfl; assumption) | (apply w_eqS2T; rfl; rfl; rfl; omega) | (apply w_eqS2F; rfl; rfl; rfl; omega) | (apply w_neS2T; rfl; rfl; rfl; omega) | (apply w_neS2F; rfl; rfl; rfl; omega) | (apply w_eqS3T; rfl; rfl; rfl; omega) | (apply w_eqS3F; rfl; rfl; rfl; omega) | (apply w_neS3T; rfl; rfl; rfl; omega) | (apply w_neS3F; rfl; rfl; rfl; omega) | (apply w_eqS3; rfl; rfl; rfl) | (apply w_neS3; rfl; rfl; rfl) | (apply w_eqS2; rfl; rfl; rfl) | (apply w_neS2; rfl; rfl; rfl) | (apply w_maxL; rfl; rfl; rfl; omega) | (apply w_maxG; rfl; rfl; rfl; omega) | (apply w_max; rfl; rfl; rfl) | (apply w_neB; rfl; rfl; rfl; rfl) | (apply w_eqB; rfl; rfl; rfl; rfl) | refine spl ?_ ?_ | intro hc)
      exact At_ret0 (by (first | exact .inl rfl | exact .inr rfl)) Try.results61 ⟨rfl, rfl⟩ (fun w h => hfold _ w (Sel.sat (by (focus ((repeat (first | exact Sel.refl | (apply Sel.cons; (focus ((repeat (first | exact Del.here | apply Del.there)); done))) | refine Sel.drop ?_)); done))) h))
    · rw [hb]
      (repeat' first | refine stp ?_ | intro v' hv' | intro (b : Nat) | (apply w_convU; rfl; rfl; omega; omega) | (apply w_convI; rfl; rfl; omega; omega) | (apply w_quoU; rfl; rfl; rfl; omega; omega; omega) | (apply w_remU; rfl; rfl; rfl; omega; omega) | (apply w_minL; rfl; rfl; rfl; omega) | (apply w_minG; rfl; rfl; rfl; omega) | (apply w_min; rfl; rfl; rfl) | (apply w_mfR; rfl; rfl) | (apply w_cvp; rfl; rfl; exact inferInstance; rfl; rfl; assumption) | (apply w_eqS2T; rfl; rfl; rfl; omega) | (apply w_eqS2F; rfl; rfl; rfl; omega) | (apply w_neS2T; rfl; rfl; rfl; omega) | (apply w_neS2F; rfl; rfl; rfl; omega) | (apply w_eqS3T; rfl; rfl; rfl; omega) | (apply w_eqS3F; rfl; rfl; rfl; omega) | (apply w_neS3T; rfl; rfl; rfl; omega) | (apply w_neS3F; rfl; rfl; rfl; omega) | (apply w_eqS3; rfl; rfl; rfl) | (apply w_neS3; rfl; rfl; rfl) | (apply w_eqS2; rfl; rfl; rfl) | (apply w_neS2; rfl; rfl; rfl) | (apply w_maxL; rfl; rfl; rfl; omega) | (apply w_maxG; rfl; rfl; rfl; omega) | (apply w_max; rfl; rfl; rfl) | (apply w_neB; rfl; rfl; rfl; rfl) | (apply w_eqB; rfl; rfl; rfl; rfl) | refine spl ?_ ?_ | intro hc)
      exact At_againK (i + 1, _) ⟨hlt, k', hgo2⟩ (by dsimp only; omega) (by (exact sbf)) (by (exact sbf)) (by (exact frm))
  · obtain rfl : i = l.length := by omega
    have hend : vaG l l.length = none := by unfold vaG; simp
    obtain rfl := hgo.none hend
    (repeat' first | refine stp ?_ | intro v' hv' | intro (b : Nat) | (apply w_convU; rfl; rfl; omega; omega) | (apply w_convI; rfl; rfl; omega; omega) | (apply w_quoU; rfl; rfl; rfl; omega; omega; omega) | (apply w_remU; rfl; rfl; rfl; omega; omega) | (apply w_minL; rfl; rfl; rfl; omega) | (apply w_minG; rfl; rfl; rfl; omega) | (apply w_min; rfl; rfl; rfl) | (apply w_mfR; rfl; rfl) | (apply w_cvp; rfl; rfl; exact inferInstance; rfl; rfl; assumption) | (apply w_eqS2T; rfl; rfl; rfl; omega) | (apply w_eqS2F; rfl; rfl; rfl; omega) | (apply w_neS2T; rfl; rfl; rfl; omega) | (apply w_neS2F; rfl; rfl; rfl; omega) | (apply w_eqS3T; rfl; rfl; rfl; omega) | (apply w_eqS3F; rfl; rfl; rfl; omega) | (apply w_neS3T; rfl; rfl; rfl; omega) | (apply w_neS3F; rfl; rfl; rfl; omega) | (apply w_eqS3; rfl; rfl; rfl) | (apply w_neS3; rfl; rfl; rfl) | (apply w_eqS2; rfl; rfl; rfl) | (apply w_neS2; rfl; rfl; rfl) | (apply w_maxL; rfl; rfl; rfl; omega) | (apply w_maxG; rfl; rfl; rfl; omega) | (apply w_max; rfl; rfl; rfl) | (apply w_neB; rfl; rfl; rfl; rfl) | (apply w_eqB; rfl; rfl; rfl; rfl) | refine spl ?_ ?_ | intro hc)
    exact At_ret0 (by (first | exact .inl rfl | exact .inr rfl)) Try.results61 ⟨rfl, rfl⟩ (fun w h => hfold _ w (Sel.sat (by (focus ((repeat (first | exact Sel.refl | (apply Sel.cons; (focus ((repeat (first | exact Del.here | apply Del.there)); done))) | refine Sel.drop ?_)); done))) h))
theorem Values_ok (v : Value) (h1 : v.oneCell' = true) (R : List HP) : Called Try.prog 54 [v] R (fun u M => ∃ bs, u = .func (.func 61) ([] : List Value).toArray [ptr bs].toArray ∧ M = pt bs 42 [v] :: R) := by
  refine Fn1 Try.func54 rfl Try.ntmps54 rfl ?_
  (repeat' first | refine stp ?_ | intro v' hv' | intro (b : Nat) | (apply w_convU; rfl; rfl; omega; omega) | (apply w_convI; rfl; rfl; omega; omega) | (apply w_quoU; rfl; rfl; rfl; omega; omega; omega) | (apply w_remU; rfl; rfl; rfl; omega; omega) | (apply w_minL; rfl; rfl; rfl; omega) | (apply w_minG; rfl; rfl; rfl; omega) | (apply w_min; rfl; rfl; rfl) | (apply w_mfR; rfl; rfl) | (apply w_cvp; rfl; rfl; exact inferInstance; rfl; rfl; assumption) | (apply w_eqS2T; rfl; rfl; rfl; omega) | (apply w_eqS2F; rfl; rfl; rfl; omega) | (apply w_neS2T; rfl; rfl; rfl; omega) | (apply w_neS2F; rfl; rfl; rfl; omega) | (apply w_eqS3T; rfl; rfl; rfl; omega) | (apply w_eqS3F; rfl; rfl; rfl; omega) | (apply w_neS3T; rfl; rfl; rfl; omega) | (apply w_neS3F; rfl; rfl; rfl; omega) | (apply w_eqS3; rfl; rfl; rfl) | (apply w_neS3; rfl; rfl; rfl) | (apply w_eqS2; rfl; rfl; rfl) | (apply w_neS2; rfl; rfl; rfl) | (apply w_maxL; rfl; rfl; rfl; omega) | (apply w_maxG; rfl; rfl; rfl; omega) | (apply w_max; rfl; rfl; rfl) | (apply w_neB; rfl; rfl; rfl; rfl) | (apply w_eqB; rfl; rfl; rfl; rfl) | refine spl ?_ ?_ | intro hc)
  all_goals exact At_ret1 (by (first | exact .inl rfl | exact .inr rfl)) Try.results54 rfl ⟨_, rfl, rfl⟩ (by (exact frm))
set_option maxHeartbeats 4000000 in
theorem Waiters_ok (tb : Nat) (M : List Lk) (m : Int) (h0 : 0 ≤ m) (h1 : m < M.length) (R : List HP) :
    Called Try.prog 35 [ptr tb, int m] (mtb tb M :: R) (fun u X => ∃ bs v, u = .func (.func 61) ([] : List Value).toArray [ptr bs].toArray ∧ IsSl v (waitersM M m).length ∧ X = vaH bs v (waitersM M m) :: mtb tb M :: R) := by
  refine Fn2 Try.func35 rfl Try.ntmps35 rfl ?_
  refine C_mtb fun lv ls hok => ?_
  have hfold : ∀ {X} w, Sat w (pt tb 69 [lv] :: sl 66 3 lv (ls.map lkE) :: qsH ls :: X) → Sat w (mtb tb M :: X) := fun w hs => mtb_fold hok hs
  have hT := there_low tb lv ls.length hok.lisl m
  have hl := hok.lisl
  have hlen := hok.len
  unfold waitersM
  rw [if_pos ⟨h0, h1⟩]
  rw [hlen] at h1
  rw [decide_eq_true ⟨h0, h1⟩] at hT
  obtain ⟨k, rfl, hk, p, hp, hp2, hp3⟩ := lk_at hok h0 h1
  obtain ⟨-, -, hpi, hp64, -, -⟩ := hok.get hp
  rw [show ((k : Int)).toNat = k from by simp, hp2]
  have hr1 : ∀ X, Rd (sl 66 3 lv (ls.map lkE) :: X) ⟨vb lv, vo lv + k * 3 + 2, none⟩ p.1 := fun X => Rd.lk hp rfl
  have hr2 : ∀ X, Rd (sl 66 3 lv (ls.map lkE) :: X) ⟨vb lv, vo lv + k * 3 + 2 + 0, none⟩ p.1 := hr1
  (repeat' first | refine stp ?_ | intro v' hv' | intro (b : Nat) | (apply w_convU; rfl; rfl; omega; omega) | (apply w_convI; rfl; rfl; omega; omega) | (apply w_quoU; rfl; rfl; rfl; omega; omega; omega) | (apply w_remU; rfl; rfl; rfl; omega; omega) | (apply w_minL; rfl; rfl; rfl; omega) | (apply w_minG; rfl; rfl; rfl; omega) | (apply w_min; rfl; rfl; rfl) | (apply w_mfR; rfl; rfl) | (apply w_cvp; rfl; rfl; exact inferInstance; rfl; rfl; assumption) | (apply w_eqS2T; rfl; rfl; rfl; omega) | (apply w_eqS2F; rfl; rfl; rfl; omega) | (apply w_neS2T; rfl; rfl; rfl; omega) | (apply w_neS2F; rfl; rfl; rfl; omega) | (apply w_eqS3T; rfl; rfl; rfl; omega) | (apply w_eqS3F; rfl; rfl; rfl; omega) | (apply w_neS3T; rfl; rfl; rfl; omega) | (apply w_neS3F; rfl; rfl; rfl; omega) | (apply w_eqS3; rfl; rfl; rfl) | (apply w_neS3; rfl; rfl; rfl) | (apply w_eqS2; rfl; rfl; rfl) | (apply w_neS2; rfl; rfl; rfl) | (apply w_maxL; rfl; rfl; rfl; omega) | (apply w_maxG; rfl; rfl; rfl; omega) | (apply w_max; rfl; rfl; rfl) | (apply w_neB; rfl; rfl; rfl; rfl) | (apply w_eqB; rfl; rfl; rfl; rfl) | (apply w_ld0; rfl; rfl; ((focus ((repeat (first | assumption | exact hr1 _ | exact hr2 _ | apply Rd.there)); done)))) | (apply w_ld; rfl; rfl; ((focus ((repeat (first | assumption | exact hr1 _ | exact hr2 _ | apply Rd.there)); done)))) | (apply w_cq; rfl; rfl; apply Called.at (h := hT); ((focus ((repeat (first | exact Rep.here | apply Rep.there)); done)))) | refine spl ?_ ?_ | intro hc)
  apply w_clS
  rfl; rfl; exact KClone_ok p.1 p.2.q (pt tb 69 [lv] :: sl 66 3 lv (ls.map lkE) :: qsH ls :: R) ⟨hpi, (qsSrc hp).there.there⟩ (by omega)
  (simp; omega)
  intro v2 hv2
  rw [List.length_map] at hv2
  refine ⟨by (exact kmf), ?_⟩
  (repeat' first | refine stp ?_ | intro v' hv' | intro (b : Nat) | (apply w_convU; rfl; rfl; omega; omega) | (apply w_convI; rfl; rfl; omega; omega) | (apply w_quoU; rfl; rfl; rfl; omega; omega; omega) | (apply w_remU; rfl; rfl; rfl; omega; omega) | (apply w_minL; rfl; rfl; rfl; omega) | (apply w_minG; rfl; rfl; rfl; omega) | (apply w_min; rfl; rfl; rfl) | (apply w_mfR; rfl; rfl) | (apply w_cvp; rfl; rfl; exact inferInstance; rfl; rfl; assumption) | (apply w_eqS2T; rfl; rfl; rfl; omega) | (apply w_eqS2F; rfl; rfl; rfl; omega) | (apply w_neS2T; rfl; rfl; rfl; omega) | (apply w_neS2F; rfl; rfl; rfl; omega) | (apply w_eqS3T; rfl; rfl; rfl; omega) | (apply w_eqS3F; rfl; rfl; rfl; omega) | (apply w_neS3T; rfl; rfl; rfl; omega) | (apply w_neS3F; rfl; rfl; rfl; omega) | (apply w_eqS3; rfl; rfl; rfl) | (apply w_neS3; rfl; rfl; rfl) | (apply w_eqS2; rfl; rfl; rfl) | (apply w_neS2; rfl; rfl; rfl) | (apply w_maxL; rfl; rfl; rfl; omega) | (apply w_maxG; rfl; rfl; rfl; omega) | (apply w_max; rfl; rfl; rfl) | (apply w_neB; rfl; rfl; rfl; rfl) | (apply w_eqB; rfl; rfl; rfl; rfl) | (apply w_ld0; rfl; rfl; ((focus ((repeat (first | assumption | exact hr1 _ | exact hr2 _ | apply Rd.there)); done)))) | (apply w_ld; rfl; rfl; ((focus ((repeat (first | assumption | exact hr1 _ | exact hr2 _ | apply Rd.there)); done)))) | (apply w_cq; rfl; rfl; apply Called.at (h := hT); ((focus ((repeat (first | exact Rep.here | apply Rep.there)); done)))) | refine spl ?_ ?_ | intro hc)
  apply w_cl
  rfl; rfl; exact Values_ok v2 hv2.one _; exact ⟨_, _, 0, rfl, rfl⟩
  rintro _ _ ⟨bs, rfl, rfl⟩
  refine ⟨by (exact kmf), ?_⟩
  (repeat' first | refine stp ?_ | intro v' hv' | intro (b : Nat) | (apply w_convU; rfl; rfl; omega; omega) | (apply w_convI; rfl; rfl; omega; omega) | (apply w_quoU; rfl; rfl; rfl; omega; omega; omega) | (apply w_remU; rfl; rfl; rfl; omega; omega) | (apply w_minL; rfl; rfl; rfl; omega) | (apply w_minG; rfl; rfl; rfl; omega) | (apply w_min; rfl; rfl; rfl) | (apply w_mfR; rfl; rfl) | (apply w_cvp; rfl; rfl; exact inferInstance; rfl; rfl; assumption) | (apply w_eqS2T; rfl; rfl; rfl; omega) | (apply w_eqS2F; rfl; rfl; rfl; omega) | (apply w_neS2T; rfl; rfl; rfl; omega) | (apply w_neS2F; rfl; rfl; rfl; omega) | (apply w_eqS3T; rfl; rfl; rfl; omega) | (apply w_eqS3F; rfl; rfl; rfl; omega) | (apply w_neS3T; rfl; rfl; rfl; omega) | (apply w_neS3F; rfl; rfl; rfl; omega) | (apply w_eqS3; rfl; rfl; rfl) | (apply w_neS3; rfl; rfl; rfl) | (apply w_eqS2; rfl; rfl; rfl) | (apply w_neS2; rfl; rfl; rfl) | (apply w_maxL; rfl; rfl; rfl; omega) | (apply w_maxG; rfl; rfl; rfl; omega) | (apply w_max; rfl; rfl; rfl) | (apply w_neB; rfl; rfl; rfl; rfl) | (apply w_eqB; rfl; rfl; rfl; rfl) | (apply w_ld0; rfl; rfl; ((focus ((repeat (first | assumption | exact hr1 _ | exact hr2 _ | apply Rd.there)); done)))) | (apply w_ld; rfl; rfl; ((focus ((repeat (first | assumption | exact hr1 _ | exact hr2 _ | apply Rd.there)); done)))) | (apply w_cq; rfl; rfl; apply Called.at (h := hT); ((focus ((repeat (first | exact Rep.here | apply Rep.there)); done)))) | refine spl ?_ ?_ | intro hc)
  refine At_ret1 (by (first | exact .inl rfl | exact .inr rfl)) Try.results35 rfl ⟨_, v2, rfl, hv2, rfl⟩ (fun w hs => ?_)
  have h2 : Sat w (pt bs 42 [v2] :: sl 46 2 v2 (p.2.q.map kyE) :: pt tb 69 [lv] :: sl 66 3 lv (ls.map lkE) :: qsH ls :: R) := Sel.sat (by (focus ((repeat (first | exact Sel.refl | (apply Sel.cons; (focus ((repeat (first | exact Del.here | apply Del.there)); done))) | refine Sel.drop ?_)); done))) hs
  have h3 : Sat w (vaH bs v2 p.2.q :: pt tb 69 [lv] :: sl 66 3 lv (ls.map lkE) :: qsH ls :: R) := Sat.all_iff.2 h2
  have h4 : Sat w (pt tb 69 [lv] :: sl 66 3 lv (ls.map lkE) :: qsH ls :: vaH bs v2 p.2.q :: R) := Sel.sat (by (focus ((repeat (first | exact Sel.refl | (apply Sel.cons; (focus ((repeat (first | exact Del.here | apply Del.there)); done))) | refine Sel.drop ?_)); done))) h3
  exact (hfold w h4).perm (.swap ..)
/-! ### New -/
def nls (N k : Nat) : List (Value × Lk) := (List.range N).map fun i => (Value.slice none 0 0, ⟨if i < k then -1 else 0, false, []⟩)
theorem nls_len (N k : Nat) : (nls N k).length = N := by simp [nls]
theorem nls_get {N k i : Nat} (h : i < N) : (nls N k)[i]? = some (Value.slice none 0 0, ⟨if i < k then -1 else 0, false, []⟩) := by
  unfold nls
  rw [List.getElem?_map, List.getElem?_range h]; rfl
theorem nls_set {N k : Nat} : (nls N k).set k (Value.slice none 0 0, ⟨-1, false, []⟩) = nls N (k + 1) := by
  apply List.ext_getElem?
  intro i
  rw [List.getElem?_set, nls_len]
  by_cases hi : i < N
  · by_cases hk : k = i
    · subst hk
      rw [if_pos rfl, if_pos hi, nls_get hi, if_pos (Nat.lt_succ_self k)]
    · rw [if_neg hk, nls_get hi, nls_get hi]
      have : (i < k + 1) = (i < k) := by apply propext; omega
      simp only [this]
  · have h1 : (nls N k)[i]? = none := by rw [List.getElem?_eq_none_iff, nls_len]; omega
    have h2 : (nls N (k + 1))[i]? = none := by rw [List.getElem?_eq_none_iff, nls_len]; omega
    rw [h1, h2]
    split
    · split
      · omega
      · rfl
    · rfl
theorem nls_zero (N : Nat) : (nls N 0).map lkE = List.replicate N [int 0, .bool false, Value.slice none 0 0] := by
  unfold nls
  rw [List.map_map]
  have : (lkE ∘ fun i : Nat => (Value.slice none 0 0, (⟨if i < 0 then -1 else 0, false, []⟩ : Lk))) = fun _ => [int 0, .bool false, Value.slice none 0 0] := by
    funext i; simp [lkE]
  rw [this, List.map_const', List.length_range]
theorem nls_full (N : Nat) : nls N N = List.replicate N (Value.slice none 0 0, ⟨-1, false, []⟩) := by
  apply List.ext_getElem?
  intro i
  by_cases hi : i < N
  · rw [nls_get hi, if_pos hi, List.getElem?_replicate, if_pos hi]
  · rw [List.getElem?_replicate, if_neg hi, List.getElem?_eq_none_iff, nls_len]; omega
attribute [local irreducible] nls
def new0 (N : Nat) : List Lk := List.replicate N ⟨-1, false, []⟩
theorem new0_len (N : Nat) : (new0 N).length = N := List.length_replicate
theorem new0_wf (N : Nat) : WfM (new0 N) where
  own := fun k hk => by rw [List.eq_of_mem_replicate hk]; exact ⟨Int.le_refl _, by decide⟩
  keys := fun k hk x hx => by rw [List.eq_of_mem_replicate hk] at hx; cases hx
  nodup := by
    have : (new0 N).flatMap (·.q) = [] := List.flatMap_eq_nil_iff.2 fun k hk => by rw [List.eq_of_mem_replicate hk]
    rw [this]; exact List.nodup_nil
theorem qs_new (N : Nat) {w : World} {R : List HP} (h : Sat w R) : Sat w (qsH (List.replicate N (Value.slice none 0 0, ⟨-1, false, []⟩)) :: R) := by
  refine Sat.all_iff.2 ?_
  rw [List.map_replicate]
  induction N with
  | zero => exact h
  | succ N ih =>
    rw [List.replicate_succ]
    exact ih.sl_nil
theorem new0_ok {N : Nat} {v : Value} (hv : IsSl v N) (h1 : 1 ≤ N) (h2 : N ≤ 32) : MtOk (new0 N) v (nls N N) where
  eq := by rw [nls_full, List.map_replicate]; rfl
  lisl := by rw [nls_len]; exact hv
  pos := by rw [nls_len]; exact h1
  few := by rw [nls_len]; exact h2
  isl := fun p hp => by rw [nls_full] at hp; rw [List.eq_of_mem_replicate hp]; exact IsSl.nil
  wf := new0_wf N
theorem New_no (many : Int) (h : many < 1 ∨ 32 < many) (R : List HP) : Called Try.prog 24 [int many] R (is (.tuple #[.pointer none, int 10]) R) := by
  by_cases h1 : many < 1
  · refine Fn1 Try.func24 rfl Try.ntmps24 rfl ?_
    (repeat' first | refine stp ?_ | intro v' hv' | intro (b : Nat) | (apply w_convU; rfl; rfl; omega; omega) | (apply w_convI; rfl; rfl; omega; omega) | (apply w_quoU; rfl; rfl; rfl; omega; omega; omega) | (apply w_remU; rfl; rfl; rfl; omega; omega) | (apply w_minL; rfl; rfl; rfl; omega) | (apply w_minG; rfl; rfl; rfl; omega) | (apply w_min; rfl; rfl; rfl) | (apply w_mfR; rfl; rfl) | (apply w_cvp; rfl; rfl; exact inferInstance; rfl; rfl; assumption) | (apply w_eqS2T; rfl; rfl; rfl; omega) | (apply w_eqS2F; rfl; rfl; rfl; omega) | (apply w_neS2T; rfl; rfl; rfl; omega) | (apply w_neS2F; rfl; rfl; rfl; omega) | (apply w_eqS3T; rfl; rfl; rfl; omega) | (apply w_eqS3F; rfl; rfl; rfl; omega) | (apply w_neS3T; rfl; rfl; rfl; omega) | (apply w_neS3F; rfl; rfl; rfl; omega) | (apply w_eqS3; rfl; rfl; rfl) | (apply w_neS3; rfl; rfl; rfl) | (apply w_eqS2; rfl; rfl; rfl) | (apply w_neS2; rfl; rfl; rfl) | (apply w_maxL; rfl; rfl; rfl; omega) | (apply w_maxG; rfl; rfl; rfl; omega) | (apply w_max; rfl; rfl; rfl) | (apply w_neB; rfl; rfl; rfl; rfl) | (apply w_eqB; rfl; rfl; rfl; rfl) | refine spl ?_ ?_ | intro hc)
    all_goals (refine At_ret2 (by (first | exact .inl rfl | exact .inr rfl)) Try.results24 rfl rfl ⟨by rfl, rfl⟩ (by (exact frm)))
  · have h2 : 32 < many := by omega
    refine Fn1 Try.func24 rfl Try.ntmps24 rfl ?_
    (repeat' first | refine stp ?_ | intro v' hv' | intro (b : Nat) | (apply w_convU; rfl; rfl; omega; omega) | (apply w_convI; rfl; rfl; omega; omega) | (apply w_quoU; rfl; rfl; rfl; omega; omega; omega) | (apply w_remU; rfl; rfl; rfl; omega; omega) | (apply w_minL; rfl; rfl; rfl; omega) | (apply w_minG; rfl; rfl; rfl; omega) | (apply w_min; rfl; rfl; rfl) | (apply w_mfR; rfl; rfl) | (apply w_cvp; rfl; rfl; exact inferInstance; rfl; rfl; assumption) | (apply w_eqS2T; rfl; rfl; rfl; omega) | (apply w_eqS2F; rfl; rfl; rfl; omega) | (apply w_neS2T; rfl; rfl; rfl; omega) | (apply w_neS2F; rfl; rfl; rfl; omega) | (apply w_eqS3T; rfl; rfl; rfl; omega) | (apply w_eqS3F; rfl; rfl; rfl; omega) | (apply w_neS3T; rfl; rfl; rfl; omega) | (apply w_neS3F; rfl; rfl; rfl; omega) | (apply w_eqS3; rfl; rfl; rfl) | (apply w_neS3; rfl; rfl; rfl) | (apply w_eqS2; rfl; rfl; rfl) | (apply w_neS2; rfl; rfl; rfl) | (apply w_maxL; rfl; rfl; rfl; omega) | (apply w_maxG; rfl; rfl; rfl; omega) | (apply w_max; rfl; rfl; rfl) | (apply w_neB; rfl; rfl; rfl; rfl) | (apply w_eqB; rfl; rfl; rfl; rfl) | refine spl ?_ ?_ | intro hc)
    all_goals (refine At_ret2 (by (first | exact .inl rfl | exact .inr rfl)) Try.results24 rfl rfl ⟨by rfl, rfl⟩ (by (exact frm)))
set_option maxHeartbeats 4000000 in
theorem New_ok (N : Nat) (h1 : 1 ≤ N) (h2 : N ≤ 32) (R : List HP) : Called Try.prog 24 [int (N : Int)] R (fun u X => ∃ b, u = .tuple #[ptr b, int 0] ∧ X = mtb b (new0 N) :: R) := by
  have g1 : ¬ (N : Int) < 1 := by omega
  have g2 : ¬ 32 < (N : Int) := by omega
  have hz : zeroL Try.prog 66 = [int 0, .bool false, Value.slice none 0 0] := by kernel_rfl
  refine Fn1 Try.func24 rfl Try.ntmps24 rfl ?_
  (repeat' first | refine stp ?_ | intro v' hv' | intro (b : Nat) | (apply w_convU; rfl; rfl; omega; omega) | (apply w_convI; rfl; rfl; omega; omega) | (apply w_quoU; rfl; rfl; rfl; omega; omega; omega) | (apply w_remU; rfl; rfl; rfl; omega; omega) | (apply w_minL; rfl; rfl; rfl; omega) | (apply w_minG; rfl; rfl; rfl; omega) | (apply w_min; rfl; rfl; rfl) | (apply w_mfR; rfl; rfl) | (apply w_cvp; rfl; rfl; exact inferInstance; rfl; rfl; assumption) | (apply w_eqS2T; rfl; rfl; rfl; omega) | (apply w_eqS2F; rfl; rfl; rfl; omega) | (apply w_neS2T; rfl; rfl; rfl; omega) | (apply w_neS2F; rfl; rfl; rfl; omega) | (apply w_eqS3T; rfl; rfl; rfl; omega) | (apply w_eqS3F; rfl; rfl; rfl; omega) | (apply w_neS3T; rfl; rfl; rfl; omega) | (apply w_neS3F; rfl; rfl; rfl; omega) | (apply w_eqS3; rfl; rfl; rfl) | (apply w_neS3; rfl; rfl; rfl) | (apply w_eqS2; rfl; rfl; rfl) | (apply w_neS2; rfl; rfl; rfl) | (apply w_maxL; rfl; rfl; rfl; omega) | (apply w_maxG; rfl; rfl; rfl; omega) | (apply w_max; rfl; rfl; rfl) | (apply w_neB; rfl; rfl; rfl; rfl) | (apply w_eqB; rfl; rfl; rfl; rfl) | (apply w_st; rfl; rfl; rfl; (focus ((repeat (first | exact hs1 _ | apply St.there)); done)); ((exact kmf))) | refine spl ?_ ?_ | intro hc)
  apply w_mks
  rfl; rfl; rfl; omega; omega; omega
  intro v hv
  rw [hz, ← nls_zero N]
  clear hz
  refine ⟨by (exact kmf), ?_⟩
  have hN := hv.len
  (repeat' first | refine stp ?_ | intro v' hv' | intro (b : Nat) | (apply w_convU; rfl; rfl; omega; omega) | (apply w_convI; rfl; rfl; omega; omega) | (apply w_quoU; rfl; rfl; rfl; omega; omega; omega) | (apply w_remU; rfl; rfl; rfl; omega; omega) | (apply w_minL; rfl; rfl; rfl; omega) | (apply w_minG; rfl; rfl; rfl; omega) | (apply w_min; rfl; rfl; rfl) | (apply w_mfR; rfl; rfl) | (apply w_cvp; rfl; rfl; exact inferInstance; rfl; rfl; assumption) | (apply w_eqS2T; rfl; rfl; rfl; omega) | (apply w_eqS2F; rfl; rfl; rfl; omega) | (apply w_neS2T; rfl; rfl; rfl; omega) | (apply w_neS2F; rfl; rfl; rfl; omega) | (apply w_eqS3T; rfl; rfl; rfl; omega) | (apply w_eqS3F; rfl; rfl; rfl; omega) | (apply w_neS3T; rfl; rfl; rfl; omega) | (apply w_neS3F; rfl; rfl; rfl; omega) | (apply w_eqS3; rfl; rfl; rfl) | (apply w_neS3; rfl; rfl; rfl) | (apply w_eqS2; rfl; rfl; rfl) | (apply w_neS2; rfl; rfl; rfl) | (apply w_maxL; rfl; rfl; rfl; omega) | (apply w_maxG; rfl; rfl; rfl; omega) | (apply w_max; rfl; rfl; rfl) | (apply w_neB; rfl; rfl; rfl; rfl) | (apply w_eqB; rfl; rfl; rfl; rfl) | (apply w_st; rfl; rfl; rfl; (focus ((repeat (first | exact hs1 _ | apply St.there)); done)); ((exact kmf))) | refine spl ?_ ?_ | intro hc)
  refine C_loopK [5, 21, 22, 23, 24, 25, 26, 27, 28, 29, 30, 31] (fun k : Nat => N - k) (fun k => [(21, int k)]) (fun k => pt b 69 [v] :: sl 66 3 v ((nls N k).map lkE) :: R) (fun k => k ≤ N) 0 (Nat.zero_le _) (by (focus ((repeat (first | exact Keep.nil | apply Keep.drop rfl | apply Keep.keep rfl)); done))) (by (exact sbf)) (by (exact frm)) ?_
  rintro k hk
  dsimp only [List.cons_append, List.nil_append]
  by_cases hlt : k < N
  · have hs1 : ∀ L, St (sl 66 3 v ((nls N k).map lkE) :: L) ⟨vb v, vo v + k * 3 + 0, none⟩ (int (-1)) (sl 66 3 v ((nls N (k + 1)).map lkE) :: L) := fun L => by
      rw [← nls_set]
      exact St.lk (nls_get hlt) (by decide) rfl
    (repeat' first | refine stp ?_ | intro v' hv' | intro (b : Nat) | (apply w_convU; rfl; rfl; omega; omega) | (apply w_convI; rfl; rfl; omega; omega) | (apply w_quoU; rfl; rfl; rfl; omega; omega; omega) | (apply w_remU; rfl; rfl; rfl; omega; omega) | (apply w_minL; rfl; rfl; rfl; omega) | (apply w_minG; rfl; rfl; rfl; omega) | (apply w_min; rfl; rfl; rfl) | (apply w_mfR; rfl; rfl) | (apply w_cvp; rfl; rfl; exact inferInstance; rfl; rfl; assumption) | (apply w_eqS2T; rfl; rfl; rfl; omega) | (apply w_eqS2F; rfl; rfl; rfl; omega) | (apply w_neS2T; rfl; rfl; rfl; omega) | (apply w_neS2F; rfl; rfl; rfl; omega) | (apply w_eqS3T; rfl; rfl; rfl; omega) | (apply w_eqS3F; rfl; rfl; rfl; omega) | (apply w_neS3T; rfl; rfl; rfl; omega) | (apply w_neS3F; rfl; rfl; rfl; omega) | (apply w_eqS3; rfl; rfl; rfl) | (apply w_neS3; rfl; rfl; rfl) | (apply w_eqS2; rfl; rfl; rfl) | (apply w_neS2; rfl; rfl; rfl) | (apply w_maxL; rfl; rfl; rfl; omega) | (apply w_maxG; rfl; rfl; rfl; omega) | (apply w_max; rfl; rfl; rfl) | (apply w_neB; rfl; rfl; rfl; rfl) | (apply w_eqB; rfl; rfl; rfl; rfl) | (apply w_st; rfl; rfl; rfl; (focus ((repeat (first | exact hs1 _ | apply St.there)); done)); ((exact kmf))) | refine spl ?_ ?_ | intro hc)
    exact At_againK (k + 1) hlt (by omega) (by (exact sbf)) (by (exact sbf)) (by (exact frm))
  · obtain rfl : k = N := by omega
    (repeat' first | refine stp ?_ | intro v' hv' | intro (b : Nat) | (apply w_convU; rfl; rfl; omega; omega) | (apply w_convI; rfl; rfl; omega; omega) | (apply w_quoU; rfl; rfl; rfl; omega; omega; omega) | (apply w_remU; rfl; rfl; rfl; omega; omega) | (apply w_minL; rfl; rfl; rfl; omega) | (apply w_minG; rfl; rfl; rfl; omega) | (apply w_min; rfl; rfl; rfl) | (apply w_mfR; rfl; rfl) | (apply w_cvp; rfl; rfl; exact inferInstance; rfl; rfl; assumption) | (apply w_eqS2T; rfl; rfl; rfl; omega) | (apply w_eqS2F; rfl; rfl; rfl; omega) | (apply w_neS2T; rfl; rfl; rfl; omega) | (apply w_neS2F; rfl; rfl; rfl; omega) | (apply w_eqS3T; rfl; rfl; rfl; omega) | (apply w_eqS3F; rfl; rfl; rfl; omega) | (apply w_neS3T; rfl; rfl; rfl; omega) | (apply w_neS3F; rfl; rfl; rfl; omega) | (apply w_eqS3; rfl; rfl; rfl) | (apply w_neS3; rfl; rfl; rfl) | (apply w_eqS2; rfl; rfl; rfl) | (apply w_neS2; rfl; rfl; rfl) | (apply w_maxL; rfl; rfl; rfl; omega) | (apply w_maxG; rfl; rfl; rfl; omega) | (apply w_max; rfl; rfl; rfl) | (apply w_neB; rfl; rfl; rfl; rfl) | (apply w_eqB; rfl; rfl; rfl; rfl) | (apply w_st; rfl; rfl; rfl; (focus ((repeat (first | exact hs1 _ | apply St.there)); done)); ((exact kmf))) | refine spl ?_ ?_ | intro hc)
    refine At_ret2 (by (first | exact .inl rfl | exact .inr rfl)) Try.results24 rfl rfl ⟨_, rfl, rfl⟩ (fun w hs => ?_)
    refine mtb_fold (new0_ok hv h1 h2) ?_
    rw [nls_full] at hs ⊢
    have h3 := qs_new k hs
    exact Sel.sat (by (focus ((repeat (first | exact Sel.refl | (apply Sel.cons; (focus ((repeat (first | exact Del.here | apply Del.there)); done))) | refine Sel.drop ?_)); done))) h3
/-! ### Quit -/
def hoE (x : Int × Int) : List Value := [int x.1, int x.2]
theorem ho_one (x : Int × Int) : (hoE x).all Value.oneCell' = true := rfl
def quitK (M : List Lk) (n : Int) (k : Nat) : List (Int × Int) × List Lk := ((heldN M n).take k).foldl quitS ([], M)
theorem quitK_succ {M : List Lk} {n : Int} {k m : Nat} (h : (heldN M n)[k]? = some m) : quitK M n (k + 1) = quitS (quitK M n k) m := by
  unfold quitK
  rw [List.take_add_one, h, List.foldl_append]; rfl
theorem quitK_all (M : List Lk) (n : Int) : quitK M n (heldN M n).length = (heldN M n).foldl quitS ([], M) := by unfold quitK; rw [List.take_length]
theorem quitS_len {l : List Nat} : ∀ s : List (Int × Int) × List Lk, (l.foldl quitS s).1.length = s.1.length + l.length ∧ (l.foldl quitS s).2.length = s.2.length := by
  induction l with
  | nil => intro s; exact ⟨rfl, rfl⟩
  | cons m l ih =>
    intro s
    obtain ⟨h1, h2⟩ := ih (quitS s m)
    have e1 : (quitS s m).1.length = s.1.length + 1 := by unfold quitS; simp
    have e2 : (quitS s m).2.length = s.2.length := by unfold quitS; simp
    rw [List.foldl_cons, List.length_cons]
    constructor
    · rw [h1, e1]; omega
    · rw [h2, e2]
theorem quitK_len (M : List Lk) (n : Int) (k : Nat) : (quitK M n k).1.length ≤ M.length ∧ (quitK M n k).2.length = M.length := by
  obtain ⟨h1, h2⟩ := quitS_len (l := (heldN M n).take k) ([], M)
  refine ⟨?_, h2⟩
  show (((heldN M n).take k).foldl quitS ([], M)).1.length ≤ _
  rw [h1]
  have := heldK_len M n M.length
  have e : heldN M n = heldK M n M.length := rfl
  rw [e, List.length_take]
  simp only [List.length_nil]
  omega
set_option maxHeartbeats 8000000 in
theorem Quit_ok (tb : Nat) (M : List Lk) (n : Int) (R : List HP) :
    Called Try.prog 17 [ptr tb, int n] (mtb tb M :: R) (fun u X => ∃ v, u = .tuple #[v, int (quitM M n).1.2] ∧ IsSl v (quitM M n).1.1.length ∧ X = sl 54 2 v ((quitM M n).1.1.map hoE) :: mtb tb (quitM M n).2 :: R) := by
  refine Fn2 Try.func17 rfl Try.ntmps17 rfl ?_
  have hM : ∀ R, Called Try.prog 31 [ptr tb, int 0, int n, int 0] (mtb tb M :: R) (is (int (mayI M.length 0 n 0)) (mtb tb M :: R)) := fun R => by
    refine ⟨fun w hs => ?_⟩
    obtain ⟨⟨lv, ls⟩, hx⟩ := Sat.ex_iff.1 hs
    obtain ⟨hok, hy⟩ := Sat.fact_iff.1 (Sat.all_iff.1 hx)
    refine ((may_low tb lv ls.length hok.lisl 0 n 0 (sl 66 3 lv (ls.map lkE) :: qsH ls :: R)).out w hy).mono ?_
    rintro _ w2 ⟨v, rfl, L', ⟨rfl, rfl⟩, h2⟩
    exact ⟨_, rfl, _, ⟨by rw [hok.len], rfl⟩, mtb_fold hok h2⟩
  have hLe := Leave_ok tb M n
  have hHe := Held_ok tb (leaveM M n).2 n
  have hlen := leave_len M n
  refine C_know (p := M.length ≤ 32) (fun w hs => ?_) fun h32 => ?_
  · obtain ⟨⟨lv, ls⟩, hx⟩ := Sat.ex_iff.1 hs
    obtain ⟨hok, -⟩ := Sat.fact_iff.1 (Sat.all_iff.1 hx)
    have := hok.len
    have := hok.few
    dsimp only at *
    omega
  unfold quitM
  by_cases h0 : mayI M.length 0 n 0 = 0
  · have hnn : ¬ (mayI M.length 0 n 0 ≠ 0) := by simp [h0]
    simp only [if_neg hnn]
    clear hnn
    rw [h0] at hM
    obtain ⟨-, -, c, d, -, -⟩ := mayI_0.1 h0
    unfold heldM at hHe
    rw [if_pos ⟨c, d⟩] at hHe
    generalize hM1 : (leaveM M n).2 = M1 at *
    generalize (leaveM M n).1 = e1 at *
    have hb := heldK_len M1 n M1.length
    have e : heldN M1 n = heldK M1 n M1.length := rfl
    rw [← e] at hb
    clear e
    (repeat' first | refine stp ?_ | intro v' hv' | intro (b : Nat) | (apply w_convU; rfl; rfl; omega; omega) | (apply w_convI; rfl; rfl; omega; omega) | (apply w_quoU; rfl; rfl; rfl; omega; omega; omega) | (apply w_remU; rfl; rfl; rfl; omega; omega) | (apply w_minL; rfl; rfl; rfl; omega) | (apply w_minG; rfl; rfl; rfl; omega) | (apply w_min; rfl; rfl; rfl) | (apply w_mfR; rfl; rfl) | (apply w_cvp; rfl; rfl; exact inferInstance; rfl; rfl; assumption) | (apply w_eqS2T; rfl; rfl; rfl; omega) | (apply w_eqS2F; rfl; rfl; rfl; omega) | (apply w_neS2T; rfl; rfl; rfl; omega) | (apply w_neS2F; rfl; rfl; rfl; omega) | (apply w_eqS3T; rfl; rfl; rfl; omega) | (apply w_eqS3F; rfl; rfl; rfl; omega) | (apply w_neS3T; rfl; rfl; rfl; omega) | (apply w_neS3F; rfl; rfl; rfl; omega) | (apply w_eqS3; rfl; rfl; rfl) | (apply w_neS3; rfl; rfl; rfl) | (apply w_eqS2; rfl; rfl; rfl) | (apply w_neS2; rfl; rfl; rfl) | (apply w_maxL; rfl; rfl; rfl; omega) | (apply w_maxG; rfl; rfl; rfl; omega) | (apply w_max; rfl; rfl; rfl) | (apply w_neB; rfl; rfl; rfl; rfl) | (apply w_eqB; rfl; rfl; rfl; rfl) | (apply w_cq; rfl; rfl; apply Called.at (h := hM); ((focus ((repeat (first | exact Rep.here | apply Rep.there)); done)))) | refine spl ?_ ?_ | intro hc)
    obtain ⟨vH, hvH⟩ : ∃ r, r = v' := ⟨_, rfl⟩
    subst hvH
    refine C_loopK (α := Nat × Value) [7, 9, 23, 24, 25, 26, 27, 28, 29, 30, 31, 32, 33, 34, 35, 36, 37, 38, 39] (fun x => (heldN M1 n).length - x.1) (fun x => [(7, x.2), (23, int x.1)]) (fun x => sl 54 2 x.2 ((quitK M1 n x.1).1.map hoE) :: sl 3 1 vH ((heldN M1 n).map niE) :: mtb tb (quitK M1 n x.1).2 :: R) (fun x => x.1 ≤ (heldN M1 n).length ∧ IsSl x.2 (quitK M1 n x.1).1.length) (0, .slice none 0 0) ⟨Nat.zero_le _, IsSl.nil⟩ (by (focus ((repeat (first | exact Keep.nil | apply Keep.drop rfl | apply Keep.keep rfl)); done))) (by (exact sbf)) (fun w hs => hs.sl_nil) ?_
    rintro ⟨k, v⟩ ⟨hk, hv⟩
    dsimp only [List.cons_append, List.nil_append] at *
    obtain ⟨hl1, hl2⟩ := quitK_len M1 n k
    by_cases hlt : k < (heldN M1 n).length
    · have hx : (heldN M1 n)[k]? = some (heldN M1 n)[k] := by simp [hlt]
      have hqs := quitK_succ hx
      have hml := heldN_lt (List.mem_of_getElem? hx)
      have hpe : ((heldN M1 n).map niE)[k]? = some [int ((heldN M1 n)[k] : Nat)] := by rw [List.getElem?_map, hx]; rfl
      generalize (heldN M1 n)[k] = m at *
      refine C_sat (L' := mtb tb (quitK M1 n k).2 :: sl 54 2 v ((quitK M1 n k).1.map hoE) :: sl 3 1 vH ((heldN M1 n).map niE) :: R) (fun w hs => Sel.sat (by (focus ((repeat (first | exact Sel.refl | (apply Sel.cons; (focus ((repeat (first | exact Del.here | apply Del.there)); done))) | refine Sel.drop ?_)); done))) hs) ?_
      refine C_mtb fun lv ls hok => ?_
      have hl := hok.lisl
      have hlen2 := hok.len
      have hfew := hok.few
      have hm : m < ls.length := by omega
      have hp : ls[m]? = some ls[m] := by simp [hm]
      have hwf := hok.wf.hand (i := m) (by omega) true
      unfold quitS at hqs
      obtain ⟨hMk, hlk, hpi, hp64, -, -⟩ := hok.get hp
      rw [hlk] at hqs hwf
      generalize ls[m] = p at *
      (repeat' first | refine stp ?_ | intro v' hv' | intro (b : Nat) | (apply w_convU; rfl; rfl; omega; omega) | (apply w_convI; rfl; rfl; omega; omega) | (apply w_quoU; rfl; rfl; rfl; omega; omega; omega) | (apply w_remU; rfl; rfl; rfl; omega; omega) | (apply w_minL; rfl; rfl; rfl; omega) | (apply w_minG; rfl; rfl; rfl; omega) | (apply w_min; rfl; rfl; rfl) | (apply w_mfR; rfl; rfl) | (apply w_cvp; rfl; rfl; exact inferInstance; rfl; rfl; assumption) | (apply w_eqS2T; rfl; rfl; rfl; omega) | (apply w_eqS2F; rfl; rfl; rfl; omega) | (apply w_neS2T; rfl; rfl; rfl; omega) | (apply w_neS2F; rfl; rfl; rfl; omega) | (apply w_eqS3T; rfl; rfl; rfl; omega) | (apply w_eqS3F; rfl; rfl; rfl; omega) | (apply w_neS3T; rfl; rfl; rfl; omega) | (apply w_neS3F; rfl; rfl; rfl; omega) | (apply w_eqS3; rfl; rfl; rfl) | (apply w_neS3; rfl; rfl; rfl) | (apply w_eqS2; rfl; rfl; rfl) | (apply w_neS2; rfl; rfl; rfl) | (apply w_maxL; rfl; rfl; rfl; omega) | (apply w_maxG; rfl; rfl; rfl; omega) | (apply w_max; rfl; rfl; rfl) | (apply w_neB; rfl; rfl; rfl; rfl) | (apply w_eqB; rfl; rfl; rfl; rfl) | (apply w_cq; rfl; rfl; apply Called.at (h := hM); ((focus ((repeat (first | exact Rep.here | apply Rep.there)); done)))) | refine spl ?_ ?_ | intro hc)
      refine W_sat (L' := sl 66 3 lv (ls.map lkE) :: sl 46 2 p.1 (p.2.q.map kyE) :: pt tb 69 [lv] :: qsH (ls.eraseIdx m) :: sl 54 2 v ((quitK M1 n k).1.map hoE) :: sl 3 1 vH ((heldN M1 n).map niE) :: R) (fun w hs => ?_) ?_
      · have h2 : Sat w (qsH ls :: sl 66 3 lv (ls.map lkE) :: pt tb 69 [lv] :: sl 54 2 v ((quitK M1 n k).1.map hoE) :: sl 3 1 vH ((heldN M1 n).map niE) :: R) := Sel.sat (by (focus ((repeat (first | exact Sel.refl | (apply Sel.cons; (focus ((repeat (first | exact Del.here | apply Del.there)); done))) | refine Sel.drop ?_)); done))) hs
        exact Sel.sat (by (focus ((repeat (first | exact Sel.refl | (apply Sel.cons; (focus ((repeat (first | exact Del.here | apply Del.there)); done))) | refine Sel.drop ?_)); done))) (qs_open hp h2)
      apply w_cl
      rfl; rfl
      exact hand_ok lv ls m p hp hpi (by omega) true _
      obtain ⟨v0, hv0⟩ := IsSl.any (N := (handM p.2 true).q.length) (by unfold handM; split <;> simp_all; omega)
      exact ⟨_, _, v0, rfl, hv0, rfl⟩
      rintro _ _ ⟨v2, rfl, hv2, rfl⟩
      refine ⟨by (exact kmf), ?_⟩
      have hok2 : MtOk ((quitK M1 n k).2.set m (handM p.2 true)) lv (ls.set m (v2, handM p.2 true)) := hok.set hv2 hwf
      (repeat' first | refine stp ?_ | intro v' hv' | intro (b : Nat) | (apply w_convU; rfl; rfl; omega; omega) | (apply w_convI; rfl; rfl; omega; omega) | (apply w_quoU; rfl; rfl; rfl; omega; omega; omega) | (apply w_remU; rfl; rfl; rfl; omega; omega) | (apply w_minL; rfl; rfl; rfl; omega) | (apply w_minG; rfl; rfl; rfl; omega) | (apply w_min; rfl; rfl; rfl) | (apply w_mfR; rfl; rfl) | (apply w_cvp; rfl; rfl; exact inferInstance; rfl; rfl; assumption) | (apply w_eqS2T; rfl; rfl; rfl; omega) | (apply w_eqS2F; rfl; rfl; rfl; omega) | (apply w_neS2T; rfl; rfl; rfl; omega) | (apply w_neS2F; rfl; rfl; rfl; omega) | (apply w_eqS3T; rfl; rfl; rfl; omega) | (apply w_eqS3F; rfl; rfl; rfl; omega) | (apply w_neS3T; rfl; rfl; rfl; omega) | (apply w_neS3F; rfl; rfl; rfl; omega) | (apply w_eqS3; rfl; rfl; rfl) | (apply w_neS3; rfl; rfl; rfl) | (apply w_eqS2; rfl; rfl; rfl) | (apply w_neS2; rfl; rfl; rfl) | (apply w_maxL; rfl; rfl; rfl; omega) | (apply w_maxG; rfl; rfl; rfl; omega) | (apply w_max; rfl; rfl; rfl) | (apply w_neB; rfl; rfl; rfl; rfl) | (apply w_eqB; rfl; rfl; rfl; rfl) | (apply w_cq; rfl; rfl; apply Called.at (h := hM); ((focus ((repeat (first | exact Rep.here | apply Rep.there)); done)))) | refine spl ?_ ?_ | intro hc)
      ((apply w_apM (l2 := [((m : Int), (handM p.2 true).own)]); rfl; rfl; rfl; (focus ((repeat (first | exact Del.here | apply Del.there)); done)); ((exact srf)); (intro; rfl); (first | (simp only [List.length_cons, List.length_nil]; omega) | (simp; omega)); (first | (simp only [List.length_cons, List.length_nil]; omega) | (simp; omega))); intro v' hv'; refine ⟨by (exact kmf), ?_⟩)
      obtain ⟨v3, hv3⟩ : ∃ r, r = v' := ⟨_, rfl⟩
      subst hv3
      have hv3 : IsSl v3 ((quitK M1 n k).1 ++ [((m : Int), (handM p.2 true).own)]).length := hv'
      (repeat' first | refine stp ?_ | intro v' hv' | intro (b : Nat) | (apply w_convU; rfl; rfl; omega; omega) | (apply w_convI; rfl; rfl; omega; omega) | (apply w_quoU; rfl; rfl; rfl; omega; omega; omega) | (apply w_remU; rfl; rfl; rfl; omega; omega) | (apply w_minL; rfl; rfl; rfl; omega) | (apply w_minG; rfl; rfl; rfl; omega) | (apply w_min; rfl; rfl; rfl) | (apply w_mfR; rfl; rfl) | (apply w_cvp; rfl; rfl; exact inferInstance; rfl; rfl; assumption) | (apply w_eqS2T; rfl; rfl; rfl; omega) | (apply w_eqS2F; rfl; rfl; rfl; omega) | (apply w_neS2T; rfl; rfl; rfl; omega) | (apply w_neS2F; rfl; rfl; rfl; omega) | (apply w_eqS3T; rfl; rfl; rfl; omega) | (apply w_eqS3F; rfl; rfl; rfl; omega) | (apply w_neS3T; rfl; rfl; rfl; omega) | (apply w_neS3F; rfl; rfl; rfl; omega) | (apply w_eqS3; rfl; rfl; rfl) | (apply w_neS3; rfl; rfl; rfl) | (apply w_eqS2; rfl; rfl; rfl) | (apply w_neS2; rfl; rfl; rfl) | (apply w_maxL; rfl; rfl; rfl; omega) | (apply w_maxG; rfl; rfl; rfl; omega) | (apply w_max; rfl; rfl; rfl) | (apply w_neB; rfl; rfl; rfl; rfl) | (apply w_eqB; rfl; rfl; rfl; rfl) | (apply w_cq; rfl; rfl; apply Called.at (h := hM); ((focus ((repeat (first | exact Rep.here | apply Rep.there)); done)))) | refine spl ?_ ?_ | intro hc)
      refine At_againK (k + 1, v3) ⟨hlt, by rw [hqs]; exact hv3⟩ (by dsimp only; omega) (by (exact sbf)) (by (exact sbf)) (fun w hs => ?_)
      dsimp only
      rw [hqs]
      have h2 : Sat w (sl 46 2 v2 ((handM p.2 true).q.map kyE) :: qsH (ls.eraseIdx m) :: pt tb 69 [lv] :: sl 66 3 lv ((ls.set m (v2, handM p.2 true)).map lkE) :: sl 54 2 v3 (((quitK M1 n k).1 ++ [((m : Int), (handM p.2 true).own)]).map hoE) :: sl 3 1 vH ((heldN M1 n).map niE) :: R) := Sel.sat (by (focus ((repeat (first | exact Sel.refl | (apply Sel.cons; (focus ((repeat (first | exact Del.here | apply Del.there)); done))) | refine Sel.drop ?_)); done))) hs
      have h3 := qs_close hm (v := v2) (k := handM p.2 true) h2
      have h4 : Sat w (pt tb 69 [lv] :: sl 66 3 lv ((ls.set m (v2, handM p.2 true)).map lkE) :: qsH (ls.set m (v2, handM p.2 true)) :: sl 54 2 v3 (((quitK M1 n k).1 ++ [((m : Int), (handM p.2 true).own)]).map hoE) :: sl 3 1 vH ((heldN M1 n).map niE) :: R) := Sel.sat (by (focus ((repeat (first | exact Sel.refl | (apply Sel.cons; (focus ((repeat (first | exact Del.here | apply Del.there)); done))) | refine Sel.drop ?_)); done))) h3
      exact Sel.sat (by (focus ((repeat (first | exact Sel.refl | (apply Sel.cons; (focus ((repeat (first | exact Del.here | apply Del.there)); done))) | refine Sel.drop ?_)); done))) (mtb_fold hok2 h4)
    · obtain rfl : k = (heldN M1 n).length := by omega
      rw [quitK_all] at *
      (repeat' first | refine stp ?_ | intro v' hv' | intro (b : Nat) | (apply w_convU; rfl; rfl; omega; omega) | (apply w_convI; rfl; rfl; omega; omega) | (apply w_quoU; rfl; rfl; rfl; omega; omega; omega) | (apply w_remU; rfl; rfl; rfl; omega; omega) | (apply w_minL; rfl; rfl; rfl; omega) | (apply w_minG; rfl; rfl; rfl; omega) | (apply w_min; rfl; rfl; rfl) | (apply w_mfR; rfl; rfl) | (apply w_cvp; rfl; rfl; exact inferInstance; rfl; rfl; assumption) | (apply w_eqS2T; rfl; rfl; rfl; omega) | (apply w_eqS2F; rfl; rfl; rfl; omega) | (apply w_neS2T; rfl; rfl; rfl; omega) | (apply w_neS2F; rfl; rfl; rfl; omega) | (apply w_eqS3T; rfl; rfl; rfl; omega) | (apply w_eqS3F; rfl; rfl; rfl; omega) | (apply w_neS3T; rfl; rfl; rfl; omega) | (apply w_neS3F; rfl; rfl; rfl; omega) | (apply w_eqS3; rfl; rfl; rfl) | (apply w_neS3; rfl; rfl; rfl) | (apply w_eqS2; rfl; rfl; rfl) | (apply w_neS2; rfl; rfl; rfl) | (apply w_maxL; rfl; rfl; rfl; omega) | (apply w_maxG; rfl; rfl; rfl; omega) | (apply w_max; rfl; rfl; rfl) | (apply w_neB; rfl; rfl; rfl; rfl) | (apply w_eqB; rfl; rfl; rfl; rfl) | (apply w_cq; rfl; rfl; apply Called.at (h := hM); ((focus ((repeat (first | exact Rep.here | apply Rep.there)); done)))) | refine spl ?_ ?_ | intro hc)
      refine At_ret2 (by (first | exact .inl rfl | exact .inr rfl)) Try.results17 rfl rfl ⟨_, rfl, hv, rfl⟩ (fun w hs => ?_)
      exact Sel.sat (by (focus ((repeat (first | exact Sel.refl | (apply Sel.cons; (focus ((repeat (first | exact Del.here | apply Del.there)); done))) | refine Sel.drop ?_)); done))) hs
  · simp only [if_pos h0]
    rw [mayI_no h0] at hM ⊢
    (repeat' first | refine stp ?_ | intro v' hv' | intro (b : Nat) | (apply w_convU; rfl; rfl; omega; omega) | (apply w_convI; rfl; rfl; omega; omega) | (apply w_quoU; rfl; rfl; rfl; omega; omega; omega) | (apply w_remU; rfl; rfl; rfl; omega; omega) | (apply w_minL; rfl; rfl; rfl; omega) | (apply w_minG; rfl; rfl; rfl; omega) | (apply w_min; rfl; rfl; rfl) | (apply w_mfR; rfl; rfl) | (apply w_cvp; rfl; rfl; exact inferInstance; rfl; rfl; assumption) | (apply w_eqS2T; rfl; rfl; rfl; omega) | (apply w_eqS2F; rfl; rfl; rfl; omega) | (apply w_neS2T; rfl; rfl; rfl; omega) | (apply w_neS2F; rfl; rfl; rfl; omega) | (apply w_eqS3T; rfl; rfl; rfl; omega) | (apply w_eqS3F; rfl; rfl; rfl; omega) | (apply w_neS3T; rfl; rfl; rfl; omega) | (apply w_neS3F; rfl; rfl; rfl; omega) | (apply w_eqS3; rfl; rfl; rfl) | (apply w_neS3; rfl; rfl; rfl) | (apply w_eqS2; rfl; rfl; rfl) | (apply w_neS2; rfl; rfl; rfl) | (apply w_maxL; rfl; rfl; rfl; omega) | (apply w_maxG; rfl; rfl; rfl; omega) | (apply w_max; rfl; rfl; rfl) | (apply w_neB; rfl; rfl; rfl; rfl) | (apply w_eqB; rfl; rfl; rfl; rfl) | (apply w_cq; rfl; rfl; apply Called.at (h := hM); ((focus ((repeat (first | exact Rep.here | apply Rep.there)); done)))) | refine spl ?_ ?_ | intro hc)
    refine At_ret2 (by (first | exact .inl rfl | exact .inr rfl)) Try.results17 rfl rfl ⟨_, rfl, IsSl.nil, rfl⟩ (fun w hs => ?_)
    exact hs.sl_nil
end Go.Proofs.Ytoaaoijdknbanaa
