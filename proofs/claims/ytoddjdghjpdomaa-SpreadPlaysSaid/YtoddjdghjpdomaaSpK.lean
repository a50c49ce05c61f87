/- spread: Many, Where, Waiting; the laws' calls, awake, begun. Conditions: none. -/
import Derived.Test.YtoddjdghjpdomaaSpJ
set_option linter.all false
set_option linter.deprecated false
namespace Go.Proofs.Ytoddjdghjpdomaa
open Go.Sep
variable [B0 : Base]
def manyM (M : List Wk) : Nat := (wq M).length + (runQ 0 M).length
def cntH (b : Nat) (k : Nat) : HP := pt b 3 [int (k : Int)]
def cntStep (k : Nat) (_ : List Value) : Option Code × Nat := (none, k + 1)
theorem cnt_goes (M : List Wk) (k0 : Nat) (hk : k0 + (runQ 0 M).length ≤ 5000) : Goes (fun (s : Nat × Option Code) xs => ((cntStep s.1 xs).1.isNone, ((cntStep s.1 xs).2, (cntStep s.1 xs).1))) (fun s xs => s.2 = none ∧ (s.1 ≤ 5000 ∧ xs.length = 2)) (runG M) 0 (k0, none) (k0 + (runQ 0 M).length, none) := by
  have := goes_fold (runQ 0 M) (fun _ x => runE x) (fun (k : Nat) (_ : Int × Ky) => k + 1) cntStep (fun (k : Nat) xs => k ≤ 5000 ∧ xs.length = 2) k0 fun i x hx => by
    have key : ∀ (l : List (Int × Ky)) (k : Nat), l.foldl (fun (k : Nat) (_ : Int × Ky) => k + 1) k = k + l.length := by
      intro l
      induction l with
      | nil => intro k; rfl
      | cons x l ih => intro k; rw [List.foldl_cons, ih, List.length_cons]; omega
    have hi := (List.getElem?_eq_some_iff.1 hx).1
    rw [key, List.length_take]
    exact ⟨⟨by omega, rfl⟩, rfl⟩
  have key : ∀ (l : List (Int × Ky)) (k : Nat), l.foldl (fun (k : Nat) (_ : Int × Ky) => k + 1) k = k + l.length := by
    intro l
    induction l with
    | nil => intro k; rfl
    | cons x l ih => intro k; rw [List.foldl_cons, ih, List.length_cons]; omega
  rw [key] at this
  exact this
theorem wq_take {M : List Wk} {i : Nat} (h : i < M.length) : (wq (M.take (i + 1))).length = (wq (M.take i)).length + (wkA M i).q.length := by
  unfold wq
  rw [List.take_add_one, wk_some h, List.flatMap_append, List.length_append]
  simp
set_option maxHeartbeats 8000000 in
theorem Many_ok (tb : Nat) (M : List Wk) (R : List HP) : Called Try.prog 17 [ptr tb] (msb tb M :: R) (is (int (manyM M : Nat)) (msb tb M :: R)) := by
  refine FnM1 Try.func17 rfl Try.ntmps17 rfl ?_
  refine C_msb fun lv ls hok => ?_
  have hl := hok.lisl
  have hlen := hok.len
  have hfew := hok.few
  (repeat' first | refine stp ?_ | intro v' hv' | intro (b : Nat) | (apply w_convU; rfl; rfl; omega; omega) | (apply w_convI; rfl; rfl; omega; omega) | (apply w_quoU; rfl; rfl; rfl; omega; omega; omega) | (apply w_remU; rfl; rfl; rfl; omega; omega) | (apply w_minL; rfl; rfl; rfl; omega) | (apply w_minG; rfl; rfl; rfl; omega) | (apply w_min; rfl; rfl; rfl) | (apply w_mfR; rfl; rfl) | (apply w_cvp; rfl; rfl; exact inferInstance; rfl; rfl; assumption) | (apply w_eqS2T; rfl; rfl; rfl; omega) | (apply w_eqS2F; rfl; rfl; rfl; omega) | (apply w_neS2T; rfl; rfl; rfl; omega) | (apply w_neS2F; rfl; rfl; rfl; omega) | (apply w_eqS3T; rfl; rfl; rfl; omega) | (apply w_eqS3F; rfl; rfl; rfl; omega) | (apply w_neS3T; rfl; rfl; rfl; omega) | (apply w_neS3F; rfl; rfl; rfl; omega) | (apply w_eqS3; rfl; rfl; rfl) | (apply w_neS3; rfl; rfl; rfl) | (apply w_eqS2; rfl; rfl; rfl) | (apply w_neS2; rfl; rfl; rfl) | (apply w_maxL; rfl; rfl; rfl; omega) | (apply w_maxG; rfl; rfl; rfl; omega) | (apply w_max; rfl; rfl; rfl) | (apply w_neB; rfl; rfl; rfl; rfl) | (apply w_eqB; rfl; rfl; rfl; rfl) | (apply w_ld0; rfl; rfl; ((focus ((repeat (first | assumption | exact .pt rfl | apply Rd.there)); done)))) | (apply w_ld; rfl; rfl; ((focus ((repeat (first | assumption | exact .pt rfl | apply Rd.there)); done)))) | (apply w_la0; rfl; rfl; ((focus ((repeat (first | assumption | exact hra _ | exact .pt | apply RdAll.there)); done))); rfl) | (apply w_la; rfl; rfl; ((focus ((repeat (first | assumption | exact hra _ | exact .pt | apply RdAll.there)); done))); rfl) | (apply w_sa; rfl; rfl; rfl; exact hoq; ((focus ((repeat (first | exact .pt rfl | apply StAll.there)); done))); ((exact kmf))) | refine spl ?_ ?_ | intro hc)
  obtain ⟨b3, hb3⟩ : ∃ r, r = b := ⟨_, rfl⟩
  subst hb3
  refine C_loopK (α := Nat) [5, 13, 14, 15, 16, 17, 18, 19, 20, 21, 22, 23] (fun x => ls.length - x) (fun x => [(13, int x)]) (fun x => pt b3 3 [int ((wq (M.take x)).length : Nat)] :: pt tb 67 [lv] :: sl 73 4 lv (ls.map wkE) :: qsH ls :: R) (fun x => x ≤ ls.length ∧ (wq (M.take x)).length ≤ 64 * x) 0 ⟨Nat.zero_le _, Nat.zero_le _⟩ (by (focus ((repeat (first | exact Keep.nil | apply Keep.drop rfl | apply Keep.keep rfl)); done))) (by (exact sbf)) (fun w hs => Sel.sat (by (focus ((repeat (first | exact Sel.refl | (apply Sel.cons; (focus ((repeat (first | exact Del.here | apply Del.there)); done))) | refine Sel.drop ?_)); done))) hs) ?_
  rintro i ⟨hi, hb⟩
  dsimp only [List.cons_append, List.nil_append] at *
  by_cases hlt : i < ls.length
  · have hp : ls[i]? = some ls[i] := by simp [hlt]
    obtain ⟨hMi, hlk, hpi, hp64⟩ := hok.get hp
    have hra : ∀ L, RdAll (sl 73 4 lv (ls.map wkE) :: L) (vb lv) (vo lv + i * 4) (wkE ls[i]) := fun L => RdAll.sl (by rw [List.getElem?_map, hp]; rfl)
    have hoq := wk_one (hok.isl _ (List.mem_of_getElem? hp))
    have hwt := wq_take (M := M) (i := i) (by omega)
    rw [hlk] at hwt
    generalize ls[i] = p at *
    obtain ⟨v, ⟨runs, ⟨a, id⟩, q⟩⟩ := p
    dsimp only at *
    (repeat' first | refine stp ?_ | intro v' hv' | intro (b : Nat) | (apply w_convU; rfl; rfl; omega; omega) | (apply w_convI; rfl; rfl; omega; omega) | (apply w_quoU; rfl; rfl; rfl; omega; omega; omega) | (apply w_remU; rfl; rfl; rfl; omega; omega) | (apply w_minL; rfl; rfl; rfl; omega) | (apply w_minG; rfl; rfl; rfl; omega) | (apply w_min; rfl; rfl; rfl) | (apply w_mfR; rfl; rfl) | (apply w_cvp; rfl; rfl; exact inferInstance; rfl; rfl; assumption) | (apply w_eqS2T; rfl; rfl; rfl; omega) | (apply w_eqS2F; rfl; rfl; rfl; omega) | (apply w_neS2T; rfl; rfl; rfl; omega) | (apply w_neS2F; rfl; rfl; rfl; omega) | (apply w_eqS3T; rfl; rfl; rfl; omega) | (apply w_eqS3F; rfl; rfl; rfl; omega) | (apply w_neS3T; rfl; rfl; rfl; omega) | (apply w_neS3F; rfl; rfl; rfl; omega) | (apply w_eqS3; rfl; rfl; rfl) | (apply w_neS3; rfl; rfl; rfl) | (apply w_eqS2; rfl; rfl; rfl) | (apply w_neS2; rfl; rfl; rfl) | (apply w_maxL; rfl; rfl; rfl; omega) | (apply w_maxG; rfl; rfl; rfl; omega) | (apply w_max; rfl; rfl; rfl) | (apply w_neB; rfl; rfl; rfl; rfl) | (apply w_eqB; rfl; rfl; rfl; rfl) | (apply w_ld0; rfl; rfl; ((focus ((repeat (first | assumption | exact .pt rfl | apply Rd.there)); done)))) | (apply w_ld; rfl; rfl; ((focus ((repeat (first | assumption | exact .pt rfl | apply Rd.there)); done)))) | (apply w_la0; rfl; rfl; ((focus ((repeat (first | assumption | exact hra _ | exact .pt | apply RdAll.there)); done))); rfl) | (apply w_la; rfl; rfl; ((focus ((repeat (first | assumption | exact hra _ | exact .pt | apply RdAll.there)); done))); rfl) | (apply w_sa; rfl; rfl; rfl; exact hoq; ((focus ((repeat (first | exact .pt rfl | apply StAll.there)); done))); ((exact kmf))) | refine spl ?_ ?_ | intro hc)
    refine At_againK (i + 1) ⟨hlt, by omega⟩ (by omega) (by (exact sbf)) (by (exact sbf)) (fun w hs => ?_)
    rw [hwt]
    exact Sel.sat (by (focus ((repeat (first | exact Sel.refl | (apply Sel.cons; (focus ((repeat (first | exact Del.here | apply Del.there)); done))) | refine Sel.drop ?_)); done))) hs
  · obtain rfl : i = ls.length := by omega
    rw [← hlen, List.take_length] at hb ⊢
    have hrl := runQ_len M 0
    (repeat' first | refine stp ?_ | intro v' hv' | intro (b : Nat) | (apply w_convU; rfl; rfl; omega; omega) | (apply w_convI; rfl; rfl; omega; omega) | (apply w_quoU; rfl; rfl; rfl; omega; omega; omega) | (apply w_remU; rfl; rfl; rfl; omega; omega) | (apply w_minL; rfl; rfl; rfl; omega) | (apply w_minG; rfl; rfl; rfl; omega) | (apply w_min; rfl; rfl; rfl) | (apply w_mfR; rfl; rfl) | (apply w_cvp; rfl; rfl; exact inferInstance; rfl; rfl; assumption) | (apply w_eqS2T; rfl; rfl; rfl; omega) | (apply w_eqS2F; rfl; rfl; rfl; omega) | (apply w_neS2T; rfl; rfl; rfl; omega) | (apply w_neS2F; rfl; rfl; rfl; omega) | (apply w_eqS3T; rfl; rfl; rfl; omega) | (apply w_eqS3F; rfl; rfl; rfl; omega) | (apply w_neS3T; rfl; rfl; rfl; omega) | (apply w_neS3F; rfl; rfl; rfl; omega) | (apply w_eqS3; rfl; rfl; rfl) | (apply w_neS3; rfl; rfl; rfl) | (apply w_eqS2; rfl; rfl; rfl) | (apply w_neS2; rfl; rfl; rfl) | (apply w_maxL; rfl; rfl; rfl; omega) | (apply w_maxG; rfl; rfl; rfl; omega) | (apply w_max; rfl; rfl; rfl) | (apply w_neB; rfl; rfl; rfl; rfl) | (apply w_eqB; rfl; rfl; rfl; rfl) | (apply w_ld0; rfl; rfl; ((focus ((repeat (first | assumption | exact .pt rfl | apply Rd.there)); done)))) | (apply w_ld; rfl; rfl; ((focus ((repeat (first | assumption | exact .pt rfl | apply Rd.there)); done)))) | (apply w_la0; rfl; rfl; ((focus ((repeat (first | assumption | exact hra _ | exact .pt | apply RdAll.there)); done))); rfl) | (apply w_la; rfl; rfl; ((focus ((repeat (first | assumption | exact hra _ | exact .pt | apply RdAll.there)); done))); rfl) | (apply w_sa; rfl; rfl; rfl; exact hoq; ((focus ((repeat (first | exact .pt rfl | apply StAll.there)); done))); ((exact kmf))) | refine spl ?_ ?_ | intro hc)
    refine W_sat (L' := msb tb M :: pt b3 3 [int ((wq M).length : Nat)] :: R) (fun w hs => msb_fold hok (Sel.sat (by (focus ((repeat (first | exact Sel.refl | (apply Sel.cons; (focus ((repeat (first | exact Del.here | apply Del.there)); done))) | refine Sel.drop ?_)); done))) hs)) ?_
    apply w_cl
    rfl; rfl; exact Running_ok tb M _
    exact ⟨_, _, 0, rfl, rfl⟩
    rintro _ _ ⟨bl, rfl, rfl⟩
    refine ⟨by (exact kmf), ?_⟩
    (repeat' first | refine stp ?_ | intro v' hv' | intro (b : Nat) | (apply w_convU; rfl; rfl; omega; omega) | (apply w_convI; rfl; rfl; omega; omega) | (apply w_quoU; rfl; rfl; rfl; omega; omega; omega) | (apply w_remU; rfl; rfl; rfl; omega; omega) | (apply w_minL; rfl; rfl; rfl; omega) | (apply w_minG; rfl; rfl; rfl; omega) | (apply w_min; rfl; rfl; rfl) | (apply w_mfR; rfl; rfl) | (apply w_cvp; rfl; rfl; exact inferInstance; rfl; rfl; assumption) | (apply w_eqS2T; rfl; rfl; rfl; omega) | (apply w_eqS2F; rfl; rfl; rfl; omega) | (apply w_neS2T; rfl; rfl; rfl; omega) | (apply w_neS2F; rfl; rfl; rfl; omega) | (apply w_eqS3T; rfl; rfl; rfl; omega) | (apply w_eqS3F; rfl; rfl; rfl; omega) | (apply w_neS3T; rfl; rfl; rfl; omega) | (apply w_neS3F; rfl; rfl; rfl; omega) | (apply w_eqS3; rfl; rfl; rfl) | (apply w_neS3; rfl; rfl; rfl) | (apply w_eqS2; rfl; rfl; rfl) | (apply w_neS2; rfl; rfl; rfl) | (apply w_maxL; rfl; rfl; rfl; omega) | (apply w_maxG; rfl; rfl; rfl; omega) | (apply w_max; rfl; rfl; rfl) | (apply w_neB; rfl; rfl; rfl; rfl) | (apply w_eqB; rfl; rfl; rfl; rfl) | (apply w_ld0; rfl; rfl; ((focus ((repeat (first | assumption | exact .pt rfl | apply Rd.there)); done)))) | (apply w_ld; rfl; rfl; ((focus ((repeat (first | assumption | exact .pt rfl | apply Rd.there)); done)))) | (apply w_la0; rfl; rfl; ((focus ((repeat (first | assumption | exact hra _ | exact .pt | apply RdAll.there)); done))); rfl) | (apply w_la; rfl; rfl; ((focus ((repeat (first | assumption | exact hra _ | exact .pt | apply RdAll.there)); done))); rfl) | (apply w_sa; rfl; rfl; rfl; exact hoq; ((focus ((repeat (first | exact .pt rfl | apply StAll.there)); done))); ((exact kmf))) | refine spl ?_ ?_ | intro hc)
    refine C_range (A := cntH b3) (s0 := (wq M).length) (step := cntStep) (dom := fun k xs => k ≤ 5000 ∧ xs.length = 2) rfl (Running1_ok bl M) rfl (fun s xs h => h.2) (by unfold cntH; (focus ((repeat (first | exact Sel.refl | (apply Sel.cons; (focus ((repeat (first | exact Del.here | apply Del.there)); done))) | refine Sel.drop ?_)); done))) ?_ (cnt_goes M _ (by omega)) fun r => ?_
    · rintro l r k xs J ⟨hk, hx⟩
      obtain ⟨x, y, rfl⟩ : ∃ x y, xs = [x, y] := by
        match xs, hx with
        | [x, y], _ => exact ⟨x, y, rfl⟩
      apply Exists.intro
      refine ⟨fun Q r' hQ => ?_, ?_⟩
      · simp only [parF]
        (repeat' first | refine stp ?_ | intro v' hv' | intro (b : Nat) | (apply w_convU; rfl; rfl; omega; omega) | (apply w_convI; rfl; rfl; omega; omega) | (apply w_quoU; rfl; rfl; rfl; omega; omega; omega) | (apply w_remU; rfl; rfl; rfl; omega; omega) | (apply w_minL; rfl; rfl; rfl; omega) | (apply w_minG; rfl; rfl; rfl; omega) | (apply w_min; rfl; rfl; rfl) | (apply w_mfR; rfl; rfl) | (apply w_cvp; rfl; rfl; exact inferInstance; rfl; rfl; assumption) | (apply w_eqS2T; rfl; rfl; rfl; omega) | (apply w_eqS2F; rfl; rfl; rfl; omega) | (apply w_neS2T; rfl; rfl; rfl; omega) | (apply w_neS2F; rfl; rfl; rfl; omega) | (apply w_eqS3T; rfl; rfl; rfl; omega) | (apply w_eqS3F; rfl; rfl; rfl; omega) | (apply w_neS3T; rfl; rfl; rfl; omega) | (apply w_neS3F; rfl; rfl; rfl; omega) | (apply w_eqS3; rfl; rfl; rfl) | (apply w_neS3; rfl; rfl; rfl) | (apply w_eqS2; rfl; rfl; rfl) | (apply w_neS2; rfl; rfl; rfl) | (apply w_maxL; rfl; rfl; rfl; omega) | (apply w_maxG; rfl; rfl; rfl; omega) | (apply w_max; rfl; rfl; rfl) | (apply w_neB; rfl; rfl; rfl; rfl) | (apply w_eqB; rfl; rfl; rfl; rfl) | (apply w_ld0; rfl; rfl; ((focus ((repeat (first | assumption | exact .pt rfl | apply Rd.there)); done)))) | (apply w_ld; rfl; rfl; ((focus ((repeat (first | assumption | exact .pt rfl | apply Rd.there)); done)))) | (apply w_la0; rfl; rfl; ((focus ((repeat (first | assumption | exact hra _ | exact .pt | apply RdAll.there)); done))); rfl) | (apply w_la; rfl; rfl; ((focus ((repeat (first | assumption | exact hra _ | exact .pt | apply RdAll.there)); done))); rfl) | (apply w_sa; rfl; rfl; rfl; exact hoq; ((focus ((repeat (first | exact .pt rfl | apply StAll.there)); done))); ((exact kmf))) | refine spl ?_ ?_ | intro hc)
        exact hQ
      · refine C_block ?_
        unfold cntStep cntH
        dsimp only
        (repeat' first | refine stp ?_ | intro v' hv' | intro (b : Nat) | (apply w_convU; rfl; rfl; omega; omega) | (apply w_convI; rfl; rfl; omega; omega) | (apply w_quoU; rfl; rfl; rfl; omega; omega; omega) | (apply w_remU; rfl; rfl; rfl; omega; omega) | (apply w_minL; rfl; rfl; rfl; omega) | (apply w_minG; rfl; rfl; rfl; omega) | (apply w_min; rfl; rfl; rfl) | (apply w_mfR; rfl; rfl) | (apply w_cvp; rfl; rfl; exact inferInstance; rfl; rfl; assumption) | (apply w_eqS2T; rfl; rfl; rfl; omega) | (apply w_eqS2F; rfl; rfl; rfl; omega) | (apply w_neS2T; rfl; rfl; rfl; omega) | (apply w_neS2F; rfl; rfl; rfl; omega) | (apply w_eqS3T; rfl; rfl; rfl; omega) | (apply w_eqS3F; rfl; rfl; rfl; omega) | (apply w_neS3T; rfl; rfl; rfl; omega) | (apply w_neS3F; rfl; rfl; rfl; omega) | (apply w_eqS3; rfl; rfl; rfl) | (apply w_neS3; rfl; rfl; rfl) | (apply w_eqS2; rfl; rfl; rfl) | (apply w_neS2; rfl; rfl; rfl) | (apply w_maxL; rfl; rfl; rfl; omega) | (apply w_maxG; rfl; rfl; rfl; omega) | (apply w_max; rfl; rfl; rfl) | (apply w_neB; rfl; rfl; rfl; rfl) | (apply w_eqB; rfl; rfl; rfl; rfl) | (apply w_ld0; rfl; rfl; ((focus ((repeat (first | assumption | exact .pt rfl | apply Rd.there)); done)))) | (apply w_ld; rfl; rfl; ((focus ((repeat (first | assumption | exact .pt rfl | apply Rd.there)); done)))) | (apply w_la0; rfl; rfl; ((focus ((repeat (first | assumption | exact hra _ | exact .pt | apply RdAll.there)); done))); rfl) | (apply w_la; rfl; rfl; ((focus ((repeat (first | assumption | exact hra _ | exact .pt | apply RdAll.there)); done))); rfl) | (apply w_sa; rfl; rfl; rfl; exact hoq; ((focus ((repeat (first | exact .pt rfl | apply StAll.there)); done))); ((exact kmf))) | refine spl ?_ ?_ | intro hc)
        exact At_round_normal (by (exact frm))
    · simp only [ends]
      unfold cntH
      (repeat' first | refine stp ?_ | intro v' hv' | intro (b : Nat) | (apply w_convU; rfl; rfl; omega; omega) | (apply w_convI; rfl; rfl; omega; omega) | (apply w_quoU; rfl; rfl; rfl; omega; omega; omega) | (apply w_remU; rfl; rfl; rfl; omega; omega) | (apply w_minL; rfl; rfl; rfl; omega) | (apply w_minG; rfl; rfl; rfl; omega) | (apply w_min; rfl; rfl; rfl) | (apply w_mfR; rfl; rfl) | (apply w_cvp; rfl; rfl; exact inferInstance; rfl; rfl; assumption) | (apply w_eqS2T; rfl; rfl; rfl; omega) | (apply w_eqS2F; rfl; rfl; rfl; omega) | (apply w_neS2T; rfl; rfl; rfl; omega) | (apply w_neS2F; rfl; rfl; rfl; omega) | (apply w_eqS3T; rfl; rfl; rfl; omega) | (apply w_eqS3F; rfl; rfl; rfl; omega) | (apply w_neS3T; rfl; rfl; rfl; omega) | (apply w_neS3F; rfl; rfl; rfl; omega) | (apply w_eqS3; rfl; rfl; rfl) | (apply w_neS3; rfl; rfl; rfl) | (apply w_eqS2; rfl; rfl; rfl) | (apply w_neS2; rfl; rfl; rfl) | (apply w_maxL; rfl; rfl; rfl; omega) | (apply w_maxG; rfl; rfl; rfl; omega) | (apply w_max; rfl; rfl; rfl) | (apply w_neB; rfl; rfl; rfl; rfl) | (apply w_eqB; rfl; rfl; rfl; rfl) | (apply w_ld0; rfl; rfl; ((focus ((repeat (first | assumption | exact .pt rfl | apply Rd.there)); done)))) | (apply w_ld; rfl; rfl; ((focus ((repeat (first | assumption | exact .pt rfl | apply Rd.there)); done)))) | (apply w_la0; rfl; rfl; ((focus ((repeat (first | assumption | exact hra _ | exact .pt | apply RdAll.there)); done))); rfl) | (apply w_la; rfl; rfl; ((focus ((repeat (first | assumption | exact hra _ | exact .pt | apply RdAll.there)); done))); rfl) | (apply w_sa; rfl; rfl; rfl; exact hoq; ((focus ((repeat (first | exact .pt rfl | apply StAll.there)); done))); ((exact kmf))) | refine spl ?_ ?_ | intro hc)
      exact AtM_ret1 (.inl rfl) (by (focus ((repeat (first | exact Taken.nil | (apply Taken.cons; (focus ((repeat (first | exact Del.here | apply Del.there)); done))))); done))) Try.results17 rfl ⟨rfl, rfl⟩ (by (exact frm))
/-! ### Where and Waiting -/
def whereM (M : List Wk) (n : Int) : (Int × Bool) × Int := if mayK ⟨0, n⟩ = false then ((0, false), 10) else match findM M n with
  | none => ((0, false), 14)
  | some (w, i) => (((w : Int), decide (i = -1)), 0)
set_option maxHeartbeats 4000000 in
theorem Where_ok (tb : Nat) (M : List Wk) (n : Int) (R : List HP) : Called Try.prog 16 [ptr tb, int n] (msb tb M :: R) (is (.tuple #[int (whereM M n).1.1, .bool (whereM M n).1.2, int (whereM M n).2]) (msb tb M :: R)) := by
  have hMa := may_ok ⟨0, n⟩
  refine Fn2 Try.func16 rfl Try.ntmps16 rfl ?_
  refine C_msb fun lv ls hok => ?_
  have hl := hok.lisl
  have hF0 := fun L h => find_ok tb lv ls M n hok L h
  unfold findV at hF0
  unfold whereM
  cases hm : mayK ⟨0, n⟩ with
  | false =>
    rw [hm] at hMa
    rw [if_pos rfl]
    (repeat' first | refine stp ?_ | intro v' hv' | intro (b : Nat) | (apply w_convU; rfl; rfl; omega; omega) | (apply w_convI; rfl; rfl; omega; omega) | (apply w_quoU; rfl; rfl; rfl; omega; omega; omega) | (apply w_remU; rfl; rfl; rfl; omega; omega) | (apply w_minL; rfl; rfl; rfl; omega) | (apply w_minG; rfl; rfl; rfl; omega) | (apply w_min; rfl; rfl; rfl) | (apply w_mfR; rfl; rfl) | (apply w_cvp; rfl; rfl; exact inferInstance; rfl; rfl; assumption) | (apply w_eqS2T; rfl; rfl; rfl; omega) | (apply w_eqS2F; rfl; rfl; rfl; omega) | (apply w_neS2T; rfl; rfl; rfl; omega) | (apply w_neS2F; rfl; rfl; rfl; omega) | (apply w_eqS3T; rfl; rfl; rfl; omega) | (apply w_eqS3F; rfl; rfl; rfl; omega) | (apply w_neS3T; rfl; rfl; rfl; omega) | (apply w_neS3F; rfl; rfl; rfl; omega) | (apply w_eqS3; rfl; rfl; rfl) | (apply w_neS3; rfl; rfl; rfl) | (apply w_eqS2; rfl; rfl; rfl) | (apply w_neS2; rfl; rfl; rfl) | (apply w_maxL; rfl; rfl; rfl; omega) | (apply w_maxG; rfl; rfl; rfl; omega) | (apply w_max; rfl; rfl; rfl) | (apply w_neB; rfl; rfl; rfl; rfl) | (apply w_eqB; rfl; rfl; rfl; rfl) | (apply w_ld0; rfl; rfl; ((focus ((repeat (first | assumption | exact .pt rfl | apply Rd.there)); done)))) | (apply w_ld; rfl; rfl; ((focus ((repeat (first | assumption | exact .pt rfl | apply Rd.there)); done)))) | (apply w_cp; rfl; rfl; exact hMa) | (apply w_cq; rfl; rfl; exact hF _ (by (focus ((repeat (first | assumption | exact SpR.here | apply SpR.there)); done)))) | refine spl ?_ ?_ | intro hc)
    all_goals (apply At_retR (by (first | exact .inl rfl | exact .inr rfl)) Try.results16; ((focus ((repeat (first | exact ResR.nil | (apply ResR.tmp; rfl) | (apply ResR.one; rfl; (focus ((repeat (first | assumption | exact .pt rfl | exact .sl ‹_› rfl | exact .sl1 (by first | assumption | rfl) | apply Rd.there)); done))) | (apply ResR.agg; rfl; (focus ((repeat (first | assumption | exact .pt | exact .sl ‹_› | apply RdAll.there)); done)); rfl))); done))); (refine ⟨?_, rfl⟩; rfl); (exact fun w hs => msb_fold hok hs))
  | true =>
    rw [hm] at hMa
    rw [if_neg (by simp)]
    cases hf : findM M n with
    | none =>
      rw [hf] at hF0
      have hF := hF0
      clear hF0
      dsimp only at hF ⊢
      (repeat' first | refine stp ?_ | intro v' hv' | intro (b : Nat) | (apply w_convU; rfl; rfl; omega; omega) | (apply w_convI; rfl; rfl; omega; omega) | (apply w_quoU; rfl; rfl; rfl; omega; omega; omega) | (apply w_remU; rfl; rfl; rfl; omega; omega) | (apply w_minL; rfl; rfl; rfl; omega) | (apply w_minG; rfl; rfl; rfl; omega) | (apply w_min; rfl; rfl; rfl) | (apply w_mfR; rfl; rfl) | (apply w_cvp; rfl; rfl; exact inferInstance; rfl; rfl; assumption) | (apply w_eqS2T; rfl; rfl; rfl; omega) | (apply w_eqS2F; rfl; rfl; rfl; omega) | (apply w_neS2T; rfl; rfl; rfl; omega) | (apply w_neS2F; rfl; rfl; rfl; omega) | (apply w_eqS3T; rfl; rfl; rfl; omega) | (apply w_eqS3F; rfl; rfl; rfl; omega) | (apply w_neS3T; rfl; rfl; rfl; omega) | (apply w_neS3F; rfl; rfl; rfl; omega) | (apply w_eqS3; rfl; rfl; rfl) | (apply w_neS3; rfl; rfl; rfl) | (apply w_eqS2; rfl; rfl; rfl) | (apply w_neS2; rfl; rfl; rfl) | (apply w_maxL; rfl; rfl; rfl; omega) | (apply w_maxG; rfl; rfl; rfl; omega) | (apply w_max; rfl; rfl; rfl) | (apply w_neB; rfl; rfl; rfl; rfl) | (apply w_eqB; rfl; rfl; rfl; rfl) | (apply w_ld0; rfl; rfl; ((focus ((repeat (first | assumption | exact .pt rfl | apply Rd.there)); done)))) | (apply w_ld; rfl; rfl; ((focus ((repeat (first | assumption | exact .pt rfl | apply Rd.there)); done)))) | (apply w_cp; rfl; rfl; exact hMa) | (apply w_cq; rfl; rfl; exact hF _ (by (focus ((repeat (first | assumption | exact SpR.here | apply SpR.there)); done)))) | refine spl ?_ ?_ | intro hc)
      all_goals (apply At_retR (by (first | exact .inl rfl | exact .inr rfl)) Try.results16; ((focus ((repeat (first | exact ResR.nil | (apply ResR.tmp; rfl) | (apply ResR.one; rfl; (focus ((repeat (first | assumption | exact .pt rfl | exact .sl ‹_› rfl | exact .sl1 (by first | assumption | rfl) | apply Rd.there)); done))) | (apply ResR.agg; rfl; (focus ((repeat (first | assumption | exact .pt | exact .sl ‹_› | apply RdAll.there)); done)); rfl))); done))); (refine ⟨?_, rfl⟩; rfl); (exact fun w hs => msb_fold hok hs))
    | some p =>
      obtain ⟨w0, i⟩ := p
      rw [hf] at hF0
      have hF := hF0
      clear hF0
      dsimp only at hF ⊢
      (repeat' first | refine stp ?_ | intro v' hv' | intro (b : Nat) | (apply w_convU; rfl; rfl; omega; omega) | (apply w_convI; rfl; rfl; omega; omega) | (apply w_quoU; rfl; rfl; rfl; omega; omega; omega) | (apply w_remU; rfl; rfl; rfl; omega; omega) | (apply w_minL; rfl; rfl; rfl; omega) | (apply w_minG; rfl; rfl; rfl; omega) | (apply w_min; rfl; rfl; rfl) | (apply w_mfR; rfl; rfl) | (apply w_cvp; rfl; rfl; exact inferInstance; rfl; rfl; assumption) | (apply w_eqS2T; rfl; rfl; rfl; omega) | (apply w_eqS2F; rfl; rfl; rfl; omega) | (apply w_neS2T; rfl; rfl; rfl; omega) | (apply w_neS2F; rfl; rfl; rfl; omega) | (apply w_eqS3T; rfl; rfl; rfl; omega) | (apply w_eqS3F; rfl; rfl; rfl; omega) | (apply w_neS3T; rfl; rfl; rfl; omega) | (apply w_neS3F; rfl; rfl; rfl; omega) | (apply w_eqS3; rfl; rfl; rfl) | (apply w_neS3; rfl; rfl; rfl) | (apply w_eqS2; rfl; rfl; rfl) | (apply w_neS2; rfl; rfl; rfl) | (apply w_maxL; rfl; rfl; rfl; omega) | (apply w_maxG; rfl; rfl; rfl; omega) | (apply w_max; rfl; rfl; rfl) | (apply w_neB; rfl; rfl; rfl; rfl) | (apply w_eqB; rfl; rfl; rfl; rfl) | (apply w_ld0; rfl; rfl; ((focus ((repeat (first | assumption | exact .pt rfl | apply Rd.there)); done)))) | (apply w_ld; rfl; rfl; ((focus ((repeat (first | assumption | exact .pt rfl | apply Rd.there)); done)))) | (apply w_cp; rfl; rfl; exact hMa) | (apply w_cq; rfl; rfl; exact hF _ (by (focus ((repeat (first | assumption | exact SpR.here | apply SpR.there)); done)))) | refine spl ?_ ?_ | intro hc)
      all_goals (apply At_retR (by (first | exact .inl rfl | exact .inr rfl)) Try.results16; ((focus ((repeat (first | exact ResR.nil | (apply ResR.tmp; rfl) | (apply ResR.one; rfl; (focus ((repeat (first | assumption | exact .pt rfl | exact .sl ‹_› rfl | exact .sl1 (by first | assumption | rfl) | apply Rd.there)); done))) | (apply ResR.agg; rfl; (focus ((repeat (first | assumption | exact .pt | exact .sl ‹_› | apply RdAll.there)); done)); rfl))); done))); (refine ⟨?_, rfl⟩; rfl); (exact fun w hs => msb_fold hok hs))
def waitM (M : List Wk) (w : Int) : List Ky := if 0 ≤ w ∧ w < M.length then (wkA M w.toNat).q else []
set_option maxHeartbeats 4000000 in
theorem Waiting_ok (tb : Nat) (M : List Wk) (w : Int) (R : List HP) : Called Try.prog 18 [ptr tb, int w] (msb tb M :: R) (retSl 36 2 ((waitM M w).map kyE) (msb tb M :: R)) := by
  refine Called.isl ?_
  refine Fn2 Try.func18 rfl Try.ntmps18 rfl ?_
  refine C_msb fun lv ls hok => ?_
  have hl := hok.lisl
  have hlen := hok.len
  have hfew := hok.few
  unfold waitM
  rw [hlen]
  by_cases h0 : 0 ≤ w
  · by_cases h1 : w < ls.length
    · rw [if_pos ⟨h0, h1⟩]
      obtain ⟨i, rfl⟩ := Int.eq_ofNat_of_zero_le h0
      have hi : i < ls.length := by omega
      have hp : ls[i]? = some ls[i] := List.getElem?_eq_getElem hi
      obtain ⟨hMi, hlk, hpi, hp64⟩ := hok.get hp
      rw [Int.toNat_natCast, hlk]
      have hr1 : ∀ L, Rd (sl 73 4 lv (ls.map wkE) :: L) ⟨vb lv, vo lv + i * 4 + 3 + 0, none⟩ ls[i].1 := fun L => Rd.wk (k := 3) hp rfl
      generalize ls[i] = p at *
      (repeat' first | refine stp ?_ | intro v' hv' | intro (b : Nat) | (apply w_convU; rfl; rfl; omega; omega) | (apply w_convI; rfl; rfl; omega; omega) | (apply w_quoU; rfl; rfl; rfl; omega; omega; omega) | (apply w_remU; rfl; rfl; rfl; omega; omega) | (apply w_minL; rfl; rfl; rfl; omega) | (apply w_minG; rfl; rfl; rfl; omega) | (apply w_min; rfl; rfl; rfl) | (apply w_mfR; rfl; rfl) | (apply w_cvp; rfl; rfl; exact inferInstance; rfl; rfl; assumption) | (apply w_eqS2T; rfl; rfl; rfl; omega) | (apply w_eqS2F; rfl; rfl; rfl; omega) | (apply w_neS2T; rfl; rfl; rfl; omega) | (apply w_neS2F; rfl; rfl; rfl; omega) | (apply w_eqS3T; rfl; rfl; rfl; omega) | (apply w_eqS3F; rfl; rfl; rfl; omega) | (apply w_neS3T; rfl; rfl; rfl; omega) | (apply w_neS3F; rfl; rfl; rfl; omega) | (apply w_eqS3; rfl; rfl; rfl) | (apply w_neS3; rfl; rfl; rfl) | (apply w_eqS2; rfl; rfl; rfl) | (apply w_neS2; rfl; rfl; rfl) | (apply w_maxL; rfl; rfl; rfl; omega) | (apply w_maxG; rfl; rfl; rfl; omega) | (apply w_max; rfl; rfl; rfl) | (apply w_neB; rfl; rfl; rfl; rfl) | (apply w_eqB; rfl; rfl; rfl; rfl) | (apply w_ld0; rfl; rfl; ((focus ((repeat (first | assumption | exact hr1 _ | exact .pt rfl | apply Rd.there)); done)))) | (apply w_ld; rfl; rfl; ((focus ((repeat (first | assumption | exact hr1 _ | exact .pt rfl | apply Rd.there)); done)))) | refine spl ?_ ?_ | intro hc)
      apply w_clS
      rfl; rfl; exact KClone_ok p.1 p.2.q (pt tb 67 [lv] :: sl 73 4 lv (ls.map wkE) :: qsH ls :: R) ⟨hpi, (qsSrc hp).there.there⟩ (by omega)
      (rw [List.length_map]; omega)
      intro v2 hv2
      refine ⟨by (exact kmf), ?_⟩
      (repeat' first | refine stp ?_ | intro v' hv' | intro (b : Nat) | (apply w_convU; rfl; rfl; omega; omega) | (apply w_convI; rfl; rfl; omega; omega) | (apply w_quoU; rfl; rfl; rfl; omega; omega; omega) | (apply w_remU; rfl; rfl; rfl; omega; omega) | (apply w_minL; rfl; rfl; rfl; omega) | (apply w_minG; rfl; rfl; rfl; omega) | (apply w_min; rfl; rfl; rfl) | (apply w_mfR; rfl; rfl) | (apply w_cvp; rfl; rfl; exact inferInstance; rfl; rfl; assumption) | (apply w_eqS2T; rfl; rfl; rfl; omega) | (apply w_eqS2F; rfl; rfl; rfl; omega) | (apply w_neS2T; rfl; rfl; rfl; omega) | (apply w_neS2F; rfl; rfl; rfl; omega) | (apply w_eqS3T; rfl; rfl; rfl; omega) | (apply w_eqS3F; rfl; rfl; rfl; omega) | (apply w_neS3T; rfl; rfl; rfl; omega) | (apply w_neS3F; rfl; rfl; rfl; omega) | (apply w_eqS3; rfl; rfl; rfl) | (apply w_neS3; rfl; rfl; rfl) | (apply w_eqS2; rfl; rfl; rfl) | (apply w_neS2; rfl; rfl; rfl) | (apply w_maxL; rfl; rfl; rfl; omega) | (apply w_maxG; rfl; rfl; rfl; omega) | (apply w_max; rfl; rfl; rfl) | (apply w_neB; rfl; rfl; rfl; rfl) | (apply w_eqB; rfl; rfl; rfl; rfl) | (apply w_ld0; rfl; rfl; ((focus ((repeat (first | assumption | exact hr1 _ | exact .pt rfl | apply Rd.there)); done)))) | (apply w_ld; rfl; rfl; ((focus ((repeat (first | assumption | exact hr1 _ | exact .pt rfl | apply Rd.there)); done)))) | refine spl ?_ ?_ | intro hc)
      refine At_ret1 (.inl rfl) Try.results18 rfl rfl (fun w hs => ?_)
      have h1 : Sat w (pt tb 67 [lv] :: sl 73 4 lv (ls.map wkE) :: qsH ls :: sl 36 2 v2 (p.2.q.map kyE) :: R) := Sel.sat (by (focus ((repeat (first | exact Sel.refl | (apply Sel.cons; (focus ((repeat (first | exact Del.here | apply Del.there)); done))) | refine Sel.drop ?_)); done))) hs
      exact Sel.sat (by (focus ((repeat (first | exact Sel.refl | (apply Sel.cons; (focus ((repeat (first | exact Del.here | apply Del.there)); done))) | refine Sel.drop ?_)); done))) (msb_fold hok h1)
    · rw [if_neg (fun h => h1 h.2)]
      (repeat' first | refine stp ?_ | intro v' hv' | intro (b : Nat) | (apply w_convU; rfl; rfl; omega; omega) | (apply w_convI; rfl; rfl; omega; omega) | (apply w_quoU; rfl; rfl; rfl; omega; omega; omega) | (apply w_remU; rfl; rfl; rfl; omega; omega) | (apply w_minL; rfl; rfl; rfl; omega) | (apply w_minG; rfl; rfl; rfl; omega) | (apply w_min; rfl; rfl; rfl) | (apply w_mfR; rfl; rfl) | (apply w_cvp; rfl; rfl; exact inferInstance; rfl; rfl; assumption) | (apply w_eqS2T; rfl; rfl; rfl; omega) | (apply w_eqS2F; rfl; rfl; rfl; omega) | (apply w_neS2T; rfl; rfl; rfl; omega) | (apply w_neS2F; rfl; rfl; rfl; omega) | (apply w_eqS3T; rfl; rfl; rfl; omega) | (apply w_eqS3F; rfl; rfl; rfl; omega) | (apply w_neS3T; rfl; rfl; rfl; omega) | (apply w_neS3F; rfl; rfl; rfl; omega) | (apply w_eqS3; rfl; rfl; rfl) | (apply w_neS3; rfl; rfl; rfl) | (apply w_eqS2; rfl; rfl; rfl) | (apply w_neS2; rfl; rfl; rfl) | (apply w_maxL; rfl; rfl; rfl; omega) | (apply w_maxG; rfl; rfl; rfl; omega) | (apply w_max; rfl; rfl; rfl) | (apply w_neB; rfl; rfl; rfl; rfl) | (apply w_eqB; rfl; rfl; rfl; rfl) | (apply w_ld0; rfl; rfl; ((focus ((repeat (first | assumption | exact hr1 _ | exact .pt rfl | apply Rd.there)); done)))) | (apply w_ld; rfl; rfl; ((focus ((repeat (first | assumption | exact hr1 _ | exact .pt rfl | apply Rd.there)); done)))) | refine spl ?_ ?_ | intro hc)
      all_goals
        refine At_ret1 (.inl rfl) Try.results18 rfl rfl (fun w hs => ?_)
        exact Sat.sl_nil (E := 36) (n := 2) (msb_fold hok hs)
  · rw [if_neg (fun h => h0 h.1)]
    (repeat' first | refine stp ?_ | intro v' hv' | intro (b : Nat) | (apply w_convU; rfl; rfl; omega; omega) | (apply w_convI; rfl; rfl; omega; omega) | (apply w_quoU; rfl; rfl; rfl; omega; omega; omega) | (apply w_remU; rfl; rfl; rfl; omega; omega) | (apply w_minL; rfl; rfl; rfl; omega) | (apply w_minG; rfl; rfl; rfl; omega) | (apply w_min; rfl; rfl; rfl) | (apply w_mfR; rfl; rfl) | (apply w_cvp; rfl; rfl; exact inferInstance; rfl; rfl; assumption) | (apply w_eqS2T; rfl; rfl; rfl; omega) | (apply w_eqS2F; rfl; rfl; rfl; omega) | (apply w_neS2T; rfl; rfl; rfl; omega) | (apply w_neS2F; rfl; rfl; rfl; omega) | (apply w_eqS3T; rfl; rfl; rfl; omega) | (apply w_eqS3F; rfl; rfl; rfl; omega) | (apply w_neS3T; rfl; rfl; rfl; omega) | (apply w_neS3F; rfl; rfl; rfl; omega) | (apply w_eqS3; rfl; rfl; rfl) | (apply w_neS3; rfl; rfl; rfl) | (apply w_eqS2; rfl; rfl; rfl) | (apply w_neS2; rfl; rfl; rfl) | (apply w_maxL; rfl; rfl; rfl; omega) | (apply w_maxG; rfl; rfl; rfl; omega) | (apply w_max; rfl; rfl; rfl) | (apply w_neB; rfl; rfl; rfl; rfl) | (apply w_eqB; rfl; rfl; rfl; rfl) | (apply w_ld0; rfl; rfl; ((focus ((repeat (first | assumption | exact hr1 _ | exact .pt rfl | apply Rd.there)); done)))) | (apply w_ld; rfl; rfl; ((focus ((repeat (first | assumption | exact hr1 _ | exact .pt rfl | apply Rd.there)); done)))) | refine spl ?_ ?_ | intro hc)
    all_goals
      refine At_ret1 (.inl rfl) Try.results18 rfl rfl (fun w hs => ?_)
      exact Sat.sl_nil (E := 36) (n := 2) (msb_fold hok hs)
end Go.Proofs.Ytoddjdghjpdomaa
