/- prog: the text of two programs, and what they cost. Conditions: none. -/
import Derived.Test.YtelmljbblklblaaDoorPrR
import Derived.Test.YtelmljbblklblaaDoorPrE
set_option linter.all false
set_option linter.deprecated false
namespace Go.Proofs.YtelmljbblklblaaDoor
open Go.Sep
variable [B0 : Base]
theorem progE_zero {l : List Ins} (h1 : l.length ≤ 64) (h2 : ∀ x ∈ l, mayE x = 0) : progE l = 0 := by
  unfold progE
  rw [if_neg (by omega)]
  have : (l.map mayE).find? (fun e => e != 0) = none := by
    rw [List.find?_eq_none]
    intro e he
    obtain ⟨x, hx, rfl⟩ := List.mem_map.1 he
    simp [h2 x hx]
  rw [this]; rfl
theorem progE_app {p q : List Ins} (hp : p.length ≤ 32) (hq : q.length ≤ 32) : progE (p ++ q) = 0 ↔ progE p = 0 ∧ progE q = 0 := by
  constructor
  · intro h
    have h1 := (progE_may h).2
    exact ⟨progE_zero (by omega) fun x hx => h1 x (List.mem_append_left _ hx), progE_zero (by omega) fun x hx => h1 x (List.mem_append_right _ hx)⟩
  · rintro ⟨h1, h2⟩
    refine progE_zero (by simp; omega) fun x hx => ?_
    rcases List.mem_append.1 hx with hx | hx
    · exact (progE_may h1).2 x hx
    · exact (progE_may h2).2 x hx
theorem textB_app (p q : List Ins) : textB (p ++ q) = textB p ++ textB q := by unfold textB; simp
theorem listed_cons (y : Ins) (l : List Ins) : listed (y :: l) = if y.op = 9 then [y] else y :: listed l := rfl
theorem listed_exit {p : List Ins} (h : ∃ x ∈ listed p, x.op = 9) (q : List Ins) : listed (p ++ q) = listed p := by
  induction p with
  | nil => obtain ⟨x, hx, _⟩ := h; cases hx
  | cons y p ih =>
    rw [List.cons_append, listed_cons, listed_cons]
    rw [listed_cons] at h
    by_cases h9 : y.op = 9
    · rw [if_pos h9, if_pos h9]
    · rw [if_neg h9] at h
      rw [if_neg h9, if_neg h9, ih]
      obtain ⟨x, hx, hx9⟩ := h
      rcases List.mem_cons.1 hx with rfl | hx
      · exact absurd hx9 h9
      · exact ⟨x, hx, hx9⟩
theorem listed_noexit {p : List Ins} (h : ∀ x ∈ listed p, x.op ≠ 9) (q : List Ins) : listed p = p ∧ listed (p ++ q) = p ++ listed q := by
  induction p with
  | nil => exact ⟨rfl, rfl⟩
  | cons y p ih =>
    rw [List.cons_append, listed_cons, listed_cons]
    rw [listed_cons] at h
    by_cases h9 : y.op = 9
    · rw [if_pos h9] at h
      exact absurd h9 (h y (by simp))
    · rw [if_neg h9] at h
      obtain ⟨i1, i2⟩ := ih fun x hx => h x (List.mem_cons_of_mem _ hx)
      rw [if_neg h9, if_neg h9, i1, i2]
      exact ⟨rfl, rfl⟩
theorem costFold_add (l : List Ins) : ∀ k : Int, l.foldl costN k = k + l.foldl costN 0 := by
  induction l with
  | nil => intro k; simp
  | cons x l ih =>
    intro k
    rw [List.foldl_cons, List.foldl_cons, ih, ih (costN 0 x)]
    unfold costN
    split <;> omega
theorem sumC_app (p q : List Ins) : sumC (p ++ q) = sumC p + sumC q := by
  unfold sumC
  rw [List.foldl_append, costFold_add]
theorem sumC_bounds {l : List Ins} (h : progE l = 0) : 0 ≤ sumC (listed l) ∧ sumC (listed l) ≤ 64 * 1099511627776 := by
  obtain ⟨h1, h2⟩ := progE_may h
  have h3 := cost_fold_bounds (l := listed l) (fun x hx => h2 x (listed_mem hx)) 0 (Int.le_refl _)
  have h4 := listed_len l
  exact ⟨h3.1, by have := h3.2; unfold sumC; omega⟩
/-- What two programs cost. -/
theorem cost_exit {p q : List Ins} (hp : p.length ≤ 32) (hq : q.length ≤ 32) (h1 : progE p = 0) (h2 : progE q = 0) (h : ∃ x ∈ listed p, x.op = 9) : costM (p ++ q) = costM p := by
  have e := (progE_app hp hq).2 ⟨h1, h2⟩
  unfold costM
  rw [listed_exit h q, e, h1]
theorem cost_one {p : List Ins} (h1 : progE p = 0) : costM p = if 1099511627776 ≤ sumC (listed p) then (0, 11) else (sumC (listed p), 0) := by
  unfold costM
  rw [if_neg (by rw [h1]; decide)]
theorem cost_both {p q : List Ins} (hp : p.length ≤ 32) (hq : q.length ≤ 32) (h1 : progE p = 0) (h2 : progE q = 0) (h : ∀ x ∈ listed p, x.op ≠ 9) :
    costM (p ++ q) = if 1099511627776 ≤ sumC (listed p) + sumC (listed q) then (0, 11) else (sumC (listed p) + sumC (listed q), 0) := by
  obtain ⟨l1, l2⟩ := listed_noexit h q
  rw [cost_one ((progE_app hp hq).2 ⟨h1, h2⟩), l2, sumC_app, l1]
theorem joins_law {p q : List Ins} (hp : p.length ≤ 32) (hq : q.length ≤ 32) (h1 : progE p = 0) (h2 : progE q = 0) {a h b i c j : Int} (e1 : costM p = (a, h)) (e2 : costM q = (b, i)) (e3 : costM (p ++ q) = (c, j)) :
    (0 ≤ a ∧ a < 1099511627776 ∧ 0 ≤ b ∧ b < 1099511627776) ∧ ((∃ x ∈ listed p, x.op = 9) → c = a ∧ j = h) ∧
    ((∀ x ∈ listed p, x.op ≠ 9) → ((h ≠ 0 ∨ i ≠ 0 ∨ 1099511627776 ≤ a + b) → j = 11 ∧ c = 0) ∧ (¬ (h ≠ 0 ∨ i ≠ 0 ∨ 1099511627776 ≤ a + b) → j = 0 ∧ c = a + b)) := by
  have b1 := sumC_bounds h1
  have b2 := sumC_bounds h2
  have k3 := cost_both hp hq h1 h2
  have k4 := cost_exit hp hq h1 h2
  rw [cost_one h1] at e1 k4
  rw [cost_one h2] at e2
  rw [e3] at k3 k4
  generalize sumC (listed p) = A at *
  generalize sumC (listed q) = B at *
  have f1 : (1099511627776 ≤ A ∧ a = 0 ∧ h = 11) ∨ (A < 1099511627776 ∧ a = A ∧ h = 0) := by
    by_cases hh : 1099511627776 ≤ A
    · rw [if_pos hh] at e1; injection e1 with x1 x2; exact .inl ⟨hh, x1.symm, x2.symm⟩
    · rw [if_neg hh] at e1; injection e1 with x1 x2; exact .inr ⟨by omega, x1.symm, x2.symm⟩
  have f2 : (1099511627776 ≤ B ∧ b = 0 ∧ i = 11) ∨ (B < 1099511627776 ∧ b = B ∧ i = 0) := by
    by_cases hh : 1099511627776 ≤ B
    · rw [if_pos hh] at e2; injection e2 with x1 x2; exact .inl ⟨hh, x1.symm, x2.symm⟩
    · rw [if_neg hh] at e2; injection e2 with x1 x2; exact .inr ⟨by omega, x1.symm, x2.symm⟩
  refine ⟨by omega, fun hx => ?_, fun hx => ?_⟩
  · have k5 := k4 hx
    rw [e1] at k5; injection k5 with x1 x2; exact ⟨x1, x2⟩
  · have k5 := k3 hx
    clear k3 k4 e1 e2 e3
    by_cases hh : 1099511627776 ≤ A + B
    · rw [if_pos hh] at k5; injection k5 with x1 x2
      exact ⟨fun _ => ⟨x2, x1⟩, fun hn => by omega⟩
    · rw [if_neg hh] at k5; injection k5 with x1 x2
      exact ⟨fun hn => by omega, fun hn => ⟨x2, by omega⟩⟩
set_option maxHeartbeats 4000000 in
theorem ProgJoins_ok (v u : Value) (p q : List Ins) (R : List HP) [hV : HasV R] (hP : PrIn R v p) (hQ : PrIn R u q) : Called Tryd.prog 4 [v, u] R (is (.bool true) R) := by
  have hv := hP.isl
  have hu := hQ.isl
  have hN := hv.len
  have hNu := hu.len
  by_cases h32 : 32 < p.length ∨ 32 < q.length
  · clear hP hQ
    refine Fn2 Tryd.func4 rfl Tryd.ntmps4 rfl ?_
    (repeat' first | refine stp ?_ | intro v' hv' | intro (b : Nat) | (apply w_convU; rfl; rfl; omega; omega) | (apply w_convI; rfl; rfl; omega; omega) | (apply w_quoU; rfl; rfl; rfl; omega; omega; omega) | (apply w_remU; rfl; rfl; rfl; omega; omega) | (apply w_minL; rfl; rfl; rfl; omega) | (apply w_minG; rfl; rfl; rfl; omega) | (apply w_min; rfl; rfl; rfl) | (apply w_mfR; rfl; rfl) | (apply w_cvp; rfl; rfl; exact inferInstance; rfl; rfl; assumption) | (apply w_eqS2T; rfl; rfl; rfl; omega) | (apply w_eqS2F; rfl; rfl; rfl; omega) | (apply w_neS2T; rfl; rfl; rfl; omega) | (apply w_neS2F; rfl; rfl; rfl; omega) | (apply w_eqS3T; rfl; rfl; rfl; omega) | (apply w_eqS3F; rfl; rfl; rfl; omega) | (apply w_neS3T; rfl; rfl; rfl; omega) | (apply w_neS3F; rfl; rfl; rfl; omega) | (apply w_eqS3; rfl; rfl; rfl) | (apply w_neS3; rfl; rfl; rfl) | (apply w_eqS2; rfl; rfl; rfl) | (apply w_neS2; rfl; rfl; rfl) | (apply w_maxL; rfl; rfl; rfl; omega) | (apply w_maxG; rfl; rfl; rfl; omega) | (apply w_max; rfl; rfl; rfl) | (apply w_neB; rfl; rfl; rfl; rfl) | (apply w_eqB; rfl; rfl; rfl; rfl) | (apply w_strA; rfl; rfl; rfl; first | omega | (simp only [List.length_append, List.length_cons, List.length_nil]; omega)) | (apply w_strET; rfl; rfl; rfl; assumption) | (apply w_strEF; rfl; rfl; rfl; assumption) | (apply w_strNF; rfl; rfl; rfl; assumption) | (apply w_strNT; rfl; rfl; rfl; assumption) | (apply w_strE; rfl; rfl; rfl; rfl) | (apply w_strN; rfl; rfl; rfl; rfl) | (apply w_strL; rfl; rfl) | (apply w_cd; rfl; rfl; exact awake_ok _; ((exact kmf))) | (apply w_cd; rfl; rfl; exact hPp _ inferInstance (by (focus ((repeat (first | assumption | exact PrIn.ofsl (by assumption) | apply PrIn.there)); done))); ((exact kmf))) | (apply w_cd; rfl; rfl; exact hPq _ inferInstance (by (focus ((repeat (first | assumption | exact PrIn.ofsl (by assumption) | apply PrIn.there)); done))); ((exact kmf))) | (apply w_cd; rfl; rfl; exact hPa _ inferInstance (by (focus ((repeat (first | assumption | exact PrIn.ofsl (by assumption) | apply PrIn.there)); done))); ((exact kmf))) | (apply w_cd; rfl; rfl; exact hCp _ (by (focus ((repeat (first | assumption | exact PrIn.ofsl (by assumption) | apply PrIn.there)); done))); ((exact kmf))) | (apply w_cd; rfl; rfl; exact hCq _ (by (focus ((repeat (first | assumption | exact PrIn.ofsl (by assumption) | apply PrIn.there)); done))); ((exact kmf))) | (apply w_cd; rfl; rfl; exact hCa _ (by (focus ((repeat (first | assumption | exact PrIn.ofsl (by assumption) | apply PrIn.there)); done))); ((exact kmf))) | refine spl ?_ ?_ | intro hc)
    all_goals first | (exfalso; omega) | skip
    all_goals (refine At_ret1 (by (first | exact .inl rfl | exact .inr rfl)) Tryd.results4 rfl ⟨by rfl, rfl⟩ (by (exact frm)))
  · have hp32 : p.length ≤ 32 := by omega
    have hq32 : q.length ≤ 32 := by omega
    refine Fn2 Tryd.func4 rfl Tryd.ntmps4 rfl ?_
    (repeat' first | refine stp ?_ | intro v' hv' | intro (b : Nat) | (apply w_convU; rfl; rfl; omega; omega) | (apply w_convI; rfl; rfl; omega; omega) | (apply w_quoU; rfl; rfl; rfl; omega; omega; omega) | (apply w_remU; rfl; rfl; rfl; omega; omega) | (apply w_minL; rfl; rfl; rfl; omega) | (apply w_minG; rfl; rfl; rfl; omega) | (apply w_min; rfl; rfl; rfl) | (apply w_mfR; rfl; rfl) | (apply w_cvp; rfl; rfl; exact inferInstance; rfl; rfl; assumption) | (apply w_eqS2T; rfl; rfl; rfl; omega) | (apply w_eqS2F; rfl; rfl; rfl; omega) | (apply w_neS2T; rfl; rfl; rfl; omega) | (apply w_neS2F; rfl; rfl; rfl; omega) | (apply w_eqS3T; rfl; rfl; rfl; omega) | (apply w_eqS3F; rfl; rfl; rfl; omega) | (apply w_neS3T; rfl; rfl; rfl; omega) | (apply w_neS3F; rfl; rfl; rfl; omega) | (apply w_eqS3; rfl; rfl; rfl) | (apply w_neS3; rfl; rfl; rfl) | (apply w_eqS2; rfl; rfl; rfl) | (apply w_neS2; rfl; rfl; rfl) | (apply w_maxL; rfl; rfl; rfl; omega) | (apply w_maxG; rfl; rfl; rfl; omega) | (apply w_max; rfl; rfl; rfl) | (apply w_neB; rfl; rfl; rfl; rfl) | (apply w_eqB; rfl; rfl; rfl; rfl) | (apply w_strA; rfl; rfl; rfl; first | omega | (simp only [List.length_append, List.length_cons, List.length_nil]; omega)) | (apply w_strET; rfl; rfl; rfl; assumption) | (apply w_strEF; rfl; rfl; rfl; assumption) | (apply w_strNF; rfl; rfl; rfl; assumption) | (apply w_strNT; rfl; rfl; rfl; assumption) | (apply w_strE; rfl; rfl; rfl; rfl) | (apply w_strN; rfl; rfl; rfl; rfl) | (apply w_strL; rfl; rfl) | (apply w_cd; rfl; rfl; exact awake_ok _; ((exact kmf))) | (apply w_cd; rfl; rfl; exact hPp _ inferInstance (by (focus ((repeat (first | assumption | exact PrIn.ofsl (by assumption) | apply PrIn.there)); done))); ((exact kmf))) | (apply w_cd; rfl; rfl; exact hPq _ inferInstance (by (focus ((repeat (first | assumption | exact PrIn.ofsl (by assumption) | apply PrIn.there)); done))); ((exact kmf))) | (apply w_cd; rfl; rfl; exact hPa _ inferInstance (by (focus ((repeat (first | assumption | exact PrIn.ofsl (by assumption) | apply PrIn.there)); done))); ((exact kmf))) | (apply w_cd; rfl; rfl; exact hCp _ (by (focus ((repeat (first | assumption | exact PrIn.ofsl (by assumption) | apply PrIn.there)); done))); ((exact kmf))) | (apply w_cd; rfl; rfl; exact hCq _ (by (focus ((repeat (first | assumption | exact PrIn.ofsl (by assumption) | apply PrIn.there)); done))); ((exact kmf))) | (apply w_cd; rfl; rfl; exact hCa _ (by (focus ((repeat (first | assumption | exact PrIn.ofsl (by assumption) | apply PrIn.there)); done))); ((exact kmf))) | refine spl ?_ ?_ | intro hc)
    all_goals first | (exfalso; omega) | skip
    refine W_sat (fun w h => h.sl_nil (E := 27) (n := 2)) ?_
    apply w_ap (es := p.map insE)
    rfl; rfl; rfl; ((focus ((repeat (first | exact Del.here | apply Del.there)); done))); exact hP.src.there; (simp [List.all_map, insE, Value.oneCell']); (simp; omega); (simp; omega)
    intro v2 hv2
    refine ⟨by (exact kmf), ?_⟩
    (repeat' first | refine stp ?_ | intro v' hv' | intro (b : Nat) | (apply w_convU; rfl; rfl; omega; omega) | (apply w_convI; rfl; rfl; omega; omega) | (apply w_quoU; rfl; rfl; rfl; omega; omega; omega) | (apply w_remU; rfl; rfl; rfl; omega; omega) | (apply w_minL; rfl; rfl; rfl; omega) | (apply w_minG; rfl; rfl; rfl; omega) | (apply w_min; rfl; rfl; rfl) | (apply w_mfR; rfl; rfl) | (apply w_cvp; rfl; rfl; exact inferInstance; rfl; rfl; assumption) | (apply w_eqS2T; rfl; rfl; rfl; omega) | (apply w_eqS2F; rfl; rfl; rfl; omega) | (apply w_neS2T; rfl; rfl; rfl; omega) | (apply w_neS2F; rfl; rfl; rfl; omega) | (apply w_eqS3T; rfl; rfl; rfl; omega) | (apply w_eqS3F; rfl; rfl; rfl; omega) | (apply w_neS3T; rfl; rfl; rfl; omega) | (apply w_neS3F; rfl; rfl; rfl; omega) | (apply w_eqS3; rfl; rfl; rfl) | (apply w_neS3; rfl; rfl; rfl) | (apply w_eqS2; rfl; rfl; rfl) | (apply w_neS2; rfl; rfl; rfl) | (apply w_maxL; rfl; rfl; rfl; omega) | (apply w_maxG; rfl; rfl; rfl; omega) | (apply w_max; rfl; rfl; rfl) | (apply w_neB; rfl; rfl; rfl; rfl) | (apply w_eqB; rfl; rfl; rfl; rfl) | (apply w_strA; rfl; rfl; rfl; first | omega | (simp only [List.length_append, List.length_cons, List.length_nil]; omega)) | (apply w_strET; rfl; rfl; rfl; assumption) | (apply w_strEF; rfl; rfl; rfl; assumption) | (apply w_strNF; rfl; rfl; rfl; assumption) | (apply w_strNT; rfl; rfl; rfl; assumption) | (apply w_strE; rfl; rfl; rfl; rfl) | (apply w_strN; rfl; rfl; rfl; rfl) | (apply w_strL; rfl; rfl) | (apply w_cd; rfl; rfl; exact awake_ok _; ((exact kmf))) | (apply w_cd; rfl; rfl; exact hPp _ inferInstance (by (focus ((repeat (first | assumption | exact PrIn.ofsl (by assumption) | apply PrIn.there)); done))); ((exact kmf))) | (apply w_cd; rfl; rfl; exact hPq _ inferInstance (by (focus ((repeat (first | assumption | exact PrIn.ofsl (by assumption) | apply PrIn.there)); done))); ((exact kmf))) | (apply w_cd; rfl; rfl; exact hPa _ inferInstance (by (focus ((repeat (first | assumption | exact PrIn.ofsl (by assumption) | apply PrIn.there)); done))); ((exact kmf))) | (apply w_cd; rfl; rfl; exact hCp _ (by (focus ((repeat (first | assumption | exact PrIn.ofsl (by assumption) | apply PrIn.there)); done))); ((exact kmf))) | (apply w_cd; rfl; rfl; exact hCq _ (by (focus ((repeat (first | assumption | exact PrIn.ofsl (by assumption) | apply PrIn.there)); done))); ((exact kmf))) | (apply w_cd; rfl; rfl; exact hCa _ (by (focus ((repeat (first | assumption | exact PrIn.ofsl (by assumption) | apply PrIn.there)); done))); ((exact kmf))) | refine spl ?_ ?_ | intro hc)
    apply w_ap (es := q.map insE)
    rfl; rfl; rfl; ((focus ((repeat (first | exact Del.here | apply Del.there)); done))); exact hQ.src.there; (simp [List.all_map, insE, Value.oneCell']); (simp; omega); (simp; omega)
    intro v3 hv3
    refine ⟨by (exact kmf), ?_⟩
    have hv4 : IsSl v3 (p ++ q).length := by simpa using hv3
    refine W_sat (L' := sl 27 2 v3 ((p ++ q).map insE) :: R) (fun w h => by rw [List.map_append]; exact h) ?_
    have hA : PrIn (sl 27 2 v3 ((p ++ q).map insE) :: R) v3 (p ++ q) := PrIn.ofsl hv4
    clear hv2 hv3
    have hPp := fun X (hX : HasV X) (h : PrIn X v p) => Print_ok v p X h
    have hPq := fun X (hX : HasV X) (h : PrIn X u q) => Print_ok u q X h
    have hPa := fun X (hX : HasV X) (h : PrIn X v3 (p ++ q)) => Print_ok v3 (p ++ q) X h
    have hae := progE_app hp32 hq32
    by_cases hpq : progE p = 0 ∧ progE q = 0
    · obtain ⟨hpe, hqe⟩ := hpq
      have haz := hae.2 ⟨hpe, hqe⟩
      rw [print_snd hpe] at hPp
      rw [print_snd hqe] at hPq
      rw [print_snd haz, textB_app] at hPa
      have lp := textB_len (progE_may hpe).2
      have lq := textB_len (progE_may hqe).2
      have hCp := fun X (h : PrIn X v p) => Cost_ok v p X h
      have hCq := fun X (h : PrIn X u q) => Cost_ok u q X h
      have hCa := fun X (h : PrIn X v3 (p ++ q)) => Cost_ok v3 (p ++ q) X h
      obtain ⟨a, h, e1⟩ : ∃ a h, costM p = (a, h) := ⟨_, _, rfl⟩
      obtain ⟨b5, i, e2⟩ : ∃ a h, costM q = (a, h) := ⟨_, _, rfl⟩
      obtain ⟨c, j, e3⟩ : ∃ a h, costM (p ++ q) = (a, h) := ⟨_, _, rfl⟩
      obtain ⟨z1, z2, z3⟩ := joins_law hp32 hq32 hpe hqe e1 e2 e3
      rw [e1] at hCp
      rw [e2] at hCq
      rw [e3] at hCa
      clear e1 e2 e3 hae haz
      have lpp : (textB p).length ≤ 70000000000000 := by omega
      have lqq : (textB q).length ≤ 70000000000000 := by omega
      clear lp lq hpe hqe
      generalize textB p = tp at *
      generalize textB q = tq at *
      have htt : tp ++ tq = tp ++ tq := rfl
      dsimp only at hPp hPq hPa hCp hCq hCa
      (repeat' first | refine stp ?_ | intro v' hv' | intro (b : Nat) | (apply w_convU; rfl; rfl; omega; omega) | (apply w_convI; rfl; rfl; omega; omega) | (apply w_quoU; rfl; rfl; rfl; omega; omega; omega) | (apply w_remU; rfl; rfl; rfl; omega; omega) | (apply w_minL; rfl; rfl; rfl; omega) | (apply w_minG; rfl; rfl; rfl; omega) | (apply w_min; rfl; rfl; rfl) | (apply w_mfR; rfl; rfl) | (apply w_cvp; rfl; rfl; exact inferInstance; rfl; rfl; assumption) | (apply w_eqS2T; rfl; rfl; rfl; omega) | (apply w_eqS2F; rfl; rfl; rfl; omega) | (apply w_neS2T; rfl; rfl; rfl; omega) | (apply w_neS2F; rfl; rfl; rfl; omega) | (apply w_eqS3T; rfl; rfl; rfl; omega) | (apply w_eqS3F; rfl; rfl; rfl; omega) | (apply w_neS3T; rfl; rfl; rfl; omega) | (apply w_neS3F; rfl; rfl; rfl; omega) | (apply w_eqS3; rfl; rfl; rfl) | (apply w_neS3; rfl; rfl; rfl) | (apply w_eqS2; rfl; rfl; rfl) | (apply w_neS2; rfl; rfl; rfl) | (apply w_maxL; rfl; rfl; rfl; omega) | (apply w_maxG; rfl; rfl; rfl; omega) | (apply w_max; rfl; rfl; rfl) | (apply w_neB; rfl; rfl; rfl; rfl) | (apply w_eqB; rfl; rfl; rfl; rfl) | (apply w_strA; rfl; rfl; rfl; first | omega | (simp only [List.length_append, List.length_cons, List.length_nil]; omega)) | (apply w_strET; rfl; rfl; rfl; assumption) | (apply w_strEF; rfl; rfl; rfl; assumption) | (apply w_strNF; rfl; rfl; rfl; assumption) | (apply w_strNT; rfl; rfl; rfl; assumption) | (apply w_strE; rfl; rfl; rfl; rfl) | (apply w_strN; rfl; rfl; rfl; rfl) | (apply w_strL; rfl; rfl) | (apply w_cd; rfl; rfl; exact awake_ok _; ((exact kmf))) | (apply w_cd; rfl; rfl; exact hPp _ inferInstance (by (focus ((repeat (first | assumption | exact PrIn.ofsl (by assumption) | apply PrIn.there)); done))); ((exact kmf))) | (apply w_cd; rfl; rfl; exact hPq _ inferInstance (by (focus ((repeat (first | assumption | exact PrIn.ofsl (by assumption) | apply PrIn.there)); done))); ((exact kmf))) | (apply w_cd; rfl; rfl; exact hPa _ inferInstance (by (focus ((repeat (first | assumption | exact PrIn.ofsl (by assumption) | apply PrIn.there)); done))); ((exact kmf))) | (apply w_cd; rfl; rfl; exact hCp _ (by (focus ((repeat (first | assumption | exact PrIn.ofsl (by assumption) | apply PrIn.there)); done))); ((exact kmf))) | (apply w_cd; rfl; rfl; exact hCq _ (by (focus ((repeat (first | assumption | exact PrIn.ofsl (by assumption) | apply PrIn.there)); done))); ((exact kmf))) | (apply w_cd; rfl; rfl; exact hCa _ (by (focus ((repeat (first | assumption | exact PrIn.ofsl (by assumption) | apply PrIn.there)); done))); ((exact kmf))) | refine spl ?_ ?_ | intro hc)
      refine W_run (.inl rfl) rfl (cl rfl (Listed_ok v p _ (by (focus ((repeat (first | assumption | exact PrIn.ofsl (by assumption) | apply PrIn.there)); done))) (by omega))) ?_
      rintro _ _ ⟨v5, rfl, hv5, rfl⟩
      (repeat' first | refine stp ?_ | intro v' hv' | intro (b : Nat) | (apply w_convU; rfl; rfl; omega; omega) | (apply w_convI; rfl; rfl; omega; omega) | (apply w_quoU; rfl; rfl; rfl; omega; omega; omega) | (apply w_remU; rfl; rfl; rfl; omega; omega) | (apply w_minL; rfl; rfl; rfl; omega) | (apply w_minG; rfl; rfl; rfl; omega) | (apply w_min; rfl; rfl; rfl) | (apply w_mfR; rfl; rfl) | (apply w_cvp; rfl; rfl; exact inferInstance; rfl; rfl; assumption) | (apply w_eqS2T; rfl; rfl; rfl; omega) | (apply w_eqS2F; rfl; rfl; rfl; omega) | (apply w_neS2T; rfl; rfl; rfl; omega) | (apply w_neS2F; rfl; rfl; rfl; omega) | (apply w_eqS3T; rfl; rfl; rfl; omega) | (apply w_eqS3F; rfl; rfl; rfl; omega) | (apply w_neS3T; rfl; rfl; rfl; omega) | (apply w_neS3F; rfl; rfl; rfl; omega) | (apply w_eqS3; rfl; rfl; rfl) | (apply w_neS3; rfl; rfl; rfl) | (apply w_eqS2; rfl; rfl; rfl) | (apply w_neS2; rfl; rfl; rfl) | (apply w_maxL; rfl; rfl; rfl; omega) | (apply w_maxG; rfl; rfl; rfl; omega) | (apply w_max; rfl; rfl; rfl) | (apply w_neB; rfl; rfl; rfl; rfl) | (apply w_eqB; rfl; rfl; rfl; rfl) | (apply w_strA; rfl; rfl; rfl; first | omega | (simp only [List.length_append, List.length_cons, List.length_nil]; omega)) | (apply w_strET; rfl; rfl; rfl; assumption) | (apply w_strEF; rfl; rfl; rfl; assumption) | (apply w_strNF; rfl; rfl; rfl; assumption) | (apply w_strNT; rfl; rfl; rfl; assumption) | (apply w_strE; rfl; rfl; rfl; rfl) | (apply w_strN; rfl; rfl; rfl; rfl) | (apply w_strL; rfl; rfl) | (apply w_cd; rfl; rfl; exact awake_ok _; ((exact kmf))) | (apply w_cd; rfl; rfl; exact hPp _ inferInstance (by (focus ((repeat (first | assumption | exact PrIn.ofsl (by assumption) | apply PrIn.there)); done))); ((exact kmf))) | (apply w_cd; rfl; rfl; exact hPq _ inferInstance (by (focus ((repeat (first | assumption | exact PrIn.ofsl (by assumption) | apply PrIn.there)); done))); ((exact kmf))) | (apply w_cd; rfl; rfl; exact hPa _ inferInstance (by (focus ((repeat (first | assumption | exact PrIn.ofsl (by assumption) | apply PrIn.there)); done))); ((exact kmf))) | (apply w_cd; rfl; rfl; exact hCp _ (by (focus ((repeat (first | assumption | exact PrIn.ofsl (by assumption) | apply PrIn.there)); done))); ((exact kmf))) | (apply w_cd; rfl; rfl; exact hCq _ (by (focus ((repeat (first | assumption | exact PrIn.ofsl (by assumption) | apply PrIn.there)); done))); ((exact kmf))) | (apply w_cd; rfl; rfl; exact hCa _ (by (focus ((repeat (first | assumption | exact PrIn.ofsl (by assumption) | apply PrIn.there)); done))); ((exact kmf))) | refine spl ?_ ?_ | intro hc)
      all_goals clear hPp hPq hPa hCp hCq hCa
      all_goals have hN5 := hv5.len
      all_goals refine C_loopK [4, 20, 105, 106, 107, 108, 109, 110, 111, 112, 113, 114, 115, 116, 117, 118, 119, 120, 121, 122, 123, 124, 125, 126, 127] (fun k : Nat => (listed p).length - k) (fun k => [(20, int k)]) (fun _ => sl 27 2 v5 ((listed p).map insE) :: sl 27 2 v3 ((p ++ q).map insE) :: R) (fun k => k ≤ (listed p).length ∧ ∀ x ∈ (listed p).take k, x.op ≠ 9) 0 ⟨Nat.zero_le _, by simp⟩ (by (focus ((repeat (first | exact Keep.nil | apply Keep.drop rfl | apply Keep.keep rfl)); done))) (by (exact sbf)) (fun w h => h) ?_
      all_goals rintro k ⟨hk, hz⟩
      all_goals dsimp only [List.cons_append, List.nil_append]
      all_goals by_cases hlt : k < (listed p).length
      all_goals first | (have hx : (listed p)[k]? = some (listed p)[k] := by simp [hlt]) | (have hz' : ∀ x ∈ listed p, x.op ≠ 9 := by (have hk' : k = (listed p).length := by omega); (rw [hk', List.take_length] at hz); exact hz)
      all_goals first | (have hr0 : Rd (sl 27 2 v5 ((listed p).map insE) :: sl 27 2 v3 ((p ++ q).map insE) :: R) ⟨vb v5, vo v5 + k * 2 + 0, none⟩ (int (listed p)[k].op) := Rd.src Src.sl (i := k) (k := 0) (e := insE (listed p)[k]) (by simp [hlt]) rfl) | skip
      all_goals first | (have htk : (listed p).take (k + 1) = (listed p).take k ++ [(listed p)[k]] := by rw [List.take_add_one]; simp [hlt]) | skip
      all_goals first | (have z4 := z3 hz') | (have z5 : (listed p)[k].op = 9 → c = a ∧ j = h := fun h9 => z2 ⟨_, List.mem_of_getElem? hx, h9⟩)
      all_goals clear z2 z3
      all_goals first | (generalize (listed p)[k] = x at *; by_cases h9 : x.op = 9; (have z6 := z5 h9)) | skip
      all_goals (repeat' first | refine stp ?_ | intro v' hv' | intro (b : Nat) | (apply w_convU; rfl; rfl; omega; omega) | (apply w_convI; rfl; rfl; omega; omega) | (apply w_quoU; rfl; rfl; rfl; omega; omega; omega) | (apply w_remU; rfl; rfl; rfl; omega; omega) | (apply w_minL; rfl; rfl; rfl; omega) | (apply w_minG; rfl; rfl; rfl; omega) | (apply w_min; rfl; rfl; rfl) | (apply w_mfR; rfl; rfl) | (apply w_cvp; rfl; rfl; exact inferInstance; rfl; rfl; assumption) | (apply w_eqS2T; rfl; rfl; rfl; omega) | (apply w_eqS2F; rfl; rfl; rfl; omega) | (apply w_neS2T; rfl; rfl; rfl; omega) | (apply w_neS2F; rfl; rfl; rfl; omega) | (apply w_eqS3T; rfl; rfl; rfl; omega) | (apply w_eqS3F; rfl; rfl; rfl; omega) | (apply w_neS3T; rfl; rfl; rfl; omega) | (apply w_neS3F; rfl; rfl; rfl; omega) | (apply w_eqS3; rfl; rfl; rfl) | (apply w_neS3; rfl; rfl; rfl) | (apply w_eqS2; rfl; rfl; rfl) | (apply w_neS2; rfl; rfl; rfl) | (apply w_maxL; rfl; rfl; rfl; omega) | (apply w_maxG; rfl; rfl; rfl; omega) | (apply w_max; rfl; rfl; rfl) | (apply w_neB; rfl; rfl; rfl; rfl) | (apply w_eqB; rfl; rfl; rfl; rfl) | (apply w_strA; rfl; rfl; rfl; first | omega | (simp only [List.length_append, List.length_cons, List.length_nil]; omega)) | (apply w_strET; rfl; rfl; rfl; assumption) | (apply w_strEF; rfl; rfl; rfl; assumption) | (apply w_strNF; rfl; rfl; rfl; assumption) | (apply w_strNT; rfl; rfl; rfl; assumption) | (apply w_strE; rfl; rfl; rfl; rfl) | (apply w_strN; rfl; rfl; rfl; rfl) | (apply w_strL; rfl; rfl) | (apply w_cd; rfl; rfl; exact awake_ok _; ((exact kmf))) | (apply w_cd; rfl; rfl; exact hPp _ inferInstance (by (focus ((repeat (first | assumption | exact PrIn.ofsl (by assumption) | apply PrIn.there)); done))); ((exact kmf))) | (apply w_cd; rfl; rfl; exact hPq _ inferInstance (by (focus ((repeat (first | assumption | exact PrIn.ofsl (by assumption) | apply PrIn.there)); done))); ((exact kmf))) | (apply w_cd; rfl; rfl; exact hPa _ inferInstance (by (focus ((repeat (first | assumption | exact PrIn.ofsl (by assumption) | apply PrIn.there)); done))); ((exact kmf))) | (apply w_cd; rfl; rfl; exact hCp _ (by (focus ((repeat (first | assumption | exact PrIn.ofsl (by assumption) | apply PrIn.there)); done))); ((exact kmf))) | (apply w_cd; rfl; rfl; exact hCq _ (by (focus ((repeat (first | assumption | exact PrIn.ofsl (by assumption) | apply PrIn.there)); done))); ((exact kmf))) | (apply w_cd; rfl; rfl; exact hCa _ (by (focus ((repeat (first | assumption | exact PrIn.ofsl (by assumption) | apply PrIn.there)); done))); ((exact kmf))) | refine spl ?_ ?_ | intro hc)
      all_goals first | (exfalso; omega) | skip
      all_goals first | ((refine At_ret1 (by (first | exact .inl rfl | exact .inr rfl)) Tryd.results4 rfl ⟨by rfl, rfl⟩ (by (exact frm)))) | (refine At_againK (k + 1) ⟨hlt, fun y hy => ?_⟩ (by omega) (by (exact sbf)) (by (exact sbf)) (fun w h => h); rw [htk] at hy; rcases List.mem_append.1 hy with hy | hy; (exact hz y hy); (simp at hy; subst hy; exact h9))
    · have hane : progE (p ++ q) ≠ 0 := fun h => hpq (hae.1 h)
      have hsn : ∀ l : List Ins, (printM l).2 = progE l := fun l => by
        unfold printM
        by_cases h : progE l = 0
        · rw [if_neg (by simpa using h)]; exact h.symm
        · rw [if_pos h]
      rw [print_fst hane] at hPa
      have hp1 := hsn p
      have hq1 := hsn q
      generalize progE (p ++ q) = g at *
      generalize printM p = pp at *
      generalize printM q = pq at *
      obtain ⟨sp, ep⟩ := pp
      obtain ⟨sq, eq⟩ := pq
      dsimp only at *
      rw [← hp1, ← hq1] at hpq
      clear hp1 hq1 hsn hae
      have hne : ep ≠ 0 ∨ eq ≠ 0 := by omega
      have hCp : True := trivial
      have hCq : True := trivial
      have hCa : True := trivial
      (repeat' first | refine stp ?_ | intro v' hv' | intro (b : Nat) | (apply w_convU; rfl; rfl; omega; omega) | (apply w_convI; rfl; rfl; omega; omega) | (apply w_quoU; rfl; rfl; rfl; omega; omega; omega) | (apply w_remU; rfl; rfl; rfl; omega; omega) | (apply w_minL; rfl; rfl; rfl; omega) | (apply w_minG; rfl; rfl; rfl; omega) | (apply w_min; rfl; rfl; rfl) | (apply w_mfR; rfl; rfl) | (apply w_cvp; rfl; rfl; exact inferInstance; rfl; rfl; assumption) | (apply w_eqS2T; rfl; rfl; rfl; omega) | (apply w_eqS2F; rfl; rfl; rfl; omega) | (apply w_neS2T; rfl; rfl; rfl; omega) | (apply w_neS2F; rfl; rfl; rfl; omega) | (apply w_eqS3T; rfl; rfl; rfl; omega) | (apply w_eqS3F; rfl; rfl; rfl; omega) | (apply w_neS3T; rfl; rfl; rfl; omega) | (apply w_neS3F; rfl; rfl; rfl; omega) | (apply w_eqS3; rfl; rfl; rfl) | (apply w_neS3; rfl; rfl; rfl) | (apply w_eqS2; rfl; rfl; rfl) | (apply w_neS2; rfl; rfl; rfl) | (apply w_maxL; rfl; rfl; rfl; omega) | (apply w_maxG; rfl; rfl; rfl; omega) | (apply w_max; rfl; rfl; rfl) | (apply w_neB; rfl; rfl; rfl; rfl) | (apply w_eqB; rfl; rfl; rfl; rfl) | (apply w_strA; rfl; rfl; rfl; first | omega | (simp only [List.length_append, List.length_cons, List.length_nil]; omega)) | (apply w_strET; rfl; rfl; rfl; assumption) | (apply w_strEF; rfl; rfl; rfl; assumption) | (apply w_strNF; rfl; rfl; rfl; assumption) | (apply w_strNT; rfl; rfl; rfl; assumption) | (apply w_strE; rfl; rfl; rfl; rfl) | (apply w_strN; rfl; rfl; rfl; rfl) | (apply w_strL; rfl; rfl) | (apply w_cd; rfl; rfl; exact awake_ok _; ((exact kmf))) | (apply w_cd; rfl; rfl; exact hPp _ inferInstance (by (focus ((repeat (first | assumption | exact PrIn.ofsl (by assumption) | apply PrIn.there)); done))); ((exact kmf))) | (apply w_cd; rfl; rfl; exact hPq _ inferInstance (by (focus ((repeat (first | assumption | exact PrIn.ofsl (by assumption) | apply PrIn.there)); done))); ((exact kmf))) | (apply w_cd; rfl; rfl; exact hPa _ inferInstance (by (focus ((repeat (first | assumption | exact PrIn.ofsl (by assumption) | apply PrIn.there)); done))); ((exact kmf))) | (apply w_cd; rfl; rfl; exact hCp _ (by (focus ((repeat (first | assumption | exact PrIn.ofsl (by assumption) | apply PrIn.there)); done))); ((exact kmf))) | (apply w_cd; rfl; rfl; exact hCq _ (by (focus ((repeat (first | assumption | exact PrIn.ofsl (by assumption) | apply PrIn.there)); done))); ((exact kmf))) | (apply w_cd; rfl; rfl; exact hCa _ (by (focus ((repeat (first | assumption | exact PrIn.ofsl (by assumption) | apply PrIn.there)); done))); ((exact kmf))) | refine spl ?_ ?_ | intro hc)
      all_goals first | (exfalso; omega) | skip
      all_goals (refine At_ret1 (by (first | exact .inl rfl | exact .inr rfl)) Tryd.results4 rfl ⟨by rfl, rfl⟩ (by (exact frm)))
end Go.Proofs.YtelmljbblklblaaDoor
