/- RobinKeeps: the walk. Conditions: none. -/
import Derived.Test.YtenpeogkefmclaaRobV
set_option linter.all false
set_option linter.deprecated false
namespace Go.Proofs.Ytenpeogkefmclaa
open Go.Sep
variable [B0 : Base]

theorem OpIn.there {A : HP} {R : List HP} {o : OpM} (h : OpIn R o) : OpIn (A :: R) o := ⟨h.n, h.isl, h.src.there⟩
theorem OpsIn.there {A : HP} {R : List HP} {l : Value} {ops : List OpM} (h : OpsIn R l ops) : OpsIn (A :: R) l ops := ⟨h.isl, h.src.there, fun o ho => (h.each o ho).there⟩
theorem RdAll.src {L : List HP} {x : Value} {n : Nat} {es : List (List Value)} (h : Src L x n es) {i : Nat} {e : List Value} (h1 : es[i]? = some e) : RdAll L (vb x) (vo x + i * n) e :=
  RdAll.at fun k u hu => Rd.src h h1 hu
theorem opsRd {R : List HP} {l : Value} {ops : List OpM} (h : OpsIn R l ops) {k : Nat} (hk : k < ops.length) : RdAll R (vb l) (vo l + k * 4) (opE ops[k]) := RdAll.src h.src (by simp [hk])
theorem take_filter {l : List Int} {id : Int} {k : Nat} (hk : k < l.length) : (l.take (k + 1)).filter (fun i => decide (i ≠ id)) = if l[k] = id then (l.take k).filter (fun i => decide (i ≠ id)) else (l.take k).filter (fun i => decide (i ≠ id)) ++ [l[k]] := by
  have e : l.take (k + 1) = l.take k ++ [l[k]] := by rw [List.take_add_one]; simp [hk]
  rw [e, List.filter_append]
  split
  · rename_i h; simp [h]
  · rename_i h; simp [h]
def flt (id : Int) (l : List Int) (k : Nat) : List Int := (l.take k).filter fun i => decide (i ≠ id)
theorem flt_len (id : Int) (l : List Int) (k : Nat) : (flt id l k).length ≤ k := Nat.le_trans (List.length_filter_le ..) (List.length_take_le ..)
theorem flt_yes {l : List Int} {id u : Int} {k : Nat} (hu : l[k]? = some u) (h : u = id) : flt id l (k + 1) = flt id l k := by
  obtain ⟨hk, he⟩ := List.getElem?_eq_some_iff.1 hu
  unfold flt; rw [take_filter hk, if_pos (he.trans h)]
theorem flt_no {l : List Int} {id u : Int} {k : Nat} (hu : l[k]? = some u) (h : u ≠ id) : flt id l (k + 1) = flt id l k ++ [u] := by
  obtain ⟨hk, he⟩ := List.getElem?_eq_some_iff.1 hu
  unfold flt; rw [take_filter hk, if_neg (by rw [he]; exact h), he]

theorem few_is (l : Value) (ops : List OpM) (b : Bool) (R : List HP) (h : OpsIn R l ops) (hb : fewB ops = b) : Called Try.prog 16 [l] R (is (.bool b) R) := hb ▸ few_ok l ops R h

set_option maxHeartbeats 8000000 in
theorem keeps_ok (l : Value) (ops : List OpM) (id x y : Int) (ha : -9223372036854775808 ≤ x ∧ x ≤ 9223372036854775807) (R : List HP) (h : OpsIn R l ops) :
    Called Try.prog 4 [l, int id, .agg [int x, int y].toArray] R (is (.bool true) R) := by
  refine Fn3 Try.func4 rfl Try.ntmps4 rfl ?_
  have hl := h.isl
  have hN := hl.len
  (repeat' first | refine stp ?_ | intro v' hv' | intro (b : Nat) | (apply w_cq; rfl; rfl; exact few_is _ ops _ _ (by (focus ((repeat (first | assumption | apply OpsIn.there)); done))) (by assumption)) | (apply w_cq; rfl; rfl; exact awake_ok _) | refine spl ?_ ?_ | intro hc)
  apply w_cl
  rfl; rfl; exact New_ok 5 (by decide) _
  exact ⟨_, _, 0, rfl, rfl⟩
  rintro _ _ ⟨p, rfl, rfl⟩
  refine ⟨by (exact kmf), ?_⟩
  cases hfew : fewB ops with
  | false =>
    (repeat' first | refine stp ?_ | intro v' hv' | intro (b : Nat) | (apply w_cq; rfl; rfl; exact few_is _ ops _ _ (by (focus ((repeat (first | assumption | apply OpsIn.there)); done))) (by assumption)) | (apply w_cq; rfl; rfl; exact awake_ok _) | refine spl ?_ ?_ | intro hc)
    all_goals (refine At_ret1 (by (first | exact .inl rfl | exact .inr rfl)) Try.results4 rfl ⟨by rfl, rfl⟩ (by (exact frm)))
  | true =>
    (repeat' first | refine stp ?_ | intro v' hv' | intro (b : Nat) | (apply w_cq; rfl; rfl; exact few_is _ ops _ _ (by (focus ((repeat (first | assumption | apply OpsIn.there)); done))) (by assumption)) | (apply w_cq; rfl; rfl; exact awake_ok _) | refine spl ?_ ?_ | intro hc)
    rename_i b5
    refine C_sat (L' := rcl b ⟨5, []⟩ :: cls p ⟨5, []⟩ :: pt b5 37 [int x, int y] :: R) (fun w hs => rcl_fold (c := ⟨5, []⟩) (v := .slice none 0 0) (u := .slice none 0 0) ⟨by decide, by decide, by decide, fun _ h => by cases h⟩ (Sel.sat (by (focus ((repeat (first | exact Sel.refl | (apply Sel.cons; (focus ((repeat (first | exact Del.here | apply Del.there)); done))) | refine Sel.drop ?_)); done))) (Sat.sl_nil (E := 3) (n := 1) (Sat.sl_nil (E := 3) (n := 1) hs)))) ?_
    refine C_loopK [10, 43, 44, 45, 46, 47, 48, 49, 50, 51, 52, 53, 54, 55] (fun k : Nat => ops.length - k) (fun k => [(10, int k)]) (fun k => cls p (runs ⟨5, []⟩ (ops.take k)) :: rcl b (runs ⟨5, []⟩ (ops.take k)) :: pt b5 37 [int x, int y] :: R) (fun k => k ≤ ops.length) 0 (Nat.zero_le _) (by (focus ((repeat (first | exact Keep.nil | apply Keep.drop rfl | apply Keep.keep rfl)); done))) (by (exact sbf)) (by (exact frm)) ?_
    intro k hk
    dsimp only [List.cons_append, List.nil_append]
    by_cases hlt : k < ops.length
    · have hrd := opsRd h hlt
      have hD := does_ok p b (runs ⟨5, []⟩ (ops.take k)) ops[k] (runs_Wf (by decide) wf0).1 (pt b5 37 [int x, int y] :: R) (h.each _ (List.getElem_mem hlt)).there
      rw [← runs_take _ _ hlt] at hD
      (repeat' first | refine stp ?_ | intro v' hv' | intro (b : Nat) | (apply w_cq; rfl; rfl; exact few_is _ ops _ _ (by (focus ((repeat (first | assumption | apply OpsIn.there)); done))) (by assumption)) | (apply w_cq; rfl; rfl; exact awake_ok _) | refine spl ?_ ?_ | intro hc)
      apply w_cd
      rfl; rfl; exact hD; ((exact kmf))
      (repeat' first | refine stp ?_ | intro v' hv' | intro (b : Nat) | (apply w_cq; rfl; rfl; exact few_is _ ops _ _ (by (focus ((repeat (first | assumption | apply OpsIn.there)); done))) (by assumption)) | (apply w_cq; rfl; rfl; exact awake_ok _) | refine spl ?_ ?_ | intro hc)
      exact At_againK (k + 1) hlt (by omega) (by (exact sbf)) (by (exact sbf)) (by (exact frm))
    · obtain rfl : k = ops.length := by omega
      rw [List.take_length]
      obtain ⟨hwf, h64⟩ := runs_Wf (ops := ops) (c := ⟨5, []⟩) (by decide) wf0
      have hlaw := kept_law h64 hwf id x y
      generalize runs ⟨5, []⟩ ops = c at *
      have hF1 : ∀ R, Called Try.prog 13 [ptr p, int 64] (cls p c :: R) (retSl 3 1 ((ids c.l).map inE) (cls p c :: R)) := fun R => by
        have := First_ok p c 64 R
        rwa [firstM_ge (by omega)] at this
      rcases hke : kept c id x y with ⟨d, f⟩
      rw [hke] at hlaw
      obtain ⟨g1, g2, g3, g4⟩ := hlaw
      dsimp only at g1 g2 g3 g4
      have hRun := Run_ok p c id x ha
      have hl1 : (ids c.l).length = c.l.length := ids_length _
      have hl2 : (ids d.l).length = c.l.length := (ids_length _).trans g1
      have hmid : ∀ {Q : Exit → Act → World → Prop} {cd : Code} {n : Nat} {F : Fr} {L : List HP}, True := trivial
      by_cases hy : y.tmod 2 = 0
      · rw [show runM c id x = (d, f) by rw [← hke]; unfold kept; rw [if_neg (by omega)]] at hRun
        dsimp only at hRun
        (repeat' first | refine stp ?_ | intro v' hv' | intro (b : Nat) | (apply w_cq; rfl; rfl; exact few_is _ ops _ _ (by (focus ((repeat (first | assumption | apply OpsIn.there)); done))) (by assumption)) | (apply w_cq; rfl; rfl; exact awake_ok _) | refine spl ?_ ?_ | intro hc)
        clear hF1 hRun hy hmid
        have hF2 : ∀ R, Called Try.prog 13 [ptr p, int 64] (cls p d :: R) (retSl 3 1 ((ids d.l).map inE) (cls p d :: R)) := (fun R => by have := First_ok p d 64 R; rwa [firstM_ge (by omega)] at this)
        have hL2 := Len_ok p d
        revert v'; intro v1 hv1
        by_cases hf : f = 0
        · (repeat' first | refine stp ?_ | intro v' hv' | intro (b : Nat) | (apply w_cq; rfl; rfl; exact few_is _ ops _ _ (by (focus ((repeat (first | assumption | apply OpsIn.there)); done))) (by assumption)) | (apply w_cq; rfl; rfl; exact awake_ok _) | refine spl ?_ ?_ | intro hc)
          revert v'; intro v2 hv2
          refine C_loopK [14, 15, 16, 92, 93, 94, 95, 96, 97, 98, 99, 100, 101, 102, 103, 104, 105, 106, 107, 108, 109, 110, 111, 112, 113, 114, 115, 116, 117, 118, 119, 120, 121, 122, 123] (fun s : Nat × Value × Value => c.l.length - s.1) (fun s => [(16, int s.1), (14, s.2.1), (15, s.2.2)]) (fun s => sl 3 1 s.2.1 ((flt id (ids c.l) s.1).map inE) :: sl 3 1 s.2.2 ((flt id (ids d.l) s.1).map inE) :: sl 3 1 v1 ((ids c.l).map inE) :: sl 3 1 v2 ((ids d.l).map inE) :: R) (fun s => s.1 ≤ c.l.length ∧ IsSl s.2.1 (flt id (ids c.l) s.1).length ∧ IsSl s.2.2 (flt id (ids d.l) s.1).length) (0, .slice none 0 0, .slice none 0 0) ⟨Nat.zero_le _, IsSl.nil, IsSl.nil⟩ (by (focus ((repeat (first | exact Keep.nil | apply Keep.drop rfl | apply Keep.keep rfl)); done))) (by (exact sbf)) (by (exact nil2)) ?_
          rintro ⟨k, av, bv⟩ ⟨hk, hav, hbv⟩
          dsimp only [List.cons_append, List.nil_append] at hk hav hbv ⊢
          have hf1 := flt_len id (ids c.l) k
          have hf2 := flt_len id (ids d.l) k
          by_cases hlt : k < c.l.length
          · obtain ⟨u1, hu1⟩ : ∃ u, (ids c.l)[k]? = some u := ⟨_, List.getElem?_eq_getElem (by omega)⟩
            obtain ⟨u2, hu2⟩ : ∃ u, (ids d.l)[k]? = some u := ⟨_, List.getElem?_eq_getElem (by omega)⟩
            have hg1 : ((ids c.l).map inE)[k]? = some [int u1] := by simp [hu1, inE]
            have hg2 : ((ids d.l).map inE)[k]? = some [int u2] := by simp [hu2, inE]
            by_cases he1 : u1 = id
            · by_cases he2 : u2 = id
              · have q1 := flt_yes hu1 he1
                have q2 := flt_yes hu2 he2
                (repeat' first | refine stp ?_ | intro v' hv' | intro (b : Nat) | (apply w_cq; rfl; rfl; exact few_is _ ops _ _ (by (focus ((repeat (first | assumption | apply OpsIn.there)); done))) (by assumption)) | (apply w_cq; rfl; rfl; exact awake_ok _) | refine spl ?_ ?_ | intro hc)
                exact At_againK (k + 1, av, bv) ⟨hlt, by rw [q1]; exact hav, by rw [q2]; exact hbv⟩ (by show c.l.length - (k + 1) < c.l.length - k; omega) (by (exact sbf)) (by (exact sbf)) (by rw [q1, q2]; (exact frm))
              · have q1 := flt_yes hu1 he1
                have q2 := flt_no hu2 he2
                (repeat' first | refine stp ?_ | intro v' hv' | intro (b : Nat) | (apply w_cq; rfl; rfl; exact few_is _ ops _ _ (by (focus ((repeat (first | assumption | apply OpsIn.there)); done))) (by assumption)) | (apply w_cq; rfl; rfl; exact awake_ok _) | refine spl ?_ ?_ | intro hc)
                ((apply w_apM (l2 := [u2]); rfl; rfl; rfl; (focus ((repeat (first | exact Del.here | apply Del.there)); done)); ((exact srf)); (intro; rfl); (first | (simp only [List.length_cons, List.length_nil]; omega) | (simp; omega)); (first | (simp only [List.length_cons, List.length_nil]; omega) | (simp; omega))); intro v' hv'; refine ⟨by (exact kmf), ?_⟩)
                (repeat' first | refine stp ?_ | intro v' hv' | intro (b : Nat) | (apply w_cq; rfl; rfl; exact few_is _ ops _ _ (by (focus ((repeat (first | assumption | apply OpsIn.there)); done))) (by assumption)) | (apply w_cq; rfl; rfl; exact awake_ok _) | refine spl ?_ ?_ | intro hc)
                exact At_againK (k + 1, av, v') ⟨hlt, by rw [q1]; exact hav, by rw [q2]; exact hv'⟩ (by show c.l.length - (k + 1) < c.l.length - k; omega) (by (exact sbf)) (by (exact sbf)) (by rw [q1, q2]; (exact frm))
            · by_cases he2 : u2 = id
              · have q1 := flt_no hu1 he1
                have q2 := flt_yes hu2 he2
                (repeat' first | refine stp ?_ | intro v' hv' | intro (b : Nat) | (apply w_cq; rfl; rfl; exact few_is _ ops _ _ (by (focus ((repeat (first | assumption | apply OpsIn.there)); done))) (by assumption)) | (apply w_cq; rfl; rfl; exact awake_ok _) | refine spl ?_ ?_ | intro hc)
                ((apply w_apM (l2 := [u1]); rfl; rfl; rfl; (focus ((repeat (first | exact Del.here | apply Del.there)); done)); ((exact srf)); (intro; rfl); (first | (simp only [List.length_cons, List.length_nil]; omega) | (simp; omega)); (first | (simp only [List.length_cons, List.length_nil]; omega) | (simp; omega))); intro v' hv'; refine ⟨by (exact kmf), ?_⟩)
                (repeat' first | refine stp ?_ | intro v' hv' | intro (b : Nat) | (apply w_cq; rfl; rfl; exact few_is _ ops _ _ (by (focus ((repeat (first | assumption | apply OpsIn.there)); done))) (by assumption)) | (apply w_cq; rfl; rfl; exact awake_ok _) | refine spl ?_ ?_ | intro hc)
                exact At_againK (k + 1, v', bv) ⟨hlt, by rw [q1]; exact hv', by rw [q2]; exact hbv⟩ (by show c.l.length - (k + 1) < c.l.length - k; omega) (by (exact sbf)) (by (exact sbf)) (by rw [q1, q2]; (exact frm))
              · have q1 := flt_no hu1 he1
                have q2 := flt_no hu2 he2
                (repeat' first | refine stp ?_ | intro v' hv' | intro (b : Nat) | (apply w_cq; rfl; rfl; exact few_is _ ops _ _ (by (focus ((repeat (first | assumption | apply OpsIn.there)); done))) (by assumption)) | (apply w_cq; rfl; rfl; exact awake_ok _) | refine spl ?_ ?_ | intro hc)
                ((apply w_apM (l2 := [u1]); rfl; rfl; rfl; (focus ((repeat (first | exact Del.here | apply Del.there)); done)); ((exact srf)); (intro; rfl); (first | (simp only [List.length_cons, List.length_nil]; omega) | (simp; omega)); (first | (simp only [List.length_cons, List.length_nil]; omega) | (simp; omega))); intro v' hv'; refine ⟨by (exact kmf), ?_⟩)
                rename_i va _
                (repeat' first | refine stp ?_ | intro v' hv' | intro (b : Nat) | (apply w_cq; rfl; rfl; exact few_is _ ops _ _ (by (focus ((repeat (first | assumption | apply OpsIn.there)); done))) (by assumption)) | (apply w_cq; rfl; rfl; exact awake_ok _) | refine spl ?_ ?_ | intro hc)
                ((apply w_apM (l2 := [u2]); rfl; rfl; rfl; (focus ((repeat (first | exact Del.here | apply Del.there)); done)); ((exact srf)); (intro; rfl); (first | (simp only [List.length_cons, List.length_nil]; omega) | (simp; omega)); (first | (simp only [List.length_cons, List.length_nil]; omega) | (simp; omega))); intro v' hv'; refine ⟨by (exact kmf), ?_⟩)
                (repeat' first | refine stp ?_ | intro v' hv' | intro (b : Nat) | (apply w_cq; rfl; rfl; exact few_is _ ops _ _ (by (focus ((repeat (first | assumption | apply OpsIn.there)); done))) (by assumption)) | (apply w_cq; rfl; rfl; exact awake_ok _) | refine spl ?_ ?_ | intro hc)
                exact At_againK (k + 1, _, v') ⟨hlt, by rw [q1]; assumption, by rw [q2]; exact hv'⟩ (by show c.l.length - (k + 1) < c.l.length - k; omega) (by (exact sbf)) (by (exact sbf)) (by rw [q1, q2]; (exact frm))
          · obtain rfl : k = c.l.length := by omega
            have q1 : flt id (ids c.l) c.l.length = (ids c.l).filter fun i => decide (i ≠ id) := by unfold flt; rw [← hl1, List.take_length]
            have q2 : flt id (ids d.l) c.l.length = (ids c.l).filter fun i => decide (i ≠ id) := by unfold flt; rw [← hl2, List.take_length, g2]
            have q3 := g4 hf
            rw [q1] at hav ⊢
            rw [q2] at hbv ⊢
            generalize ((ids c.l).filter fun i => decide (i ≠ id)) = fl at *
            have hI := fun R h1 h2 => ints_eq av bv fl R hav hbv h1 h2
            (repeat' first | refine stp ?_ | intro v' hv' | intro (b : Nat) | (apply w_cq; rfl; rfl; exact few_is _ ops _ _ (by (focus ((repeat (first | assumption | apply OpsIn.there)); done))) (by assumption)) | (apply w_cq; rfl; rfl; exact awake_ok _) | refine spl ?_ ?_ | intro hc)
            apply w_cq
            rfl; rfl; exact hI _ (by (exact srf)) (by (exact srf))
            (repeat' first | refine stp ?_ | intro v' hv' | intro (b : Nat) | (apply w_cq; rfl; rfl; exact few_is _ ops _ _ (by (focus ((repeat (first | assumption | apply OpsIn.there)); done))) (by assumption)) | (apply w_cq; rfl; rfl; exact awake_ok _) | refine spl ?_ ?_ | intro hc)
            (refine At_ret1 (by (first | exact .inl rfl | exact .inr rfl)) Try.results4 rfl ⟨by rfl, rfl⟩ (by (exact frm)))
        · rw [g3 hf] at hF2
          (repeat' first | refine stp ?_ | intro v' hv' | intro (b : Nat) | (apply w_cq; rfl; rfl; exact few_is _ ops _ _ (by (focus ((repeat (first | assumption | apply OpsIn.there)); done))) (by assumption)) | (apply w_cq; rfl; rfl; exact awake_ok _) | refine spl ?_ ?_ | intro hc)
          revert v'; intro v2 hv2
          apply w_cq
          rfl; rfl; exact ints_eq v1 v2 (ids c.l) _ (by assumption) (by assumption) (by (exact srf)) (by (exact srf))
          (repeat' first | refine stp ?_ | intro v' hv' | intro (b : Nat) | (apply w_cq; rfl; rfl; exact few_is _ ops _ _ (by (focus ((repeat (first | assumption | apply OpsIn.there)); done))) (by assumption)) | (apply w_cq; rfl; rfl; exact awake_ok _) | refine spl ?_ ?_ | intro hc)
          (refine At_ret1 (by (first | exact .inl rfl | exact .inr rfl)) Try.results4 rfl ⟨by rfl, rfl⟩ (by (exact frm)))
      · have hY := Yield_ok p (runM c id x).1 id
        rw [show yieldM (runM c id x).1 id = (d, f) by rw [← hke]; unfold kept; rw [if_pos hy]] at hY
        dsimp only at hY
        generalize runM c id x = e at hRun hY
        (repeat' first | refine stp ?_ | intro v' hv' | intro (b : Nat) | (apply w_cq; rfl; rfl; exact few_is _ ops _ _ (by (focus ((repeat (first | assumption | apply OpsIn.there)); done))) (by assumption)) | (apply w_cq; rfl; rfl; exact awake_ok _) | refine spl ?_ ?_ | intro hc)
        clear hF1 hRun hY hy hmid
        have hF2 : ∀ R, Called Try.prog 13 [ptr p, int 64] (cls p d :: R) (retSl 3 1 ((ids d.l).map inE) (cls p d :: R)) := (fun R => by have := First_ok p d 64 R; rwa [firstM_ge (by omega)] at this)
        have hL2 := Len_ok p d
        revert v'; intro v1 hv1
        by_cases hf : f = 0
        · (repeat' first | refine stp ?_ | intro v' hv' | intro (b : Nat) | (apply w_cq; rfl; rfl; exact few_is _ ops _ _ (by (focus ((repeat (first | assumption | apply OpsIn.there)); done))) (by assumption)) | (apply w_cq; rfl; rfl; exact awake_ok _) | refine spl ?_ ?_ | intro hc)
          revert v'; intro v2 hv2
          refine C_loopK [14, 15, 16, 92, 93, 94, 95, 96, 97, 98, 99, 100, 101, 102, 103, 104, 105, 106, 107, 108, 109, 110, 111, 112, 113, 114, 115, 116, 117, 118, 119, 120, 121, 122, 123] (fun s : Nat × Value × Value => c.l.length - s.1) (fun s => [(16, int s.1), (14, s.2.1), (15, s.2.2)]) (fun s => sl 3 1 s.2.1 ((flt id (ids c.l) s.1).map inE) :: sl 3 1 s.2.2 ((flt id (ids d.l) s.1).map inE) :: sl 3 1 v1 ((ids c.l).map inE) :: sl 3 1 v2 ((ids d.l).map inE) :: R) (fun s => s.1 ≤ c.l.length ∧ IsSl s.2.1 (flt id (ids c.l) s.1).length ∧ IsSl s.2.2 (flt id (ids d.l) s.1).length) (0, .slice none 0 0, .slice none 0 0) ⟨Nat.zero_le _, IsSl.nil, IsSl.nil⟩ (by (focus ((repeat (first | exact Keep.nil | apply Keep.drop rfl | apply Keep.keep rfl)); done))) (by (exact sbf)) (by (exact nil2)) ?_
          rintro ⟨k, av, bv⟩ ⟨hk, hav, hbv⟩
          dsimp only [List.cons_append, List.nil_append] at hk hav hbv ⊢
          have hf1 := flt_len id (ids c.l) k
          have hf2 := flt_len id (ids d.l) k
          by_cases hlt : k < c.l.length
          · obtain ⟨u1, hu1⟩ : ∃ u, (ids c.l)[k]? = some u := ⟨_, List.getElem?_eq_getElem (by omega)⟩
            obtain ⟨u2, hu2⟩ : ∃ u, (ids d.l)[k]? = some u := ⟨_, List.getElem?_eq_getElem (by omega)⟩
            have hg1 : ((ids c.l).map inE)[k]? = some [int u1] := by simp [hu1, inE]
            have hg2 : ((ids d.l).map inE)[k]? = some [int u2] := by simp [hu2, inE]
            by_cases he1 : u1 = id
            · by_cases he2 : u2 = id
              · have q1 := flt_yes hu1 he1
                have q2 := flt_yes hu2 he2
                (repeat' first | refine stp ?_ | intro v' hv' | intro (b : Nat) | (apply w_cq; rfl; rfl; exact few_is _ ops _ _ (by (focus ((repeat (first | assumption | apply OpsIn.there)); done))) (by assumption)) | (apply w_cq; rfl; rfl; exact awake_ok _) | refine spl ?_ ?_ | intro hc)
                exact At_againK (k + 1, av, bv) ⟨hlt, by rw [q1]; exact hav, by rw [q2]; exact hbv⟩ (by show c.l.length - (k + 1) < c.l.length - k; omega) (by (exact sbf)) (by (exact sbf)) (by rw [q1, q2]; (exact frm))
              · have q1 := flt_yes hu1 he1
                have q2 := flt_no hu2 he2
                (repeat' first | refine stp ?_ | intro v' hv' | intro (b : Nat) | (apply w_cq; rfl; rfl; exact few_is _ ops _ _ (by (focus ((repeat (first | assumption | apply OpsIn.there)); done))) (by assumption)) | (apply w_cq; rfl; rfl; exact awake_ok _) | refine spl ?_ ?_ | intro hc)
                ((apply w_apM (l2 := [u2]); rfl; rfl; rfl; (focus ((repeat (first | exact Del.here | apply Del.there)); done)); ((exact srf)); (intro; rfl); (first | (simp only [List.length_cons, List.length_nil]; omega) | (simp; omega)); (first | (simp only [List.length_cons, List.length_nil]; omega) | (simp; omega))); intro v' hv'; refine ⟨by (exact kmf), ?_⟩)
                (repeat' first | refine stp ?_ | intro v' hv' | intro (b : Nat) | (apply w_cq; rfl; rfl; exact few_is _ ops _ _ (by (focus ((repeat (first | assumption | apply OpsIn.there)); done))) (by assumption)) | (apply w_cq; rfl; rfl; exact awake_ok _) | refine spl ?_ ?_ | intro hc)
                exact At_againK (k + 1, av, v') ⟨hlt, by rw [q1]; exact hav, by rw [q2]; exact hv'⟩ (by show c.l.length - (k + 1) < c.l.length - k; omega) (by (exact sbf)) (by (exact sbf)) (by rw [q1, q2]; (exact frm))
            · by_cases he2 : u2 = id
              · have q1 := flt_no hu1 he1
                have q2 := flt_yes hu2 he2
                (repeat' first | refine stp ?_ | intro v' hv' | intro (b : Nat) | (apply w_cq; rfl; rfl; exact few_is _ ops _ _ (by (focus ((repeat (first | assumption | apply OpsIn.there)); done))) (by assumption)) | (apply w_cq; rfl; rfl; exact awake_ok _) | refine spl ?_ ?_ | intro hc)
                ((apply w_apM (l2 := [u1]); rfl; rfl; rfl; (focus ((repeat (first | exact Del.here | apply Del.there)); done)); ((exact srf)); (intro; rfl); (first | (simp only [List.length_cons, List.length_nil]; omega) | (simp; omega)); (first | (simp only [List.length_cons, List.length_nil]; omega) | (simp; omega))); intro v' hv'; refine ⟨by (exact kmf), ?_⟩)
                (repeat' first | refine stp ?_ | intro v' hv' | intro (b : Nat) | (apply w_cq; rfl; rfl; exact few_is _ ops _ _ (by (focus ((repeat (first | assumption | apply OpsIn.there)); done))) (by assumption)) | (apply w_cq; rfl; rfl; exact awake_ok _) | refine spl ?_ ?_ | intro hc)
                exact At_againK (k + 1, v', bv) ⟨hlt, by rw [q1]; exact hv', by rw [q2]; exact hbv⟩ (by show c.l.length - (k + 1) < c.l.length - k; omega) (by (exact sbf)) (by (exact sbf)) (by rw [q1, q2]; (exact frm))
              · have q1 := flt_no hu1 he1
                have q2 := flt_no hu2 he2
                (repeat' first | refine stp ?_ | intro v' hv' | intro (b : Nat) | (apply w_cq; rfl; rfl; exact few_is _ ops _ _ (by (focus ((repeat (first | assumption | apply OpsIn.there)); done))) (by assumption)) | (apply w_cq; rfl; rfl; exact awake_ok _) | refine spl ?_ ?_ | intro hc)
                ((apply w_apM (l2 := [u1]); rfl; rfl; rfl; (focus ((repeat (first | exact Del.here | apply Del.there)); done)); ((exact srf)); (intro; rfl); (first | (simp only [List.length_cons, List.length_nil]; omega) | (simp; omega)); (first | (simp only [List.length_cons, List.length_nil]; omega) | (simp; omega))); intro v' hv'; refine ⟨by (exact kmf), ?_⟩)
                rename_i va _
                (repeat' first | refine stp ?_ | intro v' hv' | intro (b : Nat) | (apply w_cq; rfl; rfl; exact few_is _ ops _ _ (by (focus ((repeat (first | assumption | apply OpsIn.there)); done))) (by assumption)) | (apply w_cq; rfl; rfl; exact awake_ok _) | refine spl ?_ ?_ | intro hc)
                ((apply w_apM (l2 := [u2]); rfl; rfl; rfl; (focus ((repeat (first | exact Del.here | apply Del.there)); done)); ((exact srf)); (intro; rfl); (first | (simp only [List.length_cons, List.length_nil]; omega) | (simp; omega)); (first | (simp only [List.length_cons, List.length_nil]; omega) | (simp; omega))); intro v' hv'; refine ⟨by (exact kmf), ?_⟩)
                (repeat' first | refine stp ?_ | intro v' hv' | intro (b : Nat) | (apply w_cq; rfl; rfl; exact few_is _ ops _ _ (by (focus ((repeat (first | assumption | apply OpsIn.there)); done))) (by assumption)) | (apply w_cq; rfl; rfl; exact awake_ok _) | refine spl ?_ ?_ | intro hc)
                exact At_againK (k + 1, _, v') ⟨hlt, by rw [q1]; assumption, by rw [q2]; exact hv'⟩ (by show c.l.length - (k + 1) < c.l.length - k; omega) (by (exact sbf)) (by (exact sbf)) (by rw [q1, q2]; (exact frm))
          · obtain rfl : k = c.l.length := by omega
            have q1 : flt id (ids c.l) c.l.length = (ids c.l).filter fun i => decide (i ≠ id) := by unfold flt; rw [← hl1, List.take_length]
            have q2 : flt id (ids d.l) c.l.length = (ids c.l).filter fun i => decide (i ≠ id) := by unfold flt; rw [← hl2, List.take_length, g2]
            have q3 := g4 hf
            rw [q1] at hav ⊢
            rw [q2] at hbv ⊢
            generalize ((ids c.l).filter fun i => decide (i ≠ id)) = fl at *
            have hI := fun R h1 h2 => ints_eq av bv fl R hav hbv h1 h2
            (repeat' first | refine stp ?_ | intro v' hv' | intro (b : Nat) | (apply w_cq; rfl; rfl; exact few_is _ ops _ _ (by (focus ((repeat (first | assumption | apply OpsIn.there)); done))) (by assumption)) | (apply w_cq; rfl; rfl; exact awake_ok _) | refine spl ?_ ?_ | intro hc)
            apply w_cq
            rfl; rfl; exact hI _ (by (exact srf)) (by (exact srf))
            (repeat' first | refine stp ?_ | intro v' hv' | intro (b : Nat) | (apply w_cq; rfl; rfl; exact few_is _ ops _ _ (by (focus ((repeat (first | assumption | apply OpsIn.there)); done))) (by assumption)) | (apply w_cq; rfl; rfl; exact awake_ok _) | refine spl ?_ ?_ | intro hc)
            (refine At_ret1 (by (first | exact .inl rfl | exact .inr rfl)) Try.results4 rfl ⟨by rfl, rfl⟩ (by (exact frm)))
        · rw [g3 hf] at hF2
          (repeat' first | refine stp ?_ | intro v' hv' | intro (b : Nat) | (apply w_cq; rfl; rfl; exact few_is _ ops _ _ (by (focus ((repeat (first | assumption | apply OpsIn.there)); done))) (by assumption)) | (apply w_cq; rfl; rfl; exact awake_ok _) | refine spl ?_ ?_ | intro hc)
          revert v'; intro v2 hv2
          apply w_cq
          rfl; rfl; exact ints_eq v1 v2 (ids c.l) _ (by assumption) (by assumption) (by (exact srf)) (by (exact srf))
          (repeat' first | refine stp ?_ | intro v' hv' | intro (b : Nat) | (apply w_cq; rfl; rfl; exact few_is _ ops _ _ (by (focus ((repeat (first | assumption | apply OpsIn.there)); done))) (by assumption)) | (apply w_cq; rfl; rfl; exact awake_ok _) | refine spl ?_ ?_ | intro hc)
          (refine At_ret1 (by (first | exact .inl rfl | exact .inr rfl)) Try.results4 rfl ⟨by rfl, rfl⟩ (by (exact frm)))
end Go.Proofs.Ytenpeogkefmclaa
