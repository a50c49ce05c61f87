/- RobinDrops: the walk. Conditions: none. -/
import Derived.Test.YtenpeogkefmclaaRobKeeps
set_option linter.all false
set_option linter.deprecated false
namespace Go.Proofs.Ytenpeogkefmclaa
open Go.Sep
variable [B0 : Base]

theorem opM_q (c : Cls) (o : OpM) : (opM c o).q = c.q := by
  have hadd : ∀ (c : Cls) is, (addM c is).1.q = c.q := fun c is => by unfold addM; split <;> rfl
  have hdrop : ∀ (c : Cls) id, (dropM c id).1.q = c.q := fun c id => by unfold dropM; split <;> rfl
  have hy : ∀ (c : Cls) id, (yieldM c id).1.q = c.q := fun c id => by
    unfold yieldM; split
    · rw [hadd, hdrop]
    · exact hdrop c id
  have hr : ∀ (c : Cls) id x, (runM c id x).1.q = c.q := fun c id x => by
    cases hf : findIx c.l id with
    | none => rw [runM_none hf]
    | some k =>
      obtain ⟨t, ht, _⟩ := findIx_lt hf
      rw [runM_some hf ht]
      split
      · rfl
      · split
        · exact hy _ _
        · rfl
  unfold opM
  split
  · exact hadd ..
  · split
    · exact hdrop ..
    · split
      · exact hr ..
      · split
        · exact hy ..
        · rfl
theorem runs_q (ops : List OpM) : ∀ c : Cls, (runs c ops).q = c.q := by
  induction ops with
  | nil => intro c; rfl
  | cons o ops ih => intro c; show (runs (opM c o) ops).q = c.q; rw [ih, opM_q]
theorem leftV_mem {c : Cls} (h : (ids c.l).Nodup) {t : Th} (ht : t ∈ c.l) : leftV c t.id = (c.q - t.ran, 0) := by
  obtain ⟨k, hk⟩ := List.getElem?_of_mem ht
  exact leftV_at (q := c.q) h hk
theorem mem_erase {l : List Th} {t u : Th} {k : Nat} (hk : l[k]? = some u) (ht : t ∈ l) (hne : t.id ≠ u.id) : t ∈ l.eraseIdx k := by
  induction l generalizing k with
  | nil => cases ht
  | cons a l ih =>
    cases k with
    | zero =>
      simp at hk; subst hk
      rcases List.mem_cons.1 ht with rfl | ht
      · exact absurd rfl hne
      · exact ht
    | succ k =>
      rw [List.eraseIdx_cons_succ]
      rcases List.mem_cons.1 ht with rfl | ht
      · simp
      · exact List.mem_cons_of_mem _ (ih (by simpa using hk) ht)
theorem erase_filter {l : List Int} (hn : l.Nodup) {id : Int} {k : Nat} (hk : l[k]? = some id) : l.eraseIdx k = l.filter fun i => decide (i ≠ id) := by
  rw [← filter_erase hk]
  refine (List.filter_eq_self.2 fun i hi => ?_).symm
  simp only [decide_eq_true_eq]
  rintro rfl
  obtain ⟨j, hj⟩ := List.getElem?_of_mem hi
  rw [List.getElem?_eraseIdx] at hj
  split at hj
  · have := (List.getElem?_inj (by have := (List.getElem?_eq_some_iff.1 hj).1; omega) hn).1 (hj.trans hk.symm)
    omega
  · have := (List.getElem?_inj (by have := (List.getElem?_eq_some_iff.1 hj).1; omega) hn).1 (hj.trans hk.symm)
    omega

set_option maxHeartbeats 8000000 in
theorem drops_ok (l : Value) (ops : List OpM) (id : Int) (R : List HP) (h : OpsIn R l ops) :
    Called Try.prog 7 [l, int id] R (is (.bool true) R) := by
  refine Fn2 Try.func7 rfl Try.ntmps7 rfl ?_
  have hl := h.isl
  have hN := hl.len
  (repeat' first | refine stp ?_ | intro v' hv' | intro (b : Nat) | (apply w_cq; rfl; rfl; exact few_is _ ops _ _ (by (focus ((repeat (first | assumption | apply OpsIn.there)); done))) (by assumption)) | (apply w_cq; rfl; rfl; exact awake_ok _) | refine spl ?_ ?_ | intro hc)
  apply w_cl
  rfl; rfl; exact New_ok 5 (by decide) _
  exact ⟨_, _, 0, rfl, rfl⟩
  rintro _ _ ⟨p, rfl, rfl⟩
  refine ⟨by (exact kmf), ?_⟩
  cases hfew : fewB ops with
  | false =>
    (repeat' first | refine stp ?_ | intro v' hv' | intro (b : Nat) | (apply w_cq; rfl; rfl; exact few_is _ ops _ _ (by (focus ((repeat (first | assumption | apply OpsIn.there)); done))) (by assumption)) | (apply w_cq; rfl; rfl; exact awake_ok _) | refine spl ?_ ?_ | intro hc)
    all_goals (refine At_ret1 (by (first | exact .inl rfl | exact .inr rfl)) Try.results7 rfl ⟨by rfl, rfl⟩ (by (exact frm)))
  | true =>
    (repeat' first | refine stp ?_ | intro v' hv' | intro (b : Nat) | (apply w_cq; rfl; rfl; exact few_is _ ops _ _ (by (focus ((repeat (first | assumption | apply OpsIn.there)); done))) (by assumption)) | (apply w_cq; rfl; rfl; exact awake_ok _) | refine spl ?_ ?_ | intro hc)
    refine C_sat (L' := rcl b ⟨5, []⟩ :: cls p ⟨5, []⟩ :: R) (fun w hs => rcl_fold (c := ⟨5, []⟩) (v := .slice none 0 0) (u := .slice none 0 0) ⟨by decide, by decide, by decide, fun _ h => by cases h⟩ (Sel.sat (by (focus ((repeat (first | exact Sel.refl | (apply Sel.cons; (focus ((repeat (first | exact Del.here | apply Del.there)); done))) | refine Sel.drop ?_)); done))) (Sat.sl_nil (E := 3) (n := 1) (Sat.sl_nil (E := 3) (n := 1) hs)))) ?_
    refine C_loopK [8, 48, 49, 50, 51, 52, 53, 54, 55, 56, 57, 58, 59, 60] (fun k : Nat => ops.length - k) (fun k => [(8, int k)]) (fun k => cls p (runs ⟨5, []⟩ (ops.take k)) :: rcl b (runs ⟨5, []⟩ (ops.take k)) :: R) (fun k => k ≤ ops.length) 0 (Nat.zero_le _) (by (focus ((repeat (first | exact Keep.nil | apply Keep.drop rfl | apply Keep.keep rfl)); done))) (by (exact sbf)) (by (exact frm)) ?_
    intro k hk
    dsimp only [List.cons_append, List.nil_append]
    by_cases hlt : k < ops.length
    · have hrd := opsRd h hlt
      have hD := does_ok p b (runs ⟨5, []⟩ (ops.take k)) ops[k] (runs_Wf (by decide) wf0).1 R (h.each _ (List.getElem_mem hlt))
      rw [← runs_take _ _ hlt] at hD
      (repeat' first | refine stp ?_ | intro v' hv' | intro (b : Nat) | (apply w_cq; rfl; rfl; exact few_is _ ops _ _ (by (focus ((repeat (first | assumption | apply OpsIn.there)); done))) (by assumption)) | (apply w_cq; rfl; rfl; exact awake_ok _) | refine spl ?_ ?_ | intro hc)
      apply w_cd
      rfl; rfl; exact hD; ((exact kmf))
      (repeat' first | refine stp ?_ | intro v' hv' | intro (b : Nat) | (apply w_cq; rfl; rfl; exact few_is _ ops _ _ (by (focus ((repeat (first | assumption | apply OpsIn.there)); done))) (by assumption)) | (apply w_cq; rfl; rfl; exact awake_ok _) | refine spl ?_ ?_ | intro hc)
      exact At_againK (k + 1) hlt (by omega) (by (exact sbf)) (by (exact sbf)) (by (exact frm))
    · obtain rfl : k = ops.length := by omega
      rw [List.take_length]
      obtain ⟨hwf, h64⟩ := runs_Wf (ops := ops) (c := ⟨5, []⟩) (by decide) wf0
      have hq : (runs ⟨5, []⟩ ops).q = 5 := runs_q ops ⟨5, []⟩
      generalize runs ⟨5, []⟩ ops = c at *
      have hF1 : ∀ R, Called Try.prog 13 [ptr p, int 64] (cls p c :: R) (retSl 3 1 ((ids c.l).map inE) (cls p c :: R)) := fun R => by
        have := First_ok p c 64 R
        rwa [firstM_ge (by omega)] at this
      have hl1 : (ids c.l).length = c.l.length := ids_length _
      (repeat' first | refine stp ?_ | intro v' hv' | intro (b : Nat) | (apply w_cq; rfl; rfl; exact few_is _ ops _ _ (by (focus ((repeat (first | assumption | apply OpsIn.there)); done))) (by assumption)) | (apply w_cq; rfl; rfl; exact awake_ok _) | refine spl ?_ ?_ | intro hc)
      apply w_cl
      rfl; rfl; exact Called.del (by (focus ((repeat (first | exact Del.here | apply Del.there)); done))) (Copy_ok p c)
      exact ⟨_, _, 0, rfl, rfl⟩
      rintro _ _ ⟨pd, rfl, rfl⟩
      refine ⟨by (exact kmf), ?_⟩
      clear hF1
      revert v'; intro v1 hv1
      have hDr := Drop_ok pd c id
      cases hf : findIx c.l id with
      | none =>
        rw [dropM_none hf] at hDr
        have hF2 : ∀ R, Called Try.prog 13 [ptr pd, int 64] (cls pd c :: R) (retSl 3 1 ((ids c.l).map inE) (cls pd c :: R)) := fun R => by
          have := First_ok pd c 64 R
          rwa [firstM_ge (by omega)] at this
        (repeat' first | refine stp ?_ | intro v' hv' | intro (b : Nat) | (apply w_cq; rfl; rfl; exact few_is _ ops _ _ (by (focus ((repeat (first | assumption | apply OpsIn.there)); done))) (by assumption)) | (apply w_cq; rfl; rfl; exact awake_ok _) | refine spl ?_ ?_ | intro hc)
        apply w_cq
        rfl; rfl; exact ints_eq _ _ (ids c.l) _ (by assumption) (by assumption) (by (exact srf)) (by (exact srf))
        (repeat' first | refine stp ?_ | intro v' hv' | intro (b : Nat) | (apply w_cq; rfl; rfl; exact few_is _ ops _ _ (by (focus ((repeat (first | assumption | apply OpsIn.there)); done))) (by assumption)) | (apply w_cq; rfl; rfl; exact awake_ok _) | refine spl ?_ ?_ | intro hc)
        (refine At_ret1 (by (first | exact .inl rfl | exact .inr rfl)) Try.results7 rfl ⟨by rfl, rfl⟩ (by (exact frm)))
      | some k =>
        rw [dropM_some hf] at hDr
        dsimp only at hDr
        have hg := ids_get hf
        obtain ⟨tk, htk, htid⟩ := findIx_lt hf
        have hkl : k < c.l.length := (List.getElem?_eq_some_iff.1 htk).1
        have hef := erase_filter hwf.nd hg
        have hfl := filter_len hwf.nd (List.mem_of_getElem? hg)
        have hout := drop_out hwf hf
        have hpos := findIx_pos hwf hf
        have hdw := dropM_Wf hwf id
        rw [dropM_some hf] at hdw
        have hdl : (c.l.eraseIdx k).length = c.l.length - 1 := List.length_eraseIdx_of_lt hkl
        have hide := ids_eraseIdx c.l k
        have hdi : (ids (c.l.eraseIdx k)) = (ids c.l).filter fun i => decide (i ≠ id) := hide.trans hef
        (repeat' first | refine stp ?_ | intro v' hv' | intro (b : Nat) | (apply w_cq; rfl; rfl; exact few_is _ ops _ _ (by (focus ((repeat (first | assumption | apply OpsIn.there)); done))) (by assumption)) | (apply w_cq; rfl; rfl; exact awake_ok _) | refine spl ?_ ?_ | intro hc)
        refine C_loopK [4, 12, 13, 14, 15, 16, 17, 83, 84, 85, 86, 87, 88, 89, 90, 91, 92, 93, 94, 95, 96, 97, 98, 99, 100, 101, 102, 103, 104, 105, 106, 107, 108, 109, 110, 111, 112, 113, 114, 115, 116, 117, 118, 119, 120, 121, 122, 123, 124, 125, 126, 127, 128, 129, 130] (fun s : Nat × Value => c.l.length - s.1) (fun s => [(13, int s.1), (12, s.2)]) (fun s => sl 3 1 s.2 ((flt id (ids c.l) s.1).map inE) :: sl 3 1 v1 ((ids c.l).map inE) :: cls pd ⟨c.q, c.l.eraseIdx k⟩ :: cls p c :: R) (fun s => s.1 ≤ c.l.length ∧ IsSl s.2 (flt id (ids c.l) s.1).length) (0, .slice none 0 0) ⟨Nat.zero_le _, IsSl.nil⟩ (by (focus ((repeat (first | exact Keep.nil | apply Keep.drop rfl | apply Keep.keep rfl)); done))) (by (exact sbf)) (by (exact nil1)) ?_
        rintro ⟨j, av⟩ ⟨hj, hav⟩
        dsimp only [List.cons_append, List.nil_append] at hj hav ⊢
        have hf1 := flt_len id (ids c.l) j
        clear hDr
        by_cases hlt : j < c.l.length
        · have hu1 : (ids c.l)[j]? = some c.l[j].id := by unfold ids; simp [hlt]
          have hg1 : ((ids c.l).map inE)[j]? = some [int c.l[j].id] := by simp [hu1, inE]
          by_cases he1 : c.l[j].id = id
          · have q1 := flt_yes hu1 he1
            (repeat' first | refine stp ?_ | intro v' hv' | intro (b : Nat) | (apply w_cq; rfl; rfl; exact few_is _ ops _ _ (by (focus ((repeat (first | assumption | apply OpsIn.there)); done))) (by assumption)) | (apply w_cq; rfl; rfl; exact awake_ok _) | refine spl ?_ ?_ | intro hc)
            exact At_againK (j + 1, av) ⟨hlt, by rw [q1]; exact hav⟩ (by show c.l.length - (j + 1) < c.l.length - j; omega) (by (exact sbf)) (by (exact sbf)) (by rw [q1]; (exact frm))
          · have q1 := flt_no hu1 he1
            have hLa := Left_ok p c c.l[j].id
            have hLb := Left_ok pd ⟨c.q, c.l.eraseIdx k⟩ c.l[j].id
            rw [leftV_mem hwf.nd (List.getElem_mem hlt)] at hLa
            rw [leftV_mem (c := ⟨c.q, c.l.eraseIdx k⟩) hdw.nd (mem_erase htk (List.getElem_mem hlt) (by rw [htid]; exact he1))] at hLb
            dsimp only at hLa hLb
            (repeat' first | refine stp ?_ | intro v' hv' | intro (b : Nat) | (apply w_cq; rfl; rfl; exact few_is _ ops _ _ (by (focus ((repeat (first | assumption | apply OpsIn.there)); done))) (by assumption)) | (apply w_cq; rfl; rfl; exact awake_ok _) | refine spl ?_ ?_ | intro hc)
            ((apply w_apM (l2 := [c.l[j].id]); rfl; rfl; rfl; (focus ((repeat (first | exact Del.here | apply Del.there)); done)); ((exact srf)); (intro; rfl); (first | (simp only [List.length_cons, List.length_nil]; omega) | (simp; omega)); (first | (simp only [List.length_cons, List.length_nil]; omega) | (simp; omega))); intro v' hv'; refine ⟨by (exact kmf), ?_⟩)
            (repeat' first | refine stp ?_ | intro v' hv' | intro (b : Nat) | (apply w_cq; rfl; rfl; exact few_is _ ops _ _ (by (focus ((repeat (first | assumption | apply OpsIn.there)); done))) (by assumption)) | (apply w_cq; rfl; rfl; exact awake_ok _) | refine spl ?_ ?_ | intro hc)
            exact At_againK (j + 1, v') ⟨hlt, by rw [q1]; exact hv'⟩ (by show c.l.length - (j + 1) < c.l.length - j; omega) (by (exact sbf)) (by (exact sbf)) (by rw [q1]; (exact frm))
        · obtain rfl : j = c.l.length := by omega
          have q1 : flt id (ids c.l) c.l.length = ids (c.l.eraseIdx k) := by unfold flt; rw [← hl1, List.take_length, hdi]
          rw [q1] at hav ⊢
          have hle2 : (ids (c.l.eraseIdx k)).length = c.l.length - 1 := by rw [ids_length, hdl]
          have hLd := Left_ok pd ⟨c.q, c.l.eraseIdx k⟩ id
          rw [show leftV ⟨c.q, c.l.eraseIdx k⟩ id = (0, 14) by unfold leftV; rw [findIx_out hout]] at hLd
          dsimp only at hLd
          have hF2 : ∀ R, Called Try.prog 13 [ptr pd, int 64] (cls pd ⟨c.q, c.l.eraseIdx k⟩ :: R) (retSl 3 1 ((ids (c.l.eraseIdx k)).map inE) (cls pd ⟨c.q, c.l.eraseIdx k⟩ :: R)) := fun R => by
            have := First_ok pd ⟨c.q, c.l.eraseIdx k⟩ 64 R
            rwa [firstM_ge (by show ((c.l.eraseIdx k).length : Int) ≤ 64; omega)] at this
          (repeat' first | refine stp ?_ | intro v' hv' | intro (b : Nat) | (apply w_cq; rfl; rfl; exact few_is _ ops _ _ (by (focus ((repeat (first | assumption | apply OpsIn.there)); done))) (by assumption)) | (apply w_cq; rfl; rfl; exact awake_ok _) | refine spl ?_ ?_ | intro hc)
          apply w_cq
          rfl; rfl; exact ints_eq _ _ (ids (c.l.eraseIdx k)) _ (by assumption) (by assumption) (by (exact srf)) (by (exact srf))
          (repeat' first | refine stp ?_ | intro v' hv' | intro (b : Nat) | (apply w_cq; rfl; rfl; exact few_is _ ops _ _ (by (focus ((repeat (first | assumption | apply OpsIn.there)); done))) (by assumption)) | (apply w_cq; rfl; rfl; exact awake_ok _) | refine spl ?_ ?_ | intro hc)
          have hadd : addM ⟨c.q, c.l.eraseIdx k⟩ [id] = (⟨c.q, c.l.eraseIdx k ++ [⟨id, 0⟩]⟩, 0) := addM_ok (addGo_one hpos hout (by show (c.l.eraseIdx k).length < 64; omega))
          have hAd : ∀ R v, Src R v 1 ([id].map inE) → IsSl v [id].length → Called Try.prog 10 [ptr pd, v] (cls pd ⟨c.q, c.l.eraseIdx k⟩ :: R) (is (int 0) (cls pd ⟨c.q, c.l.eraseIdx k ++ [⟨id, 0⟩]⟩ :: R)) := fun R v h1 h2 => by
            have := Add_ok pd ⟨c.q, c.l.eraseIdx k⟩ v [id] R h1 h2
            rwa [hadd] at this
          apply w_cd
          rfl; rfl; exact Called.del1 (by (focus ((repeat (first | exact Del.here | apply Del.there)); done))) (hAd _ _ (by (exact srf)) (by assumption)); ((exact kmf))
          clear hF2 hLd hAd
          have hnd2 : (ids (c.l.eraseIdx k ++ [⟨id, 0⟩])).Nodup := by
            have := (addM_Wf (c := ⟨c.q, c.l.eraseIdx k⟩) (by show (c.l.eraseIdx k).length ≤ 64; omega) hdw [id]).1.nd
            rwa [hadd] at this
          have hids : ids (c.l.eraseIdx k ++ [⟨id, 0⟩]) = ids (c.l.eraseIdx k) ++ [id] := List.map_append ..
          have hLd := Left_ok pd ⟨c.q, c.l.eraseIdx k ++ [⟨id, 0⟩]⟩ id
          rw [show leftV ⟨c.q, c.l.eraseIdx k ++ [⟨id, 0⟩]⟩ id = (c.q - 0, 0) from leftV_mem (c := ⟨c.q, c.l.eraseIdx k ++ [⟨id, 0⟩]⟩) (t := ⟨id, 0⟩) hnd2 (by simp)] at hLd
          dsimp only at hLd
          have hF2 : ∀ R, Called Try.prog 13 [ptr pd, int 64] (cls pd ⟨c.q, c.l.eraseIdx k ++ [⟨id, 0⟩]⟩ :: R) (retSl 3 1 ((ids (c.l.eraseIdx k) ++ [id]).map inE) (cls pd ⟨c.q, c.l.eraseIdx k ++ [⟨id, 0⟩]⟩ :: R)) := fun R => by
            have := First_ok pd ⟨c.q, c.l.eraseIdx k ++ [⟨id, 0⟩]⟩ 64 R
            rwa [firstM_ge (by show ((c.l.eraseIdx k ++ [_]).length : Int) ≤ 64; simp; omega), show (Cls.mk c.q (c.l.eraseIdx k ++ [⟨id, 0⟩])).l = c.l.eraseIdx k ++ [⟨id, 0⟩] from rfl, hids] at this
          have hle3 : (ids (c.l.eraseIdx k) ++ [id]).length = c.l.length := by rw [List.length_append, hle2]; simp; omega
          (repeat' first | refine stp ?_ | intro v' hv' | intro (b : Nat) | (apply w_cq; rfl; rfl; exact few_is _ ops _ _ (by (focus ((repeat (first | assumption | apply OpsIn.there)); done))) (by assumption)) | (apply w_cq; rfl; rfl; exact awake_ok _) | refine spl ?_ ?_ | intro hc)
          ((apply w_apM (l2 := [id]); rfl; rfl; rfl; (focus ((repeat (first | exact Del.here | apply Del.there)); done)); ((exact srf)); (intro; rfl); (first | (simp only [List.length_cons, List.length_nil]; omega) | (simp; omega)); (first | (simp only [List.length_cons, List.length_nil]; omega) | (simp; omega))); intro v' hv'; refine ⟨by (exact kmf), ?_⟩)
          (repeat' first | refine stp ?_ | intro v' hv' | intro (b : Nat) | (apply w_cq; rfl; rfl; exact few_is _ ops _ _ (by (focus ((repeat (first | assumption | apply OpsIn.there)); done))) (by assumption)) | (apply w_cq; rfl; rfl; exact awake_ok _) | refine spl ?_ ?_ | intro hc)
          apply w_cq
          rfl; rfl; exact ints_eq _ _ (ids (c.l.eraseIdx k) ++ [id]) _ (by assumption) (by assumption) (by (exact srf)) (by (exact srf))
          (repeat' first | refine stp ?_ | intro v' hv' | intro (b : Nat) | (apply w_cq; rfl; rfl; exact few_is _ ops _ _ (by (focus ((repeat (first | assumption | apply OpsIn.there)); done))) (by assumption)) | (apply w_cq; rfl; rfl; exact awake_ok _) | refine spl ?_ ?_ | intro hc)
          (refine At_ret1 (by (first | exact .inl rfl | exact .inr rfl)) Try.results7 rfl ⟨by rfl, rfl⟩ (by (exact frm)))
end Go.Proofs.Ytenpeogkefmclaa
