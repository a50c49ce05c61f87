/- spread: settle. Conditions: none. -/
import Derived.Test.YtoddjdghjpdomaaSpE
set_option linter.all false
set_option linter.deprecated false
namespace Go.Proofs.Ytoddjdghjpdomaa
open Go.Sep
variable [B0 : Base]
def mvE (m : Mv) : List Value := [int m.1, int m.2.1, int m.2.2]
theorem mv_one (m : Mv) : (mvE m).all Value.oneCell' = true := rfl
theorem WfS.pop {M : List Wk} (h : WfS M) {f : Nat} (hf : f < M.length) {x : Ky} {r : List Ky} (hq : (wkA M f).q = x :: r) : WfS (popM M f) := by
  obtain ⟨h1, h2⟩ := popM_perm hf hq
  have hp : (rk M ++ wq M).Perm (x :: (rk (popM M f) ++ wq (popM M f))) := (h1.symm.append h2).trans List.perm_middle
  have hnd := (hp.map (·.id)).nodup_iff.1 h.nodup
  rw [List.map_cons, List.nodup_cons] at hnd
  refine ⟨hnd.2, fun y hy => h.kb y (hp.mem_iff.2 (List.mem_cons_of_mem _ hy)), fun i hi => ?_⟩
  rw [popM_len] at hi
  unfold popM
  rw [wkA_set hf]
  by_cases e : f = i
  · subst e; rw [if_pos rfl]; exact (h.srt f hf).sublist (List.tail_sublist _)
  · rw [if_neg e]; exact h.srt i hi
theorem least_cases (M : List Wk) : leastM M = -1 ∨ ∃ f : Nat, leastM M = (f : Int) := by
  unfold leastM
  rcases leastK_spec M M.length with ⟨h, -⟩ | ⟨i, _, _, _, h, -⟩
  · exact .inl h
  · exact .inr ⟨i, h⟩
theorem last_cases (M : List Wk) (k : Ky) : lastM M k = -1 ∨ ∃ f : Nat, lastM M k = (f : Int) := by
  unfold lastM
  split
  · exact .inr ⟨_, rfl⟩
  · rcases lastK_spec M k M.length with ⟨h, -⟩ | ⟨i, _, h, -⟩
    · exact .inl h
    · exact .inr ⟨i, h⟩
theorem step_none_cases {M : List Wk} (h : WfS M) (hs : stepM M = none) : leastM M = -1 ∨ ∃ (f : Nat) (x : Ky) (r : List Ky), f < M.length ∧ leastM M = (f : Int) ∧ (wkA M f).q = x :: r ∧ lastM M x = -1 := by
  unfold stepM at hs
  by_cases h0 : leastM M < 0
  · rcases least_cases M with h1 | ⟨f, h1⟩
    · exact .inl h1
    · rw [h1] at h0; omega
  · obtain ⟨f, x, r, hf, hlf, hq, hhd, -, -⟩ := least_some h h0
    rw [if_neg h0, hlf] at hs
    simp only [Int.toNat_natCast, hhd] at hs
    refine .inr ⟨f, x, r, hf, hlf, hq, ?_⟩
    rcases last_cases M x with h1 | ⟨t, h1⟩
    · exact h1
    · rw [h1, if_neg (by omega)] at hs; cases hs
set_option maxHeartbeats 16000000 in
theorem settle_ok (tb : Nat) (M : List Wk) (hwf : WfS M) (htw : ∀ m M', stepM M = some (m, M') → stepM M' = none) (R : List HP) :
    Called Try.prog 28 [ptr tb] (msb tb M :: R) (retSl 38 3 ((settleM M).1.map mvE) (msb tb (settleM M).2 :: R)) := by
  refine Called.isl ?_
  refine Fn1 Try.func28 rfl Try.ntmps28 rfl ?_
  (repeat' first | refine stp ?_ | intro v' hv' | intro (b : Nat) | (apply w_convU; rfl; rfl; omega; omega) | (apply w_convI; rfl; rfl; omega; omega) | (apply w_quoU; rfl; rfl; rfl; omega; omega; omega) | (apply w_remU; rfl; rfl; rfl; omega; omega) | (apply w_minL; rfl; rfl; rfl; omega) | (apply w_minG; rfl; rfl; rfl; omega) | (apply w_min; rfl; rfl; rfl) | (apply w_mfR; rfl; rfl) | (apply w_cvp; rfl; rfl; exact inferInstance; rfl; rfl; assumption) | (apply w_eqS2T; rfl; rfl; rfl; omega) | (apply w_eqS2F; rfl; rfl; rfl; omega) | (apply w_neS2T; rfl; rfl; rfl; omega) | (apply w_neS2F; rfl; rfl; rfl; omega) | (apply w_eqS3T; rfl; rfl; rfl; omega) | (apply w_eqS3F; rfl; rfl; rfl; omega) | (apply w_neS3T; rfl; rfl; rfl; omega) | (apply w_neS3F; rfl; rfl; rfl; omega) | (apply w_eqS3; rfl; rfl; rfl) | (apply w_neS3; rfl; rfl; rfl) | (apply w_eqS2; rfl; rfl; rfl) | (apply w_neS2; rfl; rfl; rfl) | (apply w_maxL; rfl; rfl; rfl; omega) | (apply w_maxG; rfl; rfl; rfl; omega) | (apply w_max; rfl; rfl; rfl) | (apply w_neB; rfl; rfl; rfl; rfl) | (apply w_eqB; rfl; rfl; rfl; rfl) | (apply w_st; rfl; rfl; rfl; ((focus ((repeat (first | exact hs1 _ | apply St.there)); done))); ((exact kmf))) | (apply w_sa; rfl; rfl; rfl; rfl; (focus ((repeat (first | exact hSa _ | apply StAll.there)); done)); ((exact kmf))) | (apply w_ld0; rfl; rfl; ((focus ((repeat (first | assumption | exact hr1 _ | exact hr2 _ | exact hr3 _ | exact .pt rfl | apply Rd.there)); done)))) | (apply w_ld; rfl; rfl; ((focus ((repeat (first | assumption | exact hr1 _ | exact hr2 _ | exact hr3 _ | exact .pt rfl | apply Rd.there)); done)))) | (apply w_la0; rfl; rfl; ((focus ((repeat (first | assumption | exact hra _ | exact hrb _ | exact hrk _ | exact .pt | apply RdAll.there)); done))); rfl) | (apply w_la; rfl; rfl; ((focus ((repeat (first | assumption | exact hra _ | exact hrb _ | exact hrk _ | exact .pt | apply RdAll.there)); done))); rfl) | (apply w_cq; rfl; rfl; exact hLe _ (by (focus ((repeat (first | assumption | exact SpR.here | apply SpR.there)); done)))) | (apply w_cq; rfl; rfl; exact hLa _ (by (focus ((repeat (first | assumption | exact SpR.here | apply SpR.there)); done)))) | refine spl ?_ ?_ | intro hc)
  refine C_loopK (α := Nat × Value) [3, 4, 5, 6, 7, 8, 9, 10, 11, 12, 13, 14, 15, 16, 17, 18, 19, 20, 21, 22, 23, 24, 25, 26, 27, 28, 29, 30, 31, 32, 33, 34, 35, 36, 37, 38, 39, 40, 41, 42, 43, 44, 45, 46, 47, 48, 49, 50, 51, 52, 53, 54, 55, 56, 57, 58, 59, 60, 61, 62, 63, 64, 65, 66, 67] (fun x => 2 - x.1) (fun x => [(3, x.2)]) (fun x => msb tb (if x.1 = 0 then M else (settleM M).2) :: sl 38 3 x.2 ((if x.1 = 0 then [] else (settleM M).1).map mvE) :: R) (fun x => x.1 ≤ 1 ∧ IsSl x.2 (if x.1 = 0 then [] else (settleM M).1).length ∧ (x.1 = 1 → stepM M ≠ none)) (0, .slice none 0 0) ⟨Nat.zero_le _, IsSl.nil, fun h => by cases h⟩ (by (focus ((repeat (first | exact Keep.nil | apply Keep.drop rfl | apply Keep.keep rfl)); done))) (by (exact sbf)) (fun w hs => ?_) ?_
  · exact (Sat.sl_nil (E := 38) (n := 3) (Sel.sat (by (focus ((repeat (first | exact Sel.refl | (apply Sel.cons; (focus ((repeat (first | exact Del.here | apply Del.there)); done))) | refine Sel.drop ?_)); done))) hs)).perm (.swap ..)
  rintro ⟨k, vo1⟩ ⟨hk1, hvo, hks⟩
  dsimp only [List.cons_append, List.nil_append] at *
  have hcase : ∃ Mk out, (if k = 0 then M else (settleM M).2) = Mk ∧ (if k = 0 then ([] : List Mv) else (settleM M).1) = out ∧ WfS Mk ∧ ((stepM Mk = none ∧ settleM M = (out, Mk)) ∨ (k = 0 ∧ out = [] ∧ Mk = M ∧ ∃ m M', stepM M = some (m, M') ∧ settleM M = ([m], M'))) := by
    cases hs : stepM M with
    | none =>
      have e : settleM M = ([], M) := by unfold settleM; rw [hs]
      have hk0 : k = 0 := by
        rcases Nat.lt_or_ge k 1 with h | h
        · omega
        · exact absurd hs (hks (by omega))
      exact ⟨M, [], by rw [if_pos hk0], by rw [if_pos hk0], hwf, .inl ⟨hs, e⟩⟩
    | some p =>
      obtain ⟨m, M'⟩ := p
      have e : settleM M = ([m], M') := by unfold settleM; rw [hs]
      by_cases hk0 : k = 0
      · exact ⟨M, [], by rw [if_pos hk0], by rw [if_pos hk0], hwf, .inr ⟨hk0, rfl, rfl, m, M', rfl, e⟩⟩
      · refine ⟨M', [m], by rw [if_neg hk0, e], by rw [if_neg hk0, e], hwf.step hs, .inl ⟨htw m M' hs, e⟩⟩
  obtain ⟨Mk, out, e1, e2, hwk, hst⟩ := hcase
  rw [e1, e2]
  rw [e2] at hvo
  refine C_msb fun lv ls hok => ?_
  have hl := hok.lisl
  have hlen := hok.len
  have hfew := hok.few
  rcases hst with ⟨hsn, hse⟩ | ⟨hk0, ho, rfl, m, M', hss, hse⟩
  · rw [hse]
    dsimp only
    rcases step_none_cases hwk hsn with h0 | ⟨f, x, r, hf, h0, hq, hla⟩
    · have hLe : ∀ L, SpR L tb lv ls → Called Try.prog 41 [ptr tb] L (is (int (-1)) L) := fun L h => by rw [← h0]; exact least_ok tb lv ls Mk hok L h
      (repeat' first | refine stp ?_ | intro v' hv' | intro (b : Nat) | (apply w_convU; rfl; rfl; omega; omega) | (apply w_convI; rfl; rfl; omega; omega) | (apply w_quoU; rfl; rfl; rfl; omega; omega; omega) | (apply w_remU; rfl; rfl; rfl; omega; omega) | (apply w_minL; rfl; rfl; rfl; omega) | (apply w_minG; rfl; rfl; rfl; omega) | (apply w_min; rfl; rfl; rfl) | (apply w_mfR; rfl; rfl) | (apply w_cvp; rfl; rfl; exact inferInstance; rfl; rfl; assumption) | (apply w_eqS2T; rfl; rfl; rfl; omega) | (apply w_eqS2F; rfl; rfl; rfl; omega) | (apply w_neS2T; rfl; rfl; rfl; omega) | (apply w_neS2F; rfl; rfl; rfl; omega) | (apply w_eqS3T; rfl; rfl; rfl; omega) | (apply w_eqS3F; rfl; rfl; rfl; omega) | (apply w_neS3T; rfl; rfl; rfl; omega) | (apply w_neS3F; rfl; rfl; rfl; omega) | (apply w_eqS3; rfl; rfl; rfl) | (apply w_neS3; rfl; rfl; rfl) | (apply w_eqS2; rfl; rfl; rfl) | (apply w_neS2; rfl; rfl; rfl) | (apply w_maxL; rfl; rfl; rfl; omega) | (apply w_maxG; rfl; rfl; rfl; omega) | (apply w_max; rfl; rfl; rfl) | (apply w_neB; rfl; rfl; rfl; rfl) | (apply w_eqB; rfl; rfl; rfl; rfl) | (apply w_st; rfl; rfl; rfl; ((focus ((repeat (first | exact hs1 _ | apply St.there)); done))); ((exact kmf))) | (apply w_sa; rfl; rfl; rfl; rfl; (focus ((repeat (first | exact hSa _ | apply StAll.there)); done)); ((exact kmf))) | (apply w_ld0; rfl; rfl; ((focus ((repeat (first | assumption | exact hr1 _ | exact hr2 _ | exact hr3 _ | exact .pt rfl | apply Rd.there)); done)))) | (apply w_ld; rfl; rfl; ((focus ((repeat (first | assumption | exact hr1 _ | exact hr2 _ | exact hr3 _ | exact .pt rfl | apply Rd.there)); done)))) | (apply w_la0; rfl; rfl; ((focus ((repeat (first | assumption | exact hra _ | exact hrb _ | exact hrk _ | exact .pt | apply RdAll.there)); done))); rfl) | (apply w_la; rfl; rfl; ((focus ((repeat (first | assumption | exact hra _ | exact hrb _ | exact hrk _ | exact .pt | apply RdAll.there)); done))); rfl) | (apply w_cq; rfl; rfl; exact hLe _ (by (focus ((repeat (first | assumption | exact SpR.here | apply SpR.there)); done)))) | (apply w_cq; rfl; rfl; exact hLa _ (by (focus ((repeat (first | assumption | exact SpR.here | apply SpR.there)); done)))) | refine spl ?_ ?_ | intro hc)
      refine At_ret1 (.inl rfl) Try.results28 rfl rfl (fun w hs => ?_)
      exact (msb_fold hok hs).perm (.swap ..)
    · have hLe : ∀ L, SpR L tb lv ls → Called Try.prog 41 [ptr tb] L (is (int (f : Int)) L) := fun L h => by rw [← h0]; exact least_ok tb lv ls Mk hok L h
      have hLa : ∀ L, SpR L tb lv ls → Called Try.prog 42 [ptr tb, .agg #[int x.at', int x.id]] L (is (int (-1)) L) := fun L h => by rw [← hla]; exact last_ok tb lv ls Mk x hok L h
      obtain ⟨vf, hp, hvf, hp64⟩ := hok.at hf
      have hr1 : ∀ L, Rd (sl 73 4 lv (ls.map wkE) :: L) ⟨vb lv, Sep.vo lv + f * 4 + 3 + 0, none⟩ vf := fun L => Rd.wk (k := 3) hp rfl
      have hra : ∀ L, RdAll (qsH ls :: L) (vb vf) (Sep.vo vf + 0 * 2) [int x.at', int x.id] := fun L => RdAll.srcI (qsSrc hp) (by rw [hq]; rfl)
      rw [hq] at hvf
      have hvf1 : IsSl vf (r.length + 1) := hvf
      clear hvf
      (repeat' first | refine stp ?_ | intro v' hv' | intro (b : Nat) | (apply w_convU; rfl; rfl; omega; omega) | (apply w_convI; rfl; rfl; omega; omega) | (apply w_quoU; rfl; rfl; rfl; omega; omega; omega) | (apply w_remU; rfl; rfl; rfl; omega; omega) | (apply w_minL; rfl; rfl; rfl; omega) | (apply w_minG; rfl; rfl; rfl; omega) | (apply w_min; rfl; rfl; rfl) | (apply w_mfR; rfl; rfl) | (apply w_cvp; rfl; rfl; exact inferInstance; rfl; rfl; assumption) | (apply w_eqS2T; rfl; rfl; rfl; omega) | (apply w_eqS2F; rfl; rfl; rfl; omega) | (apply w_neS2T; rfl; rfl; rfl; omega) | (apply w_neS2F; rfl; rfl; rfl; omega) | (apply w_eqS3T; rfl; rfl; rfl; omega) | (apply w_eqS3F; rfl; rfl; rfl; omega) | (apply w_neS3T; rfl; rfl; rfl; omega) | (apply w_neS3F; rfl; rfl; rfl; omega) | (apply w_eqS3; rfl; rfl; rfl) | (apply w_neS3; rfl; rfl; rfl) | (apply w_eqS2; rfl; rfl; rfl) | (apply w_neS2; rfl; rfl; rfl) | (apply w_maxL; rfl; rfl; rfl; omega) | (apply w_maxG; rfl; rfl; rfl; omega) | (apply w_max; rfl; rfl; rfl) | (apply w_neB; rfl; rfl; rfl; rfl) | (apply w_eqB; rfl; rfl; rfl; rfl) | (apply w_st; rfl; rfl; rfl; ((focus ((repeat (first | exact hs1 _ | apply St.there)); done))); ((exact kmf))) | (apply w_sa; rfl; rfl; rfl; rfl; (focus ((repeat (first | exact hSa _ | apply StAll.there)); done)); ((exact kmf))) | (apply w_ld0; rfl; rfl; ((focus ((repeat (first | assumption | exact hr1 _ | exact hr2 _ | exact hr3 _ | exact .pt rfl | apply Rd.there)); done)))) | (apply w_ld; rfl; rfl; ((focus ((repeat (first | assumption | exact hr1 _ | exact hr2 _ | exact hr3 _ | exact .pt rfl | apply Rd.there)); done)))) | (apply w_la0; rfl; rfl; ((focus ((repeat (first | assumption | exact hra _ | exact hrb _ | exact hrk _ | exact .pt | apply RdAll.there)); done))); rfl) | (apply w_la; rfl; rfl; ((focus ((repeat (first | assumption | exact hra _ | exact hrb _ | exact hrk _ | exact .pt | apply RdAll.there)); done))); rfl) | (apply w_cq; rfl; rfl; exact hLe _ (by (focus ((repeat (first | assumption | exact SpR.here | apply SpR.there)); done)))) | (apply w_cq; rfl; rfl; exact hLa _ (by (focus ((repeat (first | assumption | exact SpR.here | apply SpR.there)); done)))) | refine spl ?_ ?_ | intro hc)
      refine At_ret1 (.inl rfl) Try.results28 rfl rfl (fun w hs => ?_)
      exact (msb_fold hok hs).perm (.swap ..)
  · obtain ⟨-, f, t, x, r, rfl, hf, ht, hq, rfl, hlf, hlt⟩ := step_some hwk hss
    subst hk0
    subst ho
    have hwp := hwk.pop hf hq
    have hLe : ∀ L, SpR L tb lv ls → Called Try.prog 41 [ptr tb] L (is (int (f : Int)) L) := fun L h => by rw [← hlf]; exact least_ok tb lv ls Mk hok L h
    have hLa : ∀ L, SpR L tb lv ls → Called Try.prog 42 [ptr tb, .agg #[int x.at', int x.id]] L (is (int (t : Int)) L) := fun L h => by rw [← hlt]; exact last_ok tb lv ls Mk x hok L h
    obtain ⟨vf, hp, hvf, hp64⟩ := hok.at hf
    have hflen := hf
    have htlen := ht
    rw [hlen] at hflen htlen
    have htp : t < (popM Mk f).length := by rw [popM_len]; exact ht
    have hpop : popM Mk f = Mk.set f ⟨(wkA Mk f).runs, (wkA Mk f).k, r⟩ := by unfold popM; rw [hq]; rfl
    have hwfin := hwk.step hss
    generalize hW0 : wkA Mk f = W0 at *
    obtain ⟨r0, k0, q0⟩ := W0
    dsimp only at hq hpop hvf hp64
    subst hq
    have hvf1 : IsSl vf (r.length + 1) := hvf
    have hr64 : r.length ≤ 63 := by simpa using hp64
    have hr1 : ∀ L, Rd (sl 73 4 lv (ls.map wkE) :: L) ⟨vb lv, Sep.vo lv + f * 4 + 3 + 0, none⟩ vf := fun L => Rd.wk (k := 3) hp rfl
    have hra : ∀ L, RdAll (qsH ls :: L) (vb vf) (Sep.vo vf + 0 * 2) [int x.at', int x.id] := fun L => RdAll.srcI (qsSrc hp) rfl
    clear hvf
    (repeat' first | refine stp ?_ | intro v' hv' | intro (b : Nat) | (apply w_convU; rfl; rfl; omega; omega) | (apply w_convI; rfl; rfl; omega; omega) | (apply w_quoU; rfl; rfl; rfl; omega; omega; omega) | (apply w_remU; rfl; rfl; rfl; omega; omega) | (apply w_minL; rfl; rfl; rfl; omega) | (apply w_minG; rfl; rfl; rfl; omega) | (apply w_min; rfl; rfl; rfl) | (apply w_mfR; rfl; rfl) | (apply w_cvp; rfl; rfl; exact inferInstance; rfl; rfl; assumption) | (apply w_eqS2T; rfl; rfl; rfl; omega) | (apply w_eqS2F; rfl; rfl; rfl; omega) | (apply w_neS2T; rfl; rfl; rfl; omega) | (apply w_neS2F; rfl; rfl; rfl; omega) | (apply w_eqS3T; rfl; rfl; rfl; omega) | (apply w_eqS3F; rfl; rfl; rfl; omega) | (apply w_neS3T; rfl; rfl; rfl; omega) | (apply w_neS3F; rfl; rfl; rfl; omega) | (apply w_eqS3; rfl; rfl; rfl) | (apply w_neS3; rfl; rfl; rfl) | (apply w_eqS2; rfl; rfl; rfl) | (apply w_neS2; rfl; rfl; rfl) | (apply w_maxL; rfl; rfl; rfl; omega) | (apply w_maxG; rfl; rfl; rfl; omega) | (apply w_max; rfl; rfl; rfl) | (apply w_neB; rfl; rfl; rfl; rfl) | (apply w_eqB; rfl; rfl; rfl; rfl) | (apply w_st; rfl; rfl; rfl; ((focus ((repeat (first | exact hs1 _ | apply St.there)); done))); ((exact kmf))) | (apply w_sa; rfl; rfl; rfl; rfl; (focus ((repeat (first | exact hSa _ | apply StAll.there)); done)); ((exact kmf))) | (apply w_ld0; rfl; rfl; ((focus ((repeat (first | assumption | exact hr1 _ | exact hr2 _ | exact hr3 _ | exact .pt rfl | apply Rd.there)); done)))) | (apply w_ld; rfl; rfl; ((focus ((repeat (first | assumption | exact hr1 _ | exact hr2 _ | exact hr3 _ | exact .pt rfl | apply Rd.there)); done)))) | (apply w_la0; rfl; rfl; ((focus ((repeat (first | assumption | exact hra _ | exact hrb _ | exact hrk _ | exact .pt | apply RdAll.there)); done))); rfl) | (apply w_la; rfl; rfl; ((focus ((repeat (first | assumption | exact hra _ | exact hrb _ | exact hrk _ | exact .pt | apply RdAll.there)); done))); rfl) | (apply w_cq; rfl; rfl; exact hLe _ (by (focus ((repeat (first | assumption | exact SpR.here | apply SpR.there)); done)))) | (apply w_cq; rfl; rfl; exact hLa _ (by (focus ((repeat (first | assumption | exact SpR.here | apply SpR.there)); done)))) | refine spl ?_ ?_ | intro hc)
    refine W_sat (L' := sl 36 2 vf ((x :: r).map kyE) :: sl 73 4 lv (ls.map wkE) :: pt tb 67 [lv] :: qsH (ls.eraseIdx f) :: sl 38 3 vo1 (([] : List Mv).map mvE) :: R) (fun w hs => ?_) ?_
    · have h2 : Sat w (qsH ls :: sl 73 4 lv (ls.map wkE) :: pt tb 67 [lv] :: sl 38 3 vo1 (([] : List Mv).map mvE) :: R) := Sel.sat (by (focus ((repeat (first | exact Sel.refl | (apply Sel.cons; (focus ((repeat (first | exact Del.here | apply Del.there)); done))) | refine Sel.drop ?_)); done))) hs
      exact Sel.sat (by (focus ((repeat (first | exact Sel.refl | (apply Sel.cons; (focus ((repeat (first | exact Del.here | apply Del.there)); done))) | refine Sel.drop ?_)); done))) (qs_open hp h2)
    apply w_cl
    rfl; rfl
    exact first_ok (vb lv) (Sep.vo lv + f * 4 + 3) vf x r (by omega) (sl 73 4 lv (ls.map wkE) :: pt tb 67 [lv] :: qsH (ls.eraseIdx f) :: sl 38 3 vo1 (([] : List Mv).map mvE) :: R) (fun v' => sl 73 4 lv ((ls.set f (v', ⟨r0, k0, r⟩)).map wkE) :: pt tb 67 [lv] :: qsH (ls.eraseIdx f) :: sl 38 3 vo1 (([] : List Mv).map mvE) :: R) hvf1 (Rd.wk hp rfl) (fun v' => St.wk hp (by decide) rfl)
    obtain ⟨v0, hv0⟩ := IsSl.any (N := r.length) (by omega)
    exact ⟨_, _, v0, rfl, hv0, rfl⟩
    rintro _ _ ⟨v1, rfl, hv1, rfl⟩
    refine ⟨by (exact kmf), ?_⟩
    refine W_sat (L' := pt tb 67 [lv] :: sl 73 4 lv ((ls.set f (v1, ⟨r0, k0, r⟩)).map wkE) :: qsH (ls.set f (v1, ⟨r0, k0, r⟩)) :: sl 38 3 vo1 (([] : List Mv).map mvE) :: R) (fun w hs => ?_) ?_
    · have h2 : Sat w (sl 36 2 v1 (r.map kyE) :: qsH (ls.eraseIdx f) :: sl 73 4 lv ((ls.set f (v1, ⟨r0, k0, r⟩)).map wkE) :: pt tb 67 [lv] :: sl 38 3 vo1 (([] : List Mv).map mvE) :: R) := Sel.sat (by (focus ((repeat (first | exact Sel.refl | (apply Sel.cons; (focus ((repeat (first | exact Del.here | apply Del.there)); done))) | refine Sel.drop ?_)); done))) hs
      have h3 := qs_close hflen (v := v1) (k := ⟨r0, k0, r⟩) h2
      exact Sel.sat (by (focus ((repeat (first | exact Sel.refl | (apply Sel.cons; (focus ((repeat (first | exact Del.here | apply Del.there)); done))) | refine Sel.drop ?_)); done))) h3
    have hok1 : MsOk (popM Mk f) lv (ls.set f (v1, ⟨r0, k0, r⟩)) := by
      rw [hpop]
      exact hok.set hv1 (by rw [← hpop]; exact hwp)
    have hl1 := hok1.lisl
    obtain ⟨vt, hpt, hvt, hpt64⟩ := hok1.at htp
    clear hr1 hra hLe hLa hp hpop hwp hvf1 hr64 hp64
    have htls : t < (ls.set f (v1, ⟨r0, k0, r⟩)).length := by rw [List.length_set]; exact htlen
    have hlen1 : (ls.set f (v1, ⟨r0, k0, r⟩)).length ≤ 16 := hok1.few
    generalize ls.set f (v1, ⟨r0, k0, r⟩) = ls1 at *
    generalize wkA (popM Mk f) t = W1 at *
    obtain ⟨rr1, k1, q1⟩ := W1
    unfold runW at hwfin hse
    dsimp only at hvt hpt64 hwfin hse
    have hr1 : ∀ L, Rd (sl 73 4 lv (ls1.map wkE) :: L) ⟨vb lv, Sep.vo lv + t * 4 + 0, none⟩ (.bool rr1) := fun L => Rd.wk (k := 0) hpt rfl
    cases rr1 with
    | false =>
      have hs1 : ∀ L, St (sl 73 4 lv (ls1.map wkE) :: L) ⟨vb lv, Sep.vo lv + t * 4 + 0, none⟩ (.bool true) (sl 73 4 lv ((ls1.set t (vt, ⟨true, k1, q1⟩)).map wkE) :: L) := fun L => St.wk hpt (by decide) rfl
      have hSa : ∀ L, StAll (sl 73 4 lv ((ls1.set t (vt, ⟨true, k1, q1⟩)).map wkE) :: L) (vb lv) (Sep.vo lv + t * 4 + 1) (kyE x) (sl 73 4 lv ((ls1.set t (vt, ⟨true, x, q1⟩)).map wkE) :: L) := fun L => by
        have := StAll.wk (lv := lv) (L := L) (k := x) (ls := ls1.set t (vt, ⟨true, k1, q1⟩)) (i := t) (v := vt) (x := ⟨true, k1, q1⟩) (List.getElem?_set_self htls)
        rwa [List.set_set] at this
      have hok2 : MsOk ((popM Mk f).set t ⟨true, x, q1⟩) lv (ls1.set t (vt, ⟨true, x, q1⟩)) := hok1.set hvt hwfin
      (repeat' first | refine stp ?_ | intro v' hv' | intro (b : Nat) | (apply w_convU; rfl; rfl; omega; omega) | (apply w_convI; rfl; rfl; omega; omega) | (apply w_quoU; rfl; rfl; rfl; omega; omega; omega) | (apply w_remU; rfl; rfl; rfl; omega; omega) | (apply w_minL; rfl; rfl; rfl; omega) | (apply w_minG; rfl; rfl; rfl; omega) | (apply w_min; rfl; rfl; rfl) | (apply w_mfR; rfl; rfl) | (apply w_cvp; rfl; rfl; exact inferInstance; rfl; rfl; assumption) | (apply w_eqS2T; rfl; rfl; rfl; omega) | (apply w_eqS2F; rfl; rfl; rfl; omega) | (apply w_neS2T; rfl; rfl; rfl; omega) | (apply w_neS2F; rfl; rfl; rfl; omega) | (apply w_eqS3T; rfl; rfl; rfl; omega) | (apply w_eqS3F; rfl; rfl; rfl; omega) | (apply w_neS3T; rfl; rfl; rfl; omega) | (apply w_neS3F; rfl; rfl; rfl; omega) | (apply w_eqS3; rfl; rfl; rfl) | (apply w_neS3; rfl; rfl; rfl) | (apply w_eqS2; rfl; rfl; rfl) | (apply w_neS2; rfl; rfl; rfl) | (apply w_maxL; rfl; rfl; rfl; omega) | (apply w_maxG; rfl; rfl; rfl; omega) | (apply w_max; rfl; rfl; rfl) | (apply w_neB; rfl; rfl; rfl; rfl) | (apply w_eqB; rfl; rfl; rfl; rfl) | (apply w_st; rfl; rfl; rfl; ((focus ((repeat (first | exact hs1 _ | apply St.there)); done))); ((exact kmf))) | (apply w_sa; rfl; rfl; rfl; rfl; (focus ((repeat (first | exact hSa _ | apply StAll.there)); done)); ((exact kmf))) | (apply w_ld0; rfl; rfl; ((focus ((repeat (first | assumption | exact hr1 _ | exact hr2 _ | exact hr3 _ | exact .pt rfl | apply Rd.there)); done)))) | (apply w_ld; rfl; rfl; ((focus ((repeat (first | assumption | exact hr1 _ | exact hr2 _ | exact hr3 _ | exact .pt rfl | apply Rd.there)); done)))) | (apply w_la0; rfl; rfl; ((focus ((repeat (first | assumption | exact hra _ | exact hrb _ | exact hrk _ | exact .pt | apply RdAll.there)); done))); rfl) | (apply w_la; rfl; rfl; ((focus ((repeat (first | assumption | exact hra _ | exact hrb _ | exact hrk _ | exact .pt | apply RdAll.there)); done))); rfl) | (apply w_cq; rfl; rfl; exact hLe _ (by (focus ((repeat (first | assumption | exact SpR.here | apply SpR.there)); done)))) | (apply w_cq; rfl; rfl; exact hLa _ (by (focus ((repeat (first | assumption | exact SpR.here | apply SpR.there)); done)))) | refine spl ?_ ?_ | intro hc)
      ((apply w_apM (l2 := [((x.id, (f : Int), (t : Int)) : Mv)]); rfl; rfl; rfl; (focus ((repeat (first | exact Del.here | apply Del.there)); done)); ((exact srf)); (intro; rfl); (first | (simp only [List.length_cons, List.length_nil]; omega) | (simp; omega)); (first | (simp only [List.length_cons, List.length_nil]; omega) | (simp; omega))); intro v' hv'; refine ⟨by (exact kmf), ?_⟩)
      (repeat' first | refine stp ?_ | intro v' hv' | intro (b : Nat) | (apply w_convU; rfl; rfl; omega; omega) | (apply w_convI; rfl; rfl; omega; omega) | (apply w_quoU; rfl; rfl; rfl; omega; omega; omega) | (apply w_remU; rfl; rfl; rfl; omega; omega) | (apply w_minL; rfl; rfl; rfl; omega) | (apply w_minG; rfl; rfl; rfl; omega) | (apply w_min; rfl; rfl; rfl) | (apply w_mfR; rfl; rfl) | (apply w_cvp; rfl; rfl; exact inferInstance; rfl; rfl; assumption) | (apply w_eqS2T; rfl; rfl; rfl; omega) | (apply w_eqS2F; rfl; rfl; rfl; omega) | (apply w_neS2T; rfl; rfl; rfl; omega) | (apply w_neS2F; rfl; rfl; rfl; omega) | (apply w_eqS3T; rfl; rfl; rfl; omega) | (apply w_eqS3F; rfl; rfl; rfl; omega) | (apply w_neS3T; rfl; rfl; rfl; omega) | (apply w_neS3F; rfl; rfl; rfl; omega) | (apply w_eqS3; rfl; rfl; rfl) | (apply w_neS3; rfl; rfl; rfl) | (apply w_eqS2; rfl; rfl; rfl) | (apply w_neS2; rfl; rfl; rfl) | (apply w_maxL; rfl; rfl; rfl; omega) | (apply w_maxG; rfl; rfl; rfl; omega) | (apply w_max; rfl; rfl; rfl) | (apply w_neB; rfl; rfl; rfl; rfl) | (apply w_eqB; rfl; rfl; rfl; rfl) | (apply w_st; rfl; rfl; rfl; ((focus ((repeat (first | exact hs1 _ | apply St.there)); done))); ((exact kmf))) | (apply w_sa; rfl; rfl; rfl; rfl; (focus ((repeat (first | exact hSa _ | apply StAll.there)); done)); ((exact kmf))) | (apply w_ld0; rfl; rfl; ((focus ((repeat (first | assumption | exact hr1 _ | exact hr2 _ | exact hr3 _ | exact .pt rfl | apply Rd.there)); done)))) | (apply w_ld; rfl; rfl; ((focus ((repeat (first | assumption | exact hr1 _ | exact hr2 _ | exact hr3 _ | exact .pt rfl | apply Rd.there)); done)))) | (apply w_la0; rfl; rfl; ((focus ((repeat (first | assumption | exact hra _ | exact hrb _ | exact hrk _ | exact .pt | apply RdAll.there)); done))); rfl) | (apply w_la; rfl; rfl; ((focus ((repeat (first | assumption | exact hra _ | exact hrb _ | exact hrk _ | exact .pt | apply RdAll.there)); done))); rfl) | (apply w_cq; rfl; rfl; exact hLe _ (by (focus ((repeat (first | assumption | exact SpR.here | apply SpR.there)); done)))) | (apply w_cq; rfl; rfl; exact hLa _ (by (focus ((repeat (first | assumption | exact SpR.here | apply SpR.there)); done)))) | refine spl ?_ ?_ | intro hc)
      refine At_againK (1, v') ⟨Nat.le_refl _, by rw [hse]; exact hv', fun _ h => by rw [hss] at h; cases h⟩ (by omega) (by (exact sbf)) (by (exact sbf)) (fun w hs => ?_)
      rw [hse]
      have h1 : Sat w (pt tb 67 [lv] :: sl 73 4 lv ((ls1.set t (vt, ⟨true, x, q1⟩)).map wkE) :: qsH (ls1.set t (vt, ⟨true, x, q1⟩)) :: sl 38 3 v' (([] ++ [((x.id, (f : Int), (t : Int)) : Mv)]).map mvE) :: R) := ?_
      · exact Sel.sat (by (focus ((repeat (first | exact Sel.refl | (apply Sel.cons; (focus ((repeat (first | exact Del.here | apply Del.there)); done))) | refine Sel.drop ?_)); done))) (msb_fold hok2 h1)
      have h2 : Sat w (qsH ls1 :: pt tb 67 [lv] :: sl 73 4 lv ((ls1.set t (vt, ⟨true, x, q1⟩)).map wkE) :: sl 38 3 v' (([] ++ [((x.id, (f : Int), (t : Int)) : Mv)]).map mvE) :: R) := Sel.sat (by (focus ((repeat (first | exact Sel.refl | (apply Sel.cons; (focus ((repeat (first | exact Del.here | apply Del.there)); done))) | refine Sel.drop ?_)); done))) hs
      have h3 := qs_close htls (v := vt) (k := ⟨true, x, q1⟩) (qs_open hpt h2)
      exact Sel.sat (by (focus ((repeat (first | exact Sel.refl | (apply Sel.cons; (focus ((repeat (first | exact Del.here | apply Del.there)); done))) | refine Sel.drop ?_)); done))) h3
    | true =>
      have hrk : ∀ L, RdAll (sl 73 4 lv (ls1.map wkE) :: L) (vb lv) (Sep.vo lv + t * 4 + 1) [int k1.at', int k1.id] := fun L => ⟨Rd.wk (k := 1) hpt rfl, Rd.wk (k := 2) hpt rfl, trivial⟩
      (repeat' first | refine stp ?_ | intro v' hv' | intro (b : Nat) | (apply w_convU; rfl; rfl; omega; omega) | (apply w_convI; rfl; rfl; omega; omega) | (apply w_quoU; rfl; rfl; rfl; omega; omega; omega) | (apply w_remU; rfl; rfl; rfl; omega; omega) | (apply w_minL; rfl; rfl; rfl; omega) | (apply w_minG; rfl; rfl; rfl; omega) | (apply w_min; rfl; rfl; rfl) | (apply w_mfR; rfl; rfl) | (apply w_cvp; rfl; rfl; exact inferInstance; rfl; rfl; assumption) | (apply w_eqS2T; rfl; rfl; rfl; omega) | (apply w_eqS2F; rfl; rfl; rfl; omega) | (apply w_neS2T; rfl; rfl; rfl; omega) | (apply w_neS2F; rfl; rfl; rfl; omega) | (apply w_eqS3T; rfl; rfl; rfl; omega) | (apply w_eqS3F; rfl; rfl; rfl; omega) | (apply w_neS3T; rfl; rfl; rfl; omega) | (apply w_neS3F; rfl; rfl; rfl; omega) | (apply w_eqS3; rfl; rfl; rfl) | (apply w_neS3; rfl; rfl; rfl) | (apply w_eqS2; rfl; rfl; rfl) | (apply w_neS2; rfl; rfl; rfl) | (apply w_maxL; rfl; rfl; rfl; omega) | (apply w_maxG; rfl; rfl; rfl; omega) | (apply w_max; rfl; rfl; rfl) | (apply w_neB; rfl; rfl; rfl; rfl) | (apply w_eqB; rfl; rfl; rfl; rfl) | (apply w_st; rfl; rfl; rfl; ((focus ((repeat (first | exact hs1 _ | apply St.there)); done))); ((exact kmf))) | (apply w_sa; rfl; rfl; rfl; rfl; (focus ((repeat (first | exact hSa _ | apply StAll.there)); done)); ((exact kmf))) | (apply w_ld0; rfl; rfl; ((focus ((repeat (first | assumption | exact hr1 _ | exact hr2 _ | exact hr3 _ | exact .pt rfl | apply Rd.there)); done)))) | (apply w_ld; rfl; rfl; ((focus ((repeat (first | assumption | exact hr1 _ | exact hr2 _ | exact hr3 _ | exact .pt rfl | apply Rd.there)); done)))) | (apply w_la0; rfl; rfl; ((focus ((repeat (first | assumption | exact hra _ | exact hrb _ | exact hrk _ | exact .pt | apply RdAll.there)); done))); rfl) | (apply w_la; rfl; rfl; ((focus ((repeat (first | assumption | exact hra _ | exact hrb _ | exact hrk _ | exact .pt | apply RdAll.there)); done))); rfl) | (apply w_cq; rfl; rfl; exact hLe _ (by (focus ((repeat (first | assumption | exact SpR.here | apply SpR.there)); done)))) | (apply w_cq; rfl; rfl; exact hLa _ (by (focus ((repeat (first | assumption | exact SpR.here | apply SpR.there)); done)))) | refine spl ?_ ?_ | intro hc)
      obtain ⟨b6, hb6⟩ : ∃ r, r = b := ⟨_, rfl⟩
      subst hb6
      apply w_cl
      rfl; rfl
      exact (put_ok (vb lv) (Sep.vo lv + t * 4 + 3) vt q1 k1 (by omega) (sl 73 4 lv (ls1.map wkE) :: pt b6 36 (kyE x) :: pt tb 67 [lv] :: qsH (ls1.eraseIdx t) :: sl 38 3 vo1 (([] : List Mv).map mvE) :: R) (fun v' => sl 73 4 lv ((ls1.set t (v', ⟨true, k1, insK q1 k1⟩)).map wkE) :: pt b6 36 (kyE x) :: pt tb 67 [lv] :: qsH (ls1.eraseIdx t) :: sl 38 3 vo1 (([] : List Mv).map mvE) :: R) hvt (Rd.wk hpt rfl) (fun v' => St.wk hpt (by decide) rfl)).pre (fun w hs => by
        have h2 : Sat w (qsH ls1 :: sl 73 4 lv (ls1.map wkE) :: pt b6 36 (kyE x) :: pt tb 67 [lv] :: sl 38 3 vo1 (([] : List Mv).map mvE) :: R) := Sel.sat (by (focus ((repeat (first | exact Sel.refl | (apply Sel.cons; (focus ((repeat (first | exact Del.here | apply Del.there)); done))) | refine Sel.drop ?_)); done))) hs
        exact Sel.sat (by (focus ((repeat (first | exact Sel.refl | (apply Sel.cons; (focus ((repeat (first | exact Del.here | apply Del.there)); done))) | refine Sel.drop ?_)); done))) (qs_open hpt h2))
      obtain ⟨v0, hv0⟩ := IsSl.any (N := (insK q1 k1).length) (by rw [insK_len]; omega)
      exact ⟨_, _, rfl, v0, hv0, rfl⟩
      rintro _ _ ⟨rfl, v2, hv2, rfl⟩
      refine ⟨by (exact kmf), ?_⟩
      have hs1 : ∀ L, St (sl 73 4 lv ((ls1.set t (v2, ⟨true, k1, insK q1 k1⟩)).map wkE) :: L) ⟨vb lv, Sep.vo lv + t * 4 + 0, none⟩ (.bool true) (sl 73 4 lv ((ls1.set t (v2, ⟨true, k1, insK q1 k1⟩)).map wkE) :: L) := fun L => by
        have := St.wk (lv := lv) (L := L) (ls := ls1.set t (v2, ⟨true, k1, insK q1 k1⟩)) (i := t) (k := 0) (p := (v2, ⟨true, k1, insK q1 k1⟩)) (p' := (v2, ⟨true, k1, insK q1 k1⟩)) (u := .bool true) (List.getElem?_set_self htls) (by decide) rfl
        rwa [List.set_set] at this
      have hSa : ∀ L, StAll (sl 73 4 lv ((ls1.set t (v2, ⟨true, k1, insK q1 k1⟩)).map wkE) :: L) (vb lv) (Sep.vo lv + t * 4 + 1) (kyE x) (sl 73 4 lv ((ls1.set t (v2, ⟨true, x, insK q1 k1⟩)).map wkE) :: L) := fun L => by
        have := StAll.wk (lv := lv) (L := L) (k := x) (ls := ls1.set t (v2, ⟨true, k1, insK q1 k1⟩)) (i := t) (v := v2) (x := ⟨true, k1, insK q1 k1⟩) (List.getElem?_set_self htls)
        rwa [List.set_set] at this
      have hok2 : MsOk ((popM Mk f).set t ⟨true, x, insK q1 k1⟩) lv (ls1.set t (v2, ⟨true, x, insK q1 k1⟩)) := hok1.set hv2 hwfin
      (repeat' first | refine stp ?_ | intro v' hv' | intro (b : Nat) | (apply w_convU; rfl; rfl; omega; omega) | (apply w_convI; rfl; rfl; omega; omega) | (apply w_quoU; rfl; rfl; rfl; omega; omega; omega) | (apply w_remU; rfl; rfl; rfl; omega; omega) | (apply w_minL; rfl; rfl; rfl; omega) | (apply w_minG; rfl; rfl; rfl; omega) | (apply w_min; rfl; rfl; rfl) | (apply w_mfR; rfl; rfl) | (apply w_cvp; rfl; rfl; exact inferInstance; rfl; rfl; assumption) | (apply w_eqS2T; rfl; rfl; rfl; omega) | (apply w_eqS2F; rfl; rfl; rfl; omega) | (apply w_neS2T; rfl; rfl; rfl; omega) | (apply w_neS2F; rfl; rfl; rfl; omega) | (apply w_eqS3T; rfl; rfl; rfl; omega) | (apply w_eqS3F; rfl; rfl; rfl; omega) | (apply w_neS3T; rfl; rfl; rfl; omega) | (apply w_neS3F; rfl; rfl; rfl; omega) | (apply w_eqS3; rfl; rfl; rfl) | (apply w_neS3; rfl; rfl; rfl) | (apply w_eqS2; rfl; rfl; rfl) | (apply w_neS2; rfl; rfl; rfl) | (apply w_maxL; rfl; rfl; rfl; omega) | (apply w_maxG; rfl; rfl; rfl; omega) | (apply w_max; rfl; rfl; rfl) | (apply w_neB; rfl; rfl; rfl; rfl) | (apply w_eqB; rfl; rfl; rfl; rfl) | (apply w_st; rfl; rfl; rfl; ((focus ((repeat (first | exact hs1 _ | apply St.there)); done))); ((exact kmf))) | (apply w_sa; rfl; rfl; rfl; rfl; (focus ((repeat (first | exact hSa _ | apply StAll.there)); done)); ((exact kmf))) | (apply w_ld0; rfl; rfl; ((focus ((repeat (first | assumption | exact hr1 _ | exact hr2 _ | exact hr3 _ | exact .pt rfl | apply Rd.there)); done)))) | (apply w_ld; rfl; rfl; ((focus ((repeat (first | assumption | exact hr1 _ | exact hr2 _ | exact hr3 _ | exact .pt rfl | apply Rd.there)); done)))) | (apply w_la0; rfl; rfl; ((focus ((repeat (first | assumption | exact hra _ | exact hrb _ | exact hrk _ | exact .pt | apply RdAll.there)); done))); rfl) | (apply w_la; rfl; rfl; ((focus ((repeat (first | assumption | exact hra _ | exact hrb _ | exact hrk _ | exact .pt | apply RdAll.there)); done))); rfl) | (apply w_cq; rfl; rfl; exact hLe _ (by (focus ((repeat (first | assumption | exact SpR.here | apply SpR.there)); done)))) | (apply w_cq; rfl; rfl; exact hLa _ (by (focus ((repeat (first | assumption | exact SpR.here | apply SpR.there)); done)))) | refine spl ?_ ?_ | intro hc)
      ((apply w_apM (l2 := [((x.id, (f : Int), (t : Int)) : Mv)]); rfl; rfl; rfl; (focus ((repeat (first | exact Del.here | apply Del.there)); done)); ((exact srf)); (intro; rfl); (first | (simp only [List.length_cons, List.length_nil]; omega) | (simp; omega)); (first | (simp only [List.length_cons, List.length_nil]; omega) | (simp; omega))); intro v' hv'; refine ⟨by (exact kmf), ?_⟩)
      (repeat' first | refine stp ?_ | intro v' hv' | intro (b : Nat) | (apply w_convU; rfl; rfl; omega; omega) | (apply w_convI; rfl; rfl; omega; omega) | (apply w_quoU; rfl; rfl; rfl; omega; omega; omega) | (apply w_remU; rfl; rfl; rfl; omega; omega) | (apply w_minL; rfl; rfl; rfl; omega) | (apply w_minG; rfl; rfl; rfl; omega) | (apply w_min; rfl; rfl; rfl) | (apply w_mfR; rfl; rfl) | (apply w_cvp; rfl; rfl; exact inferInstance; rfl; rfl; assumption) | (apply w_eqS2T; rfl; rfl; rfl; omega) | (apply w_eqS2F; rfl; rfl; rfl; omega) | (apply w_neS2T; rfl; rfl; rfl; omega) | (apply w_neS2F; rfl; rfl; rfl; omega) | (apply w_eqS3T; rfl; rfl; rfl; omega) | (apply w_eqS3F; rfl; rfl; rfl; omega) | (apply w_neS3T; rfl; rfl; rfl; omega) | (apply w_neS3F; rfl; rfl; rfl; omega) | (apply w_eqS3; rfl; rfl; rfl) | (apply w_neS3; rfl; rfl; rfl) | (apply w_eqS2; rfl; rfl; rfl) | (apply w_neS2; rfl; rfl; rfl) | (apply w_maxL; rfl; rfl; rfl; omega) | (apply w_maxG; rfl; rfl; rfl; omega) | (apply w_max; rfl; rfl; rfl) | (apply w_neB; rfl; rfl; rfl; rfl) | (apply w_eqB; rfl; rfl; rfl; rfl) | (apply w_st; rfl; rfl; rfl; ((focus ((repeat (first | exact hs1 _ | apply St.there)); done))); ((exact kmf))) | (apply w_sa; rfl; rfl; rfl; rfl; (focus ((repeat (first | exact hSa _ | apply StAll.there)); done)); ((exact kmf))) | (apply w_ld0; rfl; rfl; ((focus ((repeat (first | assumption | exact hr1 _ | exact hr2 _ | exact hr3 _ | exact .pt rfl | apply Rd.there)); done)))) | (apply w_ld; rfl; rfl; ((focus ((repeat (first | assumption | exact hr1 _ | exact hr2 _ | exact hr3 _ | exact .pt rfl | apply Rd.there)); done)))) | (apply w_la0; rfl; rfl; ((focus ((repeat (first | assumption | exact hra _ | exact hrb _ | exact hrk _ | exact .pt | apply RdAll.there)); done))); rfl) | (apply w_la; rfl; rfl; ((focus ((repeat (first | assumption | exact hra _ | exact hrb _ | exact hrk _ | exact .pt | apply RdAll.there)); done))); rfl) | (apply w_cq; rfl; rfl; exact hLe _ (by (focus ((repeat (first | assumption | exact SpR.here | apply SpR.there)); done)))) | (apply w_cq; rfl; rfl; exact hLa _ (by (focus ((repeat (first | assumption | exact SpR.here | apply SpR.there)); done)))) | refine spl ?_ ?_ | intro hc)
      refine At_againK (1, v') ⟨Nat.le_refl _, by rw [hse]; exact hv', fun _ h => by rw [hss] at h; cases h⟩ (by omega) (by (exact sbf)) (by (exact sbf)) (fun w hs => ?_)
      rw [hse]
      have h1 : Sat w (pt tb 67 [lv] :: sl 73 4 lv ((ls1.set t (v2, ⟨true, x, insK q1 k1⟩)).map wkE) :: qsH (ls1.set t (v2, ⟨true, x, insK q1 k1⟩)) :: sl 38 3 v' (([] ++ [((x.id, (f : Int), (t : Int)) : Mv)]).map mvE) :: R) := ?_
      · exact Sel.sat (by (focus ((repeat (first | exact Sel.refl | (apply Sel.cons; (focus ((repeat (first | exact Del.here | apply Del.there)); done))) | refine Sel.drop ?_)); done))) (msb_fold hok2 h1)
      have h2 : Sat w (sl 36 2 v2 ((insK q1 k1).map kyE) :: qsH (ls1.eraseIdx t) :: pt tb 67 [lv] :: sl 73 4 lv ((ls1.set t (v2, ⟨true, x, insK q1 k1⟩)).map wkE) :: sl 38 3 v' (([] ++ [((x.id, (f : Int), (t : Int)) : Mv)]).map mvE) :: R) := Sel.sat (by (focus ((repeat (first | exact Sel.refl | (apply Sel.cons; (focus ((repeat (first | exact Del.here | apply Del.there)); done))) | refine Sel.drop ?_)); done))) hs
      have h3 := qs_close htls (v := v2) (k := ⟨true, x, insK q1 k1⟩) h2
      exact Sel.sat (by (focus ((repeat (first | exact Sel.refl | (apply Sel.cons; (focus ((repeat (first | exact Del.here | apply Del.there)); done))) | refine Sel.drop ?_)); done))) h3
end Go.Proofs.Ytoddjdghjpdomaa
