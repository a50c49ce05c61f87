/- RobinTurns: the walk. Conditions: none. -/
import Derived.Test.YtenpeogkefmclaaRobDrops
import Derived.Test.YtenpeogkefmclaaRobParts
set_option linter.all false
set_option linter.deprecated false
namespace Go.Proofs.Ytenpeogkefmclaa
open Go.Sep
variable [B0 : Base]

theorem Src.nilS {L : List HP} {n : Nat} : Src L (.slice none 0 0) n [] := ⟨(fun _ _ e h => by cases h), fun _ _ => ⟨none, 0, rfl, .inl rfl⟩⟩
/-- One round of the law's loop over all turns. -/
def tuStep (n : Int) (k : Nat) (_ : List Value) : Option Code × Nat := if (k : Int) + 1 > n + 70 then (some (.exit 4), k + 1) else (none, k + 1)
def tuDom (c : Cls) (k : Nat) (xs : List Value) : Prop := k ≤ 300 ∧ ∃ id, xs = [int id] ∧ (ids c.l)[k % c.l.length]? = some id
theorem tu_goes (c : Cls) (n : Int) (hn : n ≤ 200) : ∃ K pe, Goes (fun (s : Nat × Option Code) xs => ((tuStep n s.1 xs).1.isNone, ((tuStep n s.1 xs).2, (tuStep n s.1 xs).1))) (fun s xs => s.2 = none ∧ tuDom c s.1 xs) (turnsF c.l) 0 (0, none) (K, pe) ∧
    ((c.l.length = 0 ∧ K = 0 ∧ pe = none) ∨ (0 < c.l.length ∧ 1 ≤ K ∧ pe = some (.exit 4))) ∧ K ≤ 300 := by
  by_cases h0 : c.l.length = 0
  · exact ⟨0, none, .stop (by have : c.l = [] := List.eq_nil_of_length_eq_zero h0; simp [turnsF, this]), .inl ⟨h0, rfl, rfl⟩, by omega⟩
  · have hpos : 0 < c.l.length := Nat.pos_of_ne_zero h0
    have hx : ∀ k, ∃ id, turnsF c.l k = some [int id] ∧ (ids c.l)[k % c.l.length]? = some id := fun k => by
      have hj : k % c.l.length < c.l.length := Nat.mod_lt _ hpos
      exact ⟨c.l[k % c.l.length].id, by simp [turnsF, hj], by simp [ids, hj]⟩
    have key : ∀ (m k : Nat), (n + 70 - k).toNat = m → k ≤ 270 → ∃ K, k + 1 ≤ K ∧ K ≤ 300 ∧ Goes (fun (s : Nat × Option Code) xs => ((tuStep n s.1 xs).1.isNone, ((tuStep n s.1 xs).2, (tuStep n s.1 xs).1))) (fun s xs => s.2 = none ∧ tuDom c s.1 xs) (turnsF c.l) k (k, none) (K, some (.exit 4)) := by
      intro m
      induction m with
      | zero =>
        intro k hk hk2
        obtain ⟨id, h1, h2⟩ := hx k
        refine ⟨k + 1, Nat.le_refl _, by omega, .quit h1 ⟨rfl, by omega, id, rfl, h2⟩ ?_⟩
        have : tuStep n k [int id] = (some (.exit 4), k + 1) := if_pos (by omega)
        rw [this]; rfl
      | succ m ih =>
        intro k hk hk2
        obtain ⟨id, h1, h2⟩ := hx k
        by_cases hs : (k : Int) + 1 > n + 70
        · refine ⟨k + 1, Nat.le_refl _, by omega, .quit h1 ⟨rfl, by omega, id, rfl, h2⟩ ?_⟩
          have : tuStep n k [int id] = (some (.exit 4), k + 1) := if_pos hs
          rw [this]; rfl
        · obtain ⟨K, q1, q2, q3⟩ := ih (k + 1) (by omega) (by omega)
          refine ⟨K, by omega, q2, .next h1 ⟨rfl, by omega, id, rfl, h2⟩ ?_ q3⟩
          have : tuStep n k [int id] = (none, k + 1) := if_neg hs
          rw [this]; rfl
    obtain ⟨K, q1, q2, q3⟩ := key _ 0 rfl (by omega)
    exact ⟨K, _, q3, .inr ⟨hpos, by omega, rfl⟩, q2⟩

set_option maxHeartbeats 16000000 in
theorem turns_ok (l m : Value) (ops ops2 : List OpM) (n : Int) (hn : -9223372036854775808 ≤ n ∧ n ≤ 9223372036854775807) (R : List HP) (h : OpsIn R l ops) (h2 : OpsIn R m ops2) :
    Called Try.prog 6 [l, m, int n] R (is (.bool true) R) := by
  refine FnM3 Try.func6 rfl Try.ntmps6 rfl ?_
  have hl := h.isl
  have hN := hl.len
  have hm := h2.isl
  have hM := hm.len
  (repeat' first | refine stp ?_ | intro v' hv' | intro (b : Nat) | (apply w_cq; rfl; rfl; exact few_is l ops _ _ (by (focus ((repeat (first | assumption | apply OpsIn.there)); done))) (by assumption)) | (apply w_cq; rfl; rfl; exact few_is m ops2 _ _ (by (focus ((repeat (first | assumption | apply OpsIn.there)); done))) (by assumption)) | (apply w_cq; rfl; rfl; exact awake_ok _) | (apply w_eqf; rfl; rfl) | refine spl ?_ ?_ | intro hc)
  rename_i b5
  apply w_cl
  rfl; rfl; exact New_ok 5 (by decide) _
  exact ⟨_, _, 0, rfl, rfl⟩
  rintro _ _ ⟨p, rfl, rfl⟩
  refine ⟨by (exact kmf), ?_⟩
  rcases hfew : fewB ops with _ | _
  · (repeat' first | refine stp ?_ | intro v' hv' | intro (b : Nat) | (apply w_cq; rfl; rfl; exact few_is l ops _ _ (by (focus ((repeat (first | assumption | apply OpsIn.there)); done))) (by assumption)) | (apply w_cq; rfl; rfl; exact few_is m ops2 _ _ (by (focus ((repeat (first | assumption | apply OpsIn.there)); done))) (by assumption)) | (apply w_cq; rfl; rfl; exact awake_ok _) | (apply w_eqf; rfl; rfl) | refine spl ?_ ?_ | intro hc)
    all_goals (exact AtM_ret1c (by (first | exact .inl rfl | exact .inr rfl)) Taken.nil Try.results6 rfl (by (focus ((repeat (first | assumption | exact .pt rfl | exact .sl ‹_› rfl | exact .sl1 (by first | assumption | rfl) | apply Rd.there)); done))) ⟨rfl, rfl⟩ frm)
  · rcases hfew2 : fewB ops2 with _ | _
    · (repeat' first | refine stp ?_ | intro v' hv' | intro (b : Nat) | (apply w_cq; rfl; rfl; exact few_is l ops _ _ (by (focus ((repeat (first | assumption | apply OpsIn.there)); done))) (by assumption)) | (apply w_cq; rfl; rfl; exact few_is m ops2 _ _ (by (focus ((repeat (first | assumption | apply OpsIn.there)); done))) (by assumption)) | (apply w_cq; rfl; rfl; exact awake_ok _) | (apply w_eqf; rfl; rfl) | refine spl ?_ ?_ | intro hc)
      all_goals (exact AtM_ret1c (by (first | exact .inl rfl | exact .inr rfl)) Taken.nil Try.results6 rfl (by (focus ((repeat (first | assumption | exact .pt rfl | exact .sl ‹_› rfl | exact .sl1 (by first | assumption | rfl) | apply Rd.there)); done))) ⟨rfl, rfl⟩ frm)
    · by_cases hn2 : 200 < n
      · (repeat' first | refine stp ?_ | intro v' hv' | intro (b : Nat) | (apply w_cq; rfl; rfl; exact few_is l ops _ _ (by (focus ((repeat (first | assumption | apply OpsIn.there)); done))) (by assumption)) | (apply w_cq; rfl; rfl; exact few_is m ops2 _ _ (by (focus ((repeat (first | assumption | apply OpsIn.there)); done))) (by assumption)) | (apply w_cq; rfl; rfl; exact awake_ok _) | (apply w_eqf; rfl; rfl) | refine spl ?_ ?_ | intro hc)
        all_goals (exact AtM_ret1c (by (first | exact .inl rfl | exact .inr rfl)) Taken.nil Try.results6 rfl (by (focus ((repeat (first | assumption | exact .pt rfl | exact .sl ‹_› rfl | exact .sl1 (by first | assumption | rfl) | apply Rd.there)); done))) ⟨rfl, rfl⟩ frm)
      · (repeat' first | refine stp ?_ | intro v' hv' | intro (b : Nat) | (apply w_cq; rfl; rfl; exact few_is l ops _ _ (by (focus ((repeat (first | assumption | apply OpsIn.there)); done))) (by assumption)) | (apply w_cq; rfl; rfl; exact few_is m ops2 _ _ (by (focus ((repeat (first | assumption | apply OpsIn.there)); done))) (by assumption)) | (apply w_cq; rfl; rfl; exact awake_ok _) | (apply w_eqf; rfl; rfl) | refine spl ?_ ?_ | intro hc)
        rename_i b6
        obtain ⟨r, hr⟩ : ∃ r, r = b := ⟨_, rfl⟩
        subst hr
        refine C_sat (L' := rcl r ⟨5, []⟩ :: cls p ⟨5, []⟩ :: pt b5 3 [int n] :: pt b6 4 [.bool false] :: R) (fun w hs => rcl_fold (c := ⟨5, []⟩) (v := .slice none 0 0) (u := .slice none 0 0) ⟨by decide, by decide, by decide, fun _ h => by cases h⟩ (Sel.sat (by (focus ((repeat (first | exact Sel.refl | (apply Sel.cons; (focus ((repeat (first | exact Del.here | apply Del.there)); done))) | refine Sel.drop ?_)); done))) (Sat.sl_nil (E := 3) (n := 1) (Sat.sl_nil (E := 3) (n := 1) hs)))) ?_
        refine C_loopK [10, 54, 55, 56, 57, 58, 59, 60, 61, 62, 63, 64, 65, 66] (fun k : Nat => ops.length - k) (fun k => [(10, int k)]) (fun k => cls p (runs ⟨5, []⟩ (ops.take k)) :: rcl r (runs ⟨5, []⟩ (ops.take k)) :: pt b5 3 [int n] :: pt b6 4 [.bool false] :: R) (fun k => k ≤ ops.length) 0 (Nat.zero_le _) (by (focus ((repeat (first | exact Keep.nil | apply Keep.drop rfl | apply Keep.keep rfl)); done))) (by (exact sbf)) (by (exact frm)) ?_
        intro k hk
        dsimp only [List.cons_append, List.nil_append]
        by_cases hlt : k < ops.length
        · have hrd := opsRd h hlt
          have hD := does_ok p r (runs ⟨5, []⟩ (ops.take k)) ops[k] (runs_Wf (by decide) wf0).1 (pt b5 3 [int n] :: pt b6 4 [.bool false] :: R) (h.each _ (List.getElem_mem hlt)).there.there
          rw [← runs_take _ _ hlt] at hD
          (repeat' first | refine stp ?_ | intro v' hv' | intro (b : Nat) | (apply w_cq; rfl; rfl; exact few_is l ops _ _ (by (focus ((repeat (first | assumption | apply OpsIn.there)); done))) (by assumption)) | (apply w_cq; rfl; rfl; exact few_is m ops2 _ _ (by (focus ((repeat (first | assumption | apply OpsIn.there)); done))) (by assumption)) | (apply w_cq; rfl; rfl; exact awake_ok _) | (apply w_eqf; rfl; rfl) | refine spl ?_ ?_ | intro hc)
          apply w_cd
          rfl; rfl; exact hD; ((exact kmf))
          (repeat' first | refine stp ?_ | intro v' hv' | intro (b : Nat) | (apply w_cq; rfl; rfl; exact few_is l ops _ _ (by (focus ((repeat (first | assumption | apply OpsIn.there)); done))) (by assumption)) | (apply w_cq; rfl; rfl; exact few_is m ops2 _ _ (by (focus ((repeat (first | assumption | apply OpsIn.there)); done))) (by assumption)) | (apply w_cq; rfl; rfl; exact awake_ok _) | (apply w_eqf; rfl; rfl) | refine spl ?_ ?_ | intro hc)
          exact At_againK (k + 1) hlt (by omega) (by (exact sbf)) (by (exact sbf)) (by (exact frm))
        · obtain rfl : k = ops.length := by omega
          rw [List.take_length]
          obtain ⟨hwf, h64⟩ := runs_Wf (ops := ops) (c := ⟨5, []⟩) (by decide) wf0
          have hq : (runs ⟨5, []⟩ ops).q = 5 := runs_q ops ⟨5, []⟩
          generalize runs ⟨5, []⟩ ops = c at *
          have hl1 : (ids c.l).length = c.l.length := ids_length _
          have hl2 : (rans c.l).length = c.l.length := rans_length _
          have hFi := First_ok p c n
          (repeat' first | refine stp ?_ | intro v' hv' | intro (b : Nat) | (apply w_cq; rfl; rfl; exact few_is l ops _ _ (by (focus ((repeat (first | assumption | apply OpsIn.there)); done))) (by assumption)) | (apply w_cq; rfl; rfl; exact few_is m ops2 _ _ (by (focus ((repeat (first | assumption | apply OpsIn.there)); done))) (by assumption)) | (apply w_cq; rfl; rfl; exact awake_ok _) | (apply w_eqf; rfl; rfl) | refine spl ?_ ?_ | intro hc)
          apply w_cl
          rfl; rfl; exact Called.del (by (focus ((repeat (first | exact Del.here | apply Del.there)); done))) (Copy_ok p c)
          exact ⟨_, _, 0, rfl, rfl⟩
          rintro _ _ ⟨pd, rfl, rfl⟩
          refine ⟨by (exact kmf), ?_⟩
          (repeat' first | refine stp ?_ | intro v' hv' | intro (b : Nat) | (apply w_cq; rfl; rfl; exact few_is l ops _ _ (by (focus ((repeat (first | assumption | apply OpsIn.there)); done))) (by assumption)) | (apply w_cq; rfl; rfl; exact few_is m ops2 _ _ (by (focus ((repeat (first | assumption | apply OpsIn.there)); done))) (by assumption)) | (apply w_cq; rfl; rfl; exact awake_ok _) | (apply w_eqf; rfl; rfl) | refine spl ?_ ?_ | intro hc)
          apply w_cl
          rfl; rfl; exact Called.del (by (focus ((repeat (first | exact Del.here | apply Del.there)); done))) (Turns_ok p c)
          exact ⟨_, _, 0, rfl, rfl⟩
          rintro _ _ ⟨bt, rfl, rfl⟩
          refine ⟨by (exact kmf), ?_⟩
          (repeat' first | refine stp ?_ | intro v' hv' | intro (b : Nat) | (apply w_cq; rfl; rfl; exact few_is l ops _ _ (by (focus ((repeat (first | assumption | apply OpsIn.there)); done))) (by assumption)) | (apply w_cq; rfl; rfl; exact few_is m ops2 _ _ (by (focus ((repeat (first | assumption | apply OpsIn.there)); done))) (by assumption)) | (apply w_cq; rfl; rfl; exact awake_ok _) | (apply w_eqf; rfl; rfl) | refine spl ?_ ?_ | intro hc)
          apply w_cq0
          rfl; rfl; exact Called.at2 (by (focus ((repeat (first | refine Rep2.here (by (focus ((repeat (first | exact Rep.here | apply Rep.there)); done))) | refine Rep2.other (by (focus ((repeat (first | exact Rep.here | apply Rep.there)); done))) | apply Rep2.there)); done))) (same_ok pd r c hwf)
          refine W_sat (L' := rcl r c :: sl 3 1 (.slice none 0 0) (([] : List Int).map inE) :: sl 3 1 (.slice none 0 0) (([] : List Int).map inE) :: sl 3 1 (.slice none 0 0) (([] : List Int).map inE) :: tr bt c.l :: cls p c :: cls pd c :: pt b5 3 [int n] :: pt b6 4 [.bool false] :: R) (fun w hs => Sel.sat (by (focus ((repeat (first | exact Sel.refl | (apply Sel.cons; (focus ((repeat (first | exact Del.here | apply Del.there)); done))) | refine Sel.drop ?_)); done))) (Sat.sl_nil (E := 3) (n := 1) (Sat.sl_nil (E := 3) (n := 1) (Sat.sl_nil (E := 3) (n := 1) hs)))) ?_
          refine W_rcl fun v u hok hv hu => ?_
          (repeat' first | refine stp ?_ | intro v' hv' | intro (b : Nat) | (apply w_cq; rfl; rfl; exact few_is l ops _ _ (by (focus ((repeat (first | assumption | apply OpsIn.there)); done))) (by assumption)) | (apply w_cq; rfl; rfl; exact few_is m ops2 _ _ (by (focus ((repeat (first | assumption | apply OpsIn.there)); done))) (by assumption)) | (apply w_cq; rfl; rfl; exact awake_ok _) | (apply w_eqf; rfl; rfl) | refine spl ?_ ?_ | intro hc)
          ((apply w_apM (l2 := (ids c.l)); rfl; rfl; rfl; (focus ((repeat (first | exact Del.here | apply Del.there)); done)); ((exact srf)); (intro; rfl); (first | (simp only [List.length_cons, List.length_nil]; omega) | (simp; omega)); (first | (simp only [List.length_cons, List.length_nil]; omega) | (simp; omega))); intro v' hv'; refine ⟨by (exact kmf), ?_⟩)
          simp only [List.nil_append] at hv' ⊢
          rw [hl1] at hv'
          obtain ⟨bf, hbf⟩ : ∃ r, r = b := ⟨_, rfl⟩
          subst hbf
          revert v'; intro vf hvf
          by_cases hn0 : 0 < n
          · obtain ⟨mn, hmn1, hmn2⟩ : ∃ mn : Nat, (if (c.l.length : Int) < n then (c.l.length : Int) else n) = (mn : Int) ∧ mn ≤ c.l.length := by
              split
              · exact ⟨_, rfl, Nat.le_refl _⟩
              · exact ⟨n.toNat, by omega, by omega⟩
            have hfm : firstM c n = (ids c.l).take mn := by
              unfold firstM ids; congr 1
              split at hmn1 <;> omega
            have hwl : ((ids c.l).take mn).length = mn := by rw [List.length_take]; omega
            rw [hfm] at hFi
            (repeat' first | refine stp ?_ | intro v' hv' | intro (b : Nat) | (apply w_cq; rfl; rfl; exact few_is l ops _ _ (by (focus ((repeat (first | assumption | apply OpsIn.there)); done))) (by assumption)) | (apply w_cq; rfl; rfl; exact few_is m ops2 _ _ (by (focus ((repeat (first | assumption | apply OpsIn.there)); done))) (by assumption)) | (apply w_cq; rfl; rfl; exact awake_ok _) | (apply w_eqf; rfl; rfl) | refine spl ?_ ?_ | intro hc)
            apply w_slh (h := mn)
            rfl; rfl; (exact congrArg (fun i => some (Value.int .i64 i)) hmn1); exact hvf; exact hmn2
            have hws : IsSl (vsl vf 0 mn (vcap vf) 1) ((ids c.l).take mn).length := by rw [hwl]; exact hvf.vsl hmn2
            (repeat' first | refine stp ?_ | intro v' hv' | intro (b : Nat) | (apply w_cq; rfl; rfl; exact few_is l ops _ _ (by (focus ((repeat (first | assumption | apply OpsIn.there)); done))) (by assumption)) | (apply w_cq; rfl; rfl; exact few_is m ops2 _ _ (by (focus ((repeat (first | assumption | apply OpsIn.there)); done))) (by assumption)) | (apply w_cq; rfl; rfl; exact awake_ok _) | (apply w_eqf; rfl; rfl) | refine spl ?_ ?_ | intro hc)
            apply w_cq
            rfl; rfl; exact ints_eq _ _ ((ids c.l).take mn) _ (by assumption) (by assumption) (by (exact srf)) (by rw [List.map_take]; exact Src.takeS srf (by simp; omega))
            clear hFi hws
            (repeat' first | refine stp ?_ | intro v' hv' | intro (b : Nat) | (apply w_cq; rfl; rfl; exact few_is l ops _ _ (by (focus ((repeat (first | assumption | apply OpsIn.there)); done))) (by assumption)) | (apply w_cq; rfl; rfl; exact few_is m ops2 _ _ (by (focus ((repeat (first | assumption | apply OpsIn.there)); done))) (by assumption)) | (apply w_cq; rfl; rfl; exact awake_ok _) | (apply w_eqf; rfl; rfl) | refine spl ?_ ?_ | intro hc)
            ((apply w_apM (l2 := (ids c.l)); rfl; rfl; rfl; (focus ((repeat (first | exact Del.here | apply Del.there)); done)); ((exact srf)); (intro; rfl); (first | (simp only [List.length_cons, List.length_nil]; omega) | (simp; omega)); (first | (simp only [List.length_cons, List.length_nil]; omega) | (simp; omega))); intro v' hv'; refine ⟨by (exact kmf), ?_⟩)
            (repeat' first | refine stp ?_ | intro v' hv' | intro (b : Nat) | (apply w_cq; rfl; rfl; exact few_is l ops _ _ (by (focus ((repeat (first | assumption | apply OpsIn.there)); done))) (by assumption)) | (apply w_cq; rfl; rfl; exact few_is m ops2 _ _ (by (focus ((repeat (first | assumption | apply OpsIn.there)); done))) (by assumption)) | (apply w_cq; rfl; rfl; exact awake_ok _) | (apply w_eqf; rfl; rfl) | refine spl ?_ ?_ | intro hc)
            ((apply w_apM (l2 := (rans c.l)); rfl; rfl; rfl; (focus ((repeat (first | exact Del.here | apply Del.there)); done)); ((exact srf)); (intro; rfl); (first | (simp only [List.length_cons, List.length_nil]; omega) | (simp; omega)); (first | (simp only [List.length_cons, List.length_nil]; omega) | (simp; omega))); intro v' hv'; refine ⟨by (exact kmf), ?_⟩)
            (repeat' first | refine stp ?_ | intro v' hv' | intro (b : Nat) | (apply w_cq; rfl; rfl; exact few_is l ops _ _ (by (focus ((repeat (first | assumption | apply OpsIn.there)); done))) (by assumption)) | (apply w_cq; rfl; rfl; exact few_is m ops2 _ _ (by (focus ((repeat (first | assumption | apply OpsIn.there)); done))) (by assumption)) | (apply w_cq; rfl; rfl; exact awake_ok _) | (apply w_eqf; rfl; rfl) | refine spl ?_ ?_ | intro hc)
            simp only [List.nil_append] at hv' ⊢
            rename_i vo1 _
            obtain ⟨bo, hbo⟩ : ∃ r, r = b := ⟨_, rfl⟩
            subst hbo
            revert v'; intro vo2 _
            refine C_sat (L' := cls p c :: rcl bo c :: rcl r c :: cls pd c :: tr bt c.l :: pt bf 22 [vf] :: sl 3 1 vf ((ids c.l).map inE) :: pt b5 3 [int n] :: pt b6 4 [.bool false] :: R) (fun w hs => ?_) ?_
            · have h1 : Sat w (pt r 41 [int c.q, v, u] :: sl 3 1 v ((ids c.l).map inE) :: sl 3 1 u ((rans c.l).map inE) :: pt bo 41 [int 5, vo1, vo2] :: sl 3 1 vo1 ((ids c.l).map inE) :: sl 3 1 vo2 ((rans c.l).map inE) :: cls p c :: cls pd c :: tr bt c.l :: pt bf 22 [vf] :: sl 3 1 vf ((ids c.l).map inE) :: pt b5 3 [int n] :: pt b6 4 [.bool false] :: R) := Sel.sat (by (focus ((repeat (first | exact Sel.refl | (apply Sel.cons; (focus ((repeat (first | exact Del.here | apply Del.there)); done))) | refine Sel.drop ?_)); done))) hs
              have h2 := rcl_fold hok h1
              have h3 : Sat w (pt bo 41 [int c.q, vo1, vo2] :: sl 3 1 vo1 ((ids c.l).map inE) :: sl 3 1 vo2 ((rans c.l).map inE) :: rcl r c :: cls p c :: cls pd c :: tr bt c.l :: pt bf 22 [vf] :: sl 3 1 vf ((ids c.l).map inE) :: pt b5 3 [int n] :: pt b6 4 [.bool false] :: R) := by rw [hq]; exact Sel.sat (by (focus ((repeat (first | exact Sel.refl | (apply Sel.cons; (focus ((repeat (first | exact Del.here | apply Del.there)); done))) | refine Sel.drop ?_)); done))) h2
              exact Sel.sat (by (focus ((repeat (first | exact Sel.refl | (apply Sel.cons; (focus ((repeat (first | exact Del.here | apply Del.there)); done))) | refine Sel.drop ?_)); done))) (rcl_fold hok h3)
            refine C_loopK [16, 129, 130, 131, 132, 133, 134, 135, 136, 137, 138, 139, 140, 141, 142] (fun k : Nat => ops2.length - k) (fun k => [(16, int k)]) (fun k => cls p (runs c (ops2.take k)) :: rcl bo (runs c (ops2.take k)) :: rcl r c :: cls pd c :: tr bt c.l :: pt bf 22 [vf] :: sl 3 1 vf ((ids c.l).map inE) :: pt b5 3 [int n] :: pt b6 4 [.bool false] :: R) (fun k => k ≤ ops2.length) 0 (Nat.zero_le _) (by (focus ((repeat (first | exact Keep.nil | apply Keep.drop rfl | apply Keep.keep rfl)); done))) (by (exact sbf)) (by (exact frm)) ?_
            intro k hk
            dsimp only [List.cons_append, List.nil_append]
            by_cases hlt : k < ops2.length
            · have hrd := opsRd h2 hlt
              have hD := does_ok p bo (runs c (ops2.take k)) ops2[k] (runs_Wf h64 hwf).1 (rcl r c :: cls pd c :: tr bt c.l :: pt bf 22 [vf] :: sl 3 1 vf ((ids c.l).map inE) :: pt b5 3 [int n] :: pt b6 4 [.bool false] :: R) (by repeat (first | exact h2.each _ (List.getElem_mem hlt) | apply OpIn.there))
              rw [← runs_take _ _ hlt] at hD
              (repeat' first | refine stp ?_ | intro v' hv' | intro (b : Nat) | (apply w_cq; rfl; rfl; exact few_is l ops _ _ (by (focus ((repeat (first | assumption | apply OpsIn.there)); done))) (by assumption)) | (apply w_cq; rfl; rfl; exact few_is m ops2 _ _ (by (focus ((repeat (first | assumption | apply OpsIn.there)); done))) (by assumption)) | (apply w_cq; rfl; rfl; exact awake_ok _) | (apply w_eqf; rfl; rfl) | refine spl ?_ ?_ | intro hc)
              apply w_cd
              rfl; rfl; exact hD; ((exact kmf))
              (repeat' first | refine stp ?_ | intro v' hv' | intro (b : Nat) | (apply w_cq; rfl; rfl; exact few_is l ops _ _ (by (focus ((repeat (first | assumption | apply OpsIn.there)); done))) (by assumption)) | (apply w_cq; rfl; rfl; exact few_is m ops2 _ _ (by (focus ((repeat (first | assumption | apply OpsIn.there)); done))) (by assumption)) | (apply w_cq; rfl; rfl; exact awake_ok _) | (apply w_eqf; rfl; rfl) | refine spl ?_ ?_ | intro hc)
              exact At_againK (k + 1) hlt (by omega) (by (exact sbf)) (by (exact sbf)) (by (exact frm))
            · obtain rfl : k = ops2.length := by omega
              rw [List.take_length]
              obtain ⟨hwf2, h642⟩ := runs_Wf (ops := ops2) h64 hwf
              generalize runs c ops2 = c2 at *
              (repeat' first | refine stp ?_ | intro v' hv' | intro (b : Nat) | (apply w_cq; rfl; rfl; exact few_is l ops _ _ (by (focus ((repeat (first | assumption | apply OpsIn.there)); done))) (by assumption)) | (apply w_cq; rfl; rfl; exact few_is m ops2 _ _ (by (focus ((repeat (first | assumption | apply OpsIn.there)); done))) (by assumption)) | (apply w_cq; rfl; rfl; exact awake_ok _) | (apply w_eqf; rfl; rfl) | refine spl ?_ ?_ | intro hc)
              obtain ⟨bk, hbk⟩ : ∃ r, r = b := ⟨_, rfl⟩
              subst hbk
              obtain ⟨K, pe, hgo, hK, hK3⟩ := tu_goes c n (by omega)
              refine C_sat (L' := tr bt c.l :: Go.Sep.all [pt bf 22 [vf], sl 3 1 vf ((ids c.l).map inE), pt bk 3 [int (0 : Nat)], pt b5 3 [int n], pt b6 4 [.bool false]] :: cls p c2 :: rcl bo c2 :: rcl r c :: cls pd c :: R) (fun w hs => ?_) ?_
              · have h1 : Sat w ([pt bf 22 [vf], sl 3 1 vf ((ids c.l).map inE), pt bk 3 [int (0 : Nat)], pt b5 3 [int n], pt b6 4 [.bool false]] ++ (tr bt c.l :: cls p c2 :: rcl bo c2 :: rcl r c :: cls pd c :: R)) := Sel.sat (by (focus ((repeat (first | exact Sel.refl | (apply Sel.cons; (focus ((repeat (first | exact Del.here | apply Del.there)); done))) | refine Sel.drop ?_)); done))) hs
                exact (Sat.all_iff.2 h1).perm (.swap ..)
              refine C_range (A := fun k : Nat => Go.Sep.all [pt bf 22 [vf], sl 3 1 vf ((ids c.l).map inE), pt bk 3 [int k], pt b5 3 [int n], pt b6 4 [.bool false]]) (step := tuStep n) (dom := tuDom c) rfl (Turns1_ok bt c.l) rfl (fun s xs h => by obtain ⟨_, id, h, _⟩ := h; rw [h]; rfl) Sel.refl ?_ hgo fun r' => ?_
              · rintro l' rr k xs J ⟨hk3, id, rfl, hid⟩
                apply Exists.intro
                refine ⟨fun Q r'' hQ => ?_, ?_⟩
                · simp only [parF]
                  (repeat' first | refine stp ?_ | intro v' hv' | intro (b : Nat) | (apply w_cq; rfl; rfl; exact few_is l ops _ _ (by (focus ((repeat (first | assumption | apply OpsIn.there)); done))) (by assumption)) | (apply w_cq; rfl; rfl; exact few_is m ops2 _ _ (by (focus ((repeat (first | assumption | apply OpsIn.there)); done))) (by assumption)) | (apply w_cq; rfl; rfl; exact awake_ok _) | (apply w_eqf; rfl; rfl))
                  exact hQ
                · have hpos : 0 < c.l.length := by
                    have := (List.getElem?_eq_some_iff.1 hid).1
                    rw [ids_length] at this; omega
                  have hz : ((k : Int).tmod (c.l.length : Int)) = ((k % c.l.length : Nat) : Int) := (Int.ofNat_tmod k c.l.length).symm
                  have hz2 : k % c.l.length < c.l.length := Nat.mod_lt _ hpos
                  have hz0 : 0 ≤ ((k : Int).tmod (c.l.length : Int)) := by omega
                  have hz1 : ((k : Int).tmod (c.l.length : Int)) < c.l.length := by omega
                  have hg : ((ids c.l).map inE)[((k : Int).tmod (c.l.length : Int)).toNat]? = some [int id] := by rw [hz, Int.toNat_natCast]; simp [hid, inE]
                  clear hz
                  refine C_block ?_
                  refine C_sat (fun w h => Sat.all_iff.1 h) ?_
                  simp only [List.cons_append, List.nil_append]
                  by_cases hs : (k : Int) + 1 > n + 70
                  · rw [show tuStep n k [int id] = (some (.exit 4), k + 1) from if_pos hs]
                    (repeat' first | refine stp ?_ | intro v' hv' | intro (b : Nat) | (apply w_cq; rfl; rfl; exact few_is l ops _ _ (by (focus ((repeat (first | assumption | apply OpsIn.there)); done))) (by assumption)) | (apply w_cq; rfl; rfl; exact few_is m ops2 _ _ (by (focus ((repeat (first | assumption | apply OpsIn.there)); done))) (by assumption)) | (apply w_cq; rfl; rfl; exact awake_ok _) | (apply w_eqf; rfl; rfl) | refine spl ?_ ?_ | intro hc)
                    exact At_round_exit (fun w h => Sat.all_iff.2 (Sel.sat (by (focus ((repeat (first | exact Sel.refl | (apply Sel.cons; (focus ((repeat (first | exact Del.here | apply Del.there)); done))) | refine Sel.drop ?_)); done))) h))
                  · rw [show tuStep n k [int id] = (none, k + 1) from if_neg hs]
                    (repeat' first | refine stp ?_ | intro v' hv' | intro (b : Nat) | (apply w_cq; rfl; rfl; exact few_is l ops _ _ (by (focus ((repeat (first | assumption | apply OpsIn.there)); done))) (by assumption)) | (apply w_cq; rfl; rfl; exact few_is m ops2 _ _ (by (focus ((repeat (first | assumption | apply OpsIn.there)); done))) (by assumption)) | (apply w_cq; rfl; rfl; exact awake_ok _) | (apply w_eqf; rfl; rfl) | refine spl ?_ ?_ | intro hc)
                    exact At_round_normal (fun w h => Sat.all_iff.2 (Sel.sat (by (focus ((repeat (first | exact Sel.refl | (apply Sel.cons; (focus ((repeat (first | exact Del.here | apply Del.there)); done))) | refine Sel.drop ?_)); done))) h))
              · rcases hK with ⟨hz, rfl, rfl⟩ | ⟨hpos, hK1, rfl⟩
                all_goals
                  simp only [ends]
                  (repeat' first | refine stp ?_ | intro v' hv' | intro (b : Nat) | (apply w_cq; rfl; rfl; exact few_is l ops _ _ (by (focus ((repeat (first | assumption | apply OpsIn.there)); done))) (by assumption)) | (apply w_cq; rfl; rfl; exact few_is m ops2 _ _ (by (focus ((repeat (first | assumption | apply OpsIn.there)); done))) (by assumption)) | (apply w_cq; rfl; rfl; exact awake_ok _) | (apply w_eqf; rfl; rfl))
                  refine W_sat (fun w h => Sat.all_iff.1 (Sel.sat (show Sel (mblk r' :: tr bt c.l :: Go.Sep.all _ :: cls p c2 :: rcl bo c2 :: rcl r c :: cls pd c :: R) (Go.Sep.all _ :: mblk r' :: tr bt c.l :: cls p c2 :: rcl bo c2 :: rcl r c :: cls pd c :: R) by (focus ((repeat (first | exact Sel.refl | (apply Sel.cons; (focus ((repeat (first | exact Del.here | apply Del.there)); done))) | refine Sel.drop ?_)); done))) h)) ?_
                  simp only [List.cons_append, List.nil_append]
                  repeat (first | refine stp ?_ | refine spl ?_ ?_)
                  apply w_cq0
                  rfl; rfl; exact Called.at2 (.there (.there (.there (.there (.there (.there (.there (.there (.there (.other .here)))))))))) (same_ok pd r c hwf)
                  repeat (first | refine stp ?_ | refine spl ?_ ?_)
                  apply w_cq0
                  rfl; rfl; exact Called.at2 (.there (.there (.there (.there (.there (.there (.there (.here .here)))))))) (same_ok p bo c2 hwf2)
                  (repeat' first | refine stp ?_ | intro v' hv' | intro (b : Nat) | (apply w_cq; rfl; rfl; exact few_is l ops _ _ (by (focus ((repeat (first | assumption | apply OpsIn.there)); done))) (by assumption)) | (apply w_cq; rfl; rfl; exact few_is m ops2 _ _ (by (focus ((repeat (first | assumption | apply OpsIn.there)); done))) (by assumption)) | (apply w_cq; rfl; rfl; exact awake_ok _) | (apply w_eqf; rfl; rfl) | refine spl ?_ ?_ | intro hc)
                  exact AtM_ret1c (by (first | exact .inl rfl | exact .inr rfl)) (by (focus ((repeat (first | exact Taken.nil | (apply Taken.cons; (focus ((repeat (first | exact Del.here | apply Del.there)); done))))); done))) Try.results6 rfl (by (focus ((repeat (first | assumption | exact .pt rfl | exact .sl ‹_› rfl | exact .sl1 (by first | assumption | rfl) | apply Rd.there)); done))) ⟨rfl, rfl⟩ frm
          · have hfm : firstM c n = [] := by
              unfold firstM; rw [show (min n (c.l.length : Int)).toNat = 0 by omega]; rfl
            have hfl0 : (firstM c n).length = 0 := by rw [hfm]; rfl
            (repeat' first | refine stp ?_ | intro v' hv' | intro (b : Nat) | (apply w_cq; rfl; rfl; exact few_is l ops _ _ (by (focus ((repeat (first | assumption | apply OpsIn.there)); done))) (by assumption)) | (apply w_cq; rfl; rfl; exact few_is m ops2 _ _ (by (focus ((repeat (first | assumption | apply OpsIn.there)); done))) (by assumption)) | (apply w_cq; rfl; rfl; exact awake_ok _) | (apply w_eqf; rfl; rfl) | refine spl ?_ ?_ | intro hc)
            apply w_cq
            rfl; rfl; exact ints_eq _ _ (firstM c n) _ (by assumption) (by rw [hfl0]; exact IsSl.nil) (by (exact srf)) (by rw [hfm]; exact Src.nilS)
            clear hFi
            (repeat' first | refine stp ?_ | intro v' hv' | intro (b : Nat) | (apply w_cq; rfl; rfl; exact few_is l ops _ _ (by (focus ((repeat (first | assumption | apply OpsIn.there)); done))) (by assumption)) | (apply w_cq; rfl; rfl; exact few_is m ops2 _ _ (by (focus ((repeat (first | assumption | apply OpsIn.there)); done))) (by assumption)) | (apply w_cq; rfl; rfl; exact awake_ok _) | (apply w_eqf; rfl; rfl) | refine spl ?_ ?_ | intro hc)
            ((apply w_apM (l2 := (ids c.l)); rfl; rfl; rfl; (focus ((repeat (first | exact Del.here | apply Del.there)); done)); ((exact srf)); (intro; rfl); (first | (simp only [List.length_cons, List.length_nil]; omega) | (simp; omega)); (first | (simp only [List.length_cons, List.length_nil]; omega) | (simp; omega))); intro v' hv'; refine ⟨by (exact kmf), ?_⟩)
            (repeat' first | refine stp ?_ | intro v' hv' | intro (b : Nat) | (apply w_cq; rfl; rfl; exact few_is l ops _ _ (by (focus ((repeat (first | assumption | apply OpsIn.there)); done))) (by assumption)) | (apply w_cq; rfl; rfl; exact few_is m ops2 _ _ (by (focus ((repeat (first | assumption | apply OpsIn.there)); done))) (by assumption)) | (apply w_cq; rfl; rfl; exact awake_ok _) | (apply w_eqf; rfl; rfl) | refine spl ?_ ?_ | intro hc)
            ((apply w_apM (l2 := (rans c.l)); rfl; rfl; rfl; (focus ((repeat (first | exact Del.here | apply Del.there)); done)); ((exact srf)); (intro; rfl); (first | (simp only [List.length_cons, List.length_nil]; omega) | (simp; omega)); (first | (simp only [List.length_cons, List.length_nil]; omega) | (simp; omega))); intro v' hv'; refine ⟨by (exact kmf), ?_⟩)
            (repeat' first | refine stp ?_ | intro v' hv' | intro (b : Nat) | (apply w_cq; rfl; rfl; exact few_is l ops _ _ (by (focus ((repeat (first | assumption | apply OpsIn.there)); done))) (by assumption)) | (apply w_cq; rfl; rfl; exact few_is m ops2 _ _ (by (focus ((repeat (first | assumption | apply OpsIn.there)); done))) (by assumption)) | (apply w_cq; rfl; rfl; exact awake_ok _) | (apply w_eqf; rfl; rfl) | refine spl ?_ ?_ | intro hc)
            simp only [List.nil_append] at hv' ⊢
            rename_i vo1 _
            obtain ⟨bo, hbo⟩ : ∃ r, r = b := ⟨_, rfl⟩
            subst hbo
            revert v'; intro vo2 _
            refine C_sat (L' := cls p c :: rcl bo c :: rcl r c :: cls pd c :: tr bt c.l :: pt bf 22 [vf] :: sl 3 1 vf ((ids c.l).map inE) :: pt b5 3 [int n] :: pt b6 4 [.bool false] :: R) (fun w hs => ?_) ?_
            · have h1 : Sat w (pt r 41 [int c.q, v, u] :: sl 3 1 v ((ids c.l).map inE) :: sl 3 1 u ((rans c.l).map inE) :: pt bo 41 [int 5, vo1, vo2] :: sl 3 1 vo1 ((ids c.l).map inE) :: sl 3 1 vo2 ((rans c.l).map inE) :: cls p c :: cls pd c :: tr bt c.l :: pt bf 22 [vf] :: sl 3 1 vf ((ids c.l).map inE) :: pt b5 3 [int n] :: pt b6 4 [.bool false] :: R) := Sel.sat (by (focus ((repeat (first | exact Sel.refl | (apply Sel.cons; (focus ((repeat (first | exact Del.here | apply Del.there)); done))) | refine Sel.drop ?_)); done))) hs
              have h2 := rcl_fold hok h1
              have h3 : Sat w (pt bo 41 [int c.q, vo1, vo2] :: sl 3 1 vo1 ((ids c.l).map inE) :: sl 3 1 vo2 ((rans c.l).map inE) :: rcl r c :: cls p c :: cls pd c :: tr bt c.l :: pt bf 22 [vf] :: sl 3 1 vf ((ids c.l).map inE) :: pt b5 3 [int n] :: pt b6 4 [.bool false] :: R) := by rw [hq]; exact Sel.sat (by (focus ((repeat (first | exact Sel.refl | (apply Sel.cons; (focus ((repeat (first | exact Del.here | apply Del.there)); done))) | refine Sel.drop ?_)); done))) h2
              exact Sel.sat (by (focus ((repeat (first | exact Sel.refl | (apply Sel.cons; (focus ((repeat (first | exact Del.here | apply Del.there)); done))) | refine Sel.drop ?_)); done))) (rcl_fold hok h3)
            refine C_loopK [16, 129, 130, 131, 132, 133, 134, 135, 136, 137, 138, 139, 140, 141, 142] (fun k : Nat => ops2.length - k) (fun k => [(16, int k)]) (fun k => cls p (runs c (ops2.take k)) :: rcl bo (runs c (ops2.take k)) :: rcl r c :: cls pd c :: tr bt c.l :: pt bf 22 [vf] :: sl 3 1 vf ((ids c.l).map inE) :: pt b5 3 [int n] :: pt b6 4 [.bool false] :: R) (fun k => k ≤ ops2.length) 0 (Nat.zero_le _) (by (focus ((repeat (first | exact Keep.nil | apply Keep.drop rfl | apply Keep.keep rfl)); done))) (by (exact sbf)) (by (exact frm)) ?_
            intro k hk
            dsimp only [List.cons_append, List.nil_append]
            by_cases hlt : k < ops2.length
            · have hrd := opsRd h2 hlt
              have hD := does_ok p bo (runs c (ops2.take k)) ops2[k] (runs_Wf h64 hwf).1 (rcl r c :: cls pd c :: tr bt c.l :: pt bf 22 [vf] :: sl 3 1 vf ((ids c.l).map inE) :: pt b5 3 [int n] :: pt b6 4 [.bool false] :: R) (by repeat (first | exact h2.each _ (List.getElem_mem hlt) | apply OpIn.there))
              rw [← runs_take _ _ hlt] at hD
              (repeat' first | refine stp ?_ | intro v' hv' | intro (b : Nat) | (apply w_cq; rfl; rfl; exact few_is l ops _ _ (by (focus ((repeat (first | assumption | apply OpsIn.there)); done))) (by assumption)) | (apply w_cq; rfl; rfl; exact few_is m ops2 _ _ (by (focus ((repeat (first | assumption | apply OpsIn.there)); done))) (by assumption)) | (apply w_cq; rfl; rfl; exact awake_ok _) | (apply w_eqf; rfl; rfl) | refine spl ?_ ?_ | intro hc)
              apply w_cd
              rfl; rfl; exact hD; ((exact kmf))
              (repeat' first | refine stp ?_ | intro v' hv' | intro (b : Nat) | (apply w_cq; rfl; rfl; exact few_is l ops _ _ (by (focus ((repeat (first | assumption | apply OpsIn.there)); done))) (by assumption)) | (apply w_cq; rfl; rfl; exact few_is m ops2 _ _ (by (focus ((repeat (first | assumption | apply OpsIn.there)); done))) (by assumption)) | (apply w_cq; rfl; rfl; exact awake_ok _) | (apply w_eqf; rfl; rfl) | refine spl ?_ ?_ | intro hc)
              exact At_againK (k + 1) hlt (by omega) (by (exact sbf)) (by (exact sbf)) (by (exact frm))
            · obtain rfl : k = ops2.length := by omega
              rw [List.take_length]
              obtain ⟨hwf2, h642⟩ := runs_Wf (ops := ops2) h64 hwf
              generalize runs c ops2 = c2 at *
              (repeat' first | refine stp ?_ | intro v' hv' | intro (b : Nat) | (apply w_cq; rfl; rfl; exact few_is l ops _ _ (by (focus ((repeat (first | assumption | apply OpsIn.there)); done))) (by assumption)) | (apply w_cq; rfl; rfl; exact few_is m ops2 _ _ (by (focus ((repeat (first | assumption | apply OpsIn.there)); done))) (by assumption)) | (apply w_cq; rfl; rfl; exact awake_ok _) | (apply w_eqf; rfl; rfl) | refine spl ?_ ?_ | intro hc)
              obtain ⟨bk, hbk⟩ : ∃ r, r = b := ⟨_, rfl⟩
              subst hbk
              obtain ⟨K, pe, hgo, hK, hK3⟩ := tu_goes c n (by omega)
              refine C_sat (L' := tr bt c.l :: Go.Sep.all [pt bf 22 [vf], sl 3 1 vf ((ids c.l).map inE), pt bk 3 [int (0 : Nat)], pt b5 3 [int n], pt b6 4 [.bool false]] :: cls p c2 :: rcl bo c2 :: rcl r c :: cls pd c :: R) (fun w hs => ?_) ?_
              · have h1 : Sat w ([pt bf 22 [vf], sl 3 1 vf ((ids c.l).map inE), pt bk 3 [int (0 : Nat)], pt b5 3 [int n], pt b6 4 [.bool false]] ++ (tr bt c.l :: cls p c2 :: rcl bo c2 :: rcl r c :: cls pd c :: R)) := Sel.sat (by (focus ((repeat (first | exact Sel.refl | (apply Sel.cons; (focus ((repeat (first | exact Del.here | apply Del.there)); done))) | refine Sel.drop ?_)); done))) hs
                exact (Sat.all_iff.2 h1).perm (.swap ..)
              refine C_range (A := fun k : Nat => Go.Sep.all [pt bf 22 [vf], sl 3 1 vf ((ids c.l).map inE), pt bk 3 [int k], pt b5 3 [int n], pt b6 4 [.bool false]]) (step := tuStep n) (dom := tuDom c) rfl (Turns1_ok bt c.l) rfl (fun s xs h => by obtain ⟨_, id, h, _⟩ := h; rw [h]; rfl) Sel.refl ?_ hgo fun r' => ?_
              · rintro l' rr k xs J ⟨hk3, id, rfl, hid⟩
                apply Exists.intro
                refine ⟨fun Q r'' hQ => ?_, ?_⟩
                · simp only [parF]
                  (repeat' first | refine stp ?_ | intro v' hv' | intro (b : Nat) | (apply w_cq; rfl; rfl; exact few_is l ops _ _ (by (focus ((repeat (first | assumption | apply OpsIn.there)); done))) (by assumption)) | (apply w_cq; rfl; rfl; exact few_is m ops2 _ _ (by (focus ((repeat (first | assumption | apply OpsIn.there)); done))) (by assumption)) | (apply w_cq; rfl; rfl; exact awake_ok _) | (apply w_eqf; rfl; rfl))
                  exact hQ
                · have hpos : 0 < c.l.length := by
                    have := (List.getElem?_eq_some_iff.1 hid).1
                    rw [ids_length] at this; omega
                  have hz : ((k : Int).tmod (c.l.length : Int)) = ((k % c.l.length : Nat) : Int) := (Int.ofNat_tmod k c.l.length).symm
                  have hz2 : k % c.l.length < c.l.length := Nat.mod_lt _ hpos
                  have hz0 : 0 ≤ ((k : Int).tmod (c.l.length : Int)) := by omega
                  have hz1 : ((k : Int).tmod (c.l.length : Int)) < c.l.length := by omega
                  have hg : ((ids c.l).map inE)[((k : Int).tmod (c.l.length : Int)).toNat]? = some [int id] := by rw [hz, Int.toNat_natCast]; simp [hid, inE]
                  clear hz
                  refine C_block ?_
                  refine C_sat (fun w h => Sat.all_iff.1 h) ?_
                  simp only [List.cons_append, List.nil_append]
                  by_cases hs : (k : Int) + 1 > n + 70
                  · rw [show tuStep n k [int id] = (some (.exit 4), k + 1) from if_pos hs]
                    (repeat' first | refine stp ?_ | intro v' hv' | intro (b : Nat) | (apply w_cq; rfl; rfl; exact few_is l ops _ _ (by (focus ((repeat (first | assumption | apply OpsIn.there)); done))) (by assumption)) | (apply w_cq; rfl; rfl; exact few_is m ops2 _ _ (by (focus ((repeat (first | assumption | apply OpsIn.there)); done))) (by assumption)) | (apply w_cq; rfl; rfl; exact awake_ok _) | (apply w_eqf; rfl; rfl) | refine spl ?_ ?_ | intro hc)
                    exact At_round_exit (fun w h => Sat.all_iff.2 (Sel.sat (by (focus ((repeat (first | exact Sel.refl | (apply Sel.cons; (focus ((repeat (first | exact Del.here | apply Del.there)); done))) | refine Sel.drop ?_)); done))) h))
                  · rw [show tuStep n k [int id] = (none, k + 1) from if_neg hs]
                    (repeat' first | refine stp ?_ | intro v' hv' | intro (b : Nat) | (apply w_cq; rfl; rfl; exact few_is l ops _ _ (by (focus ((repeat (first | assumption | apply OpsIn.there)); done))) (by assumption)) | (apply w_cq; rfl; rfl; exact few_is m ops2 _ _ (by (focus ((repeat (first | assumption | apply OpsIn.there)); done))) (by assumption)) | (apply w_cq; rfl; rfl; exact awake_ok _) | (apply w_eqf; rfl; rfl) | refine spl ?_ ?_ | intro hc)
                    exact At_round_normal (fun w h => Sat.all_iff.2 (Sel.sat (by (focus ((repeat (first | exact Sel.refl | (apply Sel.cons; (focus ((repeat (first | exact Del.here | apply Del.there)); done))) | refine Sel.drop ?_)); done))) h))
              · rcases hK with ⟨hz, rfl, rfl⟩ | ⟨hpos, hK1, rfl⟩
                all_goals
                  simp only [ends]
                  (repeat' first | refine stp ?_ | intro v' hv' | intro (b : Nat) | (apply w_cq; rfl; rfl; exact few_is l ops _ _ (by (focus ((repeat (first | assumption | apply OpsIn.there)); done))) (by assumption)) | (apply w_cq; rfl; rfl; exact few_is m ops2 _ _ (by (focus ((repeat (first | assumption | apply OpsIn.there)); done))) (by assumption)) | (apply w_cq; rfl; rfl; exact awake_ok _) | (apply w_eqf; rfl; rfl))
                  refine W_sat (fun w h => Sat.all_iff.1 (Sel.sat (show Sel (mblk r' :: tr bt c.l :: Go.Sep.all _ :: cls p c2 :: rcl bo c2 :: rcl r c :: cls pd c :: R) (Go.Sep.all _ :: mblk r' :: tr bt c.l :: cls p c2 :: rcl bo c2 :: rcl r c :: cls pd c :: R) by (focus ((repeat (first | exact Sel.refl | (apply Sel.cons; (focus ((repeat (first | exact Del.here | apply Del.there)); done))) | refine Sel.drop ?_)); done))) h)) ?_
                  simp only [List.cons_append, List.nil_append]
                  repeat (first | refine stp ?_ | refine spl ?_ ?_)
                  apply w_cq0
                  rfl; rfl; exact Called.at2 (.there (.there (.there (.there (.there (.there (.there (.there (.there (.other .here)))))))))) (same_ok pd r c hwf)
                  repeat (first | refine stp ?_ | refine spl ?_ ?_)
                  apply w_cq0
                  rfl; rfl; exact Called.at2 (.there (.there (.there (.there (.there (.there (.there (.here .here)))))))) (same_ok p bo c2 hwf2)
                  (repeat' first | refine stp ?_ | intro v' hv' | intro (b : Nat) | (apply w_cq; rfl; rfl; exact few_is l ops _ _ (by (focus ((repeat (first | assumption | apply OpsIn.there)); done))) (by assumption)) | (apply w_cq; rfl; rfl; exact few_is m ops2 _ _ (by (focus ((repeat (first | assumption | apply OpsIn.there)); done))) (by assumption)) | (apply w_cq; rfl; rfl; exact awake_ok _) | (apply w_eqf; rfl; rfl) | refine spl ?_ ?_ | intro hc)
                  exact AtM_ret1c (by (first | exact .inl rfl | exact .inr rfl)) (by (focus ((repeat (first | exact Taken.nil | (apply Taken.cons; (focus ((repeat (first | exact Del.here | apply Del.there)); done))))); done))) Try.results6 rfl (by (focus ((repeat (first | assumption | exact .pt rfl | exact .sl ‹_› rfl | exact .sl1 (by first | assumption | rfl) | apply Rd.there)); done))) ⟨rfl, rfl⟩ frm
end Go.Proofs.Ytenpeogkefmclaa
