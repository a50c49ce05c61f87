/- SpreadStays. Conditions: none. -/
import Derived.Test.YtoddjdghjpdomaaSpM
set_option linter.all false
set_option linter.deprecated false
namespace Go.Proofs.Ytoddjdghjpdomaa
open Go.Sep
variable [B0 : Base]
theorem run_inj {M : List Wk} (h : WfS M) {i j : Nat} (hi : i < M.length) (hj : j < M.length) (ri : (wkA M i).runs = true) (rj : (wkA M j).runs = true) (e : (wkA M i).k.id = (wkA M j).k.id) : i = j := by
  have h1 := (findM_at h hi).1 ri
  have h2 := (findM_at h hj).1 rj
  rw [e, h2] at h1
  simp only [Option.some.injEq, Prod.mk.injEq, and_true] at h1
  exact h1.symm
theorem rnA_id {M : List Wk} (h : WfS M) {w : Nat} (hw : 0 ≤ (rnA M w).id) : w < M.length ∧ (wkA M w).runs = true ∧ (rnA M w).id = (wkA M w).k.id := by
  by_cases hc : w < M.length ∧ (wkA M w).runs = true
  · exact ⟨hc.1, hc.2, by rw [rnA_run hc.1 hc.2]⟩
  · rw [rnA_no hc] at hw; exact absurd hw (by decide)
def toldB (id : Int) (w : Nat) (m : Mv) : Bool := decide (m.1 = id) && decide (m.2.2 = (w : Int))
def StaysK (M M' : List Wk) (mvs : List Mv) : Prop := ∀ w, w < 16 → 0 ≤ (rnA M' w).id → ∃ ranV : Nat → Int, ranV 0 = -1 ∧
  (∀ v, v < 16 → ((rnA M v).id = (rnA M' w).id ∧ ranV (v + 1) = (v : Int)) ∨ ((rnA M v).id ≠ (rnA M' w).id ∧ ranV (v + 1) = ranV v)) ∧
  (ranV 16 = (w : Int) ∨ (ranV 16 = -1 ∧ mvs.any (toldB (rnA M' w).id w) = true))
theorem stays_a {M M' : List Wk} {mvs : List Mv} {w : Nat} (h : WfS M) (hw : w < 16) (h0 : 0 ≤ (rnA M' w).id) (he : (rnA M w).id = (rnA M' w).id) : ∃ ranV : Nat → Int, ranV 0 = -1 ∧
  (∀ v, v < 16 → ((rnA M v).id = (rnA M' w).id ∧ ranV (v + 1) = (v : Int)) ∨ ((rnA M v).id ≠ (rnA M' w).id ∧ ranV (v + 1) = ranV v)) ∧
  (ranV 16 = (w : Int) ∨ (ranV 16 = -1 ∧ mvs.any (toldB (rnA M' w).id w) = true)) := by
  refine ⟨fun k => if w < k then (w : Int) else -1, rfl, fun v hv => ?_, .inl (by dsimp only; rw [if_pos hw])⟩
  dsimp only
  by_cases e : (rnA M v).id = (rnA M' w).id
  · left
    obtain ⟨a1, a2, a3⟩ := rnA_id h (w := v) (by rw [e]; exact h0)
    obtain ⟨b1, b2, b3⟩ := rnA_id h (w := w) (by rw [he]; exact h0)
    have : v = w := run_inj h a1 b1 a2 b2 (by rw [← a3, ← b3, e, he])
    subst this
    exact ⟨e, by rw [if_pos (Nat.lt_succ_self v)]⟩
  · right
    refine ⟨e, ?_⟩
    have : v ≠ w := fun h => e (by rw [h]; exact he)
    by_cases h1 : w < v
    · rw [if_pos h1, if_pos (by omega)]
    · rw [if_neg h1, if_neg (by omega)]
/-- What is behind a call, ahead of settling. -/
structure SameRun (M M0 : List Wk) : Prop where
  len : M0.length = M.length
  wf : WfS M0
  run : ∀ i, i < M.length → (wkA M0 i).runs = true → (wkA M i).runs = true ∧ (wkA M0 i).k.id = (wkA M i).k.id
  wait : ∀ z ∈ wq M0, ∀ i, i < M.length → (wkA M i).runs = true → z.id ≠ (wkA M i).k.id
theorem stays_settle {M M0 : List Wk} (h : WfS M) (hs : SameRun M M0) : StaysK M (settleM M0).2 (settleM M0).1 := by
  intro w hw h0
  have hlen := hs.len
  cases hst : stepM M0 with
  | none =>
    have e : settleM M0 = ([], M0) := by unfold settleM; rw [hst]
    rw [e] at h0 ⊢
    obtain ⟨a1, a2, a3⟩ := rnA_id hs.wf h0
    obtain ⟨b1, b2⟩ := hs.run w (by omega) a2
    refine stays_a h hw h0 ?_
    rw [rnA_run (by omega) b1, a3, b2]
  | some p =>
    obtain ⟨m, M'⟩ := p
    have e : settleM M0 = ([m], M') := by unfold settleM; rw [hst]
    have hwf' := hs.wf.step hst
    obtain ⟨-, f, t, x, r, rfl, hf, ht, hq, rfl, -, -⟩ := step_some hs.wf hst
    rw [e] at h0 ⊢
    obtain ⟨a1, a2, a3⟩ := rnA_id hwf' h0
    dsimp only at a3 ⊢
    have htp : t < (popM M0 f).length := by rw [popM_len]; exact ht
    rw [List.length_set, popM_len] at a1
    by_cases e : t = w
    · subst e
      rw [wkA_set htp, if_pos rfl] at a3
      have a3 : (rnA ((popM M0 f).set t (runW (wkA (popM M0 f) t) x)) t).id = x.id := a3
      rw [a3] at h0 ⊢
      have hxm : x ∈ wq M0 := wq_mem.2 ⟨f, hf, by rw [hq]; exact List.mem_cons_self⟩
      refine ⟨fun _ => -1, rfl, fun v hv => .inr ⟨fun e2 => ?_, rfl⟩, .inr ⟨rfl, ?_⟩⟩
      · obtain ⟨c1, c2, c3⟩ := rnA_id h (w := v) (by rw [e2]; exact h0)
        exact hs.wait x hxm v c1 c2 (by rw [← c3, e2])
      · simp [toldB]
    · have hat := popM_at hf w
      rw [wkA_set htp, if_neg e] at a2 a3
      rw [hat.1] at a2
      obtain ⟨b1, b2⟩ := hs.run w (by omega) a2
      refine stays_a h hw h0 ?_
      rw [rnA_run (by omega) b1, a3, hat.2, b2]
theorem stays_same {M : List Wk} (h : WfS M) (mvs : List Mv) : StaysK M M mvs := fun w hw h0 => stays_a h hw h0 rfl
theorem take_same {M M' : List Wk} {w : Nat} {ran : Bool} {y : Ky} {n : Int} (h : WfS M) (ht : TakeK M M' w ran y n) : SameRun M M' := by
  refine ⟨ht.len, ht.wf, fun i hi hr => ?_, fun z hz i hi hr => ?_⟩
  · cases ran with
    | true =>
      obtain ⟨-, -, h3, -, -⟩ := ht.run rfl
      rw [h3, wkA_set ht.lt] at hr ⊢
      by_cases e : w = i
      · rw [if_pos e] at hr; cases hr
      · rw [if_neg e] at hr ⊢; exact ⟨hr, rfl⟩
    | false =>
      obtain ⟨j, -, h3, -, -⟩ := ht.wait rfl
      rw [h3, wkA_set ht.lt] at hr ⊢
      by_cases e : w = i
      · subst e; rw [if_pos rfl] at hr ⊢; exact ⟨hr, rfl⟩
      · rw [if_neg e] at hr ⊢; exact ⟨hr, rfl⟩
  · have hzm : z ∈ wq M := by
      cases ran with
      | true => obtain ⟨-, -, -, -, h5⟩ := ht.run rfl; rw [← h5]; exact hz
      | false => obtain ⟨j, -, -, h4, -⟩ := ht.wait rfl; exact h4.mem_iff.2 (List.mem_cons_of_mem _ hz)
    exact (id_ne_app h.nodup (rk_mem.2 ⟨i, hi, hr, rfl⟩) hzm).symm
theorem back_same {M M' : List Wk} (h : InvS M) {w : Nat} {ran : Bool} {y k : Ky} {n : Int} (ht : TakeK M M' w ran y n) (hk : mayK k = true) (hkn : k.id = n) : SameRun M (backW M' w ran k) := by
  obtain ⟨-, -, hwf, hlen⟩ := back_settle h ht hk hkn
  have hw : w < M'.length := by rw [ht.len]; exact ht.lt
  refine ⟨hlen, hwf, fun i hi hr => ?_, fun z hz i hi hr => ?_⟩
  · cases ran with
    | true =>
      obtain ⟨h1, h2, h3, -, -⟩ := ht.run rfl
      have e0 : backW M' w true k = M'.set w ⟨true, k, (wkA M' w).q⟩ := rfl
      rw [e0, wkA_set hw] at hr ⊢
      by_cases e : w = i
      · subst e
        rw [if_pos rfl]
        exact ⟨h1, by rw [h2, ht.yid]; exact hkn⟩
      · rw [if_neg e] at hr ⊢
        rw [h3, wkA_set ht.lt, if_neg e] at hr ⊢
        exact ⟨hr, rfl⟩
    | false =>
      obtain ⟨j, -, h3, -, -⟩ := ht.wait rfl
      have e0 : backW M' w false k = addW M' w k := rfl
      rw [e0] at hr ⊢
      unfold addW at hr ⊢
      rw [wkA_set hw] at hr ⊢
      by_cases e : w = i
      · subst e
        rw [if_pos rfl] at hr ⊢
        dsimp only at hr ⊢
        rw [h3, wkA_set ht.lt, if_pos rfl] at hr ⊢
        exact ⟨hr, rfl⟩
      · rw [if_neg e] at hr ⊢
        rw [h3, wkA_set ht.lt, if_neg e] at hr ⊢
        exact ⟨hr, rfl⟩
  · have hx : ∃ z' ∈ wq M, z'.id = z.id := by
      cases ran with
      | true =>
        obtain ⟨h1, h2, h3, -, h5⟩ := ht.run rfl
        have e0 : backW M' w true k = M'.set w ⟨true, k, (wkA M' w).q⟩ := rfl
        have hq : (wq (M'.set w ⟨true, k, (wkA M' w).q⟩)).Perm (wq M') := (fm_set hw (·.q) _).trans (fm_get hw (·.q)).symm
        rw [e0] at hz
        exact ⟨z, by rw [← h5]; exact hq.mem_iff.1 hz, rfl⟩
      | false =>
        obtain ⟨j, h1, h3, h4, -⟩ := ht.wait rfl
        have e0 : backW M' w false k = addW M' w k := rfl
        rw [e0] at hz
        rcases List.mem_cons.1 ((addW_perm hw k).2.mem_iff.1 hz) with rfl | hz
        · exact ⟨y, h4.mem_iff.2 List.mem_cons_self, by rw [ht.yid, hkn]⟩
        · exact ⟨z, h4.mem_iff.2 (List.mem_cons_of_mem _ hz), rfl⟩
    obtain ⟨z', hz', e⟩ := hx
    rw [← e]
    exact (id_ne_app h.wf.nodup (rk_mem.2 ⟨i, hi, hr, rfl⟩) hz').symm
theorem add_same {M : List Wk} (h : WfS M) {w : Nat} (hw : w < M.length) {k : Ky} (hk : mayK k = true) (hn : ∀ x ∈ rk M ++ wq M, x.id ≠ k.id) : SameRun M (addW M w k) := by
  refine ⟨addW_len .., h.add hw hk hn, fun i hi hr => ?_, fun z hz i hi hr => ?_⟩
  · unfold addW at hr ⊢
    rw [wkA_set hw] at hr ⊢
    by_cases e : w = i
    · subst e; rw [if_pos rfl] at hr ⊢; exact ⟨hr, rfl⟩
    · rw [if_neg e] at hr ⊢; exact ⟨hr, rfl⟩
  · have hrm : (wkA M i).k ∈ rk M := rk_mem.2 ⟨i, hi, hr, rfl⟩
    rcases List.mem_cons.1 ((addW_perm hw k).2.mem_iff.1 hz) with rfl | hz
    · exact fun e => hn _ (List.mem_append_left _ hrm) e.symm
    · exact (id_ne_app h.nodup hrm hz).symm
theorem stays_call {M : List Wk} (h : InvS M) (o : OpT) : StaysK M (callM M o).2 (callM M o).1.1 ∧ ((callM M o).1.2 ≠ 0 → (callM M o).1.1 = []) := by
  unfold callM
  split
  · obtain ⟨-, h2, h3⟩ := put_inv h ⟨o.t, o.id⟩ o.home
    by_cases he : (putM M ⟨o.t, o.id⟩ o.home).1.2 = 0
    · obtain ⟨a, b, c, d, -, e1, e2⟩ := h3 he
      rw [e1, e2]
      exact ⟨stays_settle h.wf (add_same h.wf (by omega) a d), fun e => absurd he e⟩
    · rw [h2 he]
      refine ⟨stays_same h.wf _, fun _ => ?_⟩
      unfold putM at he ⊢
      split
      · rfl
      rename_i h5
      rw [if_neg h5] at he
      split
      · rfl
      rename_i h6
      rw [if_neg h6] at he
      exact absurd rfl he
  split
  · obtain ⟨k1, k2⟩ := take_k h.wf o.id 0
    unfold dropM
    by_cases he : (takeM M o.id 0).1.2 = 0
    · rw [if_neg (by simpa using he)]
      obtain ⟨-, w, ran, y, -, -, ht⟩ := k2 he
      exact ⟨stays_settle h.wf (take_same h.wf ht), fun e => absurd rfl e⟩
    · rw [if_pos he]; exact ⟨stays_same h.wf _, fun _ => rfl⟩
  · obtain ⟨k1, k2⟩ := take_k h.wf o.id o.t
    unfold rekeyM
    by_cases he : (takeM M o.id o.t).1.2 = 0
    · rw [if_neg (by simpa using he)]
      obtain ⟨hk, w, ran, y, e1, -, ht⟩ := k2 he
      rw [e1, Int.toNat_natCast]
      exact ⟨stays_settle h.wf (back_same h ht hk rfl), fun e => absurd rfl e⟩
    · rw [if_pos he]; exact ⟨stays_same h.wf _, fun _ => rfl⟩
end Go.Proofs.Ytoddjdghjpdomaa
