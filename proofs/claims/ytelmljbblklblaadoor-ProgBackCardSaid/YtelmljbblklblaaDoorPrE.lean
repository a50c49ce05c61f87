/- prog: the reference's All, Cost. Conditions: none. -/
import Derived.Test.YtelmljbblklblaaDoorPrD
import Derived.Test.YtelmljbblklblaaDoorSub
set_option linter.all false
set_option linter.deprecated false
namespace Go.Proofs.YtelmljbblklblaaDoor
open Go.Sep
variable [B0 : Base]
/-- Where the list ends. -/
theorem listed_at {l : List Ins} {k : Nat} {x : Ins} (h : l[k]? = some x) (hn : ∀ y ∈ l.take k, y.op ≠ 9) (h9 : x.op = 9) : listed l = l.take (k + 1) := by
  induction l generalizing k with
  | nil => simp at h
  | cons y l ih =>
    unfold listed
    cases k with
    | zero =>
      simp at h; subst h
      rw [if_pos h9]; simp
    | succ k =>
      have hy : y.op ≠ 9 := hn y (by simp)
      rw [if_neg hy, List.take_succ_cons, ih (k := k) (by simpa using h) (fun z hz => hn z (by rw [List.take_succ_cons]; exact List.mem_cons_of_mem _ hz))]
theorem listed_none {l : List Ins} (h : ∀ x ∈ l, x.op ≠ 9) : listed l = l := by
  induction l with
  | nil => rfl
  | cons y l ih =>
    unfold listed
    rw [if_neg (h y List.mem_cons_self), ih fun x hx => h x (List.mem_cons_of_mem _ hx)]
theorem listed_take (l : List Ins) : listed l = l.take (listed l).length := by
  induction l with
  | nil => rfl
  | cons y l ih =>
    unfold listed
    split
    · simp
    · rw [List.length_cons, List.take_succ_cons, ← ih]
/-- What All answers. -/
def rAllP (R : List HP) (l : List Ins) (u : Value) (M : List HP) : Prop := PrIn R u (listed l) ∧ R = M
theorem PrIn.cut {R : List HP} {v : Value} {l : List Ins} (h : PrIn R v l) {k : Nat} (hk : k ≤ l.length) (hl : listed l = l.take k) : PrIn R (Sep.vsl v 0 k (Sep.vcap v) 2) (listed l) := by
  rw [hl]
  refine ⟨?_, ?_⟩
  · rw [List.length_take, Nat.min_eq_left hk]; exact h.isl.vsl hk
  · rw [List.map_take]; exact h.src.takeS (by rw [List.length_map]; exact hk)
theorem rAll_ne {R : List HP} {v : Value} {l : List Ins} (h : PrIn R v l) : ∃ u M, rAllP R l u M := ⟨_, R, h.cut (listed_len l) (listed_take l), rfl⟩
set_option maxHeartbeats 4000000 in
theorem rAll_ok (v : Value) (l : List Ins) (R : List HP) (h : PrIn R v l) : Called Tryd.prog 20 [v] R (rAllP R l) := by
  have hv := h.isl
  have hs := h.src
  have hN := hv.len
  refine Fn1 Tryd.func20 rfl Tryd.ntmps20 rfl ?_
  (repeat' first | refine stp ?_ | intro v' hv' | intro (b : Nat) | (apply w_convU; rfl; rfl; omega; omega) | (apply w_convI; rfl; rfl; omega; omega) | (apply w_quoU; rfl; rfl; rfl; omega; omega; omega) | (apply w_remU; rfl; rfl; rfl; omega; omega) | (apply w_minL; rfl; rfl; rfl; omega) | (apply w_minG; rfl; rfl; rfl; omega) | (apply w_min; rfl; rfl; rfl) | (apply w_mfR; rfl; rfl) | (apply w_cvp; rfl; rfl; exact inferInstance; rfl; rfl; assumption) | (apply w_eqS2T; rfl; rfl; rfl; omega) | (apply w_eqS2F; rfl; rfl; rfl; omega) | (apply w_neS2T; rfl; rfl; rfl; omega) | (apply w_neS2F; rfl; rfl; rfl; omega) | (apply w_eqS3T; rfl; rfl; rfl; omega) | (apply w_eqS3F; rfl; rfl; rfl; omega) | (apply w_neS3T; rfl; rfl; rfl; omega) | (apply w_neS3F; rfl; rfl; rfl; omega) | (apply w_eqS3; rfl; rfl; rfl) | (apply w_neS3; rfl; rfl; rfl) | (apply w_eqS2; rfl; rfl; rfl) | (apply w_neS2; rfl; rfl; rfl) | (apply w_maxL; rfl; rfl; rfl; omega) | (apply w_maxG; rfl; rfl; rfl; omega) | (apply w_max; rfl; rfl; rfl) | (apply w_neB; rfl; rfl; rfl; rfl) | (apply w_eqB; rfl; rfl; rfl; rfl) | (apply w_slh (h := k + 1); rfl; rfl; (exact congrArg (fun i => some (Value.int .i64 i)) (Int.natCast_succ k).symm); exact hv; omega) | refine spl ?_ ?_ | intro hc)
  refine C_loopK [2, 3, 4, 5, 6, 7, 8, 9, 10, 11, 12, 13, 14, 15, 16, 17, 18, 19] (fun k : Nat => l.length - k) (fun k => [(3, int k)]) (fun _ => R) (fun k => k ≤ l.length ∧ ∀ y ∈ l.take k, y.op ≠ 9) 0 ⟨Nat.zero_le _, by simp⟩ (by (focus ((repeat (first | exact Keep.nil | apply Keep.drop rfl | apply Keep.keep rfl)); done))) (by (exact sbf)) (by (exact frm)) ?_
  rintro k ⟨hk, hz⟩
  dsimp only [List.cons_append, List.nil_append]
  by_cases hlt : k < l.length
  · have hx : l[k]? = some l[k] := by simp [hlt]
    have hr0 : Rd R ⟨vb v, vo v + k * 2 + 0, none⟩ (int l[k].op) := Rd.src hs (i := k) (k := 0) (e := insE l[k]) (by simp [hlt]) rfl
    have htk : l.take (k + 1) = l.take k ++ [l[k]] := by rw [List.take_add_one]; simp [hlt]
    generalize l[k] = x at *
    by_cases h9 : x.op = 9
    · have hl := listed_at hx hz h9
      have hc := h.cut (k := k + 1) (by omega) hl
      (repeat' first | refine stp ?_ | intro v' hv' | intro (b : Nat) | (apply w_convU; rfl; rfl; omega; omega) | (apply w_convI; rfl; rfl; omega; omega) | (apply w_quoU; rfl; rfl; rfl; omega; omega; omega) | (apply w_remU; rfl; rfl; rfl; omega; omega) | (apply w_minL; rfl; rfl; rfl; omega) | (apply w_minG; rfl; rfl; rfl; omega) | (apply w_min; rfl; rfl; rfl) | (apply w_mfR; rfl; rfl) | (apply w_cvp; rfl; rfl; exact inferInstance; rfl; rfl; assumption) | (apply w_eqS2T; rfl; rfl; rfl; omega) | (apply w_eqS2F; rfl; rfl; rfl; omega) | (apply w_neS2T; rfl; rfl; rfl; omega) | (apply w_neS2F; rfl; rfl; rfl; omega) | (apply w_eqS3T; rfl; rfl; rfl; omega) | (apply w_eqS3F; rfl; rfl; rfl; omega) | (apply w_neS3T; rfl; rfl; rfl; omega) | (apply w_neS3F; rfl; rfl; rfl; omega) | (apply w_eqS3; rfl; rfl; rfl) | (apply w_neS3; rfl; rfl; rfl) | (apply w_eqS2; rfl; rfl; rfl) | (apply w_neS2; rfl; rfl; rfl) | (apply w_maxL; rfl; rfl; rfl; omega) | (apply w_maxG; rfl; rfl; rfl; omega) | (apply w_max; rfl; rfl; rfl) | (apply w_neB; rfl; rfl; rfl; rfl) | (apply w_eqB; rfl; rfl; rfl; rfl) | (apply w_slh (h := k + 1); rfl; rfl; (exact congrArg (fun i => some (Value.int .i64 i)) (Int.natCast_succ k).symm); exact hv; omega) | refine spl ?_ ?_ | intro hc)
      exact At_ret1 (by (first | exact .inl rfl | exact .inr rfl)) Tryd.results20 rfl ⟨hc, rfl⟩ (by (exact frm))
    · (repeat' first | refine stp ?_ | intro v' hv' | intro (b : Nat) | (apply w_convU; rfl; rfl; omega; omega) | (apply w_convI; rfl; rfl; omega; omega) | (apply w_quoU; rfl; rfl; rfl; omega; omega; omega) | (apply w_remU; rfl; rfl; rfl; omega; omega) | (apply w_minL; rfl; rfl; rfl; omega) | (apply w_minG; rfl; rfl; rfl; omega) | (apply w_min; rfl; rfl; rfl) | (apply w_mfR; rfl; rfl) | (apply w_cvp; rfl; rfl; exact inferInstance; rfl; rfl; assumption) | (apply w_eqS2T; rfl; rfl; rfl; omega) | (apply w_eqS2F; rfl; rfl; rfl; omega) | (apply w_neS2T; rfl; rfl; rfl; omega) | (apply w_neS2F; rfl; rfl; rfl; omega) | (apply w_eqS3T; rfl; rfl; rfl; omega) | (apply w_eqS3F; rfl; rfl; rfl; omega) | (apply w_neS3T; rfl; rfl; rfl; omega) | (apply w_neS3F; rfl; rfl; rfl; omega) | (apply w_eqS3; rfl; rfl; rfl) | (apply w_neS3; rfl; rfl; rfl) | (apply w_eqS2; rfl; rfl; rfl) | (apply w_neS2; rfl; rfl; rfl) | (apply w_maxL; rfl; rfl; rfl; omega) | (apply w_maxG; rfl; rfl; rfl; omega) | (apply w_max; rfl; rfl; rfl) | (apply w_neB; rfl; rfl; rfl; rfl) | (apply w_eqB; rfl; rfl; rfl; rfl) | (apply w_slh (h := k + 1); rfl; rfl; (exact congrArg (fun i => some (Value.int .i64 i)) (Int.natCast_succ k).symm); exact hv; omega) | refine spl ?_ ?_ | intro hc)
      refine At_againK (k + 1) ⟨hlt, ?_⟩ (by omega) (by (exact sbf)) (by (exact sbf)) (by (exact frm))
      intro y hy
      rw [htk] at hy
      rcases List.mem_append.1 hy with hy | hy
      · exact hz y hy
      · simp at hy; subst hy; exact h9
  · have hk' : k = l.length := by omega
    subst hk'
    rw [List.take_length] at hz
    have hl := listed_none hz
    have hc : PrIn R v (listed l) := by rw [hl]; exact h
    (repeat' first | refine stp ?_ | intro v' hv' | intro (b : Nat) | (apply w_convU; rfl; rfl; omega; omega) | (apply w_convI; rfl; rfl; omega; omega) | (apply w_quoU; rfl; rfl; rfl; omega; omega; omega) | (apply w_remU; rfl; rfl; rfl; omega; omega) | (apply w_minL; rfl; rfl; rfl; omega) | (apply w_minG; rfl; rfl; rfl; omega) | (apply w_min; rfl; rfl; rfl) | (apply w_mfR; rfl; rfl) | (apply w_cvp; rfl; rfl; exact inferInstance; rfl; rfl; assumption) | (apply w_eqS2T; rfl; rfl; rfl; omega) | (apply w_eqS2F; rfl; rfl; rfl; omega) | (apply w_neS2T; rfl; rfl; rfl; omega) | (apply w_neS2F; rfl; rfl; rfl; omega) | (apply w_eqS3T; rfl; rfl; rfl; omega) | (apply w_eqS3F; rfl; rfl; rfl; omega) | (apply w_neS3T; rfl; rfl; rfl; omega) | (apply w_neS3F; rfl; rfl; rfl; omega) | (apply w_eqS3; rfl; rfl; rfl) | (apply w_neS3; rfl; rfl; rfl) | (apply w_eqS2; rfl; rfl; rfl) | (apply w_neS2; rfl; rfl; rfl) | (apply w_maxL; rfl; rfl; rfl; omega) | (apply w_maxG; rfl; rfl; rfl; omega) | (apply w_max; rfl; rfl; rfl) | (apply w_neB; rfl; rfl; rfl; rfl) | (apply w_eqB; rfl; rfl; rfl; rfl) | (apply w_slh (h := k + 1); rfl; rfl; (exact congrArg (fun i => some (Value.int .i64 i)) (Int.natCast_succ k).symm); exact hv; omega) | refine spl ?_ ?_ | intro hc)
    exact At_ret1 (by (first | exact .inl rfl | exact .inr rfl)) Tryd.results20 rfl ⟨hc, rfl⟩ (by (exact frm))
set_option maxHeartbeats 4000000 in
theorem rCost_ok (v : Value) (l : List Ins) (R : List HP) (h : PrIn R v l) : Called Tryd.prog 19 [v] R (is (.tuple #[int (costM l).1, int (costM l).2]) R) := by
  have hv := h.isl
  have hs := h.src
  have hN := hv.len
  unfold costM
  by_cases hE : progE l = 0
  · rw [if_neg (by omega)]
    have hmay := progE_may hE
    have hll := listed_len l
    refine Fn1 Tryd.func19 rfl Tryd.ntmps19 rfl ?_
    (repeat' first | refine stp ?_ | intro v' hv' | intro (b : Nat) | (apply w_convU; rfl; rfl; omega; omega) | (apply w_convI; rfl; rfl; omega; omega) | (apply w_quoU; rfl; rfl; rfl; omega; omega; omega) | (apply w_remU; rfl; rfl; rfl; omega; omega) | (apply w_minL; rfl; rfl; rfl; omega) | (apply w_minG; rfl; rfl; rfl; omega) | (apply w_min; rfl; rfl; rfl) | (apply w_mfR; rfl; rfl) | (apply w_cvp; rfl; rfl; exact inferInstance; rfl; rfl; assumption) | (apply w_eqS2T; rfl; rfl; rfl; omega) | (apply w_eqS2F; rfl; rfl; rfl; omega) | (apply w_neS2T; rfl; rfl; rfl; omega) | (apply w_neS2F; rfl; rfl; rfl; omega) | (apply w_eqS3T; rfl; rfl; rfl; omega) | (apply w_eqS3F; rfl; rfl; rfl; omega) | (apply w_neS3T; rfl; rfl; rfl; omega) | (apply w_neS3F; rfl; rfl; rfl; omega) | (apply w_eqS3; rfl; rfl; rfl) | (apply w_neS3; rfl; rfl; rfl) | (apply w_eqS2; rfl; rfl; rfl) | (apply w_neS2; rfl; rfl; rfl) | (apply w_maxL; rfl; rfl; rfl; omega) | (apply w_maxG; rfl; rfl; rfl; omega) | (apply w_max; rfl; rfl; rfl) | (apply w_neB; rfl; rfl; rfl; rfl) | (apply w_eqB; rfl; rfl; rfl; rfl) | (apply w_cq; rfl; rfl; exact rCheck_ok v l _ hv hs) | (apply w_cl; rfl; rfl; exact rAll_ok v l _ h; exact rAll_ne h; rintro u _ ⟨hu, rfl⟩; refine ⟨by (exact kmf), ?_⟩) | refine spl ?_ ?_ | intro hc)
    have hu1 := hu.isl
    have hu2 := hu.src
    have huN := hu1.len
    refine C_loopK [6, 7, 15, 16, 17, 18, 19, 20, 21, 22, 23, 24, 25, 26, 27, 28, 29, 30, 31, 32, 33] (fun k : Nat => (listed l).length - k) (fun k => [(7, int k), (6, int (sumC ((listed l).take k)))]) (fun _ => R) (fun k => k ≤ (listed l).length) 0 (Nat.zero_le _) (by (focus ((repeat (first | exact Keep.nil | apply Keep.drop rfl | apply Keep.keep rfl)); done))) (by (exact sbf)) (by (exact frm)) ?_
    intro k hk
    dsimp only [List.cons_append, List.nil_append]
    have hb := cost_fold_bounds (l := (listed l).take k) (fun y hy => hmay.2 y (listed_mem (List.mem_of_mem_take hy))) 0 (Int.le_refl _)
    have htk : ((listed l).take k).length ≤ 64 := by rw [List.length_take]; omega
    have hb1 : 0 ≤ sumC ((listed l).take k) ∧ sumC ((listed l).take k) ≤ 64 * 1099511627776 := ⟨hb.1, by have := hb.2; unfold sumC; omega⟩
    clear hb
    by_cases hlt : k < (listed l).length
    · have hx : (listed l)[k]? = some (listed l)[k] := by simp [hlt]
      have hr0 : Rd R ⟨vb u, vo u + k * 2 + 0, none⟩ (int (listed l)[k].op) := Rd.src hu2 (i := k) (k := 0) (e := insE (listed l)[k]) (by simp [hlt]) rfl
      have hr1 : Rd R ⟨vb u, vo u + k * 2 + 1, none⟩ (int (listed l)[k].n) := Rd.src hu2 (i := k) (k := 1) (e := insE (listed l)[k]) (by simp [hlt]) rfl
      have hmx := may_n (hmay.2 _ (listed_mem (List.mem_of_getElem? hx)))
      have hsum : sumC ((listed l).take (k + 1)) = costN (sumC ((listed l).take k)) (listed l)[k] := by unfold sumC; rw [List.take_add_one, hx, List.foldl_append]; rfl
      generalize (listed l)[k] = x at *
      unfold costN at hsum
      by_cases h1 : x.op = 1
      · rw [if_pos h1] at hsum
        generalize sumC ((listed l).take k) = z at *
        (repeat' first | refine stp ?_ | intro v' hv' | intro (b : Nat) | (apply w_convU; rfl; rfl; omega; omega) | (apply w_convI; rfl; rfl; omega; omega) | (apply w_quoU; rfl; rfl; rfl; omega; omega; omega) | (apply w_remU; rfl; rfl; rfl; omega; omega) | (apply w_minL; rfl; rfl; rfl; omega) | (apply w_minG; rfl; rfl; rfl; omega) | (apply w_min; rfl; rfl; rfl) | (apply w_mfR; rfl; rfl) | (apply w_cvp; rfl; rfl; exact inferInstance; rfl; rfl; assumption) | (apply w_eqS2T; rfl; rfl; rfl; omega) | (apply w_eqS2F; rfl; rfl; rfl; omega) | (apply w_neS2T; rfl; rfl; rfl; omega) | (apply w_neS2F; rfl; rfl; rfl; omega) | (apply w_eqS3T; rfl; rfl; rfl; omega) | (apply w_eqS3F; rfl; rfl; rfl; omega) | (apply w_neS3T; rfl; rfl; rfl; omega) | (apply w_neS3F; rfl; rfl; rfl; omega) | (apply w_eqS3; rfl; rfl; rfl) | (apply w_neS3; rfl; rfl; rfl) | (apply w_eqS2; rfl; rfl; rfl) | (apply w_neS2; rfl; rfl; rfl) | (apply w_maxL; rfl; rfl; rfl; omega) | (apply w_maxG; rfl; rfl; rfl; omega) | (apply w_max; rfl; rfl; rfl) | (apply w_neB; rfl; rfl; rfl; rfl) | (apply w_eqB; rfl; rfl; rfl; rfl) | (apply w_cq; rfl; rfl; exact rCheck_ok v l _ hv hs) | (apply w_cl; rfl; rfl; exact rAll_ok v l _ h; exact rAll_ne h; rintro u _ ⟨hu, rfl⟩; refine ⟨by (exact kmf), ?_⟩) | refine spl ?_ ?_ | intro hc)
        exact At_againK (k + 1) hlt (by omega) (by rw [hsum]; (exact sbf)) (by (exact sbf)) (by (exact frm))
      · rw [if_neg h1] at hsum
        generalize sumC ((listed l).take k) = z at *
        (repeat' first | refine stp ?_ | intro v' hv' | intro (b : Nat) | (apply w_convU; rfl; rfl; omega; omega) | (apply w_convI; rfl; rfl; omega; omega) | (apply w_quoU; rfl; rfl; rfl; omega; omega; omega) | (apply w_remU; rfl; rfl; rfl; omega; omega) | (apply w_minL; rfl; rfl; rfl; omega) | (apply w_minG; rfl; rfl; rfl; omega) | (apply w_min; rfl; rfl; rfl) | (apply w_mfR; rfl; rfl) | (apply w_cvp; rfl; rfl; exact inferInstance; rfl; rfl; assumption) | (apply w_eqS2T; rfl; rfl; rfl; omega) | (apply w_eqS2F; rfl; rfl; rfl; omega) | (apply w_neS2T; rfl; rfl; rfl; omega) | (apply w_neS2F; rfl; rfl; rfl; omega) | (apply w_eqS3T; rfl; rfl; rfl; omega) | (apply w_eqS3F; rfl; rfl; rfl; omega) | (apply w_neS3T; rfl; rfl; rfl; omega) | (apply w_neS3F; rfl; rfl; rfl; omega) | (apply w_eqS3; rfl; rfl; rfl) | (apply w_neS3; rfl; rfl; rfl) | (apply w_eqS2; rfl; rfl; rfl) | (apply w_neS2; rfl; rfl; rfl) | (apply w_maxL; rfl; rfl; rfl; omega) | (apply w_maxG; rfl; rfl; rfl; omega) | (apply w_max; rfl; rfl; rfl) | (apply w_neB; rfl; rfl; rfl; rfl) | (apply w_eqB; rfl; rfl; rfl; rfl) | (apply w_cq; rfl; rfl; exact rCheck_ok v l _ hv hs) | (apply w_cl; rfl; rfl; exact rAll_ok v l _ h; exact rAll_ne h; rintro u _ ⟨hu, rfl⟩; refine ⟨by (exact kmf), ?_⟩) | refine spl ?_ ?_ | intro hc)
        exact At_againK (k + 1) hlt (by omega) (by rw [hsum]; (exact sbf)) (by (exact sbf)) (by (exact frm))
    · have hk' : k = (listed l).length := by omega
      subst hk'
      rw [List.take_length] at *
      generalize sumC (listed l) = z at *
      by_cases hov : 1099511627776 ≤ z
      · rw [if_pos hov]
        (repeat' first | refine stp ?_ | intro v' hv' | intro (b : Nat) | (apply w_convU; rfl; rfl; omega; omega) | (apply w_convI; rfl; rfl; omega; omega) | (apply w_quoU; rfl; rfl; rfl; omega; omega; omega) | (apply w_remU; rfl; rfl; rfl; omega; omega) | (apply w_minL; rfl; rfl; rfl; omega) | (apply w_minG; rfl; rfl; rfl; omega) | (apply w_min; rfl; rfl; rfl) | (apply w_mfR; rfl; rfl) | (apply w_cvp; rfl; rfl; exact inferInstance; rfl; rfl; assumption) | (apply w_eqS2T; rfl; rfl; rfl; omega) | (apply w_eqS2F; rfl; rfl; rfl; omega) | (apply w_neS2T; rfl; rfl; rfl; omega) | (apply w_neS2F; rfl; rfl; rfl; omega) | (apply w_eqS3T; rfl; rfl; rfl; omega) | (apply w_eqS3F; rfl; rfl; rfl; omega) | (apply w_neS3T; rfl; rfl; rfl; omega) | (apply w_neS3F; rfl; rfl; rfl; omega) | (apply w_eqS3; rfl; rfl; rfl) | (apply w_neS3; rfl; rfl; rfl) | (apply w_eqS2; rfl; rfl; rfl) | (apply w_neS2; rfl; rfl; rfl) | (apply w_maxL; rfl; rfl; rfl; omega) | (apply w_maxG; rfl; rfl; rfl; omega) | (apply w_max; rfl; rfl; rfl) | (apply w_neB; rfl; rfl; rfl; rfl) | (apply w_eqB; rfl; rfl; rfl; rfl) | (apply w_cq; rfl; rfl; exact rCheck_ok v l _ hv hs) | (apply w_cl; rfl; rfl; exact rAll_ok v l _ h; exact rAll_ne h; rintro u _ ⟨hu, rfl⟩; refine ⟨by (exact kmf), ?_⟩) | refine spl ?_ ?_ | intro hc)
        all_goals (refine At_ret2 (by (first | exact .inl rfl | exact .inr rfl)) Tryd.results19 rfl rfl ⟨by rfl, rfl⟩ (by (exact frm)))
      · rw [if_neg hov]
        (repeat' first | refine stp ?_ | intro v' hv' | intro (b : Nat) | (apply w_convU; rfl; rfl; omega; omega) | (apply w_convI; rfl; rfl; omega; omega) | (apply w_quoU; rfl; rfl; rfl; omega; omega; omega) | (apply w_remU; rfl; rfl; rfl; omega; omega) | (apply w_minL; rfl; rfl; rfl; omega) | (apply w_minG; rfl; rfl; rfl; omega) | (apply w_min; rfl; rfl; rfl) | (apply w_mfR; rfl; rfl) | (apply w_cvp; rfl; rfl; exact inferInstance; rfl; rfl; assumption) | (apply w_eqS2T; rfl; rfl; rfl; omega) | (apply w_eqS2F; rfl; rfl; rfl; omega) | (apply w_neS2T; rfl; rfl; rfl; omega) | (apply w_neS2F; rfl; rfl; rfl; omega) | (apply w_eqS3T; rfl; rfl; rfl; omega) | (apply w_eqS3F; rfl; rfl; rfl; omega) | (apply w_neS3T; rfl; rfl; rfl; omega) | (apply w_neS3F; rfl; rfl; rfl; omega) | (apply w_eqS3; rfl; rfl; rfl) | (apply w_neS3; rfl; rfl; rfl) | (apply w_eqS2; rfl; rfl; rfl) | (apply w_neS2; rfl; rfl; rfl) | (apply w_maxL; rfl; rfl; rfl; omega) | (apply w_maxG; rfl; rfl; rfl; omega) | (apply w_max; rfl; rfl; rfl) | (apply w_neB; rfl; rfl; rfl; rfl) | (apply w_eqB; rfl; rfl; rfl; rfl) | (apply w_cq; rfl; rfl; exact rCheck_ok v l _ hv hs) | (apply w_cl; rfl; rfl; exact rAll_ok v l _ h; exact rAll_ne h; rintro u _ ⟨hu, rfl⟩; refine ⟨by (exact kmf), ?_⟩) | refine spl ?_ ?_ | intro hc)
        all_goals (refine At_ret2 (by (first | exact .inl rfl | exact .inr rfl)) Tryd.results19 rfl rfl ⟨by rfl, rfl⟩ (by (exact frm)))
  · rw [if_pos hE]
    generalize hee : progE l = e at *
    have hC := rCheck_ok v l R hv hs
    rw [hee] at hC
    refine Fn1 Tryd.func19 rfl Tryd.ntmps19 rfl ?_
    (repeat' first | refine stp ?_ | intro v' hv' | intro (b : Nat) | (apply w_convU; rfl; rfl; omega; omega) | (apply w_convI; rfl; rfl; omega; omega) | (apply w_quoU; rfl; rfl; rfl; omega; omega; omega) | (apply w_remU; rfl; rfl; rfl; omega; omega) | (apply w_minL; rfl; rfl; rfl; omega) | (apply w_minG; rfl; rfl; rfl; omega) | (apply w_min; rfl; rfl; rfl) | (apply w_mfR; rfl; rfl) | (apply w_cvp; rfl; rfl; exact inferInstance; rfl; rfl; assumption) | (apply w_eqS2T; rfl; rfl; rfl; omega) | (apply w_eqS2F; rfl; rfl; rfl; omega) | (apply w_neS2T; rfl; rfl; rfl; omega) | (apply w_neS2F; rfl; rfl; rfl; omega) | (apply w_eqS3T; rfl; rfl; rfl; omega) | (apply w_eqS3F; rfl; rfl; rfl; omega) | (apply w_neS3T; rfl; rfl; rfl; omega) | (apply w_neS3F; rfl; rfl; rfl; omega) | (apply w_eqS3; rfl; rfl; rfl) | (apply w_neS3; rfl; rfl; rfl) | (apply w_eqS2; rfl; rfl; rfl) | (apply w_neS2; rfl; rfl; rfl) | (apply w_maxL; rfl; rfl; rfl; omega) | (apply w_maxG; rfl; rfl; rfl; omega) | (apply w_max; rfl; rfl; rfl) | (apply w_neB; rfl; rfl; rfl; rfl) | (apply w_eqB; rfl; rfl; rfl; rfl) | (apply w_cq; rfl; rfl; exact rCheck_ok v l _ hv hs) | (apply w_cl; rfl; rfl; exact rAll_ok v l _ h; exact rAll_ne h; rintro u _ ⟨hu, rfl⟩; refine ⟨by (exact kmf), ?_⟩) | refine spl ?_ ?_ | intro hc)
    all_goals (refine At_ret2 (by (first | exact .inl rfl | exact .inr rfl)) Tryd.results19 rfl rfl ⟨by (rw [hee]), rfl⟩ (by (exact frm)))
end Go.Proofs.YtelmljbblklblaaDoor
