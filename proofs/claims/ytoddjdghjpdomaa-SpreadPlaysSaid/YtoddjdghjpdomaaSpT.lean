/- SpreadPlays: the document's answer: Settle. Conditions: none. -/
import Derived.Test.YtoddjdghjpdomaaSpS
set_option linter.all false
set_option linter.deprecated false
namespace Go.Proofs.Ytoddjdghjpdomaa
open Go.Sep
variable [B0 : Base]
attribute [local irreducible] rcells
theorem idle_first {M : List Wk} {L : List Sv} (hw : WfS M) (hR : RelS M L) {x : Ky} {t : Nat} (hl : lastM M x = (t : Int)) (ht : t < M.length) (hi : (wkA M t).runs = false) : onR L t < 0 ∧ ∀ j : Nat, j < t → ¬ onR L j < 0 := by
  refine ⟨by rw [on_rel hw hR, if_neg (by rw [hi]; simp)]; decide, fun j hj => ?_⟩
  unfold lastM at hl
  cases hf : M.findIdx? (fun x => !x.runs) with
  | none =>
    have hn := List.findIdx?_eq_none_iff.1 hf
    have := hn _ (List.mem_of_getElem? (wk_some ht))
    rw [hi] at this; simp at this
  | some t' =>
    rw [hf] at hl
    dsimp only at hl
    obtain rfl : t' = t := by omega
    obtain ⟨h1, h2, h3⟩ := List.findIdx?_eq_some_iff_getElem.1 hf
    have hjM : j < M.length := by omega
    have hjr : (wkA M j).runs = true := by
      have := h3 j hj
      rw [wkA_eq (List.getElem?_eq_getElem hjM)]
      simpa using this
    rw [on_rel hw hR, if_pos ⟨hjM, hjr⟩]
    have := (hw.kb _ (List.mem_append_left _ (rk_mem.2 ⟨j, hjM, hjr, rfl⟩))).1
    omega
theorem idle_none {M : List Wk} {L : List Sv} (hw : WfS M) (hR : RelS M L) (hf : (rk M).length = M.length) : ∀ j : Nat, j < M.length → ¬ onR L j < 0 := fun j hj => by
  have hjr := rk_full.1 hf j hj
  rw [on_rel hw hR, if_pos ⟨hj, hjr⟩]
  have := (hw.kb _ (List.mem_append_left _ (rk_mem.2 ⟨j, hj, hjr, rfl⟩))).1
  omega
theorem greatest {M : List Wk} (hw : WfS M) {t t' : Nat} (ht : t < M.length) (ht' : t' < M.length) (r : (wkA M t).runs = true) (r' : (wkA M t').runs = true) (g : ∀ y ∈ rk M, kyB (wkA M t).k y = false) (g' : ∀ y ∈ rk M, kyB (wkA M t').k y = false) : t = t' := by
  refine run_inj' hw ht ht' r r' (Classical.byContradiction fun hne => ?_)
  have h1 := g _ (rk_mem.2 ⟨t', ht', r', rfl⟩)
  have h2 := g' _ (rk_mem.2 ⟨t, ht, r, rfl⟩)
  rw [kyB_total hne h1] at h2; cases h2
set_option maxHeartbeats 16000000 in
theorem rSettle_ok (bx : Nat) (M : List Wk) (L : List Sv) (hw : WfS M) (hR : RelS M L) (hp1 : 1 ≤ M.length) (hp2 : M.length ≤ 16) (htw : ∀ m M', stepM M = some (m, M') → stepM M' = none) (R : List HP) :
    Called Try.prog 44 [ptr bx] (rsb bx M.length L :: R) (retSl 82 3 ((settleM M).1.map mvE) (rsb bx M.length (stL M L) :: R)) := by
  refine Called.isl ?_
  refine Fn1 Try.func44 rfl Try.ntmps44 rfl ?_
  (repeat' first | refine stp ?_ | intro v' hv' | intro (b : Nat) | (apply w_convU; rfl; rfl; omega; omega) | (apply w_convI; rfl; rfl; omega; omega) | (apply w_quoU; rfl; rfl; rfl; omega; omega; omega) | (apply w_remU; rfl; rfl; rfl; omega; omega) | (apply w_ld0; rfl; rfl; ((focus ((repeat (first | exact hr1 _ | exact hr2 _ | exact hr3 _ | apply Rd.there)); done)))) | (apply w_ld; rfl; rfl; ((focus ((repeat (first | exact hr1 _ | exact hr2 _ | exact hr3 _ | apply Rd.there)); done)))) | (apply w_la0; rfl; rfl; ((focus ((repeat (first | exact hra _ | exact hrb _ | apply RdAll.there)); done))); rfl) | (apply w_la; rfl; rfl; ((focus ((repeat (first | exact hra _ | exact hrb _ | apply RdAll.there)); done))); rfl) | (apply w_st; rfl; rfl; rfl; ((focus ((repeat (first | exact hs1 _ | exact hs2 _ | exact hs3 _ | apply St.there)); done))); ((exact kmf))) | (apply w_cp; rfl; rfl; exact hL) | (apply w_minL; rfl; rfl; rfl; omega) | (apply w_minG; rfl; rfl; rfl; omega) | (apply w_min; rfl; rfl; rfl) | (apply w_mfR; rfl; rfl) | (apply w_cvp; rfl; rfl; exact inferInstance; rfl; rfl; assumption) | (apply w_eqS2T; rfl; rfl; rfl; omega) | (apply w_eqS2F; rfl; rfl; rfl; omega) | (apply w_neS2T; rfl; rfl; rfl; omega) | (apply w_neS2F; rfl; rfl; rfl; omega) | (apply w_eqS3T; rfl; rfl; rfl; omega) | (apply w_eqS3F; rfl; rfl; rfl; omega) | (apply w_neS3T; rfl; rfl; rfl; omega) | (apply w_neS3F; rfl; rfl; rfl; omega) | (apply w_eqS3; rfl; rfl; rfl) | (apply w_neS3; rfl; rfl; rfl) | (apply w_eqS2; rfl; rfl; rfl) | (apply w_neS2; rfl; rfl; rfl) | (apply w_maxL; rfl; rfl; rfl; omega) | (apply w_maxG; rfl; rfl; rfl; omega) | (apply w_max; rfl; rfl; rfl) | (apply w_neB; rfl; rfl; rfl; rfl) | (apply w_eqB; rfl; rfl; rfl; rfl) | refine spl ?_ ?_ | intro hc)
  refine C_loopK (α := Nat × Value) [2, 3, 4, 5, 6, 7, 8, 9, 10, 11, 12, 13, 14, 15, 16, 17, 18, 19, 20, 21, 22, 23, 24, 25, 26, 27, 28, 29, 30, 31, 32, 33, 34, 35, 36, 37, 38, 39, 40, 41, 42, 43, 44, 45, 46, 47, 48, 49, 50, 51, 52, 53, 54, 55, 56, 57, 58, 59, 60, 61, 62, 63, 64, 65, 66, 67, 68, 69, 70, 71, 72, 73] (fun x => 2 - x.1) (fun x => [(3, x.2)]) (fun x => sl 82 3 x.2 ((if x.1 = 0 then [] else (settleM M).1).map mvE) :: rsb bx M.length (if x.1 = 0 then L else stL M L) :: R) (fun x => x.1 ≤ 1 ∧ IsSl x.2 (if x.1 = 0 then [] else (settleM M).1).length ∧ (x.1 = 1 → stepM M ≠ none)) (0, .slice none 0 0) ⟨Nat.zero_le _, IsSl.nil, fun h => by cases h⟩ (by (focus ((repeat (first | exact Keep.nil | apply Keep.drop rfl | apply Keep.keep rfl)); done))) (by (exact sbf)) (fun w hs => Sat.sl_nil (E := 82) (n := 3) (Sel.sat (by (focus ((repeat (first | exact Sel.refl | (apply Sel.cons; (focus ((repeat (first | exact Del.here | apply Del.there)); done))) | refine Sel.drop ?_)); done))) hs)) ?_
  rintro ⟨k, vo1⟩ ⟨hk1, hvo, hks⟩
  dsimp only [List.cons_append, List.nil_append] at *
  have hcase : ∃ Mk Lk out, (if k = 0 then L else stL M L) = Lk ∧ (if k = 0 then ([] : List Mv) else (settleM M).1) = out ∧ WfS Mk ∧ RelS Mk Lk ∧ Mk.length = M.length ∧ ((stepM Mk = none ∧ (settleM M).1 = out ∧ stL M L = Lk) ∨ (k = 0 ∧ out = [] ∧ Mk = M ∧ Lk = L ∧ ∃ m M', stepM M = some (m, M') ∧ settleM M = ([m], M'))) := by
    cases hs : stepM M with
    | none =>
      have e : settleM M = ([], M) := by unfold settleM; rw [hs]
      have e2 : stL M L = L := by unfold stL; rw [hs]
      have hk0 : k = 0 := by
        rcases Nat.lt_or_ge k 1 with h | h
        · omega
        · exact absurd hs (hks (by omega))
      exact ⟨M, L, [], by rw [if_pos hk0], by rw [if_pos hk0], hw, hR, rfl, .inl ⟨hs, by rw [e], e2⟩⟩
    | some p =>
      obtain ⟨m, M'⟩ := p
      have e : settleM M = ([m], M') := by unfold settleM; rw [hs]
      have hl := settle_len M
      rw [e] at hl
      by_cases hk0 : k = 0
      · exact ⟨M, L, [], by rw [if_pos hk0], by rw [if_pos hk0], hw, hR, rfl, .inr ⟨hk0, rfl, rfl, rfl, m, M', rfl, e⟩⟩
      · exact ⟨M', stL M L, [m], by rw [if_neg hk0], by rw [if_neg hk0, e], hw.step hs, rel_step hw hR hs, hl, .inl ⟨htw m M' hs, by rw [e], rfl⟩⟩
  obtain ⟨Mk, Lk, out, e1, e2, hwk, hRk, hlk, hst⟩ := hcase
  rw [e1, e2]
  rw [e2] at hvo
  rw [← hlk] at hp1 hp2 ⊢
  have hle := least_rel hwk hRk
  have hLe := rLeast_ok bx Mk.length Lk hRk.len
  have hId := fun res h => rIdle_ok bx Mk.length hp2 Lk hRk.len res h
  have hLa := rLast_ok bx Mk.length Lk hRk.len
  rcases hst with ⟨hsn, hse, hsl⟩ | ⟨hk0, ho, rfl, rfl, m, M', hss, hse⟩
  · rw [hse, hsl]
    rcases step_none_cases hwk hsn with h0 | ⟨f, x, r, hf, h0, hq, hla⟩
    · rw [h0, if_pos (by decide)] at hle
      rw [hle] at hLe
      clear hId hLa
      (repeat' first | refine stp ?_ | intro v' hv' | intro (b : Nat) | (apply w_convU; rfl; rfl; omega; omega) | (apply w_convI; rfl; rfl; omega; omega) | (apply w_quoU; rfl; rfl; rfl; omega; omega; omega) | (apply w_remU; rfl; rfl; rfl; omega; omega) | (apply w_ld0; rfl; rfl; ((focus ((repeat (first | exact hr1 _ | exact hr2 _ | exact hr3 _ | apply Rd.there)); done)))) | (apply w_ld; rfl; rfl; ((focus ((repeat (first | exact hr1 _ | exact hr2 _ | exact hr3 _ | apply Rd.there)); done)))) | (apply w_la0; rfl; rfl; ((focus ((repeat (first | exact hra _ | exact hrb _ | apply RdAll.there)); done))); rfl) | (apply w_la; rfl; rfl; ((focus ((repeat (first | exact hra _ | exact hrb _ | apply RdAll.there)); done))); rfl) | (apply w_st; rfl; rfl; rfl; ((focus ((repeat (first | exact hs1 _ | exact hs2 _ | exact hs3 _ | apply St.there)); done))); ((exact kmf))) | (apply w_cp; rfl; rfl; exact hL) | (apply w_minL; rfl; rfl; rfl; omega) | (apply w_minG; rfl; rfl; rfl; omega) | (apply w_min; rfl; rfl; rfl) | (apply w_mfR; rfl; rfl) | (apply w_cvp; rfl; rfl; exact inferInstance; rfl; rfl; assumption) | (apply w_eqS2T; rfl; rfl; rfl; omega) | (apply w_eqS2F; rfl; rfl; rfl; omega) | (apply w_neS2T; rfl; rfl; rfl; omega) | (apply w_neS2F; rfl; rfl; rfl; omega) | (apply w_eqS3T; rfl; rfl; rfl; omega) | (apply w_eqS3F; rfl; rfl; rfl; omega) | (apply w_neS3T; rfl; rfl; rfl; omega) | (apply w_neS3F; rfl; rfl; rfl; omega) | (apply w_eqS3; rfl; rfl; rfl) | (apply w_neS3; rfl; rfl; rfl) | (apply w_eqS2; rfl; rfl; rfl) | (apply w_neS2; rfl; rfl; rfl) | (apply w_maxL; rfl; rfl; rfl; omega) | (apply w_maxG; rfl; rfl; rfl; omega) | (apply w_max; rfl; rfl; rfl) | (apply w_neB; rfl; rfl; rfl; rfl) | (apply w_eqB; rfl; rfl; rfl; rfl) | refine spl ?_ ?_ | intro hc)
      refine At_ret1 (.inl rfl) Try.results44 rfl rfl (fun w hs => Sel.sat (by (focus ((repeat (first | exact Sel.refl | (apply Sel.cons; (focus ((repeat (first | exact Del.here | apply Del.there)); done))) | refine Sel.drop ?_)); done))) hs)
    · have hhd : headK (wkA Mk f) = x := by unfold headK; rw [hq]; rfl
      rw [h0, if_neg (by omega), Int.toNat_natCast, hhd] at hle
      rw [hle] at hLe
      have hxq : x ∈ wq Mk := wq_mem.2 ⟨f, hf, by rw [hq]; exact List.mem_cons_self⟩
      have hxid := id_nat hwk (List.mem_append_right _ hxq)
      have hxs := hRk.wait f hf x (by rw [hq]; exact List.mem_cons_self)
      have hfull : (rk Mk).length = Mk.length := by
        rcases Nat.lt_or_eq_of_le (rk_len (M := Mk)) with h | h
        · obtain ⟨t, ht, -, -⟩ := last_idle (k := x) h
          rw [hla] at ht; omega
        · exact h
      have hId := hId (-1) (.inr ⟨rfl, idle_none hwk hRk hfull⟩)
      obtain ⟨t, ht, htr, hlr, -⟩ := last_rel hwk hRk (fun e => by rw [e] at hfull; simp at hfull; omega)
      rw [hlr] at hLa
      have htm : (wkA Mk t).k ∈ rk Mk := rk_mem.2 ⟨t, ht, htr, rfl⟩
      have htid := id_nat hwk (List.mem_append_left _ htm)
      have hts := hRk.run t ht htr
      have hno : kyB x (wkA Mk t).k = false := by
        rcases last_full (k := x) hfull with ⟨-, h⟩ | ⟨t2, h, -⟩
        · exact h _ htm
        · rw [hla] at h; omega
      have hL := Less_ok x (wkA Mk t).k
      rw [hno] at hL
      clear hle hlr hhd hno htm hfull hq hxq
      generalize (wkA Mk t).k = g at *
      obtain ⟨xa, xi⟩ := x
      obtain ⟨ga, gi⟩ := g
      dsimp only at *
      obtain ⟨xi, rfl⟩ : ∃ n : Nat, xi = (n : Int) := ⟨xi.toNat, hxid.1.symm⟩
      obtain ⟨gi, rfl⟩ : ∃ n : Nat, gi = (n : Int) := ⟨gi.toNat, htid.1.symm⟩
      rw [Int.toNat_natCast] at hxid htid hxs hts
      have hlx : xi < Lk.length := by rw [hRk.len]; exact hxid.2
      have hlg : gi < Lk.length := by rw [hRk.len]; exact htid.2
      have hra : ∀ R, RdAll (pt bx 57 (rcells Mk.length Lk) :: R) bx (0 + 1 + xi * 5 + 1) [int xa, int (xi : Int)] := fun R => by have := RdAll.svk (b := bx) (N := Mk.length) (R := R) hlx; rw [hxs] at this; exact this
      have hrb : ∀ R, RdAll (pt bx 57 (rcells Mk.length Lk) :: R) bx (0 + 1 + gi * 5 + 1) [int ga, int (gi : Int)] := fun R => by have := RdAll.svk (b := bx) (N := Mk.length) (R := R) hlg; rw [hts] at this; exact this
      unfold rsb at *
      (repeat' first | refine stp ?_ | intro v' hv' | intro (b : Nat) | (apply w_convU; rfl; rfl; omega; omega) | (apply w_convI; rfl; rfl; omega; omega) | (apply w_quoU; rfl; rfl; rfl; omega; omega; omega) | (apply w_remU; rfl; rfl; rfl; omega; omega) | (apply w_ld0; rfl; rfl; ((focus ((repeat (first | exact hr1 _ | exact hr2 _ | exact hr3 _ | apply Rd.there)); done)))) | (apply w_ld; rfl; rfl; ((focus ((repeat (first | exact hr1 _ | exact hr2 _ | exact hr3 _ | apply Rd.there)); done)))) | (apply w_la0; rfl; rfl; ((focus ((repeat (first | exact hra _ | exact hrb _ | apply RdAll.there)); done))); rfl) | (apply w_la; rfl; rfl; ((focus ((repeat (first | exact hra _ | exact hrb _ | apply RdAll.there)); done))); rfl) | (apply w_st; rfl; rfl; rfl; ((focus ((repeat (first | exact hs1 _ | exact hs2 _ | exact hs3 _ | apply St.there)); done))); ((exact kmf))) | (apply w_cp; rfl; rfl; exact hL) | (apply w_minL; rfl; rfl; rfl; omega) | (apply w_minG; rfl; rfl; rfl; omega) | (apply w_min; rfl; rfl; rfl) | (apply w_mfR; rfl; rfl) | (apply w_cvp; rfl; rfl; exact inferInstance; rfl; rfl; assumption) | (apply w_eqS2T; rfl; rfl; rfl; omega) | (apply w_eqS2F; rfl; rfl; rfl; omega) | (apply w_neS2T; rfl; rfl; rfl; omega) | (apply w_neS2F; rfl; rfl; rfl; omega) | (apply w_eqS3T; rfl; rfl; rfl; omega) | (apply w_eqS3F; rfl; rfl; rfl; omega) | (apply w_neS3T; rfl; rfl; rfl; omega) | (apply w_neS3F; rfl; rfl; rfl; omega) | (apply w_eqS3; rfl; rfl; rfl) | (apply w_neS3; rfl; rfl; rfl) | (apply w_eqS2; rfl; rfl; rfl) | (apply w_neS2; rfl; rfl; rfl) | (apply w_maxL; rfl; rfl; rfl; omega) | (apply w_maxG; rfl; rfl; rfl; omega) | (apply w_max; rfl; rfl; rfl) | (apply w_neB; rfl; rfl; rfl; rfl) | (apply w_eqB; rfl; rfl; rfl; rfl) | refine spl ?_ ?_ | intro hc)
      refine At_ret1 (.inl rfl) Try.results44 rfl rfl (fun w hs => Sel.sat (by (focus ((repeat (first | exact Sel.refl | (apply Sel.cons; (focus ((repeat (first | exact Del.here | apply Del.there)); done))) | refine Sel.drop ?_)); done))) hs)
  · have hsl := settle_len Mk
    obtain ⟨-, f, t, x, r, rfl, hf, ht, hq, rfl, hlf, hlt⟩ := step_some hwk hss
    subst hk0
    subst ho
    have hhd : headK (wkA Mk f) = x := by unfold headK; rw [hq]; rfl
    rw [hlf, if_neg (by omega), Int.toNat_natCast, hhd] at hle
    rw [hle] at hLe
    have hxq : x ∈ wq Mk := wq_mem.2 ⟨f, hf, by rw [hq]; exact List.mem_cons_self⟩
    have hxid := id_nat hwk (List.mem_append_right _ hxq)
    have hxs := hRk.wait f hf x (by rw [hq]; exact List.mem_cons_self)
    have hstl : stL Mk Lk = (if (wkA Mk t).runs = true then Lk.set (wkA Mk t).k.id.toNat ⟨true, (wkA Mk t).k, (t : Int), false⟩ else Lk).set x.id.toNat ⟨true, x, (t : Int), true⟩ := by
      unfold stL; rw [hss]; simp only [Int.toNat_natCast, hhd]
    have h64 := hRk.len
    rcases Nat.lt_or_eq_of_le (rk_len (M := Mk)) with hfull | hfull
    · obtain ⟨t2, ht2, -, hti⟩ := last_idle (k := x) hfull
      rw [hlt] at ht2
      obtain rfl : t2 = t := by omega
      have hId := hId (t2 : Int) (.inl ⟨t2, rfl, ht, idle_first hwk hRk hlt ht hti⟩)
      rw [hti, if_neg (by simp)] at hstl
      clear hle hhd hq hxq hLa hfull hti
      obtain ⟨xa, xi⟩ := x
      dsimp only at *
      obtain ⟨xi, rfl⟩ : ∃ n : Nat, xi = (n : Int) := ⟨xi.toNat, hxid.1.symm⟩
      rw [Int.toNat_natCast] at hxid hxs hstl
      have hlx : xi < Lk.length := by omega
      have hr1 : ∀ R, Rd (pt bx 57 (rcells Mk.length Lk) :: R) ⟨bx, 0 + 1 + xi * 5 + 3, none⟩ (int (f : Int)) := fun R => by have := Rd.sv (b := bx) (N := Mk.length) (R := R) (f := 3) (u := int (f : Int)) hlx (by rw [hxs]; rfl); exact this
      have hs1 : ∀ R, St (pt bx 57 (rcells Mk.length Lk) :: R) ⟨bx, 0 + 1 + xi * 5 + 3, none⟩ (int (t2 : Int)) (pt bx 57 (rcells Mk.length (Lk.set xi ⟨true, ⟨xa, (xi : Int)⟩, (t2 : Int), false⟩)) :: R) := fun R => St.sv hlx (by decide) (by rw [hxs]; rfl)
      have hs2 : ∀ R, St (pt bx 57 (rcells Mk.length (Lk.set xi ⟨true, ⟨xa, (xi : Int)⟩, (t2 : Int), false⟩)) :: R) ⟨bx, 0 + 1 + xi * 5 + 4, none⟩ (.bool true) (pt bx 57 (rcells Mk.length (Lk.set xi ⟨true, ⟨xa, (xi : Int)⟩, (t2 : Int), true⟩)) :: R) := fun R => by
        have := St.sv (b := bx) (N := Mk.length) (R := R) (es := Lk.set xi ⟨true, ⟨xa, (xi : Int)⟩, (t2 : Int), false⟩) (i := xi) (f := 4) (u := .bool true) (e' := ⟨true, ⟨xa, (xi : Int)⟩, (t2 : Int), true⟩) (by rw [List.length_set]; exact hlx) (by decide) (by rw [svA_set hlx, if_pos rfl]; rfl)
        rwa [List.set_set] at this
      unfold rsb at *
      (repeat' first | refine stp ?_ | intro v' hv' | intro (b : Nat) | (apply w_convU; rfl; rfl; omega; omega) | (apply w_convI; rfl; rfl; omega; omega) | (apply w_quoU; rfl; rfl; rfl; omega; omega; omega) | (apply w_remU; rfl; rfl; rfl; omega; omega) | (apply w_ld0; rfl; rfl; ((focus ((repeat (first | exact hr1 _ | exact hr2 _ | exact hr3 _ | apply Rd.there)); done)))) | (apply w_ld; rfl; rfl; ((focus ((repeat (first | exact hr1 _ | exact hr2 _ | exact hr3 _ | apply Rd.there)); done)))) | (apply w_la0; rfl; rfl; ((focus ((repeat (first | exact hra _ | exact hrb _ | apply RdAll.there)); done))); rfl) | (apply w_la; rfl; rfl; ((focus ((repeat (first | exact hra _ | exact hrb _ | apply RdAll.there)); done))); rfl) | (apply w_st; rfl; rfl; rfl; ((focus ((repeat (first | exact hs1 _ | exact hs2 _ | exact hs3 _ | apply St.there)); done))); ((exact kmf))) | (apply w_cp; rfl; rfl; exact hL) | (apply w_minL; rfl; rfl; rfl; omega) | (apply w_minG; rfl; rfl; rfl; omega) | (apply w_min; rfl; rfl; rfl) | (apply w_mfR; rfl; rfl) | (apply w_cvp; rfl; rfl; exact inferInstance; rfl; rfl; assumption) | (apply w_eqS2T; rfl; rfl; rfl; omega) | (apply w_eqS2F; rfl; rfl; rfl; omega) | (apply w_neS2T; rfl; rfl; rfl; omega) | (apply w_neS2F; rfl; rfl; rfl; omega) | (apply w_eqS3T; rfl; rfl; rfl; omega) | (apply w_eqS3F; rfl; rfl; rfl; omega) | (apply w_neS3T; rfl; rfl; rfl; omega) | (apply w_neS3F; rfl; rfl; rfl; omega) | (apply w_eqS3; rfl; rfl; rfl) | (apply w_neS3; rfl; rfl; rfl) | (apply w_eqS2; rfl; rfl; rfl) | (apply w_neS2; rfl; rfl; rfl) | (apply w_maxL; rfl; rfl; rfl; omega) | (apply w_maxG; rfl; rfl; rfl; omega) | (apply w_max; rfl; rfl; rfl) | (apply w_neB; rfl; rfl; rfl; rfl) | (apply w_eqB; rfl; rfl; rfl; rfl) | refine spl ?_ ?_ | intro hc)
      ((apply w_apM (l2 := [(((xi : Int), (f : Int), (t2 : Int)) : Mv)]); rfl; rfl; rfl; (focus ((repeat (first | exact Del.here | apply Del.there)); done)); ((exact srf)); (intro; rfl); (first | (simp only [List.length_cons, List.length_nil]; omega) | (simp; omega)); (first | (simp only [List.length_cons, List.length_nil]; omega) | (simp; omega))); intro v' hv'; refine ⟨by (exact kmf), ?_⟩)
      (repeat' first | refine stp ?_ | intro v' hv' | intro (b : Nat) | (apply w_convU; rfl; rfl; omega; omega) | (apply w_convI; rfl; rfl; omega; omega) | (apply w_quoU; rfl; rfl; rfl; omega; omega; omega) | (apply w_remU; rfl; rfl; rfl; omega; omega) | (apply w_ld0; rfl; rfl; ((focus ((repeat (first | exact hr1 _ | exact hr2 _ | exact hr3 _ | apply Rd.there)); done)))) | (apply w_ld; rfl; rfl; ((focus ((repeat (first | exact hr1 _ | exact hr2 _ | exact hr3 _ | apply Rd.there)); done)))) | (apply w_la0; rfl; rfl; ((focus ((repeat (first | exact hra _ | exact hrb _ | apply RdAll.there)); done))); rfl) | (apply w_la; rfl; rfl; ((focus ((repeat (first | exact hra _ | exact hrb _ | apply RdAll.there)); done))); rfl) | (apply w_st; rfl; rfl; rfl; ((focus ((repeat (first | exact hs1 _ | exact hs2 _ | exact hs3 _ | apply St.there)); done))); ((exact kmf))) | (apply w_cp; rfl; rfl; exact hL) | (apply w_minL; rfl; rfl; rfl; omega) | (apply w_minG; rfl; rfl; rfl; omega) | (apply w_min; rfl; rfl; rfl) | (apply w_mfR; rfl; rfl) | (apply w_cvp; rfl; rfl; exact inferInstance; rfl; rfl; assumption) | (apply w_eqS2T; rfl; rfl; rfl; omega) | (apply w_eqS2F; rfl; rfl; rfl; omega) | (apply w_neS2T; rfl; rfl; rfl; omega) | (apply w_neS2F; rfl; rfl; rfl; omega) | (apply w_eqS3T; rfl; rfl; rfl; omega) | (apply w_eqS3F; rfl; rfl; rfl; omega) | (apply w_neS3T; rfl; rfl; rfl; omega) | (apply w_neS3F; rfl; rfl; rfl; omega) | (apply w_eqS3; rfl; rfl; rfl) | (apply w_neS3; rfl; rfl; rfl) | (apply w_eqS2; rfl; rfl; rfl) | (apply w_neS2; rfl; rfl; rfl) | (apply w_maxL; rfl; rfl; rfl; omega) | (apply w_maxG; rfl; rfl; rfl; omega) | (apply w_max; rfl; rfl; rfl) | (apply w_neB; rfl; rfl; rfl; rfl) | (apply w_eqB; rfl; rfl; rfl; rfl) | refine spl ?_ ?_ | intro hc)
      refine At_againK (1, v') ⟨Nat.le_refl _, by rw [hse]; exact hv', fun _ h => by rw [hss] at h; cases h⟩ (by omega) (by (exact sbf)) (by (exact sbf)) (fun w hs => ?_)
      rw [hse, hstl]
      exact Sel.sat (by (focus ((repeat (first | exact Sel.refl | (apply Sel.cons; (focus ((repeat (first | exact Del.here | apply Del.there)); done))) | refine Sel.drop ?_)); done))) hs
    · rcases last_full (k := x) hfull with ⟨hn, -⟩ | ⟨t2, ht2, htl, htr, hkt, hgt⟩
      · rw [hlt] at hn; omega
      rw [hlt] at ht2
      obtain rfl : t2 = t := by omega
      have hId := hId (-1) (.inr ⟨rfl, idle_none hwk hRk hfull⟩)
      obtain ⟨t3, ht3, htr3, hlr, hgt3⟩ := last_rel hwk hRk (fun e => by rw [e] at hfull; simp at hfull; omega)
      obtain rfl := greatest hwk ht ht3 htr htr3 hgt hgt3
      rw [hlr] at hLa
      have htm : (wkA Mk t2).k ∈ rk Mk := rk_mem.2 ⟨t2, ht, htr, rfl⟩
      have htid := id_nat hwk (List.mem_append_left _ htm)
      have hts := hRk.run t2 ht htr
      have hne : (wkA Mk t2).k.id ≠ x.id := id_ne_app hwk.nodup htm hxq
      have hL := Less_ok x (wkA Mk t2).k
      rw [hkt] at hL
      rw [htr, if_pos rfl] at hstl
      clear hle hlr hhd hkt hgt hgt3 htm hfull hq hxq htr3
      generalize (wkA Mk t2).k = g at *
      obtain ⟨xa, xi⟩ := x
      obtain ⟨ga, gi⟩ := g
      dsimp only at *
      obtain ⟨xi, rfl⟩ : ∃ n : Nat, xi = (n : Int) := ⟨xi.toNat, hxid.1.symm⟩
      obtain ⟨gi, rfl⟩ : ∃ n : Nat, gi = (n : Int) := ⟨gi.toNat, htid.1.symm⟩
      rw [Int.toNat_natCast] at hxid htid hxs hts
      rw [Int.toNat_natCast, Int.toNat_natCast] at hstl
      have hlx : xi < Lk.length := by omega
      have hlg : gi < Lk.length := by omega
      have hra : ∀ R, RdAll (pt bx 57 (rcells Mk.length Lk) :: R) bx (0 + 1 + xi * 5 + 1) [int xa, int (xi : Int)] := fun R => by have := RdAll.svk (b := bx) (N := Mk.length) (R := R) hlx; rw [hxs] at this; exact this
      have hrb : ∀ R, RdAll (pt bx 57 (rcells Mk.length Lk) :: R) bx (0 + 1 + gi * 5 + 1) [int ga, int (gi : Int)] := fun R => by have := RdAll.svk (b := bx) (N := Mk.length) (R := R) hlg; rw [hts] at this; exact this
      have hr1 : ∀ R, Rd (pt bx 57 (rcells Mk.length Lk) :: R) ⟨bx, 0 + 1 + gi * 5 + 3, none⟩ (int (t2 : Int)) := fun R => by have := Rd.sv (b := bx) (N := Mk.length) (R := R) (f := 3) (u := int (t2 : Int)) hlg (by rw [hts]; rfl); exact this
      have hs1 : ∀ R, St (pt bx 57 (rcells Mk.length Lk) :: R) ⟨bx, 0 + 1 + gi * 5 + 4, none⟩ (.bool false) (pt bx 57 (rcells Mk.length (Lk.set gi ⟨true, ⟨ga, (gi : Int)⟩, (t2 : Int), false⟩)) :: R) := fun R => St.sv hlg (by decide) (by rw [hts]; rfl)
      have hx1 : svA (Lk.set gi ⟨true, ⟨ga, (gi : Int)⟩, (t2 : Int), false⟩) xi = ⟨true, ⟨xa, (xi : Int)⟩, f, false⟩ := by rw [svA_set hlg, if_neg (by omega)]; exact hxs
      have hlx1 : xi < (Lk.set gi ⟨true, ⟨ga, (gi : Int)⟩, (t2 : Int), false⟩).length := by rw [List.length_set]; exact hlx
      generalize Lk.set gi ⟨true, ⟨ga, (gi : Int)⟩, (t2 : Int), false⟩ = L1 at *
      have hr2 : ∀ R, Rd (pt bx 57 (rcells Mk.length L1) :: R) ⟨bx, 0 + 1 + xi * 5 + 3, none⟩ (int (f : Int)) := fun R => by have := Rd.sv (b := bx) (N := Mk.length) (R := R) (f := 3) (u := int (f : Int)) hlx1 (by rw [hx1]; rfl); exact this
      have hs2 : ∀ R, St (pt bx 57 (rcells Mk.length L1) :: R) ⟨bx, 0 + 1 + xi * 5 + 3, none⟩ (int (t2 : Int)) (pt bx 57 (rcells Mk.length (L1.set xi ⟨true, ⟨xa, (xi : Int)⟩, (t2 : Int), false⟩)) :: R) := fun R => St.sv hlx1 (by decide) (by rw [hx1]; rfl)
      have hs3 : ∀ R, St (pt bx 57 (rcells Mk.length (L1.set xi ⟨true, ⟨xa, (xi : Int)⟩, (t2 : Int), false⟩)) :: R) ⟨bx, 0 + 1 + xi * 5 + 4, none⟩ (.bool true) (pt bx 57 (rcells Mk.length (L1.set xi ⟨true, ⟨xa, (xi : Int)⟩, (t2 : Int), true⟩)) :: R) := fun R => by
        have := St.sv (b := bx) (N := Mk.length) (R := R) (es := L1.set xi ⟨true, ⟨xa, (xi : Int)⟩, (t2 : Int), false⟩) (i := xi) (f := 4) (u := .bool true) (e' := ⟨true, ⟨xa, (xi : Int)⟩, (t2 : Int), true⟩) (by rw [List.length_set]; exact hlx1) (by decide) (by rw [svA_set hlx1, if_pos rfl]; rfl)
        rwa [List.set_set] at this
      unfold rsb at *
      (repeat' first | refine stp ?_ | intro v' hv' | intro (b : Nat) | (apply w_convU; rfl; rfl; omega; omega) | (apply w_convI; rfl; rfl; omega; omega) | (apply w_quoU; rfl; rfl; rfl; omega; omega; omega) | (apply w_remU; rfl; rfl; rfl; omega; omega) | (apply w_ld0; rfl; rfl; ((focus ((repeat (first | exact hr1 _ | exact hr2 _ | exact hr3 _ | apply Rd.there)); done)))) | (apply w_ld; rfl; rfl; ((focus ((repeat (first | exact hr1 _ | exact hr2 _ | exact hr3 _ | apply Rd.there)); done)))) | (apply w_la0; rfl; rfl; ((focus ((repeat (first | exact hra _ | exact hrb _ | apply RdAll.there)); done))); rfl) | (apply w_la; rfl; rfl; ((focus ((repeat (first | exact hra _ | exact hrb _ | apply RdAll.there)); done))); rfl) | (apply w_st; rfl; rfl; rfl; ((focus ((repeat (first | exact hs1 _ | exact hs2 _ | exact hs3 _ | apply St.there)); done))); ((exact kmf))) | (apply w_cp; rfl; rfl; exact hL) | (apply w_minL; rfl; rfl; rfl; omega) | (apply w_minG; rfl; rfl; rfl; omega) | (apply w_min; rfl; rfl; rfl) | (apply w_mfR; rfl; rfl) | (apply w_cvp; rfl; rfl; exact inferInstance; rfl; rfl; assumption) | (apply w_eqS2T; rfl; rfl; rfl; omega) | (apply w_eqS2F; rfl; rfl; rfl; omega) | (apply w_neS2T; rfl; rfl; rfl; omega) | (apply w_neS2F; rfl; rfl; rfl; omega) | (apply w_eqS3T; rfl; rfl; rfl; omega) | (apply w_eqS3F; rfl; rfl; rfl; omega) | (apply w_neS3T; rfl; rfl; rfl; omega) | (apply w_neS3F; rfl; rfl; rfl; omega) | (apply w_eqS3; rfl; rfl; rfl) | (apply w_neS3; rfl; rfl; rfl) | (apply w_eqS2; rfl; rfl; rfl) | (apply w_neS2; rfl; rfl; rfl) | (apply w_maxL; rfl; rfl; rfl; omega) | (apply w_maxG; rfl; rfl; rfl; omega) | (apply w_max; rfl; rfl; rfl) | (apply w_neB; rfl; rfl; rfl; rfl) | (apply w_eqB; rfl; rfl; rfl; rfl) | refine spl ?_ ?_ | intro hc)
      ((apply w_apM (l2 := [(((xi : Int), (f : Int), (t2 : Int)) : Mv)]); rfl; rfl; rfl; (focus ((repeat (first | exact Del.here | apply Del.there)); done)); ((exact srf)); (intro; rfl); (first | (simp only [List.length_cons, List.length_nil]; omega) | (simp; omega)); (first | (simp only [List.length_cons, List.length_nil]; omega) | (simp; omega))); intro v' hv'; refine ⟨by (exact kmf), ?_⟩)
      (repeat' first | refine stp ?_ | intro v' hv' | intro (b : Nat) | (apply w_convU; rfl; rfl; omega; omega) | (apply w_convI; rfl; rfl; omega; omega) | (apply w_quoU; rfl; rfl; rfl; omega; omega; omega) | (apply w_remU; rfl; rfl; rfl; omega; omega) | (apply w_ld0; rfl; rfl; ((focus ((repeat (first | exact hr1 _ | exact hr2 _ | exact hr3 _ | apply Rd.there)); done)))) | (apply w_ld; rfl; rfl; ((focus ((repeat (first | exact hr1 _ | exact hr2 _ | exact hr3 _ | apply Rd.there)); done)))) | (apply w_la0; rfl; rfl; ((focus ((repeat (first | exact hra _ | exact hrb _ | apply RdAll.there)); done))); rfl) | (apply w_la; rfl; rfl; ((focus ((repeat (first | exact hra _ | exact hrb _ | apply RdAll.there)); done))); rfl) | (apply w_st; rfl; rfl; rfl; ((focus ((repeat (first | exact hs1 _ | exact hs2 _ | exact hs3 _ | apply St.there)); done))); ((exact kmf))) | (apply w_cp; rfl; rfl; exact hL) | (apply w_minL; rfl; rfl; rfl; omega) | (apply w_minG; rfl; rfl; rfl; omega) | (apply w_min; rfl; rfl; rfl) | (apply w_mfR; rfl; rfl) | (apply w_cvp; rfl; rfl; exact inferInstance; rfl; rfl; assumption) | (apply w_eqS2T; rfl; rfl; rfl; omega) | (apply w_eqS2F; rfl; rfl; rfl; omega) | (apply w_neS2T; rfl; rfl; rfl; omega) | (apply w_neS2F; rfl; rfl; rfl; omega) | (apply w_eqS3T; rfl; rfl; rfl; omega) | (apply w_eqS3F; rfl; rfl; rfl; omega) | (apply w_neS3T; rfl; rfl; rfl; omega) | (apply w_neS3F; rfl; rfl; rfl; omega) | (apply w_eqS3; rfl; rfl; rfl) | (apply w_neS3; rfl; rfl; rfl) | (apply w_eqS2; rfl; rfl; rfl) | (apply w_neS2; rfl; rfl; rfl) | (apply w_maxL; rfl; rfl; rfl; omega) | (apply w_maxG; rfl; rfl; rfl; omega) | (apply w_max; rfl; rfl; rfl) | (apply w_neB; rfl; rfl; rfl; rfl) | (apply w_eqB; rfl; rfl; rfl; rfl) | refine spl ?_ ?_ | intro hc)
      refine At_againK (1, v') ⟨Nat.le_refl _, by rw [hse]; exact hv', fun _ h => by rw [hss] at h; cases h⟩ (by omega) (by (exact sbf)) (by (exact sbf)) (fun w hs => ?_)
      rw [hse, hstl]
      exact Sel.sat (by (focus ((repeat (first | exact Sel.refl | (apply Sel.cons; (focus ((repeat (first | exact Del.here | apply Del.there)); done))) | refine Sel.drop ?_)); done))) hs
end Go.Proofs.Ytoddjdghjpdomaa
