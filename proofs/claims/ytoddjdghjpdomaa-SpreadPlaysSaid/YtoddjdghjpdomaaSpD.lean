/- spread: least, last, find. Conditions: none. -/
import Derived.Test.YtoddjdghjpdomaaSpC
set_option linter.all false
set_option linter.deprecated false
namespace Go.Proofs.Ytoddjdghjpdomaa
open Go.Sep
variable [B0 : Base]
theorem pa_at {ls : List (Value × Wk)} {M : List Wk} (h : M = ls.map (·.2)) {i : Nat} {p : Value × Wk} (hp : ls[i]? = some p) : wkA M i = p.2 := wkA_eq (by rw [h, List.getElem?_map, hp]; rfl)
theorem wk_one {p : Value × Wk} {N : Nat} (h : IsSl p.1 N) : (wkE p).all Value.oneCell' = true := by
  unfold wkE; rw [List.all_cons, List.all_cons, List.all_cons, List.all_cons, h.one]; rfl
set_option maxHeartbeats 8000000 in
theorem least_ok (tb : Nat) (lv : Value) (ls : List (Value × Wk)) (M : List Wk) (hok : MsOk M lv ls) (L : List HP) (hR : SpR L tb lv ls) :
    Called Try.prog 41 [ptr tb] L (is (int (leastM M)) L) := by
  have hl := hok.lisl
  have hlen := hok.len
  have hN := hok.few
  unfold leastM
  rw [hlen]
  refine Fn1 Try.func41 rfl Try.ntmps41 rfl ?_
  (repeat' first | refine stp ?_ | intro v' hv' | intro (b : Nat) | (apply w_convU; rfl; rfl; omega; omega) | (apply w_convI; rfl; rfl; omega; omega) | (apply w_quoU; rfl; rfl; rfl; omega; omega; omega) | (apply w_remU; rfl; rfl; rfl; omega; omega) | (apply w_minL; rfl; rfl; rfl; omega) | (apply w_minG; rfl; rfl; rfl; omega) | (apply w_min; rfl; rfl; rfl) | (apply w_mfR; rfl; rfl) | (apply w_cvp; rfl; rfl; exact inferInstance; rfl; rfl; assumption) | (apply w_eqS2T; rfl; rfl; rfl; omega) | (apply w_eqS2F; rfl; rfl; rfl; omega) | (apply w_neS2T; rfl; rfl; rfl; omega) | (apply w_neS2F; rfl; rfl; rfl; omega) | (apply w_eqS3T; rfl; rfl; rfl; omega) | (apply w_eqS3F; rfl; rfl; rfl; omega) | (apply w_neS3T; rfl; rfl; rfl; omega) | (apply w_neS3F; rfl; rfl; rfl; omega) | (apply w_eqS3; rfl; rfl; rfl) | (apply w_neS3; rfl; rfl; rfl) | (apply w_eqS2; rfl; rfl; rfl) | (apply w_neS2; rfl; rfl; rfl) | (apply w_maxL; rfl; rfl; rfl; omega) | (apply w_maxG; rfl; rfl; rfl; omega) | (apply w_max; rfl; rfl; rfl) | (apply w_neB; rfl; rfl; rfl; rfl) | (apply w_eqB; rfl; rfl; rfl; rfl) | (apply w_sa; rfl; rfl; rfl; exact hoq; ((focus ((repeat (first | exact .pt rfl | apply StAll.there)); done))); ((exact kmf))) | (apply w_ld0; rfl; rfl; ((focus ((repeat (first | assumption | exact hR.t | exact hr1 | exact hr2 | apply Rd.there)); done)))) | (apply w_ld; rfl; rfl; ((focus ((repeat (first | assumption | exact hR.t | exact hr1 | exact hr2 | apply Rd.there)); done)))) | (apply w_la0; rfl; rfl; ((focus ((repeat (first | assumption | exact hra | exact hrb | exact hrc | exact .pt | exact RdAll.mid rfl rfl | apply RdAll.there)); done))); rfl) | (apply w_la; rfl; rfl; ((focus ((repeat (first | assumption | exact hra | exact hrb | exact hrc | exact .pt | exact RdAll.mid rfl rfl | apply RdAll.there)); done))); rfl) | (apply w_cp; rfl; rfl; exact hB) | refine spl ?_ ?_ | intro hc)
  refine C_loopK [3, 4, 5, 11, 12, 13, 14, 15, 16, 17, 18, 19, 20, 21, 22, 23, 24, 25, 26, 27, 28, 29, 30, 31, 32, 33, 34, 35, 36, 37, 38, 39, 40, 41, 42, 43, 44, 45] (fun k : Nat => ls.length - k) (fun k => [(11, int k), (3, int (leastK M k))]) (fun _ => L) (fun k => k ≤ ls.length) 0 (Nat.zero_le _) (by (focus ((repeat (first | exact Keep.nil | apply Keep.drop rfl | apply Keep.keep rfl)); done))) (by (exact sbf)) (by (exact frm)) ?_
  rintro k hk
  dsimp only [List.cons_append, List.nil_append]
  by_cases hlt : k < ls.length
  · have hp : ls[k]? = some ls[k] := by simp [hlt]
    obtain ⟨-, hlk, hpi, hp64⟩ := hok.get hp
    have hsu := leastK_succ M k
    have hsp := leastK_spec M k
    unfold leastS at hsu
    rw [hlk] at hsu
    have hra := hR.w hp
    have hq := hR.q hp
    have hoq := wk_one (hok.isl _ (List.mem_of_getElem? hp))
    generalize ls[k] = p at *
    obtain ⟨v, ⟨runs, ⟨a, id⟩, q⟩⟩ := p
    dsimp only at *
    cases q with
    | nil =>
      dsimp only at hsu
      have hpi0 : IsSl v 0 := hpi
      (repeat' first | refine stp ?_ | intro v' hv' | intro (b : Nat) | (apply w_convU; rfl; rfl; omega; omega) | (apply w_convI; rfl; rfl; omega; omega) | (apply w_quoU; rfl; rfl; rfl; omega; omega; omega) | (apply w_remU; rfl; rfl; rfl; omega; omega) | (apply w_minL; rfl; rfl; rfl; omega) | (apply w_minG; rfl; rfl; rfl; omega) | (apply w_min; rfl; rfl; rfl) | (apply w_mfR; rfl; rfl) | (apply w_cvp; rfl; rfl; exact inferInstance; rfl; rfl; assumption) | (apply w_eqS2T; rfl; rfl; rfl; omega) | (apply w_eqS2F; rfl; rfl; rfl; omega) | (apply w_neS2T; rfl; rfl; rfl; omega) | (apply w_neS2F; rfl; rfl; rfl; omega) | (apply w_eqS3T; rfl; rfl; rfl; omega) | (apply w_eqS3F; rfl; rfl; rfl; omega) | (apply w_neS3T; rfl; rfl; rfl; omega) | (apply w_neS3F; rfl; rfl; rfl; omega) | (apply w_eqS3; rfl; rfl; rfl) | (apply w_neS3; rfl; rfl; rfl) | (apply w_eqS2; rfl; rfl; rfl) | (apply w_neS2; rfl; rfl; rfl) | (apply w_maxL; rfl; rfl; rfl; omega) | (apply w_maxG; rfl; rfl; rfl; omega) | (apply w_max; rfl; rfl; rfl) | (apply w_neB; rfl; rfl; rfl; rfl) | (apply w_eqB; rfl; rfl; rfl; rfl) | (apply w_sa; rfl; rfl; rfl; exact hoq; ((focus ((repeat (first | exact .pt rfl | apply StAll.there)); done))); ((exact kmf))) | (apply w_ld0; rfl; rfl; ((focus ((repeat (first | assumption | exact hR.t | exact hr1 | exact hr2 | apply Rd.there)); done)))) | (apply w_ld; rfl; rfl; ((focus ((repeat (first | assumption | exact hR.t | exact hr1 | exact hr2 | apply Rd.there)); done)))) | (apply w_la0; rfl; rfl; ((focus ((repeat (first | assumption | exact hra | exact hrb | exact hrc | exact .pt | exact RdAll.mid rfl rfl | apply RdAll.there)); done))); rfl) | (apply w_la; rfl; rfl; ((focus ((repeat (first | assumption | exact hra | exact hrb | exact hrc | exact .pt | exact RdAll.mid rfl rfl | apply RdAll.there)); done))); rfl) | (apply w_cp; rfl; rfl; exact hB) | refine spl ?_ ?_ | intro hc)
      refine At_againK (k + 1) hlt (by omega) (by rw [hsu]; (exact sbf)) (by (exact sbf)) (by (exact frm))
    | cons y s =>
      obtain ⟨ya, yi⟩ := y
      have hpi1 : IsSl v (s.length + 1) := hpi
      have hrb : RdAll L (vb v) (vo v + 0 * 2) [int ya, int yi] := RdAll.srcI hq rfl
      dsimp only at hsu
      rcases hsp with ⟨h1, -⟩ | ⟨j, z, r, hj, h1, hqj, -⟩
      · rw [h1] at hsu ⊢
        rw [if_pos (by decide)] at hsu
        (repeat' first | refine stp ?_ | intro v' hv' | intro (b : Nat) | (apply w_convU; rfl; rfl; omega; omega) | (apply w_convI; rfl; rfl; omega; omega) | (apply w_quoU; rfl; rfl; rfl; omega; omega; omega) | (apply w_remU; rfl; rfl; rfl; omega; omega) | (apply w_minL; rfl; rfl; rfl; omega) | (apply w_minG; rfl; rfl; rfl; omega) | (apply w_min; rfl; rfl; rfl) | (apply w_mfR; rfl; rfl) | (apply w_cvp; rfl; rfl; exact inferInstance; rfl; rfl; assumption) | (apply w_eqS2T; rfl; rfl; rfl; omega) | (apply w_eqS2F; rfl; rfl; rfl; omega) | (apply w_neS2T; rfl; rfl; rfl; omega) | (apply w_neS2F; rfl; rfl; rfl; omega) | (apply w_eqS3T; rfl; rfl; rfl; omega) | (apply w_eqS3F; rfl; rfl; rfl; omega) | (apply w_neS3T; rfl; rfl; rfl; omega) | (apply w_neS3F; rfl; rfl; rfl; omega) | (apply w_eqS3; rfl; rfl; rfl) | (apply w_neS3; rfl; rfl; rfl) | (apply w_eqS2; rfl; rfl; rfl) | (apply w_neS2; rfl; rfl; rfl) | (apply w_maxL; rfl; rfl; rfl; omega) | (apply w_maxG; rfl; rfl; rfl; omega) | (apply w_max; rfl; rfl; rfl) | (apply w_neB; rfl; rfl; rfl; rfl) | (apply w_eqB; rfl; rfl; rfl; rfl) | (apply w_sa; rfl; rfl; rfl; exact hoq; ((focus ((repeat (first | exact .pt rfl | apply StAll.there)); done))); ((exact kmf))) | (apply w_ld0; rfl; rfl; ((focus ((repeat (first | assumption | exact hR.t | exact hr1 | exact hr2 | apply Rd.there)); done)))) | (apply w_ld; rfl; rfl; ((focus ((repeat (first | assumption | exact hR.t | exact hr1 | exact hr2 | apply Rd.there)); done)))) | (apply w_la0; rfl; rfl; ((focus ((repeat (first | assumption | exact hra | exact hrb | exact hrc | exact .pt | exact RdAll.mid rfl rfl | apply RdAll.there)); done))); rfl) | (apply w_la; rfl; rfl; ((focus ((repeat (first | assumption | exact hra | exact hrb | exact hrc | exact .pt | exact RdAll.mid rfl rfl | apply RdAll.there)); done))); rfl) | (apply w_cp; rfl; rfl; exact hB) | refine spl ?_ ?_ | intro hc)
        refine At_againK (k + 1) hlt (by omega) (by rw [hsu]; (exact sbf)) (by (exact sbf)) (by (exact frm))
      · rw [h1] at hsu ⊢
        rw [if_neg (by omega), Int.toNat_natCast, hqj] at hsu
        dsimp only at hsu
        have hp2 : ls[j]? = some ls[j] := List.getElem?_eq_getElem (by omega)
        obtain ⟨-, hlk2, hpi2, -⟩ := hok.get hp2
        have hr1 : Rd L ⟨vb lv, vo lv + j * 4 + 3 + 0, none⟩ ls[j].1 := hR.rd (k := 3) hp2 rfl
        have hq2 := hR.q hp2
        rw [← hlk2, hqj] at hpi2 hq2
        generalize ls[j].1 = v2 at *
        have hpi3 : IsSl v2 (r.length + 1) := hpi2
        clear hpi2
        obtain ⟨za, zi⟩ := z
        have hrc : RdAll L (vb v2) (vo v2 + 0 * 2) [int za, int zi] := RdAll.srcI hq2 rfl
        have hB := Before_ok ⟨ya, yi⟩ ⟨za, zi⟩
        cases hk2 : kyB ⟨ya, yi⟩ ⟨za, zi⟩ with
        | true =>
          rw [hk2] at hB hsu
          rw [if_pos rfl] at hsu
          (repeat' first | refine stp ?_ | intro v' hv' | intro (b : Nat) | (apply w_convU; rfl; rfl; omega; omega) | (apply w_convI; rfl; rfl; omega; omega) | (apply w_quoU; rfl; rfl; rfl; omega; omega; omega) | (apply w_remU; rfl; rfl; rfl; omega; omega) | (apply w_minL; rfl; rfl; rfl; omega) | (apply w_minG; rfl; rfl; rfl; omega) | (apply w_min; rfl; rfl; rfl) | (apply w_mfR; rfl; rfl) | (apply w_cvp; rfl; rfl; exact inferInstance; rfl; rfl; assumption) | (apply w_eqS2T; rfl; rfl; rfl; omega) | (apply w_eqS2F; rfl; rfl; rfl; omega) | (apply w_neS2T; rfl; rfl; rfl; omega) | (apply w_neS2F; rfl; rfl; rfl; omega) | (apply w_eqS3T; rfl; rfl; rfl; omega) | (apply w_eqS3F; rfl; rfl; rfl; omega) | (apply w_neS3T; rfl; rfl; rfl; omega) | (apply w_neS3F; rfl; rfl; rfl; omega) | (apply w_eqS3; rfl; rfl; rfl) | (apply w_neS3; rfl; rfl; rfl) | (apply w_eqS2; rfl; rfl; rfl) | (apply w_neS2; rfl; rfl; rfl) | (apply w_maxL; rfl; rfl; rfl; omega) | (apply w_maxG; rfl; rfl; rfl; omega) | (apply w_max; rfl; rfl; rfl) | (apply w_neB; rfl; rfl; rfl; rfl) | (apply w_eqB; rfl; rfl; rfl; rfl) | (apply w_sa; rfl; rfl; rfl; exact hoq; ((focus ((repeat (first | exact .pt rfl | apply StAll.there)); done))); ((exact kmf))) | (apply w_ld0; rfl; rfl; ((focus ((repeat (first | assumption | exact hR.t | exact hr1 | exact hr2 | apply Rd.there)); done)))) | (apply w_ld; rfl; rfl; ((focus ((repeat (first | assumption | exact hR.t | exact hr1 | exact hr2 | apply Rd.there)); done)))) | (apply w_la0; rfl; rfl; ((focus ((repeat (first | assumption | exact hra | exact hrb | exact hrc | exact .pt | exact RdAll.mid rfl rfl | apply RdAll.there)); done))); rfl) | (apply w_la; rfl; rfl; ((focus ((repeat (first | assumption | exact hra | exact hrb | exact hrc | exact .pt | exact RdAll.mid rfl rfl | apply RdAll.there)); done))); rfl) | (apply w_cp; rfl; rfl; exact hB) | refine spl ?_ ?_ | intro hc)
          refine At_againK (k + 1) hlt (by omega) (by rw [hsu]; (exact sbf)) (by (exact sbf)) (by (exact frm))
        | false =>
          rw [hk2] at hB hsu
          rw [if_neg (by simp)] at hsu
          (repeat' first | refine stp ?_ | intro v' hv' | intro (b : Nat) | (apply w_convU; rfl; rfl; omega; omega) | (apply w_convI; rfl; rfl; omega; omega) | (apply w_quoU; rfl; rfl; rfl; omega; omega; omega) | (apply w_remU; rfl; rfl; rfl; omega; omega) | (apply w_minL; rfl; rfl; rfl; omega) | (apply w_minG; rfl; rfl; rfl; omega) | (apply w_min; rfl; rfl; rfl) | (apply w_mfR; rfl; rfl) | (apply w_cvp; rfl; rfl; exact inferInstance; rfl; rfl; assumption) | (apply w_eqS2T; rfl; rfl; rfl; omega) | (apply w_eqS2F; rfl; rfl; rfl; omega) | (apply w_neS2T; rfl; rfl; rfl; omega) | (apply w_neS2F; rfl; rfl; rfl; omega) | (apply w_eqS3T; rfl; rfl; rfl; omega) | (apply w_eqS3F; rfl; rfl; rfl; omega) | (apply w_neS3T; rfl; rfl; rfl; omega) | (apply w_neS3F; rfl; rfl; rfl; omega) | (apply w_eqS3; rfl; rfl; rfl) | (apply w_neS3; rfl; rfl; rfl) | (apply w_eqS2; rfl; rfl; rfl) | (apply w_neS2; rfl; rfl; rfl) | (apply w_maxL; rfl; rfl; rfl; omega) | (apply w_maxG; rfl; rfl; rfl; omega) | (apply w_max; rfl; rfl; rfl) | (apply w_neB; rfl; rfl; rfl; rfl) | (apply w_eqB; rfl; rfl; rfl; rfl) | (apply w_sa; rfl; rfl; rfl; exact hoq; ((focus ((repeat (first | exact .pt rfl | apply StAll.there)); done))); ((exact kmf))) | (apply w_ld0; rfl; rfl; ((focus ((repeat (first | assumption | exact hR.t | exact hr1 | exact hr2 | apply Rd.there)); done)))) | (apply w_ld; rfl; rfl; ((focus ((repeat (first | assumption | exact hR.t | exact hr1 | exact hr2 | apply Rd.there)); done)))) | (apply w_la0; rfl; rfl; ((focus ((repeat (first | assumption | exact hra | exact hrb | exact hrc | exact .pt | exact RdAll.mid rfl rfl | apply RdAll.there)); done))); rfl) | (apply w_la; rfl; rfl; ((focus ((repeat (first | assumption | exact hra | exact hrb | exact hrc | exact .pt | exact RdAll.mid rfl rfl | apply RdAll.there)); done))); rfl) | (apply w_cp; rfl; rfl; exact hB) | refine spl ?_ ?_ | intro hc)
          refine At_againK (k + 1) hlt (by omega) (by rw [hsu]; (exact sbf)) (by (exact sbf)) (by (exact frm))
  · obtain rfl : k = ls.length := by omega
    (repeat' first | refine stp ?_ | intro v' hv' | intro (b : Nat) | (apply w_convU; rfl; rfl; omega; omega) | (apply w_convI; rfl; rfl; omega; omega) | (apply w_quoU; rfl; rfl; rfl; omega; omega; omega) | (apply w_remU; rfl; rfl; rfl; omega; omega) | (apply w_minL; rfl; rfl; rfl; omega) | (apply w_minG; rfl; rfl; rfl; omega) | (apply w_min; rfl; rfl; rfl) | (apply w_mfR; rfl; rfl) | (apply w_cvp; rfl; rfl; exact inferInstance; rfl; rfl; assumption) | (apply w_eqS2T; rfl; rfl; rfl; omega) | (apply w_eqS2F; rfl; rfl; rfl; omega) | (apply w_neS2T; rfl; rfl; rfl; omega) | (apply w_neS2F; rfl; rfl; rfl; omega) | (apply w_eqS3T; rfl; rfl; rfl; omega) | (apply w_eqS3F; rfl; rfl; rfl; omega) | (apply w_neS3T; rfl; rfl; rfl; omega) | (apply w_neS3F; rfl; rfl; rfl; omega) | (apply w_eqS3; rfl; rfl; rfl) | (apply w_neS3; rfl; rfl; rfl) | (apply w_eqS2; rfl; rfl; rfl) | (apply w_neS2; rfl; rfl; rfl) | (apply w_maxL; rfl; rfl; rfl; omega) | (apply w_maxG; rfl; rfl; rfl; omega) | (apply w_max; rfl; rfl; rfl) | (apply w_neB; rfl; rfl; rfl; rfl) | (apply w_eqB; rfl; rfl; rfl; rfl) | (apply w_sa; rfl; rfl; rfl; exact hoq; ((focus ((repeat (first | exact .pt rfl | apply StAll.there)); done))); ((exact kmf))) | (apply w_ld0; rfl; rfl; ((focus ((repeat (first | assumption | exact hR.t | exact hr1 | exact hr2 | apply Rd.there)); done)))) | (apply w_ld; rfl; rfl; ((focus ((repeat (first | assumption | exact hR.t | exact hr1 | exact hr2 | apply Rd.there)); done)))) | (apply w_la0; rfl; rfl; ((focus ((repeat (first | assumption | exact hra | exact hrb | exact hrc | exact .pt | exact RdAll.mid rfl rfl | apply RdAll.there)); done))); rfl) | (apply w_la; rfl; rfl; ((focus ((repeat (first | assumption | exact hra | exact hrb | exact hrc | exact .pt | exact RdAll.mid rfl rfl | apply RdAll.there)); done))); rfl) | (apply w_cp; rfl; rfl; exact hB) | refine spl ?_ ?_ | intro hc)
    all_goals (refine At_ret1 (by (first | exact .inl rfl | exact .inr rfl)) Try.results41 rfl ⟨by rfl, rfl⟩ (by (exact frm)))
end Go.Proofs.Ytoddjdghjpdomaa
