/- spread: Put, Drop, Rekey, the laws' calls. Conditions: none. -/
import Derived.Test.YtoddjdghjpdomaaSpG
set_option linter.all false
set_option linter.deprecated false
namespace Go.Proofs.Ytoddjdghjpdomaa
open Go.Sep
variable [B0 : Base]
theorem W_msb {P : Program} {ro : Option Nat} {ops : Array Oper} {Q : Exit → Act → World → Prop} {n : Nat} {F : Fr} {ds : List Deferred} {R : List HP} {cd : List Oper} {b : Nat} {M : List Wk}
    (h : ∀ lv ls, MsOk M lv ls → W P ro none ops Q n cd F ds (pt b 67 [lv] :: sl 73 4 lv (ls.map wkE) :: qsH ls :: R)) : W P ro none ops Q n cd F ds (msb b M :: R) := by
  unfold msb
  refine W_ex fun x => ?_
  refine W_know (p := MsOk M x.1 x.2) (fun w h => (Sat.fact_iff.1 (Sat.all_iff.1 h)).1) fun ho => ?_
  exact W_sat (fun w hs => (Sat.fact_iff.1 (Sat.all_iff.1 hs)).2) (h x.1 x.2 ho)
def ansH (mvs : List Mv) (e : Int) (H : HP) (R : List HP) : Value → List HP → Prop := fun u X => ∃ v, u = .tuple #[v, int e] ∧ IsSl v mvs.length ∧ X = sl 38 3 v (mvs.map mvE) :: H :: R
set_option maxHeartbeats 8000000 in
theorem Put_ok (tb : Nat) (M : List Wk) (k : Ky) (home : Int) (hI : InvS M) (R : List HP) :
    Called Try.prog 15 [ptr tb, kyV k, int home] (msb tb M :: R) (ansH (putM M k home).1.1 (putM M k home).1.2 (msb tb (putM M k home).2) R) := by
  have hMa := may_ok k
  obtain ⟨-, -, hput⟩ := put_inv hI k home
  obtain ⟨ka, ki⟩ := k
  unfold kyV kyE at hMa ⊢
  unfold ansH
  dsimp only at hMa ⊢
  refine Fn3 Try.func15 rfl Try.ntmps15 rfl ?_
  refine C_msb fun lv ls hok => ?_
  have hl := hok.lisl
  have hlen := hok.len
  have hfew := hok.few
  have hF0 := fun L h => find_ok tb lv ls M ki hok L h
  have herr : ∀ w, Sat w (pt tb 67 [lv] :: sl 73 4 lv (ls.map wkE) :: qsH ls :: R) → Sat w (sl 38 3 (.slice none 0 0) (([] : List Mv).map mvE) :: msb tb M :: R) := fun w hs => Sat.sl_nil (E := 38) (n := 3) (msb_fold hok hs)
  unfold findV at hF0
  unfold putM at *
  dsimp only at *
  by_cases h1 : mayK ⟨ka, ki⟩ = false ∨ home < 0 ∨ (M.length : Int) ≤ home
  · rw [if_pos h1]
    by_cases hm : mayK ⟨ka, ki⟩ = false
    · rw [hm] at hMa
      (repeat' first | refine stp ?_ | intro v' hv' | intro (b : Nat) | (apply w_convU; rfl; rfl; omega; omega) | (apply w_convI; rfl; rfl; omega; omega) | (apply w_quoU; rfl; rfl; rfl; omega; omega; omega) | (apply w_remU; rfl; rfl; rfl; omega; omega) | (apply w_minL; rfl; rfl; rfl; omega) | (apply w_minG; rfl; rfl; rfl; omega) | (apply w_min; rfl; rfl; rfl) | (apply w_mfR; rfl; rfl) | (apply w_cvp; rfl; rfl; exact inferInstance; rfl; rfl; assumption) | (apply w_eqS2T; rfl; rfl; rfl; omega) | (apply w_eqS2F; rfl; rfl; rfl; omega) | (apply w_neS2T; rfl; rfl; rfl; omega) | (apply w_neS2F; rfl; rfl; rfl; omega) | (apply w_eqS3T; rfl; rfl; rfl; omega) | (apply w_eqS3F; rfl; rfl; rfl; omega) | (apply w_neS3T; rfl; rfl; rfl; omega) | (apply w_neS3F; rfl; rfl; rfl; omega) | (apply w_eqS3; rfl; rfl; rfl) | (apply w_neS3; rfl; rfl; rfl) | (apply w_eqS2; rfl; rfl; rfl) | (apply w_neS2; rfl; rfl; rfl) | (apply w_maxL; rfl; rfl; rfl; omega) | (apply w_maxG; rfl; rfl; rfl; omega) | (apply w_max; rfl; rfl; rfl) | (apply w_neB; rfl; rfl; rfl; rfl) | (apply w_eqB; rfl; rfl; rfl; rfl) | (apply w_st; rfl; rfl; rfl; ((focus ((repeat (first | exact hs1 _ | apply St.there)); done))); ((exact kmf))) | (apply w_sa; rfl; rfl; rfl; rfl; (focus ((repeat (first | exact hSa _ | apply StAll.there)); done)); ((exact kmf))) | (apply w_ld0; rfl; rfl; ((focus ((repeat (first | assumption | exact hr1 _ | exact hr2 _ | exact .pt rfl | apply Rd.there)); done)))) | (apply w_ld; rfl; rfl; ((focus ((repeat (first | assumption | exact hr1 _ | exact hr2 _ | exact .pt rfl | apply Rd.there)); done)))) | (apply w_cp; rfl; rfl; exact hMa) | (apply w_cq; rfl; rfl; exact hF _ (by (focus ((repeat (first | assumption | exact SpR.here | apply SpR.there)); done)))) | refine spl ?_ ?_ | intro hc)
      refine At_ret2 (by (first | exact .inl rfl | exact .inr rfl)) Try.results15 rfl rfl ⟨.slice none 0 0, rfl, IsSl.nil, rfl⟩ (fun w hs => ?_)
      exact herr w (Sel.sat (by (focus ((repeat (first | exact Sel.refl | (apply Sel.cons; (focus ((repeat (first | exact Del.here | apply Del.there)); done))) | refine Sel.drop ?_)); done))) hs)
    · have hm : mayK ⟨ka, ki⟩ = true := by simpa using hm
      rw [hm] at hMa
      have h2 : home < 0 ∨ (ls.length : Int) ≤ home := by
        rcases h1 with h | h | h
        · rw [hm] at h; cases h
        · exact .inl h
        · exact .inr (by omega)
      rcases h2 with h2 | h2
      · (repeat' first | refine stp ?_ | intro v' hv' | intro (b : Nat) | (apply w_convU; rfl; rfl; omega; omega) | (apply w_convI; rfl; rfl; omega; omega) | (apply w_quoU; rfl; rfl; rfl; omega; omega; omega) | (apply w_remU; rfl; rfl; rfl; omega; omega) | (apply w_minL; rfl; rfl; rfl; omega) | (apply w_minG; rfl; rfl; rfl; omega) | (apply w_min; rfl; rfl; rfl) | (apply w_mfR; rfl; rfl) | (apply w_cvp; rfl; rfl; exact inferInstance; rfl; rfl; assumption) | (apply w_eqS2T; rfl; rfl; rfl; omega) | (apply w_eqS2F; rfl; rfl; rfl; omega) | (apply w_neS2T; rfl; rfl; rfl; omega) | (apply w_neS2F; rfl; rfl; rfl; omega) | (apply w_eqS3T; rfl; rfl; rfl; omega) | (apply w_eqS3F; rfl; rfl; rfl; omega) | (apply w_neS3T; rfl; rfl; rfl; omega) | (apply w_neS3F; rfl; rfl; rfl; omega) | (apply w_eqS3; rfl; rfl; rfl) | (apply w_neS3; rfl; rfl; rfl) | (apply w_eqS2; rfl; rfl; rfl) | (apply w_neS2; rfl; rfl; rfl) | (apply w_maxL; rfl; rfl; rfl; omega) | (apply w_maxG; rfl; rfl; rfl; omega) | (apply w_max; rfl; rfl; rfl) | (apply w_neB; rfl; rfl; rfl; rfl) | (apply w_eqB; rfl; rfl; rfl; rfl) | (apply w_st; rfl; rfl; rfl; ((focus ((repeat (first | exact hs1 _ | apply St.there)); done))); ((exact kmf))) | (apply w_sa; rfl; rfl; rfl; rfl; (focus ((repeat (first | exact hSa _ | apply StAll.there)); done)); ((exact kmf))) | (apply w_ld0; rfl; rfl; ((focus ((repeat (first | assumption | exact hr1 _ | exact hr2 _ | exact .pt rfl | apply Rd.there)); done)))) | (apply w_ld; rfl; rfl; ((focus ((repeat (first | assumption | exact hr1 _ | exact hr2 _ | exact .pt rfl | apply Rd.there)); done)))) | (apply w_cp; rfl; rfl; exact hMa) | (apply w_cq; rfl; rfl; exact hF _ (by (focus ((repeat (first | assumption | exact SpR.here | apply SpR.there)); done)))) | refine spl ?_ ?_ | intro hc)
        all_goals
          refine At_ret2 (by (first | exact .inl rfl | exact .inr rfl)) Try.results15 rfl rfl ⟨.slice none 0 0, rfl, IsSl.nil, rfl⟩ (fun w hs => ?_)
          exact herr w (Sel.sat (by (focus ((repeat (first | exact Sel.refl | (apply Sel.cons; (focus ((repeat (first | exact Del.here | apply Del.there)); done))) | refine Sel.drop ?_)); done))) hs)
      · have h3 : ¬ home < 0 := by omega
        (repeat' first | refine stp ?_ | intro v' hv' | intro (b : Nat) | (apply w_convU; rfl; rfl; omega; omega) | (apply w_convI; rfl; rfl; omega; omega) | (apply w_quoU; rfl; rfl; rfl; omega; omega; omega) | (apply w_remU; rfl; rfl; rfl; omega; omega) | (apply w_minL; rfl; rfl; rfl; omega) | (apply w_minG; rfl; rfl; rfl; omega) | (apply w_min; rfl; rfl; rfl) | (apply w_mfR; rfl; rfl) | (apply w_cvp; rfl; rfl; exact inferInstance; rfl; rfl; assumption) | (apply w_eqS2T; rfl; rfl; rfl; omega) | (apply w_eqS2F; rfl; rfl; rfl; omega) | (apply w_neS2T; rfl; rfl; rfl; omega) | (apply w_neS2F; rfl; rfl; rfl; omega) | (apply w_eqS3T; rfl; rfl; rfl; omega) | (apply w_eqS3F; rfl; rfl; rfl; omega) | (apply w_neS3T; rfl; rfl; rfl; omega) | (apply w_neS3F; rfl; rfl; rfl; omega) | (apply w_eqS3; rfl; rfl; rfl) | (apply w_neS3; rfl; rfl; rfl) | (apply w_eqS2; rfl; rfl; rfl) | (apply w_neS2; rfl; rfl; rfl) | (apply w_maxL; rfl; rfl; rfl; omega) | (apply w_maxG; rfl; rfl; rfl; omega) | (apply w_max; rfl; rfl; rfl) | (apply w_neB; rfl; rfl; rfl; rfl) | (apply w_eqB; rfl; rfl; rfl; rfl) | (apply w_st; rfl; rfl; rfl; ((focus ((repeat (first | exact hs1 _ | apply St.there)); done))); ((exact kmf))) | (apply w_sa; rfl; rfl; rfl; rfl; (focus ((repeat (first | exact hSa _ | apply StAll.there)); done)); ((exact kmf))) | (apply w_ld0; rfl; rfl; ((focus ((repeat (first | assumption | exact hr1 _ | exact hr2 _ | exact .pt rfl | apply Rd.there)); done)))) | (apply w_ld; rfl; rfl; ((focus ((repeat (first | assumption | exact hr1 _ | exact hr2 _ | exact .pt rfl | apply Rd.there)); done)))) | (apply w_cp; rfl; rfl; exact hMa) | (apply w_cq; rfl; rfl; exact hF _ (by (focus ((repeat (first | assumption | exact SpR.here | apply SpR.there)); done)))) | refine spl ?_ ?_ | intro hc)
        all_goals
          refine At_ret2 (by (first | exact .inl rfl | exact .inr rfl)) Try.results15 rfl rfl ⟨.slice none 0 0, rfl, IsSl.nil, rfl⟩ (fun w hs => ?_)
          exact herr w (Sel.sat (by (focus ((repeat (first | exact Sel.refl | (apply Sel.cons; (focus ((repeat (first | exact Del.here | apply Del.there)); done))) | refine Sel.drop ?_)); done))) hs)
  rw [if_neg h1] at hput ⊢
  have hm : mayK ⟨ka, ki⟩ = true := by cases hm : mayK ⟨ka, ki⟩ with | true => rfl | false => exact absurd (.inl hm) h1
  rw [hm] at hMa
  have hh0 : 0 ≤ home := Int.not_lt.1 fun h => h1 (.inr (.inl h))
  have hh1 : home < M.length := Int.not_le.1 fun h => h1 (.inr (.inr h))
  clear h1
  obtain ⟨hm', rfl⟩ := Int.eq_ofNat_of_zero_le hh0
  have hhn : hm' < M.length := by omega
  have hhl : hm' < ls.length := by omega
  cases hf : findM M ki with
  | some p =>
    obtain ⟨w0, i0⟩ := p
    rw [hf] at hF0
    have hF := hF0
    clear hF0
    dsimp only at hF
    rw [if_pos (show (some (w0, i0)).isSome = true from rfl)]
    (repeat' first | refine stp ?_ | intro v' hv' | intro (b : Nat) | (apply w_convU; rfl; rfl; omega; omega) | (apply w_convI; rfl; rfl; omega; omega) | (apply w_quoU; rfl; rfl; rfl; omega; omega; omega) | (apply w_remU; rfl; rfl; rfl; omega; omega) | (apply w_minL; rfl; rfl; rfl; omega) | (apply w_minG; rfl; rfl; rfl; omega) | (apply w_min; rfl; rfl; rfl) | (apply w_mfR; rfl; rfl) | (apply w_cvp; rfl; rfl; exact inferInstance; rfl; rfl; assumption) | (apply w_eqS2T; rfl; rfl; rfl; omega) | (apply w_eqS2F; rfl; rfl; rfl; omega) | (apply w_neS2T; rfl; rfl; rfl; omega) | (apply w_neS2F; rfl; rfl; rfl; omega) | (apply w_eqS3T; rfl; rfl; rfl; omega) | (apply w_eqS3F; rfl; rfl; rfl; omega) | (apply w_neS3T; rfl; rfl; rfl; omega) | (apply w_neS3F; rfl; rfl; rfl; omega) | (apply w_eqS3; rfl; rfl; rfl) | (apply w_neS3; rfl; rfl; rfl) | (apply w_eqS2; rfl; rfl; rfl) | (apply w_neS2; rfl; rfl; rfl) | (apply w_maxL; rfl; rfl; rfl; omega) | (apply w_maxG; rfl; rfl; rfl; omega) | (apply w_max; rfl; rfl; rfl) | (apply w_neB; rfl; rfl; rfl; rfl) | (apply w_eqB; rfl; rfl; rfl; rfl) | (apply w_st; rfl; rfl; rfl; ((focus ((repeat (first | exact hs1 _ | apply St.there)); done))); ((exact kmf))) | (apply w_sa; rfl; rfl; rfl; rfl; (focus ((repeat (first | exact hSa _ | apply StAll.there)); done)); ((exact kmf))) | (apply w_ld0; rfl; rfl; ((focus ((repeat (first | assumption | exact hr1 _ | exact hr2 _ | exact .pt rfl | apply Rd.there)); done)))) | (apply w_ld; rfl; rfl; ((focus ((repeat (first | assumption | exact hr1 _ | exact hr2 _ | exact .pt rfl | apply Rd.there)); done)))) | (apply w_cp; rfl; rfl; exact hMa) | (apply w_cq; rfl; rfl; exact hF _ (by (focus ((repeat (first | assumption | exact SpR.here | apply SpR.there)); done)))) | refine spl ?_ ?_ | intro hc)
    refine At_ret2 (by (first | exact .inl rfl | exact .inr rfl)) Try.results15 rfl rfl ⟨.slice none 0 0, rfl, IsSl.nil, rfl⟩ (fun w hs => ?_)
    exact herr w (Sel.sat (by (focus ((repeat (first | exact Sel.refl | (apply Sel.cons; (focus ((repeat (first | exact Del.here | apply Del.there)); done))) | refine Sel.drop ?_)); done))) hs)
  | none =>
    rw [hf] at hF0 hput
    have hF := hF0
    clear hF0
    dsimp only at hF
    rw [if_neg (by simp)] at hput ⊢
    obtain ⟨-, -, -, hnn, hS, -, -⟩ := hput rfl
    rw [Int.toNat_natCast] at hS ⊢
    have hwf2 := hI.wf.add (w := hm') hhn hm hnn
    obtain ⟨vw, hp, hvw, hp64⟩ := hok.at hhn
    have hSo := settle_ok tb (addW M hm' ⟨ka, ki⟩) hwf2 hS.twice
    have hadd : addW M hm' ⟨ka, ki⟩ = M.set hm' ⟨(wkA M hm').runs, (wkA M hm').k, insK (wkA M hm').q ⟨ka, ki⟩⟩ := rfl
    rw [hadd] at hwf2
    generalize wkA M hm' = W0 at *
    obtain ⟨r0, k0, q0⟩ := W0
    dsimp only at *
    have hml : ((settleM (addW M hm' ⟨ka, ki⟩)).1.map mvE).length ≤ 9223372036854775807 := by
      have : (settleM (addW M hm' ⟨ka, ki⟩)).1.length ≤ 1 := by unfold settleM; split <;> simp
      rw [List.length_map]; omega
    (repeat' first | refine stp ?_ | intro v' hv' | intro (b : Nat) | (apply w_convU; rfl; rfl; omega; omega) | (apply w_convI; rfl; rfl; omega; omega) | (apply w_quoU; rfl; rfl; rfl; omega; omega; omega) | (apply w_remU; rfl; rfl; rfl; omega; omega) | (apply w_minL; rfl; rfl; rfl; omega) | (apply w_minG; rfl; rfl; rfl; omega) | (apply w_min; rfl; rfl; rfl) | (apply w_mfR; rfl; rfl) | (apply w_cvp; rfl; rfl; exact inferInstance; rfl; rfl; assumption) | (apply w_eqS2T; rfl; rfl; rfl; omega) | (apply w_eqS2F; rfl; rfl; rfl; omega) | (apply w_neS2T; rfl; rfl; rfl; omega) | (apply w_neS2F; rfl; rfl; rfl; omega) | (apply w_eqS3T; rfl; rfl; rfl; omega) | (apply w_eqS3F; rfl; rfl; rfl; omega) | (apply w_neS3T; rfl; rfl; rfl; omega) | (apply w_neS3F; rfl; rfl; rfl; omega) | (apply w_eqS3; rfl; rfl; rfl) | (apply w_neS3; rfl; rfl; rfl) | (apply w_eqS2; rfl; rfl; rfl) | (apply w_neS2; rfl; rfl; rfl) | (apply w_maxL; rfl; rfl; rfl; omega) | (apply w_maxG; rfl; rfl; rfl; omega) | (apply w_max; rfl; rfl; rfl) | (apply w_neB; rfl; rfl; rfl; rfl) | (apply w_eqB; rfl; rfl; rfl; rfl) | (apply w_st; rfl; rfl; rfl; ((focus ((repeat (first | exact hs1 _ | apply St.there)); done))); ((exact kmf))) | (apply w_sa; rfl; rfl; rfl; rfl; (focus ((repeat (first | exact hSa _ | apply StAll.there)); done)); ((exact kmf))) | (apply w_ld0; rfl; rfl; ((focus ((repeat (first | assumption | exact hr1 _ | exact hr2 _ | exact .pt rfl | apply Rd.there)); done)))) | (apply w_ld; rfl; rfl; ((focus ((repeat (first | assumption | exact hr1 _ | exact hr2 _ | exact .pt rfl | apply Rd.there)); done)))) | (apply w_cp; rfl; rfl; exact hMa) | (apply w_cq; rfl; rfl; exact hF _ (by (focus ((repeat (first | assumption | exact SpR.here | apply SpR.there)); done)))) | refine spl ?_ ?_ | intro hc)
    obtain ⟨b4, hb4⟩ : ∃ r, r = b := ⟨_, rfl⟩
    subst hb4
    apply w_cl
    rfl; rfl
    exact (put_ok (vb lv) (vo lv + hm' * 4 + 3) vw q0 ⟨ka, ki⟩ (by omega) (sl 73 4 lv (ls.map wkE) :: pt b4 36 [int ka, int ki] :: pt tb 67 [lv] :: qsH (ls.eraseIdx hm') :: R) (fun v' => sl 73 4 lv ((ls.set hm' (v', ⟨r0, k0, insK q0 ⟨ka, ki⟩⟩)).map wkE) :: pt b4 36 [int ka, int ki] :: pt tb 67 [lv] :: qsH (ls.eraseIdx hm') :: R) hvw (Rd.wk hp rfl) (fun v' => St.wk hp (by decide) rfl)).pre (fun w hs => by
      have h2 : Sat w (qsH ls :: sl 73 4 lv (ls.map wkE) :: pt b4 36 [int ka, int ki] :: pt tb 67 [lv] :: R) := Sel.sat (by (focus ((repeat (first | exact Sel.refl | (apply Sel.cons; (focus ((repeat (first | exact Del.here | apply Del.there)); done))) | refine Sel.drop ?_)); done))) hs
      exact Sel.sat (by (focus ((repeat (first | exact Sel.refl | (apply Sel.cons; (focus ((repeat (first | exact Del.here | apply Del.there)); done))) | refine Sel.drop ?_)); done))) (qs_open hp h2))
    obtain ⟨v0, hv0⟩ := IsSl.any (N := (insK q0 ⟨ka, ki⟩).length) (by rw [insK_len]; omega)
    exact ⟨_, _, rfl, v0, hv0, rfl⟩
    rintro _ _ ⟨rfl, v2, hv2, rfl⟩
    refine ⟨by (exact kmf), ?_⟩
    have hok2 : MsOk (addW M hm' ⟨ka, ki⟩) lv (ls.set hm' (v2, ⟨r0, k0, insK q0 ⟨ka, ki⟩⟩)) := by
      rw [hadd]; exact hok.set hv2 hwf2
    (repeat' first | refine stp ?_ | intro v' hv' | intro (b : Nat) | (apply w_convU; rfl; rfl; omega; omega) | (apply w_convI; rfl; rfl; omega; omega) | (apply w_quoU; rfl; rfl; rfl; omega; omega; omega) | (apply w_remU; rfl; rfl; rfl; omega; omega) | (apply w_minL; rfl; rfl; rfl; omega) | (apply w_minG; rfl; rfl; rfl; omega) | (apply w_min; rfl; rfl; rfl) | (apply w_mfR; rfl; rfl) | (apply w_cvp; rfl; rfl; exact inferInstance; rfl; rfl; assumption) | (apply w_eqS2T; rfl; rfl; rfl; omega) | (apply w_eqS2F; rfl; rfl; rfl; omega) | (apply w_neS2T; rfl; rfl; rfl; omega) | (apply w_neS2F; rfl; rfl; rfl; omega) | (apply w_eqS3T; rfl; rfl; rfl; omega) | (apply w_eqS3F; rfl; rfl; rfl; omega) | (apply w_neS3T; rfl; rfl; rfl; omega) | (apply w_neS3F; rfl; rfl; rfl; omega) | (apply w_eqS3; rfl; rfl; rfl) | (apply w_neS3; rfl; rfl; rfl) | (apply w_eqS2; rfl; rfl; rfl) | (apply w_neS2; rfl; rfl; rfl) | (apply w_maxL; rfl; rfl; rfl; omega) | (apply w_maxG; rfl; rfl; rfl; omega) | (apply w_max; rfl; rfl; rfl) | (apply w_neB; rfl; rfl; rfl; rfl) | (apply w_eqB; rfl; rfl; rfl; rfl) | (apply w_st; rfl; rfl; rfl; ((focus ((repeat (first | exact hs1 _ | apply St.there)); done))); ((exact kmf))) | (apply w_sa; rfl; rfl; rfl; rfl; (focus ((repeat (first | exact hSa _ | apply StAll.there)); done)); ((exact kmf))) | (apply w_ld0; rfl; rfl; ((focus ((repeat (first | assumption | exact hr1 _ | exact hr2 _ | exact .pt rfl | apply Rd.there)); done)))) | (apply w_ld; rfl; rfl; ((focus ((repeat (first | assumption | exact hr1 _ | exact hr2 _ | exact .pt rfl | apply Rd.there)); done)))) | (apply w_cp; rfl; rfl; exact hMa) | (apply w_cq; rfl; rfl; exact hF _ (by (focus ((repeat (first | assumption | exact SpR.here | apply SpR.there)); done)))) | refine spl ?_ ?_ | intro hc)
    refine W_sat (L' := msb tb (addW M hm' ⟨ka, ki⟩) :: R) (fun w hs => ?_) ?_
    · refine msb_fold hok2 ?_
      have h2 : Sat w (sl 36 2 v2 ((insK q0 ⟨ka, ki⟩).map kyE) :: qsH (ls.eraseIdx hm') :: pt tb 67 [lv] :: sl 73 4 lv ((ls.set hm' (v2, ⟨r0, k0, insK q0 ⟨ka, ki⟩⟩)).map wkE) :: R) := Sel.sat (by (focus ((repeat (first | exact Sel.refl | (apply Sel.cons; (focus ((repeat (first | exact Del.here | apply Del.there)); done))) | refine Sel.drop ?_)); done))) hs
      have h3 := qs_close hhl (v := v2) (k := ⟨r0, k0, insK q0 ⟨ka, ki⟩⟩) h2
      exact Sel.sat (by (focus ((repeat (first | exact Sel.refl | (apply Sel.cons; (focus ((repeat (first | exact Del.here | apply Del.there)); done))) | refine Sel.drop ?_)); done))) h3
    apply w_clS
    rfl; rfl; exact hSo R
    exact hml
    intro v3 hv3
    rw [List.length_map] at hv3
    refine ⟨by (exact kmf), ?_⟩
    (repeat' first | refine stp ?_ | intro v' hv' | intro (b : Nat) | (apply w_convU; rfl; rfl; omega; omega) | (apply w_convI; rfl; rfl; omega; omega) | (apply w_quoU; rfl; rfl; rfl; omega; omega; omega) | (apply w_remU; rfl; rfl; rfl; omega; omega) | (apply w_minL; rfl; rfl; rfl; omega) | (apply w_minG; rfl; rfl; rfl; omega) | (apply w_min; rfl; rfl; rfl) | (apply w_mfR; rfl; rfl) | (apply w_cvp; rfl; rfl; exact inferInstance; rfl; rfl; assumption) | (apply w_eqS2T; rfl; rfl; rfl; omega) | (apply w_eqS2F; rfl; rfl; rfl; omega) | (apply w_neS2T; rfl; rfl; rfl; omega) | (apply w_neS2F; rfl; rfl; rfl; omega) | (apply w_eqS3T; rfl; rfl; rfl; omega) | (apply w_eqS3F; rfl; rfl; rfl; omega) | (apply w_neS3T; rfl; rfl; rfl; omega) | (apply w_neS3F; rfl; rfl; rfl; omega) | (apply w_eqS3; rfl; rfl; rfl) | (apply w_neS3; rfl; rfl; rfl) | (apply w_eqS2; rfl; rfl; rfl) | (apply w_neS2; rfl; rfl; rfl) | (apply w_maxL; rfl; rfl; rfl; omega) | (apply w_maxG; rfl; rfl; rfl; omega) | (apply w_max; rfl; rfl; rfl) | (apply w_neB; rfl; rfl; rfl; rfl) | (apply w_eqB; rfl; rfl; rfl; rfl) | (apply w_st; rfl; rfl; rfl; ((focus ((repeat (first | exact hs1 _ | apply St.there)); done))); ((exact kmf))) | (apply w_sa; rfl; rfl; rfl; rfl; (focus ((repeat (first | exact hSa _ | apply StAll.there)); done)); ((exact kmf))) | (apply w_ld0; rfl; rfl; ((focus ((repeat (first | assumption | exact hr1 _ | exact hr2 _ | exact .pt rfl | apply Rd.there)); done)))) | (apply w_ld; rfl; rfl; ((focus ((repeat (first | assumption | exact hr1 _ | exact hr2 _ | exact .pt rfl | apply Rd.there)); done)))) | (apply w_cp; rfl; rfl; exact hMa) | (apply w_cq; rfl; rfl; exact hF _ (by (focus ((repeat (first | assumption | exact SpR.here | apply SpR.there)); done)))) | refine spl ?_ ?_ | intro hc)
    refine At_ret2 (by (first | exact .inl rfl | exact .inr rfl)) Try.results15 rfl rfl ⟨v3, rfl, hv3, rfl⟩ (by (exact frm))
set_option maxHeartbeats 8000000 in
theorem Drop_ok (tb : Nat) (M : List Wk) (n : Int) (hI : InvS M) (R : List HP) :
    Called Try.prog 22 [ptr tb, int n] (msb tb M :: R) (ansH (dropM M n).1.1 (dropM M n).1.2 (msb tb (dropM M n).2) R) := by
  have hT := take_ok tb M n 0 hI.wf
  obtain ⟨hk1, hk2⟩ := take_k hI.wf n 0
  unfold ansH dropM
  by_cases he : (takeM M n 0).1.2 = 0
  · rw [if_neg (by simpa using he)]
    obtain ⟨-, w0, ran, y, -, -, hTk⟩ := hk2 he
    have hS := take_settle hI hTk
    have hSo := settle_ok tb (takeM M n 0).2 hTk.wf hS.twice
    rw [he] at hT
    have hml : ((settleM (takeM M n 0).2).1.map mvE).length ≤ 9223372036854775807 := by
      have : (settleM (takeM M n 0).2).1.length ≤ 1 := by unfold settleM; split <;> simp
      rw [List.length_map]; omega
    clear hk1 hk2 hTk hS
    generalize takeM M n 0 = T at *
    obtain ⟨⟨⟨t1, t2⟩, t3⟩, M'⟩ := T
    dsimp only at *
    refine Fn2 Try.func22 rfl Try.ntmps22 rfl ?_
    (repeat' first | refine stp ?_ | intro v' hv' | intro (b : Nat) | (apply w_convU; rfl; rfl; omega; omega) | (apply w_convI; rfl; rfl; omega; omega) | (apply w_quoU; rfl; rfl; rfl; omega; omega; omega) | (apply w_remU; rfl; rfl; rfl; omega; omega) | (apply w_minL; rfl; rfl; rfl; omega) | (apply w_minG; rfl; rfl; rfl; omega) | (apply w_min; rfl; rfl; rfl) | (apply w_mfR; rfl; rfl) | (apply w_cvp; rfl; rfl; exact inferInstance; rfl; rfl; assumption) | (apply w_eqS2T; rfl; rfl; rfl; omega) | (apply w_eqS2F; rfl; rfl; rfl; omega) | (apply w_neS2T; rfl; rfl; rfl; omega) | (apply w_neS2F; rfl; rfl; rfl; omega) | (apply w_eqS3T; rfl; rfl; rfl; omega) | (apply w_eqS3F; rfl; rfl; rfl; omega) | (apply w_neS3T; rfl; rfl; rfl; omega) | (apply w_neS3F; rfl; rfl; rfl; omega) | (apply w_eqS3; rfl; rfl; rfl) | (apply w_neS3; rfl; rfl; rfl) | (apply w_eqS2; rfl; rfl; rfl) | (apply w_neS2; rfl; rfl; rfl) | (apply w_maxL; rfl; rfl; rfl; omega) | (apply w_maxG; rfl; rfl; rfl; omega) | (apply w_max; rfl; rfl; rfl) | (apply w_neB; rfl; rfl; rfl; rfl) | (apply w_eqB; rfl; rfl; rfl; rfl) | refine spl ?_ ?_ | intro hc)
    apply w_clS
    rfl; rfl; exact hSo R
    exact hml
    intro v3 hv3
    rw [List.length_map] at hv3
    refine ⟨by (exact kmf), ?_⟩
    (repeat' first | refine stp ?_ | intro v' hv' | intro (b : Nat) | (apply w_convU; rfl; rfl; omega; omega) | (apply w_convI; rfl; rfl; omega; omega) | (apply w_quoU; rfl; rfl; rfl; omega; omega; omega) | (apply w_remU; rfl; rfl; rfl; omega; omega) | (apply w_minL; rfl; rfl; rfl; omega) | (apply w_minG; rfl; rfl; rfl; omega) | (apply w_min; rfl; rfl; rfl) | (apply w_mfR; rfl; rfl) | (apply w_cvp; rfl; rfl; exact inferInstance; rfl; rfl; assumption) | (apply w_eqS2T; rfl; rfl; rfl; omega) | (apply w_eqS2F; rfl; rfl; rfl; omega) | (apply w_neS2T; rfl; rfl; rfl; omega) | (apply w_neS2F; rfl; rfl; rfl; omega) | (apply w_eqS3T; rfl; rfl; rfl; omega) | (apply w_eqS3F; rfl; rfl; rfl; omega) | (apply w_neS3T; rfl; rfl; rfl; omega) | (apply w_neS3F; rfl; rfl; rfl; omega) | (apply w_eqS3; rfl; rfl; rfl) | (apply w_neS3; rfl; rfl; rfl) | (apply w_eqS2; rfl; rfl; rfl) | (apply w_neS2; rfl; rfl; rfl) | (apply w_maxL; rfl; rfl; rfl; omega) | (apply w_maxG; rfl; rfl; rfl; omega) | (apply w_max; rfl; rfl; rfl) | (apply w_neB; rfl; rfl; rfl; rfl) | (apply w_eqB; rfl; rfl; rfl; rfl) | refine spl ?_ ?_ | intro hc)
    refine At_ret2 (by (first | exact .inl rfl | exact .inr rfl)) Try.results22 rfl rfl ⟨v3, rfl, hv3, rfl⟩ (by (exact frm))
  · rw [if_pos he]
    obtain ⟨h1, h2⟩ := hk1 he
    rw [h1] at hT
    clear hk1 hk2 h1 h2
    generalize takeM M n 0 = T at *
    obtain ⟨⟨⟨t1, t2⟩, t3⟩, M'⟩ := T
    dsimp only at *
    refine Fn2 Try.func22 rfl Try.ntmps22 rfl ?_
    (repeat' first | refine stp ?_ | intro v' hv' | intro (b : Nat) | (apply w_convU; rfl; rfl; omega; omega) | (apply w_convI; rfl; rfl; omega; omega) | (apply w_quoU; rfl; rfl; rfl; omega; omega; omega) | (apply w_remU; rfl; rfl; rfl; omega; omega) | (apply w_minL; rfl; rfl; rfl; omega) | (apply w_minG; rfl; rfl; rfl; omega) | (apply w_min; rfl; rfl; rfl) | (apply w_mfR; rfl; rfl) | (apply w_cvp; rfl; rfl; exact inferInstance; rfl; rfl; assumption) | (apply w_eqS2T; rfl; rfl; rfl; omega) | (apply w_eqS2F; rfl; rfl; rfl; omega) | (apply w_neS2T; rfl; rfl; rfl; omega) | (apply w_neS2F; rfl; rfl; rfl; omega) | (apply w_eqS3T; rfl; rfl; rfl; omega) | (apply w_eqS3F; rfl; rfl; rfl; omega) | (apply w_neS3T; rfl; rfl; rfl; omega) | (apply w_neS3F; rfl; rfl; rfl; omega) | (apply w_eqS3; rfl; rfl; rfl) | (apply w_neS3; rfl; rfl; rfl) | (apply w_eqS2; rfl; rfl; rfl) | (apply w_neS2; rfl; rfl; rfl) | (apply w_maxL; rfl; rfl; rfl; omega) | (apply w_maxG; rfl; rfl; rfl; omega) | (apply w_max; rfl; rfl; rfl) | (apply w_neB; rfl; rfl; rfl; rfl) | (apply w_eqB; rfl; rfl; rfl; rfl) | refine spl ?_ ?_ | intro hc)
    refine At_ret2 (by (first | exact .inl rfl | exact .inr rfl)) Try.results22 rfl rfl ⟨.slice none 0 0, rfl, IsSl.nil, rfl⟩ (fun w hs => ?_)
    exact Sat.sl_nil (E := 38) (n := 3) (Sel.sat (by (focus ((repeat (first | exact Sel.refl | (apply Sel.cons; (focus ((repeat (first | exact Del.here | apply Del.there)); done))) | refine Sel.drop ?_)); done))) hs)
set_option maxHeartbeats 8000000 in
theorem Rekey_ok (tb : Nat) (M : List Wk) (n t : Int) (hI : InvS M) (R : List HP) :
    Called Try.prog 24 [ptr tb, int n, int t] (msb tb M :: R) (ansH (rekeyM M n t).1.1 (rekeyM M n t).1.2 (msb tb (rekeyM M n t).2) R) := by
  have hT := take_ok tb M n t hI.wf
  obtain ⟨hk1, hk2⟩ := take_k hI.wf n t
  unfold ansH rekeyM
  by_cases he : (takeM M n t).1.2 = 0
  · rw [if_neg (by simpa using he)]
    obtain ⟨hmk, w0, ran, y, e1, -, hTk⟩ := hk2 he
    obtain ⟨hS, -, hwf2, hlen2⟩ := back_settle hI hTk hmk rfl
    have hSo := settle_ok tb (backW (takeM M n t).2 w0 ran ⟨t, n⟩) hwf2 hS.twice
    have hlt := hTk.lt
    have hlen1 := hTk.len
    rw [he, e1] at hT
    rw [e1]
    have hml : ((settleM (backW (takeM M n t).2 w0 ran ⟨t, n⟩)).1.map mvE).length ≤ 9223372036854775807 := by
      have : (settleM (backW (takeM M n t).2 w0 ran ⟨t, n⟩)).1.length ≤ 1 := by unfold settleM; split <;> simp
      rw [List.length_map]; omega
    clear hk1 hk2 hTk hS e1 he
    generalize (takeM M n t).2 = M' at *
    dsimp only at *
    rw [Int.toNat_natCast]
    have hw : w0 < M'.length := by omega
    refine Fn3 Try.func24 rfl Try.ntmps24 rfl ?_
    have hTT := And.intro hT trivial
    clear hT
    repeat' first | refine stp ?_
    apply w_cd; rfl; rfl; apply Called.at (h := hTT.1); ((focus ((repeat (first | exact Rep.here | apply Rep.there)); done))); ((exact kmf))
    refine W_msb fun lv ls hok => ?_
    have hl := hok.lisl
    have hlen := hok.len
    have hfew := hok.few
    obtain ⟨vw, hp, hvw, hp64⟩ := hok.at hw
    have hwl : w0 < ls.length := by omega
    cases ran with
    | true =>
      have hb : backW M' w0 true ⟨t, n⟩ = M'.set w0 ⟨true, ⟨t, n⟩, (wkA M' w0).q⟩ := rfl
      rw [hb] at hwf2
      generalize wkA M' w0 = W0 at *
      obtain ⟨r0, k0, q0⟩ := W0
      dsimp only at *
      have hs1 : ∀ L, St (sl 73 4 lv (ls.map wkE) :: L) ⟨vb lv, vo lv + w0 * 4 + 0, none⟩ (.bool true) (sl 73 4 lv ((ls.set w0 (vw, ⟨true, k0, q0⟩)).map wkE) :: L) := fun L => St.wk hp (by decide) rfl
      have hSa : ∀ L, StAll (sl 73 4 lv ((ls.set w0 (vw, ⟨true, k0, q0⟩)).map wkE) :: L) (vb lv) (vo lv + w0 * 4 + 1) [int t, int n] (sl 73 4 lv ((ls.set w0 (vw, ⟨true, ⟨t, n⟩, q0⟩)).map wkE) :: L) := fun L => by
        have := StAll.wk (lv := lv) (L := L) (k := ⟨t, n⟩) (ls := ls.set w0 (vw, ⟨true, k0, q0⟩)) (i := w0) (v := vw) (x := ⟨true, k0, q0⟩) (List.getElem?_set_self hwl)
        rwa [List.set_set] at this
      have hok2 : MsOk (backW M' w0 true ⟨t, n⟩) lv (ls.set w0 (vw, ⟨true, ⟨t, n⟩, q0⟩)) := by rw [hb]; exact hok.set hvw hwf2
      (repeat' first | refine stp ?_ | intro v' hv' | intro (b : Nat) | (apply w_convU; rfl; rfl; omega; omega) | (apply w_convI; rfl; rfl; omega; omega) | (apply w_quoU; rfl; rfl; rfl; omega; omega; omega) | (apply w_remU; rfl; rfl; rfl; omega; omega) | (apply w_minL; rfl; rfl; rfl; omega) | (apply w_minG; rfl; rfl; rfl; omega) | (apply w_min; rfl; rfl; rfl) | (apply w_mfR; rfl; rfl) | (apply w_cvp; rfl; rfl; exact inferInstance; rfl; rfl; assumption) | (apply w_eqS2T; rfl; rfl; rfl; omega) | (apply w_eqS2F; rfl; rfl; rfl; omega) | (apply w_neS2T; rfl; rfl; rfl; omega) | (apply w_neS2F; rfl; rfl; rfl; omega) | (apply w_eqS3T; rfl; rfl; rfl; omega) | (apply w_eqS3F; rfl; rfl; rfl; omega) | (apply w_neS3T; rfl; rfl; rfl; omega) | (apply w_neS3F; rfl; rfl; rfl; omega) | (apply w_eqS3; rfl; rfl; rfl) | (apply w_neS3; rfl; rfl; rfl) | (apply w_eqS2; rfl; rfl; rfl) | (apply w_neS2; rfl; rfl; rfl) | (apply w_maxL; rfl; rfl; rfl; omega) | (apply w_maxG; rfl; rfl; rfl; omega) | (apply w_max; rfl; rfl; rfl) | (apply w_neB; rfl; rfl; rfl; rfl) | (apply w_eqB; rfl; rfl; rfl; rfl) | (apply w_st; rfl; rfl; rfl; ((focus ((repeat (first | exact hs1 _ | apply St.there)); done))); ((exact kmf))) | (apply w_sa; rfl; rfl; rfl; rfl; (focus ((repeat (first | exact hSa _ | apply StAll.there)); done)); ((exact kmf))) | (apply w_ld0; rfl; rfl; ((focus ((repeat (first | assumption | exact hr1 _ | exact hr2 _ | exact .pt rfl | apply Rd.there)); done)))) | (apply w_ld; rfl; rfl; ((focus ((repeat (first | assumption | exact hr1 _ | exact hr2 _ | exact .pt rfl | apply Rd.there)); done)))) | refine spl ?_ ?_ | intro hc)
      refine W_sat (L' := msb tb (backW M' w0 true ⟨t, n⟩) :: R) (fun w hs => ?_) ?_
      · refine msb_fold hok2 ?_
        have h2 : Sat w (qsH ls :: pt tb 67 [lv] :: sl 73 4 lv ((ls.set w0 (vw, ⟨true, ⟨t, n⟩, q0⟩)).map wkE) :: R) := Sel.sat (by (focus ((repeat (first | exact Sel.refl | (apply Sel.cons; (focus ((repeat (first | exact Del.here | apply Del.there)); done))) | refine Sel.drop ?_)); done))) hs
        have h3 := qs_close hwl (v := vw) (k := ⟨true, ⟨t, n⟩, q0⟩) (qs_open hp h2)
        exact Sel.sat (by (focus ((repeat (first | exact Sel.refl | (apply Sel.cons; (focus ((repeat (first | exact Del.here | apply Del.there)); done))) | refine Sel.drop ?_)); done))) h3
      apply w_clS
      rfl; rfl; exact hSo R
      exact hml
      intro v3 hv3
      rw [List.length_map] at hv3
      refine ⟨by (exact kmf), ?_⟩
      (repeat' first | refine stp ?_ | intro v' hv' | intro (b : Nat) | (apply w_convU; rfl; rfl; omega; omega) | (apply w_convI; rfl; rfl; omega; omega) | (apply w_quoU; rfl; rfl; rfl; omega; omega; omega) | (apply w_remU; rfl; rfl; rfl; omega; omega) | (apply w_minL; rfl; rfl; rfl; omega) | (apply w_minG; rfl; rfl; rfl; omega) | (apply w_min; rfl; rfl; rfl) | (apply w_mfR; rfl; rfl) | (apply w_cvp; rfl; rfl; exact inferInstance; rfl; rfl; assumption) | (apply w_eqS2T; rfl; rfl; rfl; omega) | (apply w_eqS2F; rfl; rfl; rfl; omega) | (apply w_neS2T; rfl; rfl; rfl; omega) | (apply w_neS2F; rfl; rfl; rfl; omega) | (apply w_eqS3T; rfl; rfl; rfl; omega) | (apply w_eqS3F; rfl; rfl; rfl; omega) | (apply w_neS3T; rfl; rfl; rfl; omega) | (apply w_neS3F; rfl; rfl; rfl; omega) | (apply w_eqS3; rfl; rfl; rfl) | (apply w_neS3; rfl; rfl; rfl) | (apply w_eqS2; rfl; rfl; rfl) | (apply w_neS2; rfl; rfl; rfl) | (apply w_maxL; rfl; rfl; rfl; omega) | (apply w_maxG; rfl; rfl; rfl; omega) | (apply w_max; rfl; rfl; rfl) | (apply w_neB; rfl; rfl; rfl; rfl) | (apply w_eqB; rfl; rfl; rfl; rfl) | (apply w_st; rfl; rfl; rfl; ((focus ((repeat (first | exact hs1 _ | apply St.there)); done))); ((exact kmf))) | (apply w_sa; rfl; rfl; rfl; rfl; (focus ((repeat (first | exact hSa _ | apply StAll.there)); done)); ((exact kmf))) | (apply w_ld0; rfl; rfl; ((focus ((repeat (first | assumption | exact hr1 _ | exact hr2 _ | exact .pt rfl | apply Rd.there)); done)))) | (apply w_ld; rfl; rfl; ((focus ((repeat (first | assumption | exact hr1 _ | exact hr2 _ | exact .pt rfl | apply Rd.there)); done)))) | refine spl ?_ ?_ | intro hc)
      refine At_ret2 (by (first | exact .inl rfl | exact .inr rfl)) Try.results24 rfl rfl ⟨v3, rfl, hv3, rfl⟩ (by (exact frm))
    | false =>
      have hadd : backW M' w0 false ⟨t, n⟩ = M'.set w0 ⟨(wkA M' w0).runs, (wkA M' w0).k, insK (wkA M' w0).q ⟨t, n⟩⟩ := rfl
      rw [hadd] at hwf2
      generalize wkA M' w0 = W0 at *
      obtain ⟨r0, k0, q0⟩ := W0
      dsimp only at *
      (repeat' first | refine stp ?_ | intro v' hv' | intro (b : Nat) | (apply w_convU; rfl; rfl; omega; omega) | (apply w_convI; rfl; rfl; omega; omega) | (apply w_quoU; rfl; rfl; rfl; omega; omega; omega) | (apply w_remU; rfl; rfl; rfl; omega; omega) | (apply w_minL; rfl; rfl; rfl; omega) | (apply w_minG; rfl; rfl; rfl; omega) | (apply w_min; rfl; rfl; rfl) | (apply w_mfR; rfl; rfl) | (apply w_cvp; rfl; rfl; exact inferInstance; rfl; rfl; assumption) | (apply w_eqS2T; rfl; rfl; rfl; omega) | (apply w_eqS2F; rfl; rfl; rfl; omega) | (apply w_neS2T; rfl; rfl; rfl; omega) | (apply w_neS2F; rfl; rfl; rfl; omega) | (apply w_eqS3T; rfl; rfl; rfl; omega) | (apply w_eqS3F; rfl; rfl; rfl; omega) | (apply w_neS3T; rfl; rfl; rfl; omega) | (apply w_neS3F; rfl; rfl; rfl; omega) | (apply w_eqS3; rfl; rfl; rfl) | (apply w_neS3; rfl; rfl; rfl) | (apply w_eqS2; rfl; rfl; rfl) | (apply w_neS2; rfl; rfl; rfl) | (apply w_maxL; rfl; rfl; rfl; omega) | (apply w_maxG; rfl; rfl; rfl; omega) | (apply w_max; rfl; rfl; rfl) | (apply w_neB; rfl; rfl; rfl; rfl) | (apply w_eqB; rfl; rfl; rfl; rfl) | (apply w_st; rfl; rfl; rfl; ((focus ((repeat (first | exact hs1 _ | apply St.there)); done))); ((exact kmf))) | (apply w_sa; rfl; rfl; rfl; rfl; (focus ((repeat (first | exact hSa _ | apply StAll.there)); done)); ((exact kmf))) | (apply w_ld0; rfl; rfl; ((focus ((repeat (first | assumption | exact hr1 _ | exact hr2 _ | exact .pt rfl | apply Rd.there)); done)))) | (apply w_ld; rfl; rfl; ((focus ((repeat (first | assumption | exact hr1 _ | exact hr2 _ | exact .pt rfl | apply Rd.there)); done)))) | refine spl ?_ ?_ | intro hc)
      obtain ⟨b4, hb4⟩ : ∃ r, r = b := ⟨_, rfl⟩
      subst hb4
      apply w_cl
      rfl; rfl
      exact (put_ok (vb lv) (vo lv + w0 * 4 + 3) vw q0 ⟨t, n⟩ (by omega) (sl 73 4 lv (ls.map wkE) :: pt b4 36 [int t, int n] :: pt tb 67 [lv] :: qsH (ls.eraseIdx w0) :: R) (fun v' => sl 73 4 lv ((ls.set w0 (v', ⟨r0, k0, insK q0 ⟨t, n⟩⟩)).map wkE) :: pt b4 36 [int t, int n] :: pt tb 67 [lv] :: qsH (ls.eraseIdx w0) :: R) hvw (Rd.wk hp rfl) (fun v' => St.wk hp (by decide) rfl)).pre (fun w hs => by
        have h2 : Sat w (qsH ls :: sl 73 4 lv (ls.map wkE) :: pt b4 36 [int t, int n] :: pt tb 67 [lv] :: R) := Sel.sat (by (focus ((repeat (first | exact Sel.refl | (apply Sel.cons; (focus ((repeat (first | exact Del.here | apply Del.there)); done))) | refine Sel.drop ?_)); done))) hs
        exact Sel.sat (by (focus ((repeat (first | exact Sel.refl | (apply Sel.cons; (focus ((repeat (first | exact Del.here | apply Del.there)); done))) | refine Sel.drop ?_)); done))) (qs_open hp h2))
      obtain ⟨v0, hv0⟩ := IsSl.any (N := (insK q0 ⟨t, n⟩).length) (by rw [insK_len]; omega)
      exact ⟨_, _, rfl, v0, hv0, rfl⟩
      rintro _ _ ⟨rfl, v2, hv2, rfl⟩
      refine ⟨by (exact kmf), ?_⟩
      have hok2 : MsOk (backW M' w0 false ⟨t, n⟩) lv (ls.set w0 (v2, ⟨r0, k0, insK q0 ⟨t, n⟩⟩)) := by
        rw [hadd]; exact hok.set hv2 hwf2
      (repeat' first | refine stp ?_ | intro v' hv' | intro (b : Nat) | (apply w_convU; rfl; rfl; omega; omega) | (apply w_convI; rfl; rfl; omega; omega) | (apply w_quoU; rfl; rfl; rfl; omega; omega; omega) | (apply w_remU; rfl; rfl; rfl; omega; omega) | (apply w_minL; rfl; rfl; rfl; omega) | (apply w_minG; rfl; rfl; rfl; omega) | (apply w_min; rfl; rfl; rfl) | (apply w_mfR; rfl; rfl) | (apply w_cvp; rfl; rfl; exact inferInstance; rfl; rfl; assumption) | (apply w_eqS2T; rfl; rfl; rfl; omega) | (apply w_eqS2F; rfl; rfl; rfl; omega) | (apply w_neS2T; rfl; rfl; rfl; omega) | (apply w_neS2F; rfl; rfl; rfl; omega) | (apply w_eqS3T; rfl; rfl; rfl; omega) | (apply w_eqS3F; rfl; rfl; rfl; omega) | (apply w_neS3T; rfl; rfl; rfl; omega) | (apply w_neS3F; rfl; rfl; rfl; omega) | (apply w_eqS3; rfl; rfl; rfl) | (apply w_neS3; rfl; rfl; rfl) | (apply w_eqS2; rfl; rfl; rfl) | (apply w_neS2; rfl; rfl; rfl) | (apply w_maxL; rfl; rfl; rfl; omega) | (apply w_maxG; rfl; rfl; rfl; omega) | (apply w_max; rfl; rfl; rfl) | (apply w_neB; rfl; rfl; rfl; rfl) | (apply w_eqB; rfl; rfl; rfl; rfl) | (apply w_st; rfl; rfl; rfl; ((focus ((repeat (first | exact hs1 _ | apply St.there)); done))); ((exact kmf))) | (apply w_sa; rfl; rfl; rfl; rfl; (focus ((repeat (first | exact hSa _ | apply StAll.there)); done)); ((exact kmf))) | (apply w_ld0; rfl; rfl; ((focus ((repeat (first | assumption | exact hr1 _ | exact hr2 _ | exact .pt rfl | apply Rd.there)); done)))) | (apply w_ld; rfl; rfl; ((focus ((repeat (first | assumption | exact hr1 _ | exact hr2 _ | exact .pt rfl | apply Rd.there)); done)))) | refine spl ?_ ?_ | intro hc)
      refine W_sat (L' := msb tb (backW M' w0 false ⟨t, n⟩) :: R) (fun w hs => ?_) ?_
      · refine msb_fold hok2 ?_
        have h2 : Sat w (sl 36 2 v2 ((insK q0 ⟨t, n⟩).map kyE) :: qsH (ls.eraseIdx w0) :: pt tb 67 [lv] :: sl 73 4 lv ((ls.set w0 (v2, ⟨r0, k0, insK q0 ⟨t, n⟩⟩)).map wkE) :: R) := Sel.sat (by (focus ((repeat (first | exact Sel.refl | (apply Sel.cons; (focus ((repeat (first | exact Del.here | apply Del.there)); done))) | refine Sel.drop ?_)); done))) hs
        have h3 := qs_close hwl (v := v2) (k := ⟨r0, k0, insK q0 ⟨t, n⟩⟩) h2
        exact Sel.sat (by (focus ((repeat (first | exact Sel.refl | (apply Sel.cons; (focus ((repeat (first | exact Del.here | apply Del.there)); done))) | refine Sel.drop ?_)); done))) h3
      apply w_clS
      rfl; rfl; exact hSo R
      exact hml
      intro v3 hv3
      rw [List.length_map] at hv3
      refine ⟨by (exact kmf), ?_⟩
      (repeat' first | refine stp ?_ | intro v' hv' | intro (b : Nat) | (apply w_convU; rfl; rfl; omega; omega) | (apply w_convI; rfl; rfl; omega; omega) | (apply w_quoU; rfl; rfl; rfl; omega; omega; omega) | (apply w_remU; rfl; rfl; rfl; omega; omega) | (apply w_minL; rfl; rfl; rfl; omega) | (apply w_minG; rfl; rfl; rfl; omega) | (apply w_min; rfl; rfl; rfl) | (apply w_mfR; rfl; rfl) | (apply w_cvp; rfl; rfl; exact inferInstance; rfl; rfl; assumption) | (apply w_eqS2T; rfl; rfl; rfl; omega) | (apply w_eqS2F; rfl; rfl; rfl; omega) | (apply w_neS2T; rfl; rfl; rfl; omega) | (apply w_neS2F; rfl; rfl; rfl; omega) | (apply w_eqS3T; rfl; rfl; rfl; omega) | (apply w_eqS3F; rfl; rfl; rfl; omega) | (apply w_neS3T; rfl; rfl; rfl; omega) | (apply w_neS3F; rfl; rfl; rfl; omega) | (apply w_eqS3; rfl; rfl; rfl) | (apply w_neS3; rfl; rfl; rfl) | (apply w_eqS2; rfl; rfl; rfl) | (apply w_neS2; rfl; rfl; rfl) | (apply w_maxL; rfl; rfl; rfl; omega) | (apply w_maxG; rfl; rfl; rfl; omega) | (apply w_max; rfl; rfl; rfl) | (apply w_neB; rfl; rfl; rfl; rfl) | (apply w_eqB; rfl; rfl; rfl; rfl) | (apply w_st; rfl; rfl; rfl; ((focus ((repeat (first | exact hs1 _ | apply St.there)); done))); ((exact kmf))) | (apply w_sa; rfl; rfl; rfl; rfl; (focus ((repeat (first | exact hSa _ | apply StAll.there)); done)); ((exact kmf))) | (apply w_ld0; rfl; rfl; ((focus ((repeat (first | assumption | exact hr1 _ | exact hr2 _ | exact .pt rfl | apply Rd.there)); done)))) | (apply w_ld; rfl; rfl; ((focus ((repeat (first | assumption | exact hr1 _ | exact hr2 _ | exact .pt rfl | apply Rd.there)); done)))) | refine spl ?_ ?_ | intro hc)
      refine At_ret2 (by (first | exact .inl rfl | exact .inr rfl)) Try.results24 rfl rfl ⟨v3, rfl, hv3, rfl⟩ (by (exact frm))
  · rw [if_pos he]
    obtain ⟨h1, h2⟩ := hk1 he
    rw [h1] at hT
    clear hk1 hk2 h1 h2
    generalize takeM M n t = T at *
    obtain ⟨⟨⟨t1, t2⟩, t3⟩, M'⟩ := T
    dsimp only at *
    refine Fn3 Try.func24 rfl Try.ntmps24 rfl ?_
    (repeat' first | refine stp ?_ | intro v' hv' | intro (b : Nat) | (apply w_convU; rfl; rfl; omega; omega) | (apply w_convI; rfl; rfl; omega; omega) | (apply w_quoU; rfl; rfl; rfl; omega; omega; omega) | (apply w_remU; rfl; rfl; rfl; omega; omega) | (apply w_minL; rfl; rfl; rfl; omega) | (apply w_minG; rfl; rfl; rfl; omega) | (apply w_min; rfl; rfl; rfl) | (apply w_mfR; rfl; rfl) | (apply w_cvp; rfl; rfl; exact inferInstance; rfl; rfl; assumption) | (apply w_eqS2T; rfl; rfl; rfl; omega) | (apply w_eqS2F; rfl; rfl; rfl; omega) | (apply w_neS2T; rfl; rfl; rfl; omega) | (apply w_neS2F; rfl; rfl; rfl; omega) | (apply w_eqS3T; rfl; rfl; rfl; omega) | (apply w_eqS3F; rfl; rfl; rfl; omega) | (apply w_neS3T; rfl; rfl; rfl; omega) | (apply w_neS3F; rfl; rfl; rfl; omega) | (apply w_eqS3; rfl; rfl; rfl) | (apply w_neS3; rfl; rfl; rfl) | (apply w_eqS2; rfl; rfl; rfl) | (apply w_neS2; rfl; rfl; rfl) | (apply w_maxL; rfl; rfl; rfl; omega) | (apply w_maxG; rfl; rfl; rfl; omega) | (apply w_max; rfl; rfl; rfl) | (apply w_neB; rfl; rfl; rfl; rfl) | (apply w_eqB; rfl; rfl; rfl; rfl) | (apply w_st; rfl; rfl; rfl; ((focus ((repeat (first | exact hs1 _ | apply St.there)); done))); ((exact kmf))) | (apply w_sa; rfl; rfl; rfl; rfl; (focus ((repeat (first | exact hSa _ | apply StAll.there)); done)); ((exact kmf))) | (apply w_ld0; rfl; rfl; ((focus ((repeat (first | assumption | exact hr1 _ | exact hr2 _ | exact .pt rfl | apply Rd.there)); done)))) | (apply w_ld; rfl; rfl; ((focus ((repeat (first | assumption | exact hr1 _ | exact hr2 _ | exact .pt rfl | apply Rd.there)); done)))) | refine spl ?_ ?_ | intro hc)
    refine At_ret2 (by (first | exact .inl rfl | exact .inr rfl)) Try.results24 rfl rfl ⟨.slice none 0 0, rfl, IsSl.nil, rfl⟩ (fun w hs => ?_)
    exact Sat.sl_nil (E := 38) (n := 3) (Sel.sat (by (focus ((repeat (first | exact Sel.refl | (apply Sel.cons; (focus ((repeat (first | exact Del.here | apply Del.there)); done))) | refine Sel.drop ?_)); done))) hs)
end Go.Proofs.Ytoddjdghjpdomaa
