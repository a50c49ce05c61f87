/- table: the iterators; Live, Many. Conditions: none. -/
import Derived.Test.YtmkbijjmipppaaaTabE
set_option linter.all false
set_option linter.deprecated false
namespace Go.Proofs.Ytmkbijjmipppaaa
open Go.Sep
variable [B0 : Base]
/-! ### Over the slots -/
def liveQ : Nat → List (Option Nat) → List (Nat × Nat)
  | _, [] => []
  | i, none :: l => liveQ (i + 1) l
  | i, some n :: l => (i, n) :: liveQ (i + 1) l
def allG (qs : List (Option Nat)) (j : Nat) : Option (List Value) := ((liveQ 0 qs)[j]?).map fun x => [int x.1, ptr x.2]
def allH (bx b : Nat) (lv : Value) (qs : List (Option Nat)) : HP := all [pt bx 94 [.pointer (some ⟨b, 1, none⟩)], pt b 69 (lv :: qs.map ptrO)]
set_option maxHeartbeats 4000000 in
theorem all1_ok (bx b : Nat) (lv : Value) (qs : List (Option Nat)) (h64 : qs.length = 64) : Iter Try.prog 54 [] [ptr bx] (allH bx b lv qs) (allG qs) := by
  intro τ B st dom yf s t R hy hgo
  obtain ⟨m, hgo⟩ := hgo.steps
  show Called Try.prog 54 [yf, ptr bx] (allH bx b lv qs :: B s :: R) (is (.tuple #[]) (allH bx b lv qs :: B t :: R))
  refine Fn2 Try.func54 rfl Try.ntmps54 rfl ?_
  refine C_sat (L' := pt bx 94 [.pointer (some ⟨b, 1, none⟩)] :: pt b 69 (lv :: qs.map ptrO) :: B s :: R) (fun w hs => Sat.all_iff.1 hs) ?_
  have hfold : ∀ s w, Sat w (pt bx 94 [.pointer (some ⟨b, 1, none⟩)] :: pt b 69 (lv :: qs.map ptrO) :: B s :: R) → Sat w (allH bx b lv qs :: B s :: R) := fun s w h => Sat.all_iff.2 h
  (repeat' first | refine stp ?_ | intro v' hv' | intro (b : Nat) | (apply w_convU; rfl; rfl; omega; omega) | (apply w_convI; rfl; rfl; omega; omega) | (apply w_quoU; rfl; rfl; rfl; omega; omega; omega) | (apply w_remU; rfl; rfl; rfl; omega; omega) | (apply w_minL; rfl; rfl; rfl; omega) | (apply w_minG; rfl; rfl; rfl; omega) | (apply w_min; rfl; rfl; rfl) | (apply w_mfR; rfl; rfl) | (apply w_cvp; rfl; rfl; exact inferInstance; rfl; rfl; assumption) | (apply w_eqS2T; rfl; rfl; rfl; omega) | (apply w_eqS2F; rfl; rfl; rfl; omega) | (apply w_neS2T; rfl; rfl; rfl; omega) | (apply w_neS2F; rfl; rfl; rfl; omega) | (apply w_eqS3T; rfl; rfl; rfl; omega) | (apply w_eqS3F; rfl; rfl; rfl; omega) | (apply w_neS3T; rfl; rfl; rfl; omega) | (apply w_neS3F; rfl; rfl; rfl; omega) | (apply w_eqS3; rfl; rfl; rfl) | (apply w_neS3; rfl; rfl; rfl) | (apply w_eqS2; rfl; rfl; rfl) | (apply w_neS2; rfl; rfl; rfl) | (apply w_maxL; rfl; rfl; rfl; omega) | (apply w_maxG; rfl; rfl; rfl; omega) | (apply w_max; rfl; rfl; rfl) | (apply w_neB; rfl; rfl; rfl; rfl) | (apply w_eqB; rfl; rfl; rfl; rfl) | refine spl ?_ ?_ | intro hc)
  refine C_loopK (α := Nat × τ) [3, 4, 6, 7, 8, 9, 10, 11, 12, 13, 14, 15, 16, 17, 18, 19, 20, 21] (fun x => 64 - x.1) (fun x => [(6, int x.1)])
    (fun x => B x.2 :: pt bx 94 [.pointer (some ⟨b, 1, none⟩)] :: pt b 69 (lv :: qs.map ptrO) :: R)
    (fun x => x.1 ≤ 64 ∧ ∃ pre k, liveQ 0 qs = pre ++ liveQ x.1 (qs.drop x.1) ∧ GoesN st dom (allG qs) k pre.length x.2 t) (0, s) ⟨Nat.zero_le _, [], m, rfl, hgo⟩ (by (focus ((repeat (first | exact Keep.nil | apply Keep.drop rfl | apply Keep.keep rfl)); done))) (by (exact sbf)) (by (exact frm)) ?_
  rintro ⟨i, s⟩ ⟨hi, pre, k, hpre, hgo⟩
  dsimp only [List.cons_append, List.nil_append] at *
  by_cases hlt : i < 64
  · have hlt' : i < qs.length := by omega
    have hq : qs[i]? = some qs[i] := by simp [hlt']
    have hdr : qs.drop i = qs[i] :: qs.drop (i + 1) := List.drop_eq_getElem_cons hlt'
    have hr : Rd (pt b 69 (lv :: qs.map ptrO) :: R) ⟨b, 1 + i * 1, none⟩ (ptrO qs[i]) := Rd.tab hq
    rw [hdr] at hpre
    cases hn : qs[i] with
    | none =>
      rw [hn] at hr hpre
      unfold ptrO at hr
      (repeat' first | refine stp ?_ | intro v' hv' | intro (b : Nat) | (apply w_convU; rfl; rfl; omega; omega) | (apply w_convI; rfl; rfl; omega; omega) | (apply w_quoU; rfl; rfl; rfl; omega; omega; omega) | (apply w_remU; rfl; rfl; rfl; omega; omega) | (apply w_minL; rfl; rfl; rfl; omega) | (apply w_minG; rfl; rfl; rfl; omega) | (apply w_min; rfl; rfl; rfl) | (apply w_mfR; rfl; rfl) | (apply w_cvp; rfl; rfl; exact inferInstance; rfl; rfl; assumption) | (apply w_eqS2T; rfl; rfl; rfl; omega) | (apply w_eqS2F; rfl; rfl; rfl; omega) | (apply w_neS2T; rfl; rfl; rfl; omega) | (apply w_neS2F; rfl; rfl; rfl; omega) | (apply w_eqS3T; rfl; rfl; rfl; omega) | (apply w_eqS3F; rfl; rfl; rfl; omega) | (apply w_neS3T; rfl; rfl; rfl; omega) | (apply w_neS3F; rfl; rfl; rfl; omega) | (apply w_eqS3; rfl; rfl; rfl) | (apply w_neS3; rfl; rfl; rfl) | (apply w_eqS2; rfl; rfl; rfl) | (apply w_neS2; rfl; rfl; rfl) | (apply w_maxL; rfl; rfl; rfl; omega) | (apply w_maxG; rfl; rfl; rfl; omega) | (apply w_max; rfl; rfl; rfl) | (apply w_neB; rfl; rfl; rfl; rfl) | (apply w_eqB; rfl; rfl; rfl; rfl) | refine spl ?_ ?_ | intro hc)
      exact At_againK (i + 1, s) ⟨hlt, pre, k, hpre, hgo⟩ (by show 64 - (i + 1) < 64 - i; omega) (by (exact sbf)) (by (exact sbf)) (by (exact frm))
    | some n =>
      rw [hn] at hr hpre
      unfold ptrO at hr
      have hg : allG qs pre.length = some [int i, ptr n] := by unfold allG; rw [hpre, liveQ]; simp
      obtain ⟨hd, hgo2⟩ := hgo.some hg
      have hpre' : liveQ 0 qs = (pre ++ [(i, n)]) ++ liveQ (i + 1) (qs.drop (i + 1)) := by rw [hpre, liveQ]; simp
      (repeat' first | refine stp ?_ | intro v' hv' | intro (b : Nat) | (apply w_convU; rfl; rfl; omega; omega) | (apply w_convI; rfl; rfl; omega; omega) | (apply w_quoU; rfl; rfl; rfl; omega; omega; omega) | (apply w_remU; rfl; rfl; rfl; omega; omega) | (apply w_minL; rfl; rfl; rfl; omega) | (apply w_minG; rfl; rfl; rfl; omega) | (apply w_min; rfl; rfl; rfl) | (apply w_mfR; rfl; rfl) | (apply w_cvp; rfl; rfl; exact inferInstance; rfl; rfl; assumption) | (apply w_eqS2T; rfl; rfl; rfl; omega) | (apply w_eqS2F; rfl; rfl; rfl; omega) | (apply w_neS2T; rfl; rfl; rfl; omega) | (apply w_neS2F; rfl; rfl; rfl; omega) | (apply w_eqS3T; rfl; rfl; rfl; omega) | (apply w_eqS3F; rfl; rfl; rfl; omega) | (apply w_neS3T; rfl; rfl; rfl; omega) | (apply w_neS3F; rfl; rfl; rfl; omega) | (apply w_eqS3; rfl; rfl; rfl) | (apply w_neS3; rfl; rfl; rfl) | (apply w_eqS2; rfl; rfl; rfl) | (apply w_neS2; rfl; rfl; rfl) | (apply w_maxL; rfl; rfl; rfl; omega) | (apply w_maxG; rfl; rfl; rfl; omega) | (apply w_max; rfl; rfl; rfl) | (apply w_neB; rfl; rfl; rfl; rfl) | (apply w_eqB; rfl; rfl; rfl; rfl) | refine spl ?_ ?_ | intro hc)
      apply w_yield
      rfl; rfl; rfl; exact hy; exact hd; ((focus ((repeat (first | exact Del.here | apply Del.there)); done))); ((exact kmf))
      rcases hgo2 with ⟨hb, rfl⟩ | ⟨hb, k', rfl, hgo2⟩
      · rw [hb]
        (repeat' first | refine stp ?_ | intro v' hv' | intro (b : Nat) | (apply w_convU; rfl; rfl; omega; omega) | (apply w_convI; rfl; rfl; omega; omega) | (apply w_quoU; rfl; rfl; rfl; omega; omega; omega) | (apply w_remU; rfl; rfl; rfl; omega; omega) | (apply w_minL; rfl; rfl; rfl; omega) | (apply w_minG; rfl; rfl; rfl; omega) | (apply w_min; rfl; rfl; rfl) | (apply w_mfR; rfl; rfl) | (apply w_cvp; rfl; rfl; exact inferInstance; rfl; rfl; assumption) | (apply w_eqS2T; rfl; rfl; rfl; omega) | (apply w_eqS2F; rfl; rfl; rfl; omega) | (apply w_neS2T; rfl; rfl; rfl; omega) | (apply w_neS2F; rfl; rfl; rfl; omega) | (apply w_eqS3T; rfl; rfl; rfl; omega) | (apply w_eqS3F; rfl; rfl; rfl; omega) | (apply w_neS3T; rfl; rfl; rfl; omega) | (apply w_neS3F; rfl; rfl; rfl; omega) | (apply w_eqS3; rfl; rfl; rfl) | (apply w_neS3; rfl; rfl; rfl) | (apply w_eqS2; rfl; rfl; rfl) | (apply w_neS2; rfl; rfl; rfl) | (apply w_maxL; rfl; rfl; rfl; omega) | (apply w_maxG; rfl; rfl; rfl; omega) | (apply w_max; rfl; rfl; rfl) | (apply w_neB; rfl; rfl; rfl; rfl) | (apply w_eqB; rfl; rfl; rfl; rfl) | refine spl ?_ ?_ | intro hc)
        exact At_ret0 (by (first | exact .inl rfl | exact .inr rfl)) Try.results54 ⟨rfl, rfl⟩ (fun w h => hfold _ w (Sel.sat (by (focus ((repeat (first | exact Sel.refl | (apply Sel.cons; (focus ((repeat (first | exact Del.here | apply Del.there)); done))) | refine Sel.drop ?_)); done))) h))
      · rw [hb]
        (repeat' first | refine stp ?_ | intro v' hv' | intro (b : Nat) | (apply w_convU; rfl; rfl; omega; omega) | (apply w_convI; rfl; rfl; omega; omega) | (apply w_quoU; rfl; rfl; rfl; omega; omega; omega) | (apply w_remU; rfl; rfl; rfl; omega; omega) | (apply w_minL; rfl; rfl; rfl; omega) | (apply w_minG; rfl; rfl; rfl; omega) | (apply w_min; rfl; rfl; rfl) | (apply w_mfR; rfl; rfl) | (apply w_cvp; rfl; rfl; exact inferInstance; rfl; rfl; assumption) | (apply w_eqS2T; rfl; rfl; rfl; omega) | (apply w_eqS2F; rfl; rfl; rfl; omega) | (apply w_neS2T; rfl; rfl; rfl; omega) | (apply w_neS2F; rfl; rfl; rfl; omega) | (apply w_eqS3T; rfl; rfl; rfl; omega) | (apply w_eqS3F; rfl; rfl; rfl; omega) | (apply w_neS3T; rfl; rfl; rfl; omega) | (apply w_neS3F; rfl; rfl; rfl; omega) | (apply w_eqS3; rfl; rfl; rfl) | (apply w_neS3; rfl; rfl; rfl) | (apply w_eqS2; rfl; rfl; rfl) | (apply w_neS2; rfl; rfl; rfl) | (apply w_maxL; rfl; rfl; rfl; omega) | (apply w_maxG; rfl; rfl; rfl; omega) | (apply w_max; rfl; rfl; rfl) | (apply w_neB; rfl; rfl; rfl; rfl) | (apply w_eqB; rfl; rfl; rfl; rfl) | refine spl ?_ ?_ | intro hc)
        exact At_againK (i + 1, _) ⟨hlt, pre ++ [(i, n)], k', hpre', by simpa using hgo2⟩ (by show 64 - (i + 1) < 64 - i; omega) (by (exact sbf)) (by (exact sbf)) (by (exact frm))
  · have hi' : i = 64 := by omega
    subst hi'
    rw [List.drop_eq_nil_of_le (by omega)] at hpre
    have hg : allG qs pre.length = none := by unfold allG; rw [hpre, liveQ]; simp
    obtain rfl := hgo.none hg
    (repeat' first | refine stp ?_ | intro v' hv' | intro (b : Nat) | (apply w_convU; rfl; rfl; omega; omega) | (apply w_convI; rfl; rfl; omega; omega) | (apply w_quoU; rfl; rfl; rfl; omega; omega; omega) | (apply w_remU; rfl; rfl; rfl; omega; omega) | (apply w_minL; rfl; rfl; rfl; omega) | (apply w_minG; rfl; rfl; rfl; omega) | (apply w_min; rfl; rfl; rfl) | (apply w_mfR; rfl; rfl) | (apply w_cvp; rfl; rfl; exact inferInstance; rfl; rfl; assumption) | (apply w_eqS2T; rfl; rfl; rfl; omega) | (apply w_eqS2F; rfl; rfl; rfl; omega) | (apply w_neS2T; rfl; rfl; rfl; omega) | (apply w_neS2F; rfl; rfl; rfl; omega) | (apply w_eqS3T; rfl; rfl; rfl; omega) | (apply w_eqS3F; rfl; rfl; rfl; omega) | (apply w_neS3T; rfl; rfl; rfl; omega) | (apply w_neS3F; rfl; rfl; rfl; omega) | (apply w_eqS3; rfl; rfl; rfl) | (apply w_neS3; rfl; rfl; rfl) | (apply w_eqS2; rfl; rfl; rfl) | (apply w_neS2; rfl; rfl; rfl) | (apply w_maxL; rfl; rfl; rfl; omega) | (apply w_maxG; rfl; rfl; rfl; omega) | (apply w_max; rfl; rfl; rfl) | (apply w_neB; rfl; rfl; rfl; rfl) | (apply w_eqB; rfl; rfl; rfl; rfl) | refine spl ?_ ?_ | intro hc)
    exact At_ret0 (by (first | exact .inl rfl | exact .inr rfl)) Try.results54 ⟨rfl, rfl⟩ (fun w h => hfold _ w (Sel.sat (by (focus ((repeat (first | exact Sel.refl | (apply Sel.cons; (focus ((repeat (first | exact Del.here | apply Del.there)); done))) | refine Sel.drop ?_)); done))) h))
attribute [irreducible] allH
theorem all_ok (p : Value) (R : List HP) (hp : p.oneCell' = true) : Called Try.prog 48 [p] R (fun u M => ∃ bx, u = .func (.func 54) #[] #[ptr bx] ∧ M = pt bx 94 [p] :: R) := by
  refine Fn1 Try.func48 rfl Try.ntmps48 rfl ?_
  (repeat' first | refine stp ?_ | intro v' hv' | intro (b : Nat) | (apply w_convU; rfl; rfl; omega; omega) | (apply w_convI; rfl; rfl; omega; omega) | (apply w_quoU; rfl; rfl; rfl; omega; omega; omega) | (apply w_remU; rfl; rfl; rfl; omega; omega) | (apply w_minL; rfl; rfl; rfl; omega) | (apply w_minG; rfl; rfl; rfl; omega) | (apply w_min; rfl; rfl; rfl) | (apply w_mfR; rfl; rfl) | (apply w_cvp; rfl; rfl; exact inferInstance; rfl; rfl; assumption) | (apply w_eqS2T; rfl; rfl; rfl; omega) | (apply w_eqS2F; rfl; rfl; rfl; omega) | (apply w_neS2T; rfl; rfl; rfl; omega) | (apply w_neS2F; rfl; rfl; rfl; omega) | (apply w_eqS3T; rfl; rfl; rfl; omega) | (apply w_eqS3F; rfl; rfl; rfl; omega) | (apply w_neS3T; rfl; rfl; rfl; omega) | (apply w_neS3F; rfl; rfl; rfl; omega) | (apply w_eqS3; rfl; rfl; rfl) | (apply w_neS3; rfl; rfl; rfl) | (apply w_eqS2; rfl; rfl; rfl) | (apply w_neS2; rfl; rfl; rfl) | (apply w_maxL; rfl; rfl; rfl; omega) | (apply w_maxG; rfl; rfl; rfl; omega) | (apply w_max; rfl; rfl; rfl) | (apply w_neB; rfl; rfl; rfl; rfl) | (apply w_eqB; rfl; rfl; rfl; rfl) | refine spl ?_ ?_ | intro hc)
  exact At_ret1 (by (first | exact .inl rfl | exact .inr rfl)) Try.results48 rfl ⟨_, rfl, rfl⟩ (by (exact frm))
/-! ### Live -/
abbrev Pr := Int × Int × Int
def prE (x : Pr) : List Value := [int x.1, int x.2.1, int x.2.2]
def livP : Nat → List (Option (Nat × Th)) → List Pr
  | _, [] => []
  | i, none :: l => livP (i + 1) l
  | i, some (_, t) :: l => ((i : Nat), actM t) :: livP (i + 1) l
def liveT (T : Tab) : List Pr := go 0 T.ths
where go : Nat → List (Option Tm) → List Pr
  | _, [] => []
  | i, none :: l => go (i + 1) l
  | i, some t :: l => ((i : Nat), actP (T.l t) t) :: go (i + 1) l
theorem live_low {T : Tab} {lv : Value} {xs : List (Value × List Ins)} {ls : List (Option (Nat × Th))} (h : TabOk T lv xs ls) : livP 0 ls = liveT T := by
  unfold liveT
  rw [h.ths]
  have key : ∀ (l : List (Option (Nat × Th))) (i : Nat), (∀ o ∈ l, o ∈ ls) → livP i l = liveT.go T i (l.map fun o => o.map fun x => absT x.2) := by
    intro l
    induction l with
    | nil => intro i _; rfl
    | cons o l ih =>
      intro i hm
      have ih := ih (i + 1) fun o ho => hm o (List.mem_cons_of_mem _ ho)
      cases o with
      | none => exact ih
      | some x =>
        obtain ⟨n, t⟩ := x
        have ht := h.tl (hm _ List.mem_cons_self)
        show (((i : Nat) : Int), actM t) :: livP (i + 1) l = (((i : Nat) : Int), actP (T.l (absT t)) (absT t)) :: _
        rw [ih, ht]; rfl
  exact key ls 0 fun _ h => h
theorem livP_len : ∀ (l : List (Option (Nat × Th))) (i : Nat), (livP i l).length ≤ l.length
  | [], _ => Nat.le_refl _
  | none :: l, i => Nat.le_succ_of_le (livP_len l (i + 1))
  | some (_, t) :: l, i => Nat.succ_le_succ (livP_len l (i + 1))

/-- What Live has gathered, with what it reads. -/
def gat (bl : Nat) (lv : Value) (xs : List (Value × List Ins)) (ls : List (Option (Nat × Th))) (out : List Pr) : HP :=
  ex fun v => all [fact (out.length ≤ 64), pt bl 98 [v], sl 103 3 v (out.map prE), thsH ls, libH lv xs]
theorem gat_fold {bl : Nat} {lv : Value} {xs : List (Value × List Ins)} {ls : List (Option (Nat × Th))} {out : List Pr} {v : Value} {w : World} {R : List HP} (ho : out.length ≤ 64) (h : Sat w (pt bl 98 [v] :: sl 103 3 v (out.map prE) :: thsH ls :: libH lv xs :: R)) : Sat w (gat bl lv xs ls out :: R) :=
  Sat.ex_iff.2 ⟨v, Sat.all_iff.2 (Sat.fact_iff.2 ⟨ho, h⟩)⟩
theorem gat_open {bl : Nat} {lv : Value} {xs : List (Value × List Ins)} {ls : List (Option (Nat × Th))} {out : List Pr} {w : World} {R : List HP} (h : Sat w (gat bl lv xs ls out :: R)) : ∃ v, out.length ≤ 64 ∧ Sat w (pt bl 98 [v] :: sl 103 3 v (out.map prE) :: thsH ls :: libH lv xs :: R) := by
  obtain ⟨v, hv⟩ := Sat.ex_iff.1 h
  obtain ⟨ho, hs⟩ := Sat.fact_iff.1 (Sat.all_iff.1 hv)
  exact ⟨v, ho, hs⟩
theorem C_gat {P : Program} {ro : Option Nat} {Q : Exit → Act → World → Prop} {n : Nat} {F : Fr} {ds : List Deferred} {R : List HP} {cd : Code} {bl : Nat} {lv : Value} {xs : List (Value × List Ins)} {ls : List (Option (Nat × Th))} {out : List Pr}
    (h : ∀ v, out.length ≤ 64 → IsSl v out.length → C P ro cd Q n F ds (pt bl 98 [v] :: sl 103 3 v (out.map prE) :: thsH ls :: libH lv xs :: R)) : C P ro cd Q n F ds (gat bl lv xs ls out :: R) := by
  unfold gat
  refine C_ex fun v => ?_
  refine C_sat (fun w h => Sat.all_iff.1 h) ?_
  refine C_fact fun ho => ?_
  exact C_isl (v := v) (by (focus ((repeat (first | assumption | exact Len.of ‹_› | exact .slm | exact .sl | apply Len.there)); done))) fun hN _ => h v ho hN
theorem W_gat {P : Program} {ro : Option Nat} {ops : Array Oper} {Q : Exit → Act → World → Prop} {n : Nat} {F : Fr} {ds : List Deferred} {R : List HP} {cd : List Oper} {bl : Nat} {lv : Value} {xs : List (Value × List Ins)} {ls : List (Option (Nat × Th))} {out : List Pr}
    (h : ∀ v, out.length ≤ 64 → IsSl v out.length → W P ro none ops Q n cd F ds (pt bl 98 [v] :: sl 103 3 v (out.map prE) :: thsH ls :: libH lv xs :: R)) : W P ro none ops Q n cd F ds (gat bl lv xs ls out :: R) := by
  unfold gat
  refine W_ex fun v => ?_
  refine W_know (p := out.length ≤ 64) (fun w h => (Sat.fact_iff.1 (Sat.all_iff.1 h)).1) fun ho => ?_
  refine W_sat (fun w h => (Sat.fact_iff.1 (Sat.all_iff.1 h)).2) ?_
  exact W_know (p := IsSl v out.length) (fun w hs => Len.slm.there.out w hs) fun hN => h v ho hN
attribute [irreducible] gat
def actOf (ls : List (Option (Nat × Th))) (i : Int) : Int × Int := match ls[i.toNat]? with
  | some (some (_, t)) => actM t
  | _ => (0, 0)
def gatStep (ls : List (Option (Nat × Th))) (out : List Pr) (xs : List Value) : Option Code × List Pr := match xs with
  | .int _ i :: _ => (none, out ++ [(i, actOf ls i)])
  | _ => (none, out)
def gatDom (ls : List (Option (Nat × Th))) (out : List Pr) (xs : List Value) : Prop := ∃ (i n : Nat) (t : Th), ls[i]? = some (some (n, t)) ∧ i < 64 ∧ out.length ≤ i ∧ xs = [int i, ptr n]
theorem gat_goes (ls : List (Option (Nat × Th))) (h64 : ls.length = 64) : Goes (fun (s : List Pr × Option Code) xs => ((gatStep ls s.1 xs).1.isNone, ((gatStep ls s.1 xs).2, (gatStep ls s.1 xs).1))) (fun s xs => s.2 = none ∧ gatDom ls s.1 xs) (allG (qsOf ls)) 0 ([], none) (livP 0 ls, none) := by
  have key : ∀ (l : List (Option (Nat × Th))) (i : Nat) (pre : List (Nat × Nat)) (acc : List Pr), ls.drop i = l → i ≤ 64 → liveQ 0 (qsOf ls) = pre ++ liveQ i (qsOf l) → acc.length ≤ i →
      Goes (fun (s : List Pr × Option Code) xs => ((gatStep ls s.1 xs).1.isNone, ((gatStep ls s.1 xs).2, (gatStep ls s.1 xs).1))) (fun s xs => s.2 = none ∧ gatDom ls s.1 xs) (allG (qsOf ls)) pre.length (acc, none) (acc ++ livP i l, none) := by
    intro l
    induction l with
    | nil =>
      intro i pre acc hd hi hp ha
      have : livP i [] = [] := rfl
      rw [this, List.append_nil]
      exact .stop (by unfold allG; rw [hp]; show ((pre ++ [])[pre.length]?).map _ = none; simp)
    | cons o l ih =>
      intro i pre acc hd hi hp ha
      have hlt : i < ls.length := by
        rcases Nat.lt_or_ge i ls.length with h | h
        · exact h
        · rw [List.drop_eq_nil_of_le h] at hd; cases hd
      have hd2 : ls.drop (i + 1) = l := by rw [← List.drop_drop, hd]; rfl
      have ho : ls[i]? = some o := by
        have := congrArg List.head? hd
        rw [List.head?_drop] at this; exact this
      cases o with
      | none => exact ih (i + 1) pre acc hd2 (by omega) hp (by omega)
      | some x =>
        obtain ⟨n, t⟩ := x
        have hp' : liveQ 0 (qsOf ls) = (pre ++ [(i, n)]) ++ liveQ (i + 1) (qsOf l) := by rw [hp]; show pre ++ (i, n) :: liveQ (i + 1) (qsOf l) = _; simp
        have h1 := ih (i + 1) (pre ++ [(i, n)]) (acc ++ [(((i : Nat) : Int), actM t)]) hd2 (by omega) hp' (by simp; omega)
        have hact : actOf ls (i : Nat) = actM t := by unfold actOf; rw [Int.toNat_natCast, ho]
        refine .next (x := [int i, ptr n]) (by unfold allG; rw [hp']; simp) ⟨rfl, i, n, t, ho, by omega, ha, rfl⟩ (s' := (acc ++ [(((i : Nat) : Int), actM t)], none)) ?_ ?_
        · show (true, (acc ++ [(((i : Nat) : Int), actOf ls (i : Nat))], (none : Option Code))) = _
          rw [hact]
        · rw [List.length_append, List.length_singleton, List.append_assoc] at h1
          exact h1
  exact key ls 0 [] [] rfl (by omega) rfl (Nat.le_refl _)
def trP (bl : Nat) (l : List Pr) : HP := ex fun v => all [fact (l.length ≤ 64), pt bl 98 [v], sl 103 3 v (l.map prE)]
theorem trP_fold {bl : Nat} {l : List Pr} {v : Value} {w : World} {R : List HP} (ho : l.length ≤ 64) (h : Sat w (pt bl 98 [v] :: sl 103 3 v (l.map prE) :: R)) : Sat w (trP bl l :: R) :=
  Sat.ex_iff.2 ⟨v, Sat.all_iff.2 (Sat.fact_iff.2 ⟨ho, h⟩)⟩
theorem C_trP {P : Program} {ro : Option Nat} {Q : Exit → Act → World → Prop} {n : Nat} {F : Fr} {ds : List Deferred} {R : List HP} {cd : Code} {bl : Nat} {l : List Pr}
    (h : ∀ v, l.length ≤ 64 → IsSl v l.length → C P ro cd Q n F ds (pt bl 98 [v] :: sl 103 3 v (l.map prE) :: R)) : C P ro cd Q n F ds (trP bl l :: R) := by
  unfold trP
  refine C_ex fun v => ?_
  refine C_sat (fun w h => Sat.all_iff.1 h) ?_
  refine C_fact fun ho => ?_
  exact C_isl (v := v) (by (focus ((repeat (first | assumption | exact Len.of ‹_› | exact .slm | exact .sl | apply Len.there)); done))) fun hN _ => h v ho hN
attribute [irreducible] trP
def livG (l : List Pr) (j : Nat) : Option (List Value) := (l[j]?).map fun x => [int x.1, .agg #[int x.2.1, int x.2.2]]
theorem RdAll.tail1 {b : Nat} {T : TypeId} {a : Value} {vs : List Value} {L : List HP} : RdAll (pt b T (a :: vs) :: L) b 1 vs :=
  RdAll.at fun i v h => by rw [Nat.add_comm]; exact Rd.pt (by simpa using h)
set_option maxHeartbeats 4000000 in
theorem Live1_ok (bl : Nat) (l : List Pr) : Iter Try.prog 49 [] [ptr bl] (trP bl l) (livG l) := by
  intro τ B st dom yf s t R hy hgo
  obtain ⟨m, hgo⟩ := hgo.steps
  show Called Try.prog 49 [yf, ptr bl] (trP bl l :: B s :: R) (is (.tuple #[]) (trP bl l :: B t :: R))
  refine Fn2 Try.func49 rfl Try.ntmps49 rfl ?_
  refine C_trP fun v h64 hv => ?_
  have hN := hv.len
  have hfold : ∀ s w, Sat w (pt bl 98 [v] :: sl 103 3 v (l.map prE) :: B s :: R) → Sat w (trP bl l :: B s :: R) := fun s w h => trP_fold h64 h
  (repeat' first | refine stp ?_ | intro v' hv' | intro (b : Nat) | (apply w_convU; rfl; rfl; omega; omega) | (apply w_convI; rfl; rfl; omega; omega) | (apply w_quoU; rfl; rfl; rfl; omega; omega; omega) | (apply w_remU; rfl; rfl; rfl; omega; omega) | (apply w_minL; rfl; rfl; rfl; omega) | (apply w_minG; rfl; rfl; rfl; omega) | (apply w_min; rfl; rfl; rfl) | (apply w_mfR; rfl; rfl) | (apply w_cvp; rfl; rfl; exact inferInstance; rfl; rfl; assumption) | (apply w_eqS2T; rfl; rfl; rfl; omega) | (apply w_eqS2F; rfl; rfl; rfl; omega) | (apply w_neS2T; rfl; rfl; rfl; omega) | (apply w_neS2F; rfl; rfl; rfl; omega) | (apply w_eqS3T; rfl; rfl; rfl; omega) | (apply w_eqS3F; rfl; rfl; rfl; omega) | (apply w_neS3T; rfl; rfl; rfl; omega) | (apply w_neS3F; rfl; rfl; rfl; omega) | (apply w_eqS3; rfl; rfl; rfl) | (apply w_neS3; rfl; rfl; rfl) | (apply w_eqS2; rfl; rfl; rfl) | (apply w_neS2; rfl; rfl; rfl) | (apply w_maxL; rfl; rfl; rfl; omega) | (apply w_maxG; rfl; rfl; rfl; omega) | (apply w_max; rfl; rfl; rfl) | (apply w_neB; rfl; rfl; rfl; rfl) | (apply w_eqB; rfl; rfl; rfl; rfl) | (apply w_la0; rfl; rfl; exact RdAll.tail1; rfl) | refine spl ?_ ?_ | intro hc)
  refine C_loopK (α := Nat × τ) [4, 7, 8, 9, 10, 11, 12, 13, 14, 15, 16, 17, 18] (fun x => l.length - x.1) (fun x => [(7, int x.1)])
    (fun x => B x.2 :: pt bl 98 [v] :: sl 103 3 v (l.map prE) :: R)
    (fun x => x.1 ≤ l.length ∧ ∃ k, GoesN st dom (livG l) k x.1 x.2 t) (0, s) ⟨Nat.zero_le _, m, hgo⟩ (by (focus ((repeat (first | exact Keep.nil | apply Keep.drop rfl | apply Keep.keep rfl)); done))) (by (exact sbf)) (by (exact frm)) ?_
  rintro ⟨i, s⟩ ⟨hi, k, hgo⟩
  dsimp only [List.cons_append, List.nil_append] at *
  by_cases hlt : i < l.length
  · have hx : l[i]? = some l[i] := by simp [hlt]
    have hra : RdAll (sl 103 3 v (l.map prE) :: R) (vb v) (vo v + i * 3) (prE l[i]) := RdAll.sl (by simp [hlt])
    have hg : livG l i = some [int l[i].1, .agg #[int l[i].2.1, int l[i].2.2]] := by unfold livG; rw [hx]; rfl
    obtain ⟨hd, hgo2⟩ := hgo.some hg
    generalize l[i] = x at *
    unfold prE at hra
    (repeat' first | refine stp ?_ | intro v' hv' | intro (b : Nat) | (apply w_convU; rfl; rfl; omega; omega) | (apply w_convI; rfl; rfl; omega; omega) | (apply w_quoU; rfl; rfl; rfl; omega; omega; omega) | (apply w_remU; rfl; rfl; rfl; omega; omega) | (apply w_minL; rfl; rfl; rfl; omega) | (apply w_minG; rfl; rfl; rfl; omega) | (apply w_min; rfl; rfl; rfl) | (apply w_mfR; rfl; rfl) | (apply w_cvp; rfl; rfl; exact inferInstance; rfl; rfl; assumption) | (apply w_eqS2T; rfl; rfl; rfl; omega) | (apply w_eqS2F; rfl; rfl; rfl; omega) | (apply w_neS2T; rfl; rfl; rfl; omega) | (apply w_neS2F; rfl; rfl; rfl; omega) | (apply w_eqS3T; rfl; rfl; rfl; omega) | (apply w_eqS3F; rfl; rfl; rfl; omega) | (apply w_neS3T; rfl; rfl; rfl; omega) | (apply w_neS3F; rfl; rfl; rfl; omega) | (apply w_eqS3; rfl; rfl; rfl) | (apply w_neS3; rfl; rfl; rfl) | (apply w_eqS2; rfl; rfl; rfl) | (apply w_neS2; rfl; rfl; rfl) | (apply w_maxL; rfl; rfl; rfl; omega) | (apply w_maxG; rfl; rfl; rfl; omega) | (apply w_max; rfl; rfl; rfl) | (apply w_neB; rfl; rfl; rfl; rfl) | (apply w_eqB; rfl; rfl; rfl; rfl) | (apply w_la0; rfl; rfl; exact RdAll.tail1; rfl) | refine spl ?_ ?_ | intro hc)
    apply w_yield
    rfl; rfl; rfl; exact hy; exact hd; ((focus ((repeat (first | exact Del.here | apply Del.there)); done))); ((exact kmf))
    rcases hgo2 with ⟨hb, rfl⟩ | ⟨hb, k', rfl, hgo2⟩
    · rw [hb]
      (repeat' first | refine stp ?_ | intro v' hv' | intro (b : Nat) | (apply w_convU; rfl; rfl; omega; omega) | (apply w_convI; rfl; rfl; omega; omega) | (apply w_quoU; rfl; rfl; rfl; omega; omega; omega) | (apply w_remU; rfl; rfl; rfl; omega; omega) | (apply w_minL; rfl; rfl; rfl; omega) | (apply w_minG; rfl; rfl; rfl; omega) | (apply w_min; rfl; rfl; rfl) | (apply w_mfR; rfl; rfl) | (apply w_cvp; rfl; rfl; exact inferInstance; rfl; rfl; assumption) | (apply w_eqS2T; rfl; rfl; rfl; omega) | (apply w_eqS2F; rfl; rfl; rfl; omega) | (apply w_neS2T; rfl; rfl; rfl; omega) | (apply w_neS2F; rfl; rfl; rfl; omega) | (apply w_eqS3T; rfl; rfl; rfl; omega) | (apply w_eqS3F; rfl; rfl; rfl; omega) | (apply w_neS3T; rfl; rfl; rfl; omega) | (apply w_neS3F; rfl; rfl; rfl; omega) | (apply w_eqS3; rfl; rfl; rfl) | (apply w_neS3; rfl; rfl; rfl) | (apply w_eqS2; rfl; rfl; rfl) | (apply w_neS2; rfl; rfl; rfl) | (apply w_maxL; rfl; rfl; rfl; omega) | (apply w_maxG; rfl; rfl; rfl; omega) | (apply w_max; rfl; rfl; rfl) | (apply w_neB; rfl; rfl; rfl; rfl) | (apply w_eqB; rfl; rfl; rfl; rfl) | (apply w_la0; rfl; rfl; exact RdAll.tail1; rfl) | refine spl ?_ ?_ | intro hc)
      exact At_ret0 (by (first | exact .inl rfl | exact .inr rfl)) Try.results49 ⟨rfl, rfl⟩ (fun w h => hfold _ w (Sel.sat (by (focus ((repeat (first | exact Sel.refl | (apply Sel.cons; (focus ((repeat (first | exact Del.here | apply Del.there)); done))) | refine Sel.drop ?_)); done))) h))
    · rw [hb]
      (repeat' first | refine stp ?_ | intro v' hv' | intro (b : Nat) | (apply w_convU; rfl; rfl; omega; omega) | (apply w_convI; rfl; rfl; omega; omega) | (apply w_quoU; rfl; rfl; rfl; omega; omega; omega) | (apply w_remU; rfl; rfl; rfl; omega; omega) | (apply w_minL; rfl; rfl; rfl; omega) | (apply w_minG; rfl; rfl; rfl; omega) | (apply w_min; rfl; rfl; rfl) | (apply w_mfR; rfl; rfl) | (apply w_cvp; rfl; rfl; exact inferInstance; rfl; rfl; assumption) | (apply w_eqS2T; rfl; rfl; rfl; omega) | (apply w_eqS2F; rfl; rfl; rfl; omega) | (apply w_neS2T; rfl; rfl; rfl; omega) | (apply w_neS2F; rfl; rfl; rfl; omega) | (apply w_eqS3T; rfl; rfl; rfl; omega) | (apply w_eqS3F; rfl; rfl; rfl; omega) | (apply w_neS3T; rfl; rfl; rfl; omega) | (apply w_neS3F; rfl; rfl; rfl; omega) | (apply w_eqS3; rfl; rfl; rfl) | (apply w_neS3; rfl; rfl; rfl) | (apply w_eqS2; rfl; rfl; rfl) | (apply w_neS2; rfl; rfl; rfl) | (apply w_maxL; rfl; rfl; rfl; omega) | (apply w_maxG; rfl; rfl; rfl; omega) | (apply w_max; rfl; rfl; rfl) | (apply w_neB; rfl; rfl; rfl; rfl) | (apply w_eqB; rfl; rfl; rfl; rfl) | (apply w_la0; rfl; rfl; exact RdAll.tail1; rfl) | refine spl ?_ ?_ | intro hc)
      exact At_againK (i + 1, _) ⟨hlt, k', hgo2⟩ (by show l.length - (i + 1) < l.length - i; omega) (by (exact sbf)) (by (exact sbf)) (by (exact frm))
  · have hi' : i = l.length := by omega
    subst hi'
    obtain rfl := hgo.none (by unfold livG; simp)
    (repeat' first | refine stp ?_ | intro v' hv' | intro (b : Nat) | (apply w_convU; rfl; rfl; omega; omega) | (apply w_convI; rfl; rfl; omega; omega) | (apply w_quoU; rfl; rfl; rfl; omega; omega; omega) | (apply w_remU; rfl; rfl; rfl; omega; omega) | (apply w_minL; rfl; rfl; rfl; omega) | (apply w_minG; rfl; rfl; rfl; omega) | (apply w_min; rfl; rfl; rfl) | (apply w_mfR; rfl; rfl) | (apply w_cvp; rfl; rfl; exact inferInstance; rfl; rfl; assumption) | (apply w_eqS2T; rfl; rfl; rfl; omega) | (apply w_eqS2F; rfl; rfl; rfl; omega) | (apply w_neS2T; rfl; rfl; rfl; omega) | (apply w_neS2F; rfl; rfl; rfl; omega) | (apply w_eqS3T; rfl; rfl; rfl; omega) | (apply w_eqS3F; rfl; rfl; rfl; omega) | (apply w_neS3T; rfl; rfl; rfl; omega) | (apply w_neS3F; rfl; rfl; rfl; omega) | (apply w_eqS3; rfl; rfl; rfl) | (apply w_neS3; rfl; rfl; rfl) | (apply w_eqS2; rfl; rfl; rfl) | (apply w_neS2; rfl; rfl; rfl) | (apply w_maxL; rfl; rfl; rfl; omega) | (apply w_maxG; rfl; rfl; rfl; omega) | (apply w_max; rfl; rfl; rfl) | (apply w_neB; rfl; rfl; rfl; rfl) | (apply w_eqB; rfl; rfl; rfl; rfl) | (apply w_la0; rfl; rfl; exact RdAll.tail1; rfl) | refine spl ?_ ?_ | intro hc)
    exact At_ret0 (by (first | exact .inl rfl | exact .inr rfl)) Try.results49 ⟨rfl, rfl⟩ (fun w h => hfold _ w (Sel.sat (by (focus ((repeat (first | exact Sel.refl | (apply Sel.cons; (focus ((repeat (first | exact Del.here | apply Del.there)); done))) | refine Sel.drop ?_)); done))) h))
set_option maxHeartbeats 8000000 in
theorem Live_ok (p : Nat) (T : Tab) (R : List HP) : Called Try.prog 34 [ptr p] (tbl p T :: R) (fun u M => ∃ bl, u = .func (.func 49) #[] #[ptr bl] ∧ M = trP bl (liveT T) :: tbl p T :: R) := by
  refine FnM1 Try.func34 rfl Try.ntmps34 rfl ?_
  refine C_tbl fun lv xs ls hok => ?_
  have hlow := live_low hok
  have hq64 := qs64 hok
  (repeat' first | refine stp ?_ | intro v' hv' | intro (b : Nat) | (apply w_convU; rfl; rfl; omega; omega) | (apply w_convI; rfl; rfl; omega; omega) | (apply w_quoU; rfl; rfl; rfl; omega; omega; omega) | (apply w_remU; rfl; rfl; rfl; omega; omega) | (apply w_minL; rfl; rfl; rfl; omega) | (apply w_minG; rfl; rfl; rfl; omega) | (apply w_min; rfl; rfl; rfl) | (apply w_mfR; rfl; rfl) | (apply w_cvp; rfl; rfl; exact inferInstance; rfl; rfl; assumption) | (apply w_eqS2T; rfl; rfl; rfl; omega) | (apply w_eqS2F; rfl; rfl; rfl; omega) | (apply w_neS2T; rfl; rfl; rfl; omega) | (apply w_neS2F; rfl; rfl; rfl; omega) | (apply w_eqS3T; rfl; rfl; rfl; omega) | (apply w_eqS3F; rfl; rfl; rfl; omega) | (apply w_neS3T; rfl; rfl; rfl; omega) | (apply w_neS3F; rfl; rfl; rfl; omega) | (apply w_eqS3; rfl; rfl; rfl) | (apply w_neS3; rfl; rfl; rfl) | (apply w_eqS2; rfl; rfl; rfl) | (apply w_neS2; rfl; rfl; rfl) | (apply w_maxL; rfl; rfl; rfl; omega) | (apply w_maxG; rfl; rfl; rfl; omega) | (apply w_max; rfl; rfl; rfl) | (apply w_neB; rfl; rfl; rfl; rfl) | (apply w_eqB; rfl; rfl; rfl; rfl) | (apply w_cl; rfl; rfl; exact all_ok _ _ rfl; exact ⟨_, _, 0, rfl, rfl⟩; rintro _ _ ⟨bt, rfl, rfl⟩; refine ⟨by (exact kmf), ?_⟩) | (apply w_cd; rfl; rfl; apply Called.at2 (h := hA); ((focus ((repeat (first | (apply Rep2.here; ((focus ((repeat (first | exact Rep.here | apply Rep.there)); done)))) | (apply Rep2.other; ((focus ((repeat (first | exact Rep.here | apply Rep.there)); done)))) | apply Rep2.there)); done))); ((exact kmf))) | refine spl ?_ ?_ | intro hc)
  refine C_sat (L' := allH bt p lv (qsOf ls) :: gat b lv xs ls [] :: R) (fun w h => ?_) ?_
  · have h1 : Sat w (pt b 98 [.slice none 0 0] :: sl 103 3 (.slice none 0 0) (([] : List Pr).map prE) :: thsH ls :: libH lv xs :: pt bt 94 [.pointer (some ⟨p, 1, none⟩)] :: pt p 69 (lv :: (qsOf ls).map ptrO) :: R) := Sel.sat (by (focus ((repeat (first | exact Sel.refl | (apply Sel.cons; (focus ((repeat (first | exact Del.here | apply Del.there)); done))) | refine Sel.drop ?_)); done))) (h.sl_nil (E := 103) (n := 3))
    have h2 : Sat w (pt bt 94 [.pointer (some ⟨p, 1, none⟩)] :: pt p 69 (lv :: (qsOf ls).map ptrO) :: gat b lv xs ls [] :: R) := Sel.sat (by (focus ((repeat (first | exact Sel.refl | (apply Sel.cons; (focus ((repeat (first | exact Del.here | apply Del.there)); done))) | refine Sel.drop ?_)); done))) (gat_fold (by simp) h1)
    unfold allH
    exact Sat.all_iff.2 h2
  refine C_range (A := gat b lv xs ls) (step := gatStep ls) (dom := gatDom ls) rfl (all1_ok bt p lv (qsOf ls) hq64) rfl (fun s xs h => by obtain ⟨i, n, t, -, -, -, rfl⟩ := h; rfl) Sel.refl ?_ (gat_goes ls hok.n64) fun r => ?_
  · rintro l r out xs' J ⟨i, n, t, hl, hi, ho, rfl⟩
    have hm := List.mem_of_getElem? hl
    have hA := fun R => act_ok n t (libH lv xs :: R) (hok.prIn hm R)
    have hst : gatStep ls out [int i, ptr n] = (none, out ++ [((i : Int), actM t)]) := by
      show (none, out ++ [((i : Int), actOf ls i)]) = _
      unfold actOf
      rw [Int.toNat_natCast, hl]
    rw [hst]
    apply Exists.intro
    refine ⟨fun Q r' hQ => ?_, ?_⟩
    · simp only [parF]
      (repeat' first | refine stp ?_ | intro v' hv' | intro (b : Nat) | (apply w_convU; rfl; rfl; omega; omega) | (apply w_convI; rfl; rfl; omega; omega) | (apply w_quoU; rfl; rfl; rfl; omega; omega; omega) | (apply w_remU; rfl; rfl; rfl; omega; omega) | (apply w_minL; rfl; rfl; rfl; omega) | (apply w_minG; rfl; rfl; rfl; omega) | (apply w_min; rfl; rfl; rfl) | (apply w_mfR; rfl; rfl) | (apply w_cvp; rfl; rfl; exact inferInstance; rfl; rfl; assumption) | (apply w_eqS2T; rfl; rfl; rfl; omega) | (apply w_eqS2F; rfl; rfl; rfl; omega) | (apply w_neS2T; rfl; rfl; rfl; omega) | (apply w_neS2F; rfl; rfl; rfl; omega) | (apply w_eqS3T; rfl; rfl; rfl; omega) | (apply w_eqS3F; rfl; rfl; rfl; omega) | (apply w_neS3T; rfl; rfl; rfl; omega) | (apply w_neS3F; rfl; rfl; rfl; omega) | (apply w_eqS3; rfl; rfl; rfl) | (apply w_neS3; rfl; rfl; rfl) | (apply w_eqS2; rfl; rfl; rfl) | (apply w_neS2; rfl; rfl; rfl) | (apply w_maxL; rfl; rfl; rfl; omega) | (apply w_maxG; rfl; rfl; rfl; omega) | (apply w_max; rfl; rfl; rfl) | (apply w_neB; rfl; rfl; rfl; rfl) | (apply w_eqB; rfl; rfl; rfl; rfl) | (apply w_cl; rfl; rfl; exact all_ok _ _ rfl; exact ⟨_, _, 0, rfl, rfl⟩; rintro _ _ ⟨bt, rfl, rfl⟩; refine ⟨by (exact kmf), ?_⟩) | (apply w_cd; rfl; rfl; apply Called.at2 (h := hA); ((focus ((repeat (first | (apply Rep2.here; ((focus ((repeat (first | exact Rep.here | apply Rep.there)); done)))) | (apply Rep2.other; ((focus ((repeat (first | exact Rep.here | apply Rep.there)); done)))) | apply Rep2.there)); done))); ((exact kmf))) | refine spl ?_ ?_ | intro hc)
      exact hQ
    · refine C_block ?_
      refine C_gat fun v ho2 hv => ?_
      refine C_sat (L' := pt n 73 (thE t) :: libH lv xs :: pt b 98 [v] :: sl 103 3 v (out.map prE) :: thsH (ls.set i none) :: blk l (.loop r) :: J) (fun w h => ?_) ?_
      · have h1 : Sat w (thsH ls :: pt b 98 [v] :: sl 103 3 v (out.map prE) :: libH lv xs :: blk l (.loop r) :: J) := Sel.sat (by (focus ((repeat (first | exact Sel.refl | (apply Sel.cons; (focus ((repeat (first | exact Del.here | apply Del.there)); done))) | refine Sel.drop ?_)); done))) h
        exact Sel.sat (by (focus ((repeat (first | exact Sel.refl | (apply Sel.cons; (focus ((repeat (first | exact Del.here | apply Del.there)); done))) | refine Sel.drop ?_)); done))) (thsH_open hl h1)
      (repeat' first | refine stp ?_ | intro v' hv' | intro (b : Nat) | (apply w_convU; rfl; rfl; omega; omega) | (apply w_convI; rfl; rfl; omega; omega) | (apply w_quoU; rfl; rfl; rfl; omega; omega; omega) | (apply w_remU; rfl; rfl; rfl; omega; omega) | (apply w_minL; rfl; rfl; rfl; omega) | (apply w_minG; rfl; rfl; rfl; omega) | (apply w_min; rfl; rfl; rfl) | (apply w_mfR; rfl; rfl) | (apply w_cvp; rfl; rfl; exact inferInstance; rfl; rfl; assumption) | (apply w_eqS2T; rfl; rfl; rfl; omega) | (apply w_eqS2F; rfl; rfl; rfl; omega) | (apply w_neS2T; rfl; rfl; rfl; omega) | (apply w_neS2F; rfl; rfl; rfl; omega) | (apply w_eqS3T; rfl; rfl; rfl; omega) | (apply w_eqS3F; rfl; rfl; rfl; omega) | (apply w_neS3T; rfl; rfl; rfl; omega) | (apply w_neS3F; rfl; rfl; rfl; omega) | (apply w_eqS3; rfl; rfl; rfl) | (apply w_neS3; rfl; rfl; rfl) | (apply w_eqS2; rfl; rfl; rfl) | (apply w_neS2; rfl; rfl; rfl) | (apply w_maxL; rfl; rfl; rfl; omega) | (apply w_maxG; rfl; rfl; rfl; omega) | (apply w_max; rfl; rfl; rfl) | (apply w_neB; rfl; rfl; rfl; rfl) | (apply w_eqB; rfl; rfl; rfl; rfl) | (apply w_cl; rfl; rfl; exact all_ok _ _ rfl; exact ⟨_, _, 0, rfl, rfl⟩; rintro _ _ ⟨bt, rfl, rfl⟩; refine ⟨by (exact kmf), ?_⟩) | (apply w_cd; rfl; rfl; apply Called.at2 (h := hA); ((focus ((repeat (first | (apply Rep2.here; ((focus ((repeat (first | exact Rep.here | apply Rep.there)); done)))) | (apply Rep2.other; ((focus ((repeat (first | exact Rep.here | apply Rep.there)); done)))) | apply Rep2.there)); done))); ((exact kmf))) | refine spl ?_ ?_ | intro hc)
      apply w_ap (es := [prE ((i : Int), actM t)])
      rfl; rfl; rfl; ((focus ((repeat (first | exact Del.here | apply Del.there)); done))); ((exact srf)); rfl; (simp; omega); (simp; omega)
      intro v2 hv2
      refine ⟨by (exact kmf), ?_⟩
      (repeat' first | refine stp ?_ | intro v' hv' | intro (b : Nat) | (apply w_convU; rfl; rfl; omega; omega) | (apply w_convI; rfl; rfl; omega; omega) | (apply w_quoU; rfl; rfl; rfl; omega; omega; omega) | (apply w_remU; rfl; rfl; rfl; omega; omega) | (apply w_minL; rfl; rfl; rfl; omega) | (apply w_minG; rfl; rfl; rfl; omega) | (apply w_min; rfl; rfl; rfl) | (apply w_mfR; rfl; rfl) | (apply w_cvp; rfl; rfl; exact inferInstance; rfl; rfl; assumption) | (apply w_eqS2T; rfl; rfl; rfl; omega) | (apply w_eqS2F; rfl; rfl; rfl; omega) | (apply w_neS2T; rfl; rfl; rfl; omega) | (apply w_neS2F; rfl; rfl; rfl; omega) | (apply w_eqS3T; rfl; rfl; rfl; omega) | (apply w_eqS3F; rfl; rfl; rfl; omega) | (apply w_neS3T; rfl; rfl; rfl; omega) | (apply w_neS3F; rfl; rfl; rfl; omega) | (apply w_eqS3; rfl; rfl; rfl) | (apply w_neS3; rfl; rfl; rfl) | (apply w_eqS2; rfl; rfl; rfl) | (apply w_neS2; rfl; rfl; rfl) | (apply w_maxL; rfl; rfl; rfl; omega) | (apply w_maxG; rfl; rfl; rfl; omega) | (apply w_max; rfl; rfl; rfl) | (apply w_neB; rfl; rfl; rfl; rfl) | (apply w_eqB; rfl; rfl; rfl; rfl) | (apply w_cl; rfl; rfl; exact all_ok _ _ rfl; exact ⟨_, _, 0, rfl, rfl⟩; rintro _ _ ⟨bt, rfl, rfl⟩; refine ⟨by (exact kmf), ?_⟩) | (apply w_cd; rfl; rfl; apply Called.at2 (h := hA); ((focus ((repeat (first | (apply Rep2.here; ((focus ((repeat (first | exact Rep.here | apply Rep.there)); done)))) | (apply Rep2.other; ((focus ((repeat (first | exact Rep.here | apply Rep.there)); done)))) | apply Rep2.there)); done))); ((exact kmf))) | refine spl ?_ ?_ | intro hc)
      refine At_round_normal (fun w h => ?_)
      have e : (out ++ [((i : Int), actM t)]).map prE = out.map prE ++ [prE ((i : Int), actM t)] := by simp
      refine gat_fold (v := v2) (by simp; omega) ?_
      rw [e]
      have h1 : Sat w (pt n 73 (thE t) :: thsH (ls.set i none) :: pt b 98 [v2] :: sl 103 3 v2 (out.map prE ++ [prE ((i : Int), actM t)]) :: libH lv xs :: blk l (.loop r) :: J) := Sel.sat (by (focus ((repeat (first | exact Sel.refl | (apply Sel.cons; (focus ((repeat (first | exact Del.here | apply Del.there)); done))) | refine Sel.drop ?_)); done))) h
      have h2 := thsH_close hl h1
      rw [set_self hl] at h2
      exact Sel.sat (by (focus ((repeat (first | exact Sel.refl | (apply Sel.cons; (focus ((repeat (first | exact Del.here | apply Del.there)); done))) | refine Sel.drop ?_)); done))) h2
  · simp only [ends]
    (repeat' first | refine stp ?_ | intro v' hv' | intro (b : Nat) | (apply w_convU; rfl; rfl; omega; omega) | (apply w_convI; rfl; rfl; omega; omega) | (apply w_quoU; rfl; rfl; rfl; omega; omega; omega) | (apply w_remU; rfl; rfl; rfl; omega; omega) | (apply w_minL; rfl; rfl; rfl; omega) | (apply w_minG; rfl; rfl; rfl; omega) | (apply w_min; rfl; rfl; rfl) | (apply w_mfR; rfl; rfl) | (apply w_cvp; rfl; rfl; exact inferInstance; rfl; rfl; assumption) | (apply w_eqS2T; rfl; rfl; rfl; omega) | (apply w_eqS2F; rfl; rfl; rfl; omega) | (apply w_neS2T; rfl; rfl; rfl; omega) | (apply w_neS2F; rfl; rfl; rfl; omega) | (apply w_eqS3T; rfl; rfl; rfl; omega) | (apply w_eqS3F; rfl; rfl; rfl; omega) | (apply w_neS3T; rfl; rfl; rfl; omega) | (apply w_neS3F; rfl; rfl; rfl; omega) | (apply w_eqS3; rfl; rfl; rfl) | (apply w_neS3; rfl; rfl; rfl) | (apply w_eqS2; rfl; rfl; rfl) | (apply w_neS2; rfl; rfl; rfl) | (apply w_maxL; rfl; rfl; rfl; omega) | (apply w_maxG; rfl; rfl; rfl; omega) | (apply w_max; rfl; rfl; rfl) | (apply w_neB; rfl; rfl; rfl; rfl) | (apply w_eqB; rfl; rfl; rfl; rfl) | (apply w_cl; rfl; rfl; exact all_ok _ _ rfl; exact ⟨_, _, 0, rfl, rfl⟩; rintro _ _ ⟨bt, rfl, rfl⟩; refine ⟨by (exact kmf), ?_⟩) | (apply w_cd; rfl; rfl; apply Called.at2 (h := hA); ((focus ((repeat (first | (apply Rep2.here; ((focus ((repeat (first | exact Rep.here | apply Rep.there)); done)))) | (apply Rep2.other; ((focus ((repeat (first | exact Rep.here | apply Rep.there)); done)))) | apply Rep2.there)); done))); ((exact kmf))) | refine spl ?_ ?_ | intro hc)
    refine AtM_ret1 (.inl rfl) (by (focus ((repeat (first | exact Taken.nil | (apply Taken.cons; (focus ((repeat (first | exact Del.here | apply Del.there)); done))))); done))) Try.results34 rfl ⟨_, rfl, rfl⟩ (fun w h => ?_)
    obtain ⟨v, ho, h0⟩ := gat_open (Sel.sat (by (focus ((repeat (first | exact Sel.refl | (apply Sel.cons; (focus ((repeat (first | exact Del.here | apply Del.there)); done))) | refine Sel.drop ?_)); done))) h : Sat w (gat b lv xs ls (livP 0 ls) :: allH bt p lv (qsOf ls) :: R))
    rw [hlow] at h0 ho
    have h1 : Sat w (allH bt p lv (qsOf ls) :: pt b 98 [v] :: sl 103 3 v ((liveT T).map prE) :: thsH ls :: libH lv xs :: R) := Sel.sat (by (focus ((repeat (first | exact Sel.refl | (apply Sel.cons; (focus ((repeat (first | exact Del.here | apply Del.there)); done))) | refine Sel.drop ?_)); done))) h0
    unfold allH at h1
    have h2 : Sat w (pt bt 94 [.pointer (some ⟨p, 1, none⟩)] :: pt p 69 (lv :: (qsOf ls).map ptrO) :: pt b 98 [v] :: sl 103 3 v ((liveT T).map prE) :: thsH ls :: libH lv xs :: R) := Sat.all_iff.1 h1
    have h3 : Sat w (pt p 69 (lv :: (qsOf ls).map ptrO) :: thsH ls :: libH lv xs :: pt b 98 [v] :: sl 103 3 v ((liveT T).map prE) :: R) := Sel.sat (by (focus ((repeat (first | exact Sel.refl | (apply Sel.cons; (focus ((repeat (first | exact Del.here | apply Del.there)); done))) | refine Sel.drop ?_)); done))) h2
    have h4 := tbl_fold hok h3
    exact trP_fold ho (Sel.sat (by (focus ((repeat (first | exact Sel.refl | (apply Sel.cons; (focus ((repeat (first | exact Del.here | apply Del.there)); done))) | refine Sel.drop ?_)); done))) h4)
/-! ### Many -/
def cntH (b : Nat) (k : Nat) : HP := pt b 3 [int k]
def cntStep (k : Nat) (_ : List Value) : Option Code × Nat := (none, k + 1)
theorem cnt_goes (l : List Pr) (h : l.length ≤ 64) : Goes (fun (s : Nat × Option Code) xs => ((cntStep s.1 xs).1.isNone, ((cntStep s.1 xs).2, (cntStep s.1 xs).1))) (fun s xs => s.2 = none ∧ (s.1 ≤ 64 ∧ xs.length = 2)) (livG l) 0 (0, none) (l.length, none) := by
  have key : ∀ m i, i + m = l.length → Goes (fun (s : Nat × Option Code) xs => ((cntStep s.1 xs).1.isNone, ((cntStep s.1 xs).2, (cntStep s.1 xs).1))) (fun s xs => s.2 = none ∧ (s.1 ≤ 64 ∧ xs.length = 2)) (livG l) i (i, none) (l.length, none) := by
    intro m
    induction m with
    | zero =>
      intro i hi
      obtain rfl : i = l.length := by omega
      exact .stop (by unfold livG; simp)
    | succ m ih =>
      intro i hi
      have hlt : i < l.length := by omega
      exact .next (x := [int l[i].1, .agg #[int l[i].2.1, int l[i].2.2]]) (by unfold livG; simp [hlt]) ⟨rfl, by show i ≤ 64; omega, rfl⟩ (s' := (i + 1, none)) rfl (ih (i + 1) (by omega))
  exact key l.length 0 (by omega)
set_option maxHeartbeats 8000000 in
theorem Many_ok (p : Nat) (T : Tab) (h64 : (liveT T).length ≤ 64) (R : List HP) : Called Try.prog 13 [ptr p] (tbl p T :: R) (is (int (liveT T).length) (tbl p T :: R)) := by
  refine FnM1 Try.func13 rfl Try.ntmps13 rfl ?_
  (repeat' first | refine stp ?_ | intro v' hv' | intro (b : Nat) | (apply w_convU; rfl; rfl; omega; omega) | (apply w_convI; rfl; rfl; omega; omega) | (apply w_quoU; rfl; rfl; rfl; omega; omega; omega) | (apply w_remU; rfl; rfl; rfl; omega; omega) | (apply w_minL; rfl; rfl; rfl; omega) | (apply w_minG; rfl; rfl; rfl; omega) | (apply w_min; rfl; rfl; rfl) | (apply w_mfR; rfl; rfl) | (apply w_cvp; rfl; rfl; exact inferInstance; rfl; rfl; assumption) | (apply w_eqS2T; rfl; rfl; rfl; omega) | (apply w_eqS2F; rfl; rfl; rfl; omega) | (apply w_neS2T; rfl; rfl; rfl; omega) | (apply w_neS2F; rfl; rfl; rfl; omega) | (apply w_eqS3T; rfl; rfl; rfl; omega) | (apply w_eqS3F; rfl; rfl; rfl; omega) | (apply w_neS3T; rfl; rfl; rfl; omega) | (apply w_neS3F; rfl; rfl; rfl; omega) | (apply w_eqS3; rfl; rfl; rfl) | (apply w_neS3; rfl; rfl; rfl) | (apply w_eqS2; rfl; rfl; rfl) | (apply w_neS2; rfl; rfl; rfl) | (apply w_maxL; rfl; rfl; rfl; omega) | (apply w_maxG; rfl; rfl; rfl; omega) | (apply w_max; rfl; rfl; rfl) | (apply w_neB; rfl; rfl; rfl; rfl) | (apply w_eqB; rfl; rfl; rfl; rfl) | (apply w_cl; rfl; rfl; exact Called.del (by (focus ((repeat (first | exact Del.here | apply Del.there)); done))) (Live_ok _ _); exact ⟨_, _, 0, rfl, rfl⟩; rintro _ _ ⟨bt, rfl, rfl⟩; refine ⟨by (exact kmf), ?_⟩) | refine spl ?_ ?_ | intro hc)
  refine C_range (A := cntH b) (s0 := 0) (step := cntStep) (dom := fun k xs => k ≤ 64 ∧ xs.length = 2) rfl (Live1_ok bt (liveT T)) rfl (fun s xs h => h.2) (by unfold cntH; (focus ((repeat (first | exact Sel.refl | (apply Sel.cons; (focus ((repeat (first | exact Del.here | apply Del.there)); done))) | refine Sel.drop ?_)); done))) ?_ (cnt_goes _ h64) fun r => ?_
  · rintro l r k xs J ⟨hk, hx⟩
    obtain ⟨x, y, rfl⟩ : ∃ x y, xs = [x, y] := by
      match xs, hx with
      | [x, y], _ => exact ⟨x, y, rfl⟩
    apply Exists.intro
    refine ⟨fun Q r' hQ => ?_, ?_⟩
    · simp only [parF]
      (repeat' first | refine stp ?_ | intro v' hv' | intro (b : Nat) | (apply w_convU; rfl; rfl; omega; omega) | (apply w_convI; rfl; rfl; omega; omega) | (apply w_quoU; rfl; rfl; rfl; omega; omega; omega) | (apply w_remU; rfl; rfl; rfl; omega; omega) | (apply w_minL; rfl; rfl; rfl; omega) | (apply w_minG; rfl; rfl; rfl; omega) | (apply w_min; rfl; rfl; rfl) | (apply w_mfR; rfl; rfl) | (apply w_cvp; rfl; rfl; exact inferInstance; rfl; rfl; assumption) | (apply w_eqS2T; rfl; rfl; rfl; omega) | (apply w_eqS2F; rfl; rfl; rfl; omega) | (apply w_neS2T; rfl; rfl; rfl; omega) | (apply w_neS2F; rfl; rfl; rfl; omega) | (apply w_eqS3T; rfl; rfl; rfl; omega) | (apply w_eqS3F; rfl; rfl; rfl; omega) | (apply w_neS3T; rfl; rfl; rfl; omega) | (apply w_neS3F; rfl; rfl; rfl; omega) | (apply w_eqS3; rfl; rfl; rfl) | (apply w_neS3; rfl; rfl; rfl) | (apply w_eqS2; rfl; rfl; rfl) | (apply w_neS2; rfl; rfl; rfl) | (apply w_maxL; rfl; rfl; rfl; omega) | (apply w_maxG; rfl; rfl; rfl; omega) | (apply w_max; rfl; rfl; rfl) | (apply w_neB; rfl; rfl; rfl; rfl) | (apply w_eqB; rfl; rfl; rfl; rfl) | (apply w_cl; rfl; rfl; exact Called.del (by (focus ((repeat (first | exact Del.here | apply Del.there)); done))) (Live_ok _ _); exact ⟨_, _, 0, rfl, rfl⟩; rintro _ _ ⟨bt, rfl, rfl⟩; refine ⟨by (exact kmf), ?_⟩) | refine spl ?_ ?_ | intro hc)
      exact hQ
    · refine C_block ?_
      unfold cntStep cntH
      dsimp only
      (repeat' first | refine stp ?_ | intro v' hv' | intro (b : Nat) | (apply w_convU; rfl; rfl; omega; omega) | (apply w_convI; rfl; rfl; omega; omega) | (apply w_quoU; rfl; rfl; rfl; omega; omega; omega) | (apply w_remU; rfl; rfl; rfl; omega; omega) | (apply w_minL; rfl; rfl; rfl; omega) | (apply w_minG; rfl; rfl; rfl; omega) | (apply w_min; rfl; rfl; rfl) | (apply w_mfR; rfl; rfl) | (apply w_cvp; rfl; rfl; exact inferInstance; rfl; rfl; assumption) | (apply w_eqS2T; rfl; rfl; rfl; omega) | (apply w_eqS2F; rfl; rfl; rfl; omega) | (apply w_neS2T; rfl; rfl; rfl; omega) | (apply w_neS2F; rfl; rfl; rfl; omega) | (apply w_eqS3T; rfl; rfl; rfl; omega) | (apply w_eqS3F; rfl; rfl; rfl; omega) | (apply w_neS3T; rfl; rfl; rfl; omega) | (apply w_neS3F; rfl; rfl; rfl; omega) | (apply w_eqS3; rfl; rfl; rfl) | (apply w_neS3; rfl; rfl; rfl) | (apply w_eqS2; rfl; rfl; rfl) | (apply w_neS2; rfl; rfl; rfl) | (apply w_maxL; rfl; rfl; rfl; omega) | (apply w_maxG; rfl; rfl; rfl; omega) | (apply w_max; rfl; rfl; rfl) | (apply w_neB; rfl; rfl; rfl; rfl) | (apply w_eqB; rfl; rfl; rfl; rfl) | (apply w_cl; rfl; rfl; exact Called.del (by (focus ((repeat (first | exact Del.here | apply Del.there)); done))) (Live_ok _ _); exact ⟨_, _, 0, rfl, rfl⟩; rintro _ _ ⟨bt, rfl, rfl⟩; refine ⟨by (exact kmf), ?_⟩) | refine spl ?_ ?_ | intro hc)
      exact At_round_normal (by (exact frm))
  · simp only [ends]
    unfold cntH
    (repeat' first | refine stp ?_ | intro v' hv' | intro (b : Nat) | (apply w_convU; rfl; rfl; omega; omega) | (apply w_convI; rfl; rfl; omega; omega) | (apply w_quoU; rfl; rfl; rfl; omega; omega; omega) | (apply w_remU; rfl; rfl; rfl; omega; omega) | (apply w_minL; rfl; rfl; rfl; omega) | (apply w_minG; rfl; rfl; rfl; omega) | (apply w_min; rfl; rfl; rfl) | (apply w_mfR; rfl; rfl) | (apply w_cvp; rfl; rfl; exact inferInstance; rfl; rfl; assumption) | (apply w_eqS2T; rfl; rfl; rfl; omega) | (apply w_eqS2F; rfl; rfl; rfl; omega) | (apply w_neS2T; rfl; rfl; rfl; omega) | (apply w_neS2F; rfl; rfl; rfl; omega) | (apply w_eqS3T; rfl; rfl; rfl; omega) | (apply w_eqS3F; rfl; rfl; rfl; omega) | (apply w_neS3T; rfl; rfl; rfl; omega) | (apply w_neS3F; rfl; rfl; rfl; omega) | (apply w_eqS3; rfl; rfl; rfl) | (apply w_neS3; rfl; rfl; rfl) | (apply w_eqS2; rfl; rfl; rfl) | (apply w_neS2; rfl; rfl; rfl) | (apply w_maxL; rfl; rfl; rfl; omega) | (apply w_maxG; rfl; rfl; rfl; omega) | (apply w_max; rfl; rfl; rfl) | (apply w_neB; rfl; rfl; rfl; rfl) | (apply w_eqB; rfl; rfl; rfl; rfl) | (apply w_cl; rfl; rfl; exact Called.del (by (focus ((repeat (first | exact Del.here | apply Del.there)); done))) (Live_ok _ _); exact ⟨_, _, 0, rfl, rfl⟩; rintro _ _ ⟨bt, rfl, rfl⟩; refine ⟨by (exact kmf), ?_⟩) | refine spl ?_ ?_ | intro hc)
    exact AtM_ret1 (.inl rfl) (by (focus ((repeat (first | exact Taken.nil | (apply Taken.cons; (focus ((repeat (first | exact Del.here | apply Del.there)); done))))); done))) Try.results13 rfl ⟨rfl, rfl⟩ (by (exact frm))
theorem live_64 {T : Tab} {lv : Value} {xs : List (Value × List Ins)} {ls : List (Option (Nat × Th))} (h : TabOk T lv xs ls) : (liveT T).length ≤ 64 := by
  rw [← live_low h]
  have := livP_len ls 0
  rw [h.n64] at this; exact this
end Go.Proofs.Ytmkbijjmipppaaa
