/- mutex: the laws' awake and keys. Conditions: none. -/
import Derived.Test.YtoaaoijdknbanaaMutW
set_option linter.all false
set_option linter.deprecated false
namespace Go.Proofs.Ytoaaoijdknbanaa
open Go.Sep
variable [B0 : Base]
structure MtK (M : List Lk) : Prop where
  wf : WfM M
  pos : 1 ≤ M.length
  few : M.length ≤ 32
theorem mtb_know {tb : Nat} {M : List Lk} {R : List HP} {w : World} (hs : Sat w (mtb tb M :: R)) : MtK M := by
  obtain ⟨⟨lv, ls⟩, hx⟩ := Sat.ex_iff.1 hs
  obtain ⟨hok, -⟩ := Sat.fact_iff.1 (Sat.all_iff.1 hx)
  have h1 := hok.len
  have h2 := hok.few
  have h3 := hok.pos
  dsimp only at *
  exact ⟨hok.wf, by omega, by omega⟩
theorem rtb_know {tb : Nat} {M : RT} {R : List HP} {w : World} (hs : Sat w (rtb tb M :: R)) : WfR M := by
  obtain ⟨⟨lv, ls⟩, hx⟩ := Sat.ex_iff.1 hs
  obtain ⟨hok, -⟩ := Sat.fact_iff.1 (Sat.all_iff.1 hx)
  exact hok.wf
theorem waitersM_b {M : List Lk} (h : WfM M) (m : Int) : (waitersM M m).length ≤ 64 := by
  unfold waitersM
  split
  · rename_i hm
    have hk : M[m.toNat]? = some M[m.toNat] := List.getElem?_eq_getElem (by omega)
    rw [lkA_eq hk]
    exact h.q64 (List.mem_of_getElem? hk)
  · exact Nat.zero_le _
/-! ### keys -/
def kqH (b : Nat) (out : List Ky) : HP := ex fun v => all [fact (out.length ≤ 100), pt b 42 [v], sl 46 2 v (out.map kyE)]
theorem kqH_fold {b : Nat} {out : List Ky} {v : Value} {w : World} {R : List HP} (h : out.length ≤ 100) (hs : Sat w (pt b 42 [v] :: sl 46 2 v (out.map kyE) :: R)) : Sat w (kqH b out :: R) :=
  Sat.ex_iff.2 ⟨v, Sat.all_iff.2 (Sat.fact_iff.2 ⟨h, hs⟩)⟩
theorem C_kqH {P : Program} {ro : Option Nat} {Q : Exit → Act → World → Prop} {n : Nat} {F : Fr} {ds : List Deferred} {R : List HP} {cd : Code} {b : Nat} {out : List Ky}
    (h : ∀ v, out.length ≤ 100 → IsSl v out.length → C P ro cd Q n F ds (pt b 42 [v] :: sl 46 2 v (out.map kyE) :: R)) : C P ro cd Q n F ds (kqH b out :: R) := by
  unfold kqH
  refine C_ex fun v => ?_
  refine C_sat (fun w h => Sat.all_iff.1 h) ?_
  refine C_fact fun ho => ?_
  exact C_isl (v := v) (by (focus ((repeat (first | assumption | exact Len.of ‹_› | exact .slm | exact .sl | apply Len.there)); done))) fun hN _ => h v ho hN
theorem W_kqH {P : Program} {ro : Option Nat} {ops : Array Oper} {Q : Exit → Act → World → Prop} {n : Nat} {F : Fr} {ds : List Deferred} {R : List HP} {cd : List Oper} {b : Nat} {out : List Ky}
    (h : ∀ v, out.length ≤ 100 → IsSl v out.length → W P ro none ops Q n cd F ds (pt b 42 [v] :: sl 46 2 v (out.map kyE) :: R)) : W P ro none ops Q n cd F ds (kqH b out :: R) := by
  unfold kqH
  refine W_ex fun v => ?_
  refine W_know (p := out.length ≤ 100) (fun w h => (Sat.fact_iff.1 (Sat.all_iff.1 h)).1) fun ho => ?_
  refine W_sat (fun w h => (Sat.fact_iff.1 (Sat.all_iff.1 h)).2) ?_
  exact W_know (p := IsSl v out.length) (fun w hs => Len.slm.there.out w hs) fun hN => h v ho hN
attribute [irreducible] kqH
def kqStep (out : List Ky) (xs : List Value) : Option Code × List Ky := match xs with
  | [.agg ⟨[.int _ a, .int _ n]⟩] => (none, out ++ [⟨a, n⟩])
  | _ => (none, out)
def kqDom (out : List Ky) (xs : List Value) : Prop := ∃ x : Ky, xs = [kyV x] ∧ out.length < 100
theorem kfold_snoc (l : List Ky) : ∀ a : List Ky, l.foldl (fun o x => o ++ [x]) a = a ++ l := by
  induction l with
  | nil => intro a; simp
  | cons x l ih => intro a; rw [List.foldl_cons, ih]; simp
theorem kq_goes {l : List Ky} (h : l.length ≤ 100) : Goes (fun (s : List Ky × Option Code) xs => ((kqStep s.1 xs).1.isNone, ((kqStep s.1 xs).2, (kqStep s.1 xs).1))) (fun s xs => s.2 = none ∧ kqDom s.1 xs) (vaG l) 0 ([], none) (l, none) := by
  have := goes_fold l (fun i x => [kyV x]) (fun o x => o ++ [x]) kqStep kqDom [] fun i x hx => by
    have hi := (List.getElem?_eq_some_iff.1 hx).1
    rw [kfold_snoc, List.nil_append]
    have htl : (l.take i).length = i := by rw [List.length_take]; omega
    exact ⟨⟨x, rfl, by omega⟩, rfl⟩
  rw [kfold_snoc, List.nil_append] at this
  exact this
set_option maxHeartbeats 4000000 in
theorem keys_ok (tb : Nat) (M : List Lk) (m : Int) (h0 : 0 ≤ m) (h1 : m < M.length) (R : List HP) : Called Try.prog 19 [ptr tb, int m] (mtb tb M :: R) (fun u X => ∃ v', u = .tuple #[v', .bool true] ∧ IsSl v' (waitersM M m).length ∧ X = sl 46 2 v' ((waitersM M m).map kyE) :: mtb tb M :: R) := by
  refine FnM2 Try.func19 rfl Try.ntmps19 rfl ?_
  refine C_know (p := MtK M) (fun w hs => mtb_know hs) fun hK => ?_
  have hl64 := waitersM_b hK.wf m
  (repeat' first | refine stp ?_ | intro v' hv' | intro (b : Nat) | (apply w_convU; rfl; rfl; omega; omega) | (apply w_convI; rfl; rfl; omega; omega) | (apply w_quoU; rfl; rfl; rfl; omega; omega; omega) | (apply w_remU; rfl; rfl; rfl; omega; omega) | (apply w_minL; rfl; rfl; rfl; omega) | (apply w_minG; rfl; rfl; rfl; omega) | (apply w_min; rfl; rfl; rfl) | (apply w_mfR; rfl; rfl) | (apply w_cvp; rfl; rfl; exact inferInstance; rfl; rfl; assumption) | (apply w_eqS2T; rfl; rfl; rfl; omega) | (apply w_eqS2F; rfl; rfl; rfl; omega) | (apply w_neS2T; rfl; rfl; rfl; omega) | (apply w_neS2F; rfl; rfl; rfl; omega) | (apply w_eqS3T; rfl; rfl; rfl; omega) | (apply w_eqS3F; rfl; rfl; rfl; omega) | (apply w_neS3T; rfl; rfl; rfl; omega) | (apply w_neS3F; rfl; rfl; rfl; omega) | (apply w_eqS3; rfl; rfl; rfl) | (apply w_neS3; rfl; rfl; rfl) | (apply w_eqS2; rfl; rfl; rfl) | (apply w_neS2; rfl; rfl; rfl) | (apply w_maxL; rfl; rfl; rfl; omega) | (apply w_maxG; rfl; rfl; rfl; omega) | (apply w_max; rfl; rfl; rfl) | (apply w_neB; rfl; rfl; rfl; rfl) | (apply w_eqB; rfl; rfl; rfl; rfl) | (apply w_eqf; rfl; rfl) | (apply w_cl; rfl; rfl; exact Waiters_ok tb M m h0 h1 _; exact ⟨_, _, 0, .slice none 0 0, rfl, hnk, rfl⟩; rintro _ _ ⟨bt, vt, rfl, hvt, rfl⟩; refine ⟨by (exact kmf), ?_⟩) | refine spl ?_ ?_ | intro hc)
  rename_i b2
  obtain ⟨b3, hb3⟩ : ∃ r, r = b := ⟨_, rfl⟩
  subst hb3
  apply w_cl
  rfl; rfl; exact Called.pre (Waiters_ok tb M m h0 h1 (pt b3 4 [.bool false] :: pt b2 42 [.slice none 0 0] :: R)) (by (exact frm))
  obtain ⟨v0, hv0⟩ := IsSl.any (N := (waitersM M m).length) (by omega)
  exact ⟨_, _, 0, v0, rfl, hv0, rfl⟩
  rintro _ _ ⟨bt, vt, rfl, hvt, rfl⟩
  refine ⟨by (exact kmf), ?_⟩
  (repeat' first | refine stp ?_ | intro v' hv' | intro (b : Nat) | (apply w_convU; rfl; rfl; omega; omega) | (apply w_convI; rfl; rfl; omega; omega) | (apply w_quoU; rfl; rfl; rfl; omega; omega; omega) | (apply w_remU; rfl; rfl; rfl; omega; omega) | (apply w_minL; rfl; rfl; rfl; omega) | (apply w_minG; rfl; rfl; rfl; omega) | (apply w_min; rfl; rfl; rfl) | (apply w_mfR; rfl; rfl) | (apply w_cvp; rfl; rfl; exact inferInstance; rfl; rfl; assumption) | (apply w_eqS2T; rfl; rfl; rfl; omega) | (apply w_eqS2F; rfl; rfl; rfl; omega) | (apply w_neS2T; rfl; rfl; rfl; omega) | (apply w_neS2F; rfl; rfl; rfl; omega) | (apply w_eqS3T; rfl; rfl; rfl; omega) | (apply w_eqS3F; rfl; rfl; rfl; omega) | (apply w_neS3T; rfl; rfl; rfl; omega) | (apply w_neS3F; rfl; rfl; rfl; omega) | (apply w_eqS3; rfl; rfl; rfl) | (apply w_neS3; rfl; rfl; rfl) | (apply w_eqS2; rfl; rfl; rfl) | (apply w_neS2; rfl; rfl; rfl) | (apply w_maxL; rfl; rfl; rfl; omega) | (apply w_maxG; rfl; rfl; rfl; omega) | (apply w_max; rfl; rfl; rfl) | (apply w_neB; rfl; rfl; rfl; rfl) | (apply w_eqB; rfl; rfl; rfl; rfl) | (apply w_eqf; rfl; rfl) | (apply w_cl; rfl; rfl; exact Waiters_ok tb M m h0 h1 _; exact ⟨_, _, 0, .slice none 0 0, rfl, hnk, rfl⟩; rintro _ _ ⟨bt, vt, rfl, hvt, rfl⟩; refine ⟨by (exact kmf), ?_⟩) | refine spl ?_ ?_ | intro hc)
  obtain ⟨b5, hb5⟩ : ∃ r, r = b := ⟨_, rfl⟩
  subst hb5
  refine C_sat (L' := vaH bt vt (waitersM M m) :: kqH b5 [] :: mtb tb M :: pt b3 4 [.bool false] :: pt b2 42 [.slice none 0 0] :: R) (fun w hs => ?_) ?_
  · have h0 : Sat w (sl 46 2 (.slice none 0 0) (([] : List Ky).map kyE) :: pt b5 42 [.slice none 0 0] :: vaH bt vt (waitersM M m) :: mtb tb M :: pt b3 4 [.bool false] :: pt b2 42 [.slice none 0 0] :: R) := Sat.sl_nil (E := 46) (n := 2) (Sel.sat (by (focus ((repeat (first | exact Sel.refl | (apply Sel.cons; (focus ((repeat (first | exact Del.here | apply Del.there)); done))) | refine Sel.drop ?_)); done))) hs)
    have h2 := kqH_fold (by simp) (h0.perm (.swap ..))
    exact Sel.sat (by (focus ((repeat (first | exact Sel.refl | (apply Sel.cons; (focus ((repeat (first | exact Del.here | apply Del.there)); done))) | refine Sel.drop ?_)); done))) h2
  refine C_rangeE (A := kqH b5) (s0 := []) (step := kqStep) (dom := kqDom) rfl (Values1_ok bt vt (waitersM M m) hvt) rfl (fun s xs hd => by obtain ⟨x, rfl, -⟩ := hd; rfl) Sel.refl ?_ (kq_goes (by omega)) fun r => ?_
  · rintro lb r out xs J ⟨⟨a, id⟩, rfl, hlt⟩
    apply Exists.intro
    refine ⟨fun b => pt b 46 [int a, int id], fun Q r' hQ => ?_, fun b => ?_⟩
    · simp only [parF]
      (repeat' first | refine stp ?_ | intro v' hv' | intro (b : Nat) | (apply w_convU; rfl; rfl; omega; omega) | (apply w_convI; rfl; rfl; omega; omega) | (apply w_quoU; rfl; rfl; rfl; omega; omega; omega) | (apply w_remU; rfl; rfl; rfl; omega; omega) | (apply w_minL; rfl; rfl; rfl; omega) | (apply w_minG; rfl; rfl; rfl; omega) | (apply w_min; rfl; rfl; rfl) | (apply w_mfR; rfl; rfl) | (apply w_cvp; rfl; rfl; exact inferInstance; rfl; rfl; assumption) | (apply w_eqS2T; rfl; rfl; rfl; omega) | (apply w_eqS2F; rfl; rfl; rfl; omega) | (apply w_neS2T; rfl; rfl; rfl; omega) | (apply w_neS2F; rfl; rfl; rfl; omega) | (apply w_eqS3T; rfl; rfl; rfl; omega) | (apply w_eqS3F; rfl; rfl; rfl; omega) | (apply w_neS3T; rfl; rfl; rfl; omega) | (apply w_neS3F; rfl; rfl; rfl; omega) | (apply w_eqS3; rfl; rfl; rfl) | (apply w_neS3; rfl; rfl; rfl) | (apply w_eqS2; rfl; rfl; rfl) | (apply w_neS2; rfl; rfl; rfl) | (apply w_maxL; rfl; rfl; rfl; omega) | (apply w_maxG; rfl; rfl; rfl; omega) | (apply w_max; rfl; rfl; rfl) | (apply w_neB; rfl; rfl; rfl; rfl) | (apply w_eqB; rfl; rfl; rfl; rfl) | (apply w_eqf; rfl; rfl) | (apply w_cl; rfl; rfl; exact Waiters_ok tb M m h0 h1 _; exact ⟨_, _, 0, .slice none 0 0, rfl, hnk, rfl⟩; rintro _ _ ⟨bt, vt, rfl, hvt, rfl⟩; refine ⟨by (exact kmf), ?_⟩) | refine spl ?_ ?_ | intro hc)
      exact hQ b
    · refine C_block ?_
      show C Try.prog _ _ (Exit.inBlock _ (RPost none (kqH b5 (out ++ [⟨a, id⟩]) :: blk lb (.loop r) :: J))) _ _ _ _
      refine C_sat (L' := kqH b5 out :: pt b 46 [int a, int id] :: blk lb (.loop r) :: J) (by (exact frm)) ?_
      refine C_kqH fun v2 ho hv2 => ?_
      (repeat' first | refine stp ?_ | intro v' hv' | intro (b : Nat) | (apply w_convU; rfl; rfl; omega; omega) | (apply w_convI; rfl; rfl; omega; omega) | (apply w_quoU; rfl; rfl; rfl; omega; omega; omega) | (apply w_remU; rfl; rfl; rfl; omega; omega) | (apply w_minL; rfl; rfl; rfl; omega) | (apply w_minG; rfl; rfl; rfl; omega) | (apply w_min; rfl; rfl; rfl) | (apply w_mfR; rfl; rfl) | (apply w_cvp; rfl; rfl; exact inferInstance; rfl; rfl; assumption) | (apply w_eqS2T; rfl; rfl; rfl; omega) | (apply w_eqS2F; rfl; rfl; rfl; omega) | (apply w_neS2T; rfl; rfl; rfl; omega) | (apply w_neS2F; rfl; rfl; rfl; omega) | (apply w_eqS3T; rfl; rfl; rfl; omega) | (apply w_eqS3F; rfl; rfl; rfl; omega) | (apply w_neS3T; rfl; rfl; rfl; omega) | (apply w_neS3F; rfl; rfl; rfl; omega) | (apply w_eqS3; rfl; rfl; rfl) | (apply w_neS3; rfl; rfl; rfl) | (apply w_eqS2; rfl; rfl; rfl) | (apply w_neS2; rfl; rfl; rfl) | (apply w_maxL; rfl; rfl; rfl; omega) | (apply w_maxG; rfl; rfl; rfl; omega) | (apply w_max; rfl; rfl; rfl) | (apply w_neB; rfl; rfl; rfl; rfl) | (apply w_eqB; rfl; rfl; rfl; rfl) | (apply w_eqf; rfl; rfl) | (apply w_cl; rfl; rfl; exact Waiters_ok tb M m h0 h1 _; exact ⟨_, _, 0, .slice none 0 0, rfl, hnk, rfl⟩; rintro _ _ ⟨bt, vt, rfl, hvt, rfl⟩; refine ⟨by (exact kmf), ?_⟩) | refine spl ?_ ?_ | intro hc)
      ((apply w_apM (l2 := [(⟨a, id⟩ : Ky)]); rfl; rfl; rfl; (focus ((repeat (first | exact Del.here | apply Del.there)); done)); ((exact srf)); (intro; rfl); (first | (simp only [List.length_cons, List.length_nil]; omega) | (simp; omega)); (first | (simp only [List.length_cons, List.length_nil]; omega) | (simp; omega))); intro v' hv'; refine ⟨by (exact kmf), ?_⟩)
      (repeat' first | refine stp ?_ | intro v' hv' | intro (b : Nat) | (apply w_convU; rfl; rfl; omega; omega) | (apply w_convI; rfl; rfl; omega; omega) | (apply w_quoU; rfl; rfl; rfl; omega; omega; omega) | (apply w_remU; rfl; rfl; rfl; omega; omega) | (apply w_minL; rfl; rfl; rfl; omega) | (apply w_minG; rfl; rfl; rfl; omega) | (apply w_min; rfl; rfl; rfl) | (apply w_mfR; rfl; rfl) | (apply w_cvp; rfl; rfl; exact inferInstance; rfl; rfl; assumption) | (apply w_eqS2T; rfl; rfl; rfl; omega) | (apply w_eqS2F; rfl; rfl; rfl; omega) | (apply w_neS2T; rfl; rfl; rfl; omega) | (apply w_neS2F; rfl; rfl; rfl; omega) | (apply w_eqS3T; rfl; rfl; rfl; omega) | (apply w_eqS3F; rfl; rfl; rfl; omega) | (apply w_neS3T; rfl; rfl; rfl; omega) | (apply w_neS3F; rfl; rfl; rfl; omega) | (apply w_eqS3; rfl; rfl; rfl) | (apply w_neS3; rfl; rfl; rfl) | (apply w_eqS2; rfl; rfl; rfl) | (apply w_neS2; rfl; rfl; rfl) | (apply w_maxL; rfl; rfl; rfl; omega) | (apply w_maxG; rfl; rfl; rfl; omega) | (apply w_max; rfl; rfl; rfl) | (apply w_neB; rfl; rfl; rfl; rfl) | (apply w_eqB; rfl; rfl; rfl; rfl) | (apply w_eqf; rfl; rfl) | (apply w_cl; rfl; rfl; exact Waiters_ok tb M m h0 h1 _; exact ⟨_, _, 0, .slice none 0 0, rfl, hnk, rfl⟩; rintro _ _ ⟨bt, vt, rfl, hvt, rfl⟩; refine ⟨by (exact kmf), ?_⟩) | refine spl ?_ ?_ | intro hc)
      refine At_round_normal (fun w h => kqH_fold (v := v') (by simp; omega) ?_)
      exact Sel.sat (by (focus ((repeat (first | exact Sel.refl | (apply Sel.cons; (focus ((repeat (first | exact Del.here | apply Del.there)); done))) | refine Sel.drop ?_)); done))) h
  · simp only [ends]
    (repeat' first | refine stp ?_ | intro v' hv' | intro (b : Nat) | (apply w_convU; rfl; rfl; omega; omega) | (apply w_convI; rfl; rfl; omega; omega) | (apply w_quoU; rfl; rfl; rfl; omega; omega; omega) | (apply w_remU; rfl; rfl; rfl; omega; omega) | (apply w_minL; rfl; rfl; rfl; omega) | (apply w_minG; rfl; rfl; rfl; omega) | (apply w_min; rfl; rfl; rfl) | (apply w_mfR; rfl; rfl) | (apply w_cvp; rfl; rfl; exact inferInstance; rfl; rfl; assumption) | (apply w_eqS2T; rfl; rfl; rfl; omega) | (apply w_eqS2F; rfl; rfl; rfl; omega) | (apply w_neS2T; rfl; rfl; rfl; omega) | (apply w_neS2F; rfl; rfl; rfl; omega) | (apply w_eqS3T; rfl; rfl; rfl; omega) | (apply w_eqS3F; rfl; rfl; rfl; omega) | (apply w_neS3T; rfl; rfl; rfl; omega) | (apply w_neS3F; rfl; rfl; rfl; omega) | (apply w_eqS3; rfl; rfl; rfl) | (apply w_neS3; rfl; rfl; rfl) | (apply w_eqS2; rfl; rfl; rfl) | (apply w_neS2; rfl; rfl; rfl) | (apply w_maxL; rfl; rfl; rfl; omega) | (apply w_maxG; rfl; rfl; rfl; omega) | (apply w_max; rfl; rfl; rfl) | (apply w_neB; rfl; rfl; rfl; rfl) | (apply w_eqB; rfl; rfl; rfl; rfl) | (apply w_eqf; rfl; rfl) | (apply w_cl; rfl; rfl; exact Waiters_ok tb M m h0 h1 _; exact ⟨_, _, 0, .slice none 0 0, rfl, hnk, rfl⟩; rintro _ _ ⟨bt, vt, rfl, hvt, rfl⟩; refine ⟨by (exact kmf), ?_⟩) | refine spl ?_ ?_ | intro hc)
    refine W_sat (L' := kqH b5 (waitersM M m) :: mtb tb M :: mblk r :: pt b3 4 [.bool false] :: pt b2 42 [.slice none 0 0] :: R) (by (exact frm)) ?_
    refine W_kqH fun v2 ho hv2 => ?_
    (repeat' first | refine stp ?_ | intro v' hv' | intro (b : Nat) | (apply w_convU; rfl; rfl; omega; omega) | (apply w_convI; rfl; rfl; omega; omega) | (apply w_quoU; rfl; rfl; rfl; omega; omega; omega) | (apply w_remU; rfl; rfl; rfl; omega; omega) | (apply w_minL; rfl; rfl; rfl; omega) | (apply w_minG; rfl; rfl; rfl; omega) | (apply w_min; rfl; rfl; rfl) | (apply w_mfR; rfl; rfl) | (apply w_cvp; rfl; rfl; exact inferInstance; rfl; rfl; assumption) | (apply w_eqS2T; rfl; rfl; rfl; omega) | (apply w_eqS2F; rfl; rfl; rfl; omega) | (apply w_neS2T; rfl; rfl; rfl; omega) | (apply w_neS2F; rfl; rfl; rfl; omega) | (apply w_eqS3T; rfl; rfl; rfl; omega) | (apply w_eqS3F; rfl; rfl; rfl; omega) | (apply w_neS3T; rfl; rfl; rfl; omega) | (apply w_neS3F; rfl; rfl; rfl; omega) | (apply w_eqS3; rfl; rfl; rfl) | (apply w_neS3; rfl; rfl; rfl) | (apply w_eqS2; rfl; rfl; rfl) | (apply w_neS2; rfl; rfl; rfl) | (apply w_maxL; rfl; rfl; rfl; omega) | (apply w_maxG; rfl; rfl; rfl; omega) | (apply w_max; rfl; rfl; rfl) | (apply w_neB; rfl; rfl; rfl; rfl) | (apply w_eqB; rfl; rfl; rfl; rfl) | (apply w_eqf; rfl; rfl) | (apply w_cl; rfl; rfl; exact Waiters_ok tb M m h0 h1 _; exact ⟨_, _, 0, .slice none 0 0, rfl, hnk, rfl⟩; rintro _ _ ⟨bt, vt, rfl, hvt, rfl⟩; refine ⟨by (exact kmf), ?_⟩) | refine spl ?_ ?_ | intro hc)
    refine AtM_retR (by (first | exact .inl rfl | exact .inr rfl)) (by (focus ((repeat (first | exact Taken.nil | (apply Taken.cons; (focus ((repeat (first | exact Del.here | apply Del.there)); done))))); done))) Try.results19 (by (focus ((repeat (first | exact ResR.nil | (apply ResR.tmp; rfl) | (apply ResR.one; rfl; (focus ((repeat (first | assumption | exact .pt rfl | exact .sl ‹_› rfl | exact .sl1 (by first | assumption | rfl) | apply Rd.there)); done))) | (apply ResR.agg; rfl; (focus ((repeat (first | assumption | exact .pt | exact .sl ‹_› | apply RdAll.there)); done)); rfl))); done))) ⟨v2, rfl, hv2, rfl⟩ (fun w hs => ?_)
    exact Sel.sat (by (focus ((repeat (first | exact Sel.refl | (apply Sel.cons; (focus ((repeat (first | exact Del.here | apply Del.there)); done))) | refine Sel.drop ?_)); done))) hs
end Go.Proofs.Ytoaaoijdknbanaa
