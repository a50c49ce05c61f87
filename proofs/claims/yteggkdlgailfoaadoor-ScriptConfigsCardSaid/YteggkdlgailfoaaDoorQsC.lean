/- prog: the lines of a text, and what one tells. Conditions: none. -/
import Derived.Test.YteggkdlgailfoaaDoorQsB
set_option linter.all false
set_option linter.deprecated false
namespace Go.Sep
variable [B0 : Base]
/-- An iterator whose own things are others at the end. -/
def IterT (P : Program) (f : FuncId) (fs cs : List Value) (own own2 : HP) (g : Nat → Option (List Value)) : Prop :=
  ∀ (τ : Type) (B : τ → HP) (st : τ → List Value → Bool × τ) (dom : τ → List Value → Prop) (yf : Value) (s t : τ) (R : List HP), Yields P yf B st dom → Goes st dom g 0 s t →
    Called P f (fs ++ [yf] ++ cs) (own :: B s :: R) (is (.tuple #[]) (own2 :: B t :: R))
section
variable {P : Program} {n : Nat} {F : Fr} {σ : Type} {A : σ → HP} {step : σ → List Value → Option Code × σ} {dom : σ → List Value → Prop}
theorem C_rangeT {g : Operand} {ps : Array Tmp} {assign body : Code} {f : FuncId} {fs cs : List Value} {own own2 : HP} {it : Nat → Option (List Value)} {s0 : σ} {t : σ × Option Code} {Q : Exit → Act → World → Prop} {ds : List Deferred} {L R : List HP} [he : CanEnter P f]
    (hg : ev F g = some (.func (.func f) fs.toArray cs.toArray)) (hit : IterT P f fs cs own own2 it) (hps : ps.toList.all (Nat.blt · n) = true) (hlen : ∀ s xs, dom s xs → xs.length = ps.size)
    (hL : Sel L (own :: A s0 :: R)) (hround : RoundsE P n F ps.toList assign body A step dom)
    (hgo : Goes (fun (s : σ × Option Code) xs => ((step s.1 xs).1.isNone, ((step s.1 xs).2, (step s.1 xs).1))) (fun s xs => s.2 = none ∧ dom s.1 xs) it 0 (s0, none) t)
    (hk : ∀ r, ends Q P n F (mk r :: ds) (mblk r :: own2 :: A t.1 :: R) t.2) : C P none (.rangeFunc g ps assign body) Q n F ds L := by
  refine C_intro fun a w hf hs => ?_
  have hfr : FrOk { tmps := a.tmps, defers := [] } n F [] := ⟨hf.size, rfl, hf.slot⟩
  refine wpIn_rangeFunc fun fn _ => ?_
  let r0 : Loop := { state := .ready, pending := none, fn := fn, tmps := a.tmps, params := ps, assign := assign, body := body, defers := w.heap.size }
  let w1 : World := (w.alloc (.deferred (some []))).alloc (.loop r0)
  refine ⟨w.heap.size + 1, [mk w.heap.size], w1, { target := .fn (.func f) cs.toArray, args := fs.toArray ++ #[yv (w.heap.size + 1)] }, w1, f, fs.toArray ++ #[yv (w.heap.size + 1)] ++ cs.toArray, w1, run_enterLoop_outer fn a.tmps ps assign body, ?_, fun _ _ => trivial, run_enter he.out _ _, fun h => by simp [Fence.wide] at h, ?_⟩
  · simp only [resolve, hf.ev hg, Deferred.ofValue, Sem.run_pure, List.map_toArray, List.map_cons, List.map_nil]
    rfl
  · rw [callsIn_Fw]
    have hs1 : Sat w1 (blk (w.heap.size + 1) (.loop r0) :: mblk w.heap.size :: L) := by
      have := (hs.alloc (.deferred (some []))).alloc (.loop r0)
      have e : (w.alloc (.deferred (some []))).heap.size = w.heap.size + 1 := Array.size_push ..
      rw [e] at this
      exact this
    have hL' : ∀ {X : List HP}, Sat w1 (X ++ L) → Sat w1 (X ++ (own :: A s0 :: R)) := by
      intro X hX
      obtain ⟨D, hD⟩ := hL.perm
      have h1 : (X ++ L).Perm (D ++ (X ++ (own :: A s0 :: R))) := by
        refine (hD.append_left X).trans ?_
        rw [← List.append_assoc, ← List.append_assoc]
        exact List.perm_append_comm.append_right _
      exact (hX.perm h1).drops
    have hs2 : Sat w1 (own :: all [A s0, recd (w.heap.size + 1) r0 none] :: mblk w.heap.size :: R) := by
      have h3 : Sat w1 (blk (w.heap.size + 1) (.loop r0) :: mblk w.heap.size :: own :: A s0 :: R) := hL' (X := [_, _]) hs1
      have h4 : Sat w1 (all [A s0, recd (w.heap.size + 1) r0 none] :: own :: mblk w.heap.size :: R) := by
        refine Sat.all_iff.2 ?_
        refine h3.perm ?_
        refine List.Perm.trans (l₂ := A s0 :: blk (w.heap.size + 1) (.loop r0) :: mblk w.heap.size :: own :: R) ?_ ?_
        · exact (List.perm_middle (a := A s0) (l₁ := [blk (w.heap.size + 1) (.loop r0), mblk w.heap.size, own]) (l₂ := R))
        · exact ((List.Perm.swap ..).cons _).cons _
      exact h4.perm (.swap ..)
    have hy := yields_of_roundsE (P := P) (l := w.heap.size + 1) (r := r0) (ps := ps) (A := A) (step := step) (dom := dom) rfl hfr hps hlen hround
    have hc := (hit _ _ _ _ _ _ _ (mblk w.heap.size :: R) hy hgo).out _ hs2
    have e1 : (fs.toArray ++ #[yv (w.heap.size + 1)] ++ cs.toArray : Array Value) = (fs ++ [yv (w.heap.size + 1)] ++ cs).toArray := by simp
    rw [e1]
    refine hc.mono fun e w3 ⟨v, hv, L', ⟨_, hM⟩, hs3⟩ => ?_
    subst hv; subst hM
    obtain ⟨ts, tp⟩ := t
    have hs4 : Sat w3 (recd (w.heap.size + 1) r0 tp :: mblk w.heap.size :: own2 :: A ts :: R) := by
      have h5 := Sat.all_iff.1 (hs3.perm (.swap ..))
      refine h5.perm ?_
      refine List.Perm.trans (l₂ := recd (w.heap.size + 1) r0 tp :: A ts :: own2 :: mblk w.heap.size :: R) (.swap ..) (.cons _ ?_)
      refine List.Perm.trans (l₂ := mblk w.heap.size :: A ts :: own2 :: R) (List.perm_middle (a := mblk w.heap.size) (l₁ := [A ts, own2]) (l₂ := R)) ((List.Perm.swap ..).cons _)
    have hk := hk w.heap.size
    cases tp with
    | none =>
      have hl := Sat.blk_heap hs4
      refine ⟨_, _, run_endLoop hl (by simp), ?_⟩
      have hs5 := (hs4.putObj (.loop { r0 with state := .exhausted })).drop
      exact At_elim hk _ _ ⟨hf.size, by simp [hf.defers], hf.slot⟩ hs5
    | some c =>
      have hl := Sat.blk_heap hs4
      refine ⟨_, _, run_endLoop hl (by simp), ?_⟩
      have hs5 := (hs4.putObj (.loop { r0 with state := .exhausted, pending := some c })).drop
      exact C_elim hk _ _ ⟨hf.size, by simp [hf.defers], hf.slot⟩ hs5
end
end Go.Sep
namespace Go.Proofs.YteggkdlgailfoaaDoor
open Go.Sep
variable [B0 : Base]
theorem indexB_lines : ∀ (s : List UInt8), (0 ≤ Lib.indexByte s 10 → linesL s = s.take ((Lib.indexByte s 10).toNat + 1) :: linesL (s.drop ((Lib.indexByte s 10).toNat + 1)) ∧ (Lib.indexByte s 10).toNat + 1 ≤ s.length) ∧ (Lib.indexByte s 10 < 0 → s ≠ [] → linesL s = [s])
  | [] => ⟨fun h => by simp [Lib.indexByte] at h, fun _ h => absurd rfl h⟩
  | b :: l => by
    obtain ⟨i1, i2⟩ := indexB_lines l
    unfold Lib.indexByte
    by_cases hb : b = 10
    · subst hb
      refine ⟨fun _ => ?_, fun h => ?_⟩
      · simp [linesL]
      · simp at h
    · have hb' : (b == 10) = false := by simpa using hb
      simp only [hb', Bool.false_eq_true, if_false]
      have hge := Lib.indexByte_ge l 10
      by_cases hm : Lib.indexByte l 10 = -1
      · have hm' : (Lib.indexByte l 10 == -1) = true := by simpa using hm
        simp only [hm', if_true]
        refine ⟨fun h => by omega, fun _ _ => ?_⟩
        rw [linesL, if_neg hb]
        cases l with
        | nil => rfl
        | cons d l => rw [i2 (by omega) (by simp)]
      · have hm' : (Lib.indexByte l 10 == -1) = false := by simpa using hm
        simp only [hm', Bool.false_eq_true, if_false]
        obtain ⟨j1, j2⟩ := i1 (by omega)
        have e : (Lib.indexByte l 10 + 1).toNat = (Lib.indexByte l 10).toNat + 1 := by omega
        refine ⟨fun _ => ?_, fun h => by omega⟩
        rw [e, linesL, if_neg hb, j1]
        exact ⟨rfl, by simpa using j2⟩
theorem kindsL_row0 {k : Nat} (h : k ≤ 9) : (kindsL.drop (k * 3)).take 3 = krow k := by
  rcases (show k = 0 ∨ k = 1 ∨ k = 2 ∨ k = 3 ∨ k = 4 ∨ k = 5 ∨ k = 6 ∨ k = 7 ∨ k = 8 ∨ k = 9 by omega) with rfl | rfl | rfl | rfl | rfl | rfl | rfl | rfl | rfl | rfl <;> rfl
set_option maxHeartbeats 2000000 in
theorem told_ok (s : List UInt8) (R : List HP) [hV : HasP R] (hs : s.length < 4294967281) : Called Tryd.prog 65 [str s] R (is (.agg (insE (toldM s)).toArray) R) := by
  have hrl : (Lib.cut s [32]).2.1.length ≤ 281474976710656 := by
    unfold Lib.cut
    split
    · simp; omega
    · simp
  have htm : toldM s = match fop (Lib.cut s [32]).1 0 10 with
    | some k => ⟨(k : Int), atoiV (Lib.cut s [32]).2.1⟩
    | none => ⟨0, 0⟩ := rfl
  refine Fn1 Tryd.func65 rfl Tryd.ntmps65 rfl ?_
  (repeat' first | refine stp ?_ | intro v' hv' | intro (b : Nat) | (apply w_convU; rfl; rfl; omega; omega) | (apply w_convI; rfl; rfl; omega; omega) | (apply w_quoU; rfl; rfl; rfl; omega; omega; omega) | (apply w_remU; rfl; rfl; rfl; omega; omega) | (apply w_minL; rfl; rfl; rfl; omega) | (apply w_minG; rfl; rfl; rfl; omega) | (apply w_min; rfl; rfl; rfl) | (apply w_mfR; rfl; rfl) | (apply w_cvp; rfl; rfl; exact inferInstance; rfl; rfl; assumption) | (apply w_eqS2T; rfl; rfl; rfl; omega) | (apply w_eqS2F; rfl; rfl; rfl; omega) | (apply w_neS2T; rfl; rfl; rfl; omega) | (apply w_neS2F; rfl; rfl; rfl; omega) | (apply w_eqS3T; rfl; rfl; rfl; omega) | (apply w_eqS3F; rfl; rfl; rfl; omega) | (apply w_neS3T; rfl; rfl; rfl; omega) | (apply w_neS3F; rfl; rfl; rfl; omega) | (apply w_eqS3; rfl; rfl; rfl) | (apply w_neS3; rfl; rfl; rfl) | (apply w_eqS2; rfl; rfl; rfl) | (apply w_neS2; rfl; rfl; rfl) | (apply w_maxL; rfl; rfl; rfl; omega) | (apply w_maxG; rfl; rfl; rfl; omega) | (apply w_max; rfl; rfl; rfl) | (apply w_neB; rfl; rfl; rfl; rfl) | (apply w_eqB; rfl; rfl; rfl; rfl) | (apply w_strA; rfl; rfl; rfl; first | omega | (simp only [List.length_append, List.length_cons, List.length_nil]; omega)) | (apply w_strET; rfl; rfl; rfl; assumption) | (apply w_strEF; rfl; rfl; rfl; assumption) | (apply w_strNF; rfl; rfl; rfl; assumption) | (apply w_strNT; rfl; rfl; rfl; assumption) | (apply w_strE; rfl; rfl; rfl; rfl) | (apply w_strN; rfl; rfl; rfl; rfl) | (apply w_strL; rfl; rfl) | (apply w_fldV; rfl; rfl; rfl) | (apply w_ixA; rfl; rfl; rfl; omega; omega; assumption) | (apply w_cp; rfl; rfl; first | assumption | exact kinds_ok) | (apply w_cd; rfl; rfl; exact Cut_ok _ _ _ hs; ((exact kmf))) | refine spl ?_ ?_ | intro hc)
  refine W_run (.inl rfl) rfl (cl rfl (Atoi_ok _ _ hrl)) ?_
  rintro _ _ ⟨e, rfl, rfl⟩
  generalize (Lib.cut s [32]).1 = w at *
  generalize (Lib.cut s [32]).2.1 = r at *
  generalize (Lib.cut s [32]).2.2 = f at *
  (repeat' first | refine stp ?_ | intro v' hv' | intro (b : Nat) | (apply w_convU; rfl; rfl; omega; omega) | (apply w_convI; rfl; rfl; omega; omega) | (apply w_quoU; rfl; rfl; rfl; omega; omega; omega) | (apply w_remU; rfl; rfl; rfl; omega; omega) | (apply w_minL; rfl; rfl; rfl; omega) | (apply w_minG; rfl; rfl; rfl; omega) | (apply w_min; rfl; rfl; rfl) | (apply w_mfR; rfl; rfl) | (apply w_cvp; rfl; rfl; exact inferInstance; rfl; rfl; assumption) | (apply w_eqS2T; rfl; rfl; rfl; omega) | (apply w_eqS2F; rfl; rfl; rfl; omega) | (apply w_neS2T; rfl; rfl; rfl; omega) | (apply w_neS2F; rfl; rfl; rfl; omega) | (apply w_eqS3T; rfl; rfl; rfl; omega) | (apply w_eqS3F; rfl; rfl; rfl; omega) | (apply w_neS3T; rfl; rfl; rfl; omega) | (apply w_neS3F; rfl; rfl; rfl; omega) | (apply w_eqS3; rfl; rfl; rfl) | (apply w_neS3; rfl; rfl; rfl) | (apply w_eqS2; rfl; rfl; rfl) | (apply w_neS2; rfl; rfl; rfl) | (apply w_maxL; rfl; rfl; rfl; omega) | (apply w_maxG; rfl; rfl; rfl; omega) | (apply w_max; rfl; rfl; rfl) | (apply w_neB; rfl; rfl; rfl; rfl) | (apply w_eqB; rfl; rfl; rfl; rfl) | (apply w_strA; rfl; rfl; rfl; first | omega | (simp only [List.length_append, List.length_cons, List.length_nil]; omega)) | (apply w_strET; rfl; rfl; rfl; assumption) | (apply w_strEF; rfl; rfl; rfl; assumption) | (apply w_strNF; rfl; rfl; rfl; assumption) | (apply w_strNT; rfl; rfl; rfl; assumption) | (apply w_strE; rfl; rfl; rfl; rfl) | (apply w_strN; rfl; rfl; rfl; rfl) | (apply w_strL; rfl; rfl) | (apply w_fldV; rfl; rfl; rfl) | (apply w_ixA; rfl; rfl; rfl; omega; omega; assumption) | (apply w_cp; rfl; rfl; first | assumption | exact kinds_ok) | (apply w_cd; rfl; rfl; exact Cut_ok _ _ _ hs; ((exact kmf))) | refine spl ?_ ?_ | intro hc)
  refine C_loopK [8, 9, 22, 23, 24, 25, 26, 27, 28, 29, 30, 31, 32, 33, 34, 35, 36, 37] (fun k : Nat => 10 - k) (fun k => [(22, int k)]) (fun _ => pt b 88 [int 0, int 0] :: R) (fun k => k ≤ 10 ∧ fop w 0 10 = fop w k (10 - k)) 0 ⟨Nat.zero_le _, rfl⟩ (by (focus ((repeat (first | exact Keep.nil | apply Keep.drop rfl | apply Keep.keep rfl)); done))) (by (exact sbf)) (fun w h => h) ?_
  rintro k ⟨hk, hz⟩
  dsimp only [List.cons_append, List.nil_append]
  by_cases hlt : k < 10
  · have hr : (kindsL.drop ((k : Int).toNat * 3)).take 3 = [str (kW k), int (kLo k), int (kHi k)] := by
      rw [show ((k : Int)).toNat = k by omega, kindsL_row0 (by omega)]
      unfold krow
      rw [str_kW]
    have hstep : fop w k (10 - k) = if kW k = w ∧ 0 < k then some k else fop w (k + 1) (10 - (k + 1)) := by
      rw [show 10 - k = (10 - (k + 1)) + 1 by omega]; rfl
    rw [hstep] at hz
    by_cases hw : kW k = w
    · by_cases h0 : 0 < k
      · rw [if_pos ⟨hw, h0⟩] at hz
        rw [hz] at htm
        rw [htm]
        (repeat' first | refine stp ?_ | intro v' hv' | intro (b : Nat) | (apply w_convU; rfl; rfl; omega; omega) | (apply w_convI; rfl; rfl; omega; omega) | (apply w_quoU; rfl; rfl; rfl; omega; omega; omega) | (apply w_remU; rfl; rfl; rfl; omega; omega) | (apply w_minL; rfl; rfl; rfl; omega) | (apply w_minG; rfl; rfl; rfl; omega) | (apply w_min; rfl; rfl; rfl) | (apply w_mfR; rfl; rfl) | (apply w_cvp; rfl; rfl; exact inferInstance; rfl; rfl; assumption) | (apply w_eqS2T; rfl; rfl; rfl; omega) | (apply w_eqS2F; rfl; rfl; rfl; omega) | (apply w_neS2T; rfl; rfl; rfl; omega) | (apply w_neS2F; rfl; rfl; rfl; omega) | (apply w_eqS3T; rfl; rfl; rfl; omega) | (apply w_eqS3F; rfl; rfl; rfl; omega) | (apply w_neS3T; rfl; rfl; rfl; omega) | (apply w_neS3F; rfl; rfl; rfl; omega) | (apply w_eqS3; rfl; rfl; rfl) | (apply w_neS3; rfl; rfl; rfl) | (apply w_eqS2; rfl; rfl; rfl) | (apply w_neS2; rfl; rfl; rfl) | (apply w_maxL; rfl; rfl; rfl; omega) | (apply w_maxG; rfl; rfl; rfl; omega) | (apply w_max; rfl; rfl; rfl) | (apply w_neB; rfl; rfl; rfl; rfl) | (apply w_eqB; rfl; rfl; rfl; rfl) | (apply w_strA; rfl; rfl; rfl; first | omega | (simp only [List.length_append, List.length_cons, List.length_nil]; omega)) | (apply w_strET; rfl; rfl; rfl; assumption) | (apply w_strEF; rfl; rfl; rfl; assumption) | (apply w_strNF; rfl; rfl; rfl; assumption) | (apply w_strNT; rfl; rfl; rfl; assumption) | (apply w_strE; rfl; rfl; rfl; rfl) | (apply w_strN; rfl; rfl; rfl; rfl) | (apply w_strL; rfl; rfl) | (apply w_fldV; rfl; rfl; rfl) | (apply w_ixA; rfl; rfl; rfl; omega; omega; assumption) | (apply w_cp; rfl; rfl; first | assumption | exact kinds_ok) | (apply w_cd; rfl; rfl; exact Cut_ok _ _ _ hs; ((exact kmf))) | refine spl ?_ ?_ | intro hc)
        all_goals first | (exfalso; omega) | skip
        all_goals (apply At_retR (by (first | exact .inl rfl | exact .inr rfl)) Tryd.results65; ((focus ((repeat (first | exact ResR.nil | (apply ResR.tmp; rfl) | (apply ResR.one; rfl; (focus ((repeat (first | assumption | exact .pt rfl | exact .sl ‹_› rfl | exact .sl1 (by first | assumption | rfl) | apply Rd.there)); done))) | (apply ResR.agg; rfl; (focus ((repeat (first | assumption | exact .pt | exact .sl ‹_› | apply RdAll.there)); done)); rfl))); done))); (refine ⟨?_, rfl⟩; rfl); ((exact frm)))
      · rw [if_neg (fun h => h0 h.2)] at hz
        (repeat' first | refine stp ?_ | intro v' hv' | intro (b : Nat) | (apply w_convU; rfl; rfl; omega; omega) | (apply w_convI; rfl; rfl; omega; omega) | (apply w_quoU; rfl; rfl; rfl; omega; omega; omega) | (apply w_remU; rfl; rfl; rfl; omega; omega) | (apply w_minL; rfl; rfl; rfl; omega) | (apply w_minG; rfl; rfl; rfl; omega) | (apply w_min; rfl; rfl; rfl) | (apply w_mfR; rfl; rfl) | (apply w_cvp; rfl; rfl; exact inferInstance; rfl; rfl; assumption) | (apply w_eqS2T; rfl; rfl; rfl; omega) | (apply w_eqS2F; rfl; rfl; rfl; omega) | (apply w_neS2T; rfl; rfl; rfl; omega) | (apply w_neS2F; rfl; rfl; rfl; omega) | (apply w_eqS3T; rfl; rfl; rfl; omega) | (apply w_eqS3F; rfl; rfl; rfl; omega) | (apply w_neS3T; rfl; rfl; rfl; omega) | (apply w_neS3F; rfl; rfl; rfl; omega) | (apply w_eqS3; rfl; rfl; rfl) | (apply w_neS3; rfl; rfl; rfl) | (apply w_eqS2; rfl; rfl; rfl) | (apply w_neS2; rfl; rfl; rfl) | (apply w_maxL; rfl; rfl; rfl; omega) | (apply w_maxG; rfl; rfl; rfl; omega) | (apply w_max; rfl; rfl; rfl) | (apply w_neB; rfl; rfl; rfl; rfl) | (apply w_eqB; rfl; rfl; rfl; rfl) | (apply w_strA; rfl; rfl; rfl; first | omega | (simp only [List.length_append, List.length_cons, List.length_nil]; omega)) | (apply w_strET; rfl; rfl; rfl; assumption) | (apply w_strEF; rfl; rfl; rfl; assumption) | (apply w_strNF; rfl; rfl; rfl; assumption) | (apply w_strNT; rfl; rfl; rfl; assumption) | (apply w_strE; rfl; rfl; rfl; rfl) | (apply w_strN; rfl; rfl; rfl; rfl) | (apply w_strL; rfl; rfl) | (apply w_fldV; rfl; rfl; rfl) | (apply w_ixA; rfl; rfl; rfl; omega; omega; assumption) | (apply w_cp; rfl; rfl; first | assumption | exact kinds_ok) | (apply w_cd; rfl; rfl; exact Cut_ok _ _ _ hs; ((exact kmf))) | refine spl ?_ ?_ | intro hc)
        all_goals first | (exfalso; omega) | skip
        all_goals exact At_againK (k + 1) ⟨hlt, hz⟩ (by omega) (by (exact sbf)) (by (exact sbf)) (by (exact frm))
    · rw [if_neg (fun h => hw h.1)] at hz
      (repeat' first | refine stp ?_ | intro v' hv' | intro (b : Nat) | (apply w_convU; rfl; rfl; omega; omega) | (apply w_convI; rfl; rfl; omega; omega) | (apply w_quoU; rfl; rfl; rfl; omega; omega; omega) | (apply w_remU; rfl; rfl; rfl; omega; omega) | (apply w_minL; rfl; rfl; rfl; omega) | (apply w_minG; rfl; rfl; rfl; omega) | (apply w_min; rfl; rfl; rfl) | (apply w_mfR; rfl; rfl) | (apply w_cvp; rfl; rfl; exact inferInstance; rfl; rfl; assumption) | (apply w_eqS2T; rfl; rfl; rfl; omega) | (apply w_eqS2F; rfl; rfl; rfl; omega) | (apply w_neS2T; rfl; rfl; rfl; omega) | (apply w_neS2F; rfl; rfl; rfl; omega) | (apply w_eqS3T; rfl; rfl; rfl; omega) | (apply w_eqS3F; rfl; rfl; rfl; omega) | (apply w_neS3T; rfl; rfl; rfl; omega) | (apply w_neS3F; rfl; rfl; rfl; omega) | (apply w_eqS3; rfl; rfl; rfl) | (apply w_neS3; rfl; rfl; rfl) | (apply w_eqS2; rfl; rfl; rfl) | (apply w_neS2; rfl; rfl; rfl) | (apply w_maxL; rfl; rfl; rfl; omega) | (apply w_maxG; rfl; rfl; rfl; omega) | (apply w_max; rfl; rfl; rfl) | (apply w_neB; rfl; rfl; rfl; rfl) | (apply w_eqB; rfl; rfl; rfl; rfl) | (apply w_strA; rfl; rfl; rfl; first | omega | (simp only [List.length_append, List.length_cons, List.length_nil]; omega)) | (apply w_strET; rfl; rfl; rfl; assumption) | (apply w_strEF; rfl; rfl; rfl; assumption) | (apply w_strNF; rfl; rfl; rfl; assumption) | (apply w_strNT; rfl; rfl; rfl; assumption) | (apply w_strE; rfl; rfl; rfl; rfl) | (apply w_strN; rfl; rfl; rfl; rfl) | (apply w_strL; rfl; rfl) | (apply w_fldV; rfl; rfl; rfl) | (apply w_ixA; rfl; rfl; rfl; omega; omega; assumption) | (apply w_cp; rfl; rfl; first | assumption | exact kinds_ok) | (apply w_cd; rfl; rfl; exact Cut_ok _ _ _ hs; ((exact kmf))) | refine spl ?_ ?_ | intro hc)
      all_goals first | (exfalso; omega) | skip
      all_goals exact At_againK (k + 1) ⟨hlt, hz⟩ (by omega) (by (exact sbf)) (by (exact sbf)) (by (exact frm))
  · have hk' : k = 10 := by omega
    subst hk'
    have hz' : fop w 0 10 = none := hz
    rw [hz'] at htm
    rw [htm]
    (repeat' first | refine stp ?_ | intro v' hv' | intro (b : Nat) | (apply w_convU; rfl; rfl; omega; omega) | (apply w_convI; rfl; rfl; omega; omega) | (apply w_quoU; rfl; rfl; rfl; omega; omega; omega) | (apply w_remU; rfl; rfl; rfl; omega; omega) | (apply w_minL; rfl; rfl; rfl; omega) | (apply w_minG; rfl; rfl; rfl; omega) | (apply w_min; rfl; rfl; rfl) | (apply w_mfR; rfl; rfl) | (apply w_cvp; rfl; rfl; exact inferInstance; rfl; rfl; assumption) | (apply w_eqS2T; rfl; rfl; rfl; omega) | (apply w_eqS2F; rfl; rfl; rfl; omega) | (apply w_neS2T; rfl; rfl; rfl; omega) | (apply w_neS2F; rfl; rfl; rfl; omega) | (apply w_eqS3T; rfl; rfl; rfl; omega) | (apply w_eqS3F; rfl; rfl; rfl; omega) | (apply w_neS3T; rfl; rfl; rfl; omega) | (apply w_neS3F; rfl; rfl; rfl; omega) | (apply w_eqS3; rfl; rfl; rfl) | (apply w_neS3; rfl; rfl; rfl) | (apply w_eqS2; rfl; rfl; rfl) | (apply w_neS2; rfl; rfl; rfl) | (apply w_maxL; rfl; rfl; rfl; omega) | (apply w_maxG; rfl; rfl; rfl; omega) | (apply w_max; rfl; rfl; rfl) | (apply w_neB; rfl; rfl; rfl; rfl) | (apply w_eqB; rfl; rfl; rfl; rfl) | (apply w_strA; rfl; rfl; rfl; first | omega | (simp only [List.length_append, List.length_cons, List.length_nil]; omega)) | (apply w_strET; rfl; rfl; rfl; assumption) | (apply w_strEF; rfl; rfl; rfl; assumption) | (apply w_strNF; rfl; rfl; rfl; assumption) | (apply w_strNT; rfl; rfl; rfl; assumption) | (apply w_strE; rfl; rfl; rfl; rfl) | (apply w_strN; rfl; rfl; rfl; rfl) | (apply w_strL; rfl; rfl) | (apply w_fldV; rfl; rfl; rfl) | (apply w_ixA; rfl; rfl; rfl; omega; omega; assumption) | (apply w_cp; rfl; rfl; first | assumption | exact kinds_ok) | (apply w_cd; rfl; rfl; exact Cut_ok _ _ _ hs; ((exact kmf))) | refine spl ?_ ?_ | intro hc)
    all_goals first | (exfalso; omega) | skip
    all_goals (apply At_retR (by (first | exact .inl rfl | exact .inr rfl)) Tryd.results65; ((focus ((repeat (first | exact ResR.nil | (apply ResR.tmp; rfl) | (apply ResR.one; rfl; (focus ((repeat (first | assumption | exact .pt rfl | exact .sl ‹_› rfl | exact .sl1 (by first | assumption | rfl) | apply Rd.there)); done))) | (apply ResR.agg; rfl; (focus ((repeat (first | assumption | exact .pt | exact .sl ‹_› | apply RdAll.there)); done)); rfl))); done))); (refine ⟨?_, rfl⟩; rfl); ((exact frm)))
/-! ### Lines -/
def lnG (s : List UInt8) (i : Nat) : Option (List Value) := (linesL s)[i]?.map fun t => [str t]
def boxH (bx : Nat) : HP := ex fun r : Value => pt bx 9 [r]
set_option maxHeartbeats 4000000 in
theorem Lines1_ok (bx : Nat) (s0 : List UInt8) (hs0 : s0.length ≤ 9223372036854775800) : IterT Tryd.prog 48 [] [ptr bx] (pt bx 9 [str s0]) (boxH bx) (lnG s0) := by
  intro τ B st dom yf s t R hy hgo
  obtain ⟨m, hgo⟩ := hgo.steps
  show Called Tryd.prog 48 [yf, ptr bx] (pt bx 9 [str s0] :: B s :: R) (is (.tuple #[]) (boxH bx :: B t :: R))
  refine Fn2 Tryd.func48 rfl Tryd.ntmps48 rfl ?_
  have hfold : ∀ (r : Value) s w, Sat w (pt bx 9 [r] :: B s :: R) → Sat w (boxH bx :: B s :: R) := fun r s w h => Sat.ex_iff.2 ⟨r, h⟩
  (repeat' first | refine stp ?_ | intro v' hv' | intro (b : Nat) | (apply w_convU; rfl; rfl; omega; omega) | (apply w_convI; rfl; rfl; omega; omega) | (apply w_quoU; rfl; rfl; rfl; omega; omega; omega) | (apply w_remU; rfl; rfl; rfl; omega; omega) | (apply w_minL; rfl; rfl; rfl; omega) | (apply w_minG; rfl; rfl; rfl; omega) | (apply w_min; rfl; rfl; rfl) | (apply w_mfR; rfl; rfl) | (apply w_cvp; rfl; rfl; exact inferInstance; rfl; rfl; assumption) | (apply w_eqS2T; rfl; rfl; rfl; omega) | (apply w_eqS2F; rfl; rfl; rfl; omega) | (apply w_neS2T; rfl; rfl; rfl; omega) | (apply w_neS2F; rfl; rfl; rfl; omega) | (apply w_eqS3T; rfl; rfl; rfl; omega) | (apply w_eqS3F; rfl; rfl; rfl; omega) | (apply w_neS3T; rfl; rfl; rfl; omega) | (apply w_neS3F; rfl; rfl; rfl; omega) | (apply w_eqS3; rfl; rfl; rfl) | (apply w_neS3; rfl; rfl; rfl) | (apply w_eqS2; rfl; rfl; rfl) | (apply w_neS2; rfl; rfl; rfl) | (apply w_maxL; rfl; rfl; rfl; omega) | (apply w_maxG; rfl; rfl; rfl; omega) | (apply w_max; rfl; rfl; rfl) | (apply w_neB; rfl; rfl; rfl; rfl) | (apply w_eqB; rfl; rfl; rfl; rfl) | (apply w_strA; rfl; rfl; rfl; first | omega | (simp only [List.length_append, List.length_cons, List.length_nil]; omega)) | (apply w_strET; rfl; rfl; rfl; assumption) | (apply w_strEF; rfl; rfl; rfl; assumption) | (apply w_strNF; rfl; rfl; rfl; assumption) | (apply w_strNT; rfl; rfl; rfl; assumption) | (apply w_strE; rfl; rfl; rfl; rfl) | (apply w_strN; rfl; rfl; rfl; rfl) | (apply w_strL; rfl; rfl) | (apply w_strSh (j' := q + 1); rfl; rfl; rfl; omega; omega) | (apply w_strSl (i' := q + 1); rfl; rfl; rfl; omega; omega) | refine spl ?_ ?_ | intro hc)
  refine C_loopK (α := List UInt8 × Nat × τ) [3, 4, 5, 6, 7, 8, 9, 10, 11, 12, 13, 14, 15, 16, 17, 18, 19, 20, 21, 22, 23, 24] (fun x => x.1.length) (fun x => [])
    (fun x => B x.2.2 :: pt bx 9 [str x.1] :: R)
    (fun x => (linesL s0).drop x.2.1 = linesL x.1 ∧ x.1.length ≤ s0.length ∧ ∃ k, GoesN st dom (lnG s0) k x.2.1 x.2.2 t) (s0, 0, s) ⟨rfl, Nat.le_refl _, m, hgo⟩ (by (focus ((repeat (first | exact Keep.nil | apply Keep.drop rfl | apply Keep.keep rfl)); done))) (by (exact sbf)) (by (exact frm)) ?_
  rintro ⟨r, i, s⟩ ⟨hl, hrl, k, hgo⟩
  dsimp only [List.cons_append, List.nil_append] at *
  have hge := Lib.indexByte_ge r 10
  obtain ⟨j1, j2⟩ := indexB_lines r
  by_cases hr0 : r = []
  · subst hr0
    have hend : lnG s0 i = none := by
      unfold lnG
      have : (linesL s0).length ≤ i := by
        rw [show linesL [] = [] from rfl] at hl
        exact List.drop_eq_nil_iff.1 hl
      rw [List.getElem?_eq_none this]; rfl
    obtain rfl := hgo.none hend
    clear j1 j2 hge
    (repeat' first | refine stp ?_ | intro v' hv' | intro (b : Nat) | (apply w_convU; rfl; rfl; omega; omega) | (apply w_convI; rfl; rfl; omega; omega) | (apply w_quoU; rfl; rfl; rfl; omega; omega; omega) | (apply w_remU; rfl; rfl; rfl; omega; omega) | (apply w_minL; rfl; rfl; rfl; omega) | (apply w_minG; rfl; rfl; rfl; omega) | (apply w_min; rfl; rfl; rfl) | (apply w_mfR; rfl; rfl) | (apply w_cvp; rfl; rfl; exact inferInstance; rfl; rfl; assumption) | (apply w_eqS2T; rfl; rfl; rfl; omega) | (apply w_eqS2F; rfl; rfl; rfl; omega) | (apply w_neS2T; rfl; rfl; rfl; omega) | (apply w_neS2F; rfl; rfl; rfl; omega) | (apply w_eqS3T; rfl; rfl; rfl; omega) | (apply w_eqS3F; rfl; rfl; rfl; omega) | (apply w_neS3T; rfl; rfl; rfl; omega) | (apply w_neS3F; rfl; rfl; rfl; omega) | (apply w_eqS3; rfl; rfl; rfl) | (apply w_neS3; rfl; rfl; rfl) | (apply w_eqS2; rfl; rfl; rfl) | (apply w_neS2; rfl; rfl; rfl) | (apply w_maxL; rfl; rfl; rfl; omega) | (apply w_maxG; rfl; rfl; rfl; omega) | (apply w_max; rfl; rfl; rfl) | (apply w_neB; rfl; rfl; rfl; rfl) | (apply w_eqB; rfl; rfl; rfl; rfl) | (apply w_strA; rfl; rfl; rfl; first | omega | (simp only [List.length_append, List.length_cons, List.length_nil]; omega)) | (apply w_strET; rfl; rfl; rfl; assumption) | (apply w_strEF; rfl; rfl; rfl; assumption) | (apply w_strNF; rfl; rfl; rfl; assumption) | (apply w_strNT; rfl; rfl; rfl; assumption) | (apply w_strE; rfl; rfl; rfl; rfl) | (apply w_strN; rfl; rfl; rfl; rfl) | (apply w_strL; rfl; rfl) | (apply w_strSh (j' := q + 1); rfl; rfl; rfl; omega; omega) | (apply w_strSl (i' := q + 1); rfl; rfl; rfl; omega; omega) | refine spl ?_ ?_ | intro hc)
    all_goals first | (exfalso; omega) | skip
    all_goals exact At_ret0 (by (first | exact .inl rfl | exact .inr rfl)) Tryd.results48 ⟨rfl, rfl⟩ (fun w h => hfold _ _ w (Sel.sat (by (focus ((repeat (first | exact Sel.refl | (apply Sel.cons; (focus ((repeat (first | exact Del.here | apply Del.there)); done))) | refine Sel.drop ?_)); done))) h))
  · have hpos : 0 < r.length := List.length_pos_iff.2 hr0
    by_cases hix : 0 ≤ Lib.indexByte r 10
    · obtain ⟨e1, e2⟩ := j1 hix
      obtain ⟨q, hq⟩ := Int.eq_ofNat_of_zero_le hix
      rw [hq] at e1 e2
      simp only [Int.toNat_natCast] at e1 e2
      have hg : lnG s0 i = some [str (r.take (q + 1))] := by
        unfold lnG
        have h0 : ((linesL s0).drop i)[0]? = some (r.take (q + 1)) := by rw [hl, e1]; rfl
        rw [List.getElem?_drop, Nat.add_zero] at h0
        rw [h0]; rfl
      obtain ⟨hd, hgo2⟩ := hgo.some hg
      have hl2 : (linesL s0).drop (i + 1) = linesL (r.drop (q + 1)) := by rw [← List.drop_drop, hl, e1]; rfl
      have hix2 : ∀ M, Called Tryd.prog 49 [str r, .int .u8 10] M (is (int (q : Int)) M) := fun M => by have := IndexB_ok r M; rwa [hq] at this
      clear j1 j2 hge hix hq e1
      have hqn : ¬ (q : Int) < 0 := by omega
      (repeat' first | refine stp ?_ | intro v' hv' | intro (b : Nat) | (apply w_convU; rfl; rfl; omega; omega) | (apply w_convI; rfl; rfl; omega; omega) | (apply w_quoU; rfl; rfl; rfl; omega; omega; omega) | (apply w_remU; rfl; rfl; rfl; omega; omega) | (apply w_minL; rfl; rfl; rfl; omega) | (apply w_minG; rfl; rfl; rfl; omega) | (apply w_min; rfl; rfl; rfl) | (apply w_mfR; rfl; rfl) | (apply w_cvp; rfl; rfl; exact inferInstance; rfl; rfl; assumption) | (apply w_eqS2T; rfl; rfl; rfl; omega) | (apply w_eqS2F; rfl; rfl; rfl; omega) | (apply w_neS2T; rfl; rfl; rfl; omega) | (apply w_neS2F; rfl; rfl; rfl; omega) | (apply w_eqS3T; rfl; rfl; rfl; omega) | (apply w_eqS3F; rfl; rfl; rfl; omega) | (apply w_neS3T; rfl; rfl; rfl; omega) | (apply w_neS3F; rfl; rfl; rfl; omega) | (apply w_eqS3; rfl; rfl; rfl) | (apply w_neS3; rfl; rfl; rfl) | (apply w_eqS2; rfl; rfl; rfl) | (apply w_neS2; rfl; rfl; rfl) | (apply w_maxL; rfl; rfl; rfl; omega) | (apply w_maxG; rfl; rfl; rfl; omega) | (apply w_max; rfl; rfl; rfl) | (apply w_neB; rfl; rfl; rfl; rfl) | (apply w_eqB; rfl; rfl; rfl; rfl) | (apply w_strA; rfl; rfl; rfl; first | omega | (simp only [List.length_append, List.length_cons, List.length_nil]; omega)) | (apply w_strET; rfl; rfl; rfl; assumption) | (apply w_strEF; rfl; rfl; rfl; assumption) | (apply w_strNF; rfl; rfl; rfl; assumption) | (apply w_strNT; rfl; rfl; rfl; assumption) | (apply w_strE; rfl; rfl; rfl; rfl) | (apply w_strN; rfl; rfl; rfl; rfl) | (apply w_strL; rfl; rfl) | (apply w_strSh (j' := q + 1); rfl; rfl; rfl; omega; omega) | (apply w_strSl (i' := q + 1); rfl; rfl; rfl; omega; omega) | refine spl ?_ ?_ | intro hc)
      all_goals first | (exfalso; omega) | skip
      apply w_yield
      rfl; rfl; rfl; exact hy; exact hd; ((focus ((repeat (first | exact Del.here | apply Del.there)); done))); ((exact kmf))
      rcases hgo2 with ⟨hb, rfl⟩ | ⟨hb, k', rfl, hgo2⟩
      · rw [hb]
        (repeat' first | refine stp ?_ | intro v' hv' | intro (b : Nat) | (apply w_convU; rfl; rfl; omega; omega) | (apply w_convI; rfl; rfl; omega; omega) | (apply w_quoU; rfl; rfl; rfl; omega; omega; omega) | (apply w_remU; rfl; rfl; rfl; omega; omega) | (apply w_minL; rfl; rfl; rfl; omega) | (apply w_minG; rfl; rfl; rfl; omega) | (apply w_min; rfl; rfl; rfl) | (apply w_mfR; rfl; rfl) | (apply w_cvp; rfl; rfl; exact inferInstance; rfl; rfl; assumption) | (apply w_eqS2T; rfl; rfl; rfl; omega) | (apply w_eqS2F; rfl; rfl; rfl; omega) | (apply w_neS2T; rfl; rfl; rfl; omega) | (apply w_neS2F; rfl; rfl; rfl; omega) | (apply w_eqS3T; rfl; rfl; rfl; omega) | (apply w_eqS3F; rfl; rfl; rfl; omega) | (apply w_neS3T; rfl; rfl; rfl; omega) | (apply w_neS3F; rfl; rfl; rfl; omega) | (apply w_eqS3; rfl; rfl; rfl) | (apply w_neS3; rfl; rfl; rfl) | (apply w_eqS2; rfl; rfl; rfl) | (apply w_neS2; rfl; rfl; rfl) | (apply w_maxL; rfl; rfl; rfl; omega) | (apply w_maxG; rfl; rfl; rfl; omega) | (apply w_max; rfl; rfl; rfl) | (apply w_neB; rfl; rfl; rfl; rfl) | (apply w_eqB; rfl; rfl; rfl; rfl) | (apply w_strA; rfl; rfl; rfl; first | omega | (simp only [List.length_append, List.length_cons, List.length_nil]; omega)) | (apply w_strET; rfl; rfl; rfl; assumption) | (apply w_strEF; rfl; rfl; rfl; assumption) | (apply w_strNF; rfl; rfl; rfl; assumption) | (apply w_strNT; rfl; rfl; rfl; assumption) | (apply w_strE; rfl; rfl; rfl; rfl) | (apply w_strN; rfl; rfl; rfl; rfl) | (apply w_strL; rfl; rfl) | (apply w_strSh (j' := q + 1); rfl; rfl; rfl; omega; omega) | (apply w_strSl (i' := q + 1); rfl; rfl; rfl; omega; omega) | refine spl ?_ ?_ | intro hc)
        exact At_ret0 (by (first | exact .inl rfl | exact .inr rfl)) Tryd.results48 ⟨rfl, rfl⟩ (fun w h => hfold _ _ w (Sel.sat (by (focus ((repeat (first | exact Sel.refl | (apply Sel.cons; (focus ((repeat (first | exact Del.here | apply Del.there)); done))) | refine Sel.drop ?_)); done))) h))
      · rw [hb]
        (repeat' first | refine stp ?_ | intro v' hv' | intro (b : Nat) | (apply w_convU; rfl; rfl; omega; omega) | (apply w_convI; rfl; rfl; omega; omega) | (apply w_quoU; rfl; rfl; rfl; omega; omega; omega) | (apply w_remU; rfl; rfl; rfl; omega; omega) | (apply w_minL; rfl; rfl; rfl; omega) | (apply w_minG; rfl; rfl; rfl; omega) | (apply w_min; rfl; rfl; rfl) | (apply w_mfR; rfl; rfl) | (apply w_cvp; rfl; rfl; exact inferInstance; rfl; rfl; assumption) | (apply w_eqS2T; rfl; rfl; rfl; omega) | (apply w_eqS2F; rfl; rfl; rfl; omega) | (apply w_neS2T; rfl; rfl; rfl; omega) | (apply w_neS2F; rfl; rfl; rfl; omega) | (apply w_eqS3T; rfl; rfl; rfl; omega) | (apply w_eqS3F; rfl; rfl; rfl; omega) | (apply w_neS3T; rfl; rfl; rfl; omega) | (apply w_neS3F; rfl; rfl; rfl; omega) | (apply w_eqS3; rfl; rfl; rfl) | (apply w_neS3; rfl; rfl; rfl) | (apply w_eqS2; rfl; rfl; rfl) | (apply w_neS2; rfl; rfl; rfl) | (apply w_maxL; rfl; rfl; rfl; omega) | (apply w_maxG; rfl; rfl; rfl; omega) | (apply w_max; rfl; rfl; rfl) | (apply w_neB; rfl; rfl; rfl; rfl) | (apply w_eqB; rfl; rfl; rfl; rfl) | (apply w_strA; rfl; rfl; rfl; first | omega | (simp only [List.length_append, List.length_cons, List.length_nil]; omega)) | (apply w_strET; rfl; rfl; rfl; assumption) | (apply w_strEF; rfl; rfl; rfl; assumption) | (apply w_strNF; rfl; rfl; rfl; assumption) | (apply w_strNT; rfl; rfl; rfl; assumption) | (apply w_strE; rfl; rfl; rfl; rfl) | (apply w_strN; rfl; rfl; rfl; rfl) | (apply w_strL; rfl; rfl) | (apply w_strSh (j' := q + 1); rfl; rfl; rfl; omega; omega) | (apply w_strSl (i' := q + 1); rfl; rfl; rfl; omega; omega) | refine spl ?_ ?_ | intro hc)
        exact At_againK (r.drop (q + 1), i + 1, _) ⟨hl2, by show (r.drop (q + 1)).length ≤ _; rw [List.length_drop]; omega, k', hgo2⟩ (by show (r.drop (q + 1)).length < r.length; rw [List.length_drop]; omega) (by (exact sbf)) (by (exact sbf)) (by (exact frm))
    · have e1 := j2 (by omega) hr0
      have hq : Lib.indexByte r 10 = -1 := by omega
      have hg : lnG s0 i = some [str r] := by
        unfold lnG
        have h0 : ((linesL s0).drop i)[0]? = some r := by rw [hl, e1]; rfl
        rw [List.getElem?_drop, Nat.add_zero] at h0
        rw [h0]; rfl
      obtain ⟨hd, hgo2⟩ := hgo.some hg
      have hl2 : (linesL s0).drop (i + 1) = linesL [] := by rw [← List.drop_drop, hl, e1]; rfl
      have hix2 : ∀ M, Called Tryd.prog 49 [str r, .int .u8 10] M (is (int (-1)) M) := fun M => by have := IndexB_ok r M; rwa [hq] at this
      have q : Nat := 0
      clear j1 j2 hge hix hq e1
      (repeat' first | refine stp ?_ | intro v' hv' | intro (b : Nat) | (apply w_convU; rfl; rfl; omega; omega) | (apply w_convI; rfl; rfl; omega; omega) | (apply w_quoU; rfl; rfl; rfl; omega; omega; omega) | (apply w_remU; rfl; rfl; rfl; omega; omega) | (apply w_minL; rfl; rfl; rfl; omega) | (apply w_minG; rfl; rfl; rfl; omega) | (apply w_min; rfl; rfl; rfl) | (apply w_mfR; rfl; rfl) | (apply w_cvp; rfl; rfl; exact inferInstance; rfl; rfl; assumption) | (apply w_eqS2T; rfl; rfl; rfl; omega) | (apply w_eqS2F; rfl; rfl; rfl; omega) | (apply w_neS2T; rfl; rfl; rfl; omega) | (apply w_neS2F; rfl; rfl; rfl; omega) | (apply w_eqS3T; rfl; rfl; rfl; omega) | (apply w_eqS3F; rfl; rfl; rfl; omega) | (apply w_neS3T; rfl; rfl; rfl; omega) | (apply w_neS3F; rfl; rfl; rfl; omega) | (apply w_eqS3; rfl; rfl; rfl) | (apply w_neS3; rfl; rfl; rfl) | (apply w_eqS2; rfl; rfl; rfl) | (apply w_neS2; rfl; rfl; rfl) | (apply w_maxL; rfl; rfl; rfl; omega) | (apply w_maxG; rfl; rfl; rfl; omega) | (apply w_max; rfl; rfl; rfl) | (apply w_neB; rfl; rfl; rfl; rfl) | (apply w_eqB; rfl; rfl; rfl; rfl) | (apply w_strA; rfl; rfl; rfl; first | omega | (simp only [List.length_append, List.length_cons, List.length_nil]; omega)) | (apply w_strET; rfl; rfl; rfl; assumption) | (apply w_strEF; rfl; rfl; rfl; assumption) | (apply w_strNF; rfl; rfl; rfl; assumption) | (apply w_strNT; rfl; rfl; rfl; assumption) | (apply w_strE; rfl; rfl; rfl; rfl) | (apply w_strN; rfl; rfl; rfl; rfl) | (apply w_strL; rfl; rfl) | (apply w_strSh (j' := q + 1); rfl; rfl; rfl; omega; omega) | (apply w_strSl (i' := q + 1); rfl; rfl; rfl; omega; omega) | refine spl ?_ ?_ | intro hc)
      all_goals first | (exfalso; omega) | skip
      apply w_yield
      rfl; rfl; rfl; exact hy; exact hd; ((focus ((repeat (first | exact Del.here | apply Del.there)); done))); ((exact kmf))
      rcases hgo2 with ⟨hb, rfl⟩ | ⟨hb, k', rfl, hgo2⟩
      · rw [hb]
        (repeat' first | refine stp ?_ | intro v' hv' | intro (b : Nat) | (apply w_convU; rfl; rfl; omega; omega) | (apply w_convI; rfl; rfl; omega; omega) | (apply w_quoU; rfl; rfl; rfl; omega; omega; omega) | (apply w_remU; rfl; rfl; rfl; omega; omega) | (apply w_minL; rfl; rfl; rfl; omega) | (apply w_minG; rfl; rfl; rfl; omega) | (apply w_min; rfl; rfl; rfl) | (apply w_mfR; rfl; rfl) | (apply w_cvp; rfl; rfl; exact inferInstance; rfl; rfl; assumption) | (apply w_eqS2T; rfl; rfl; rfl; omega) | (apply w_eqS2F; rfl; rfl; rfl; omega) | (apply w_neS2T; rfl; rfl; rfl; omega) | (apply w_neS2F; rfl; rfl; rfl; omega) | (apply w_eqS3T; rfl; rfl; rfl; omega) | (apply w_eqS3F; rfl; rfl; rfl; omega) | (apply w_neS3T; rfl; rfl; rfl; omega) | (apply w_neS3F; rfl; rfl; rfl; omega) | (apply w_eqS3; rfl; rfl; rfl) | (apply w_neS3; rfl; rfl; rfl) | (apply w_eqS2; rfl; rfl; rfl) | (apply w_neS2; rfl; rfl; rfl) | (apply w_maxL; rfl; rfl; rfl; omega) | (apply w_maxG; rfl; rfl; rfl; omega) | (apply w_max; rfl; rfl; rfl) | (apply w_neB; rfl; rfl; rfl; rfl) | (apply w_eqB; rfl; rfl; rfl; rfl) | (apply w_strA; rfl; rfl; rfl; first | omega | (simp only [List.length_append, List.length_cons, List.length_nil]; omega)) | (apply w_strET; rfl; rfl; rfl; assumption) | (apply w_strEF; rfl; rfl; rfl; assumption) | (apply w_strNF; rfl; rfl; rfl; assumption) | (apply w_strNT; rfl; rfl; rfl; assumption) | (apply w_strE; rfl; rfl; rfl; rfl) | (apply w_strN; rfl; rfl; rfl; rfl) | (apply w_strL; rfl; rfl) | (apply w_strSh (j' := q + 1); rfl; rfl; rfl; omega; omega) | (apply w_strSl (i' := q + 1); rfl; rfl; rfl; omega; omega) | refine spl ?_ ?_ | intro hc)
        exact At_ret0 (by (first | exact .inl rfl | exact .inr rfl)) Tryd.results48 ⟨rfl, rfl⟩ (fun w h => hfold _ _ w (Sel.sat (by (focus ((repeat (first | exact Sel.refl | (apply Sel.cons; (focus ((repeat (first | exact Del.here | apply Del.there)); done))) | refine Sel.drop ?_)); done))) h))
      · rw [hb]
        (repeat' first | refine stp ?_ | intro v' hv' | intro (b : Nat) | (apply w_convU; rfl; rfl; omega; omega) | (apply w_convI; rfl; rfl; omega; omega) | (apply w_quoU; rfl; rfl; rfl; omega; omega; omega) | (apply w_remU; rfl; rfl; rfl; omega; omega) | (apply w_minL; rfl; rfl; rfl; omega) | (apply w_minG; rfl; rfl; rfl; omega) | (apply w_min; rfl; rfl; rfl) | (apply w_mfR; rfl; rfl) | (apply w_cvp; rfl; rfl; exact inferInstance; rfl; rfl; assumption) | (apply w_eqS2T; rfl; rfl; rfl; omega) | (apply w_eqS2F; rfl; rfl; rfl; omega) | (apply w_neS2T; rfl; rfl; rfl; omega) | (apply w_neS2F; rfl; rfl; rfl; omega) | (apply w_eqS3T; rfl; rfl; rfl; omega) | (apply w_eqS3F; rfl; rfl; rfl; omega) | (apply w_neS3T; rfl; rfl; rfl; omega) | (apply w_neS3F; rfl; rfl; rfl; omega) | (apply w_eqS3; rfl; rfl; rfl) | (apply w_neS3; rfl; rfl; rfl) | (apply w_eqS2; rfl; rfl; rfl) | (apply w_neS2; rfl; rfl; rfl) | (apply w_maxL; rfl; rfl; rfl; omega) | (apply w_maxG; rfl; rfl; rfl; omega) | (apply w_max; rfl; rfl; rfl) | (apply w_neB; rfl; rfl; rfl; rfl) | (apply w_eqB; rfl; rfl; rfl; rfl) | (apply w_strA; rfl; rfl; rfl; first | omega | (simp only [List.length_append, List.length_cons, List.length_nil]; omega)) | (apply w_strET; rfl; rfl; rfl; assumption) | (apply w_strEF; rfl; rfl; rfl; assumption) | (apply w_strNF; rfl; rfl; rfl; assumption) | (apply w_strNT; rfl; rfl; rfl; assumption) | (apply w_strE; rfl; rfl; rfl; rfl) | (apply w_strN; rfl; rfl; rfl; rfl) | (apply w_strL; rfl; rfl) | (apply w_strSh (j' := q + 1); rfl; rfl; rfl; omega; omega) | (apply w_strSl (i' := q + 1); rfl; rfl; rfl; omega; omega) | refine spl ?_ ?_ | intro hc)
        exact At_againK ([], i + 1, _) ⟨hl2, Nat.zero_le _, k', hgo2⟩ (by show ([] : List UInt8).length < r.length; exact hpos) (by (exact sbf)) (by (exact sbf)) (by (exact frm))
theorem Lines_ok (s : List UInt8) (R : List HP) : Called Tryd.prog 31 [str s] R (fun u M => ∃ bx, u = .func (.func 48) #[] #[ptr bx] ∧ M = pt bx 9 [str s] :: R) := by
  refine Fn1 Tryd.func31 rfl Tryd.ntmps31 rfl ?_
  have q : Nat := 0
  (repeat' first | refine stp ?_ | intro v' hv' | intro (b : Nat) | (apply w_convU; rfl; rfl; omega; omega) | (apply w_convI; rfl; rfl; omega; omega) | (apply w_quoU; rfl; rfl; rfl; omega; omega; omega) | (apply w_remU; rfl; rfl; rfl; omega; omega) | (apply w_minL; rfl; rfl; rfl; omega) | (apply w_minG; rfl; rfl; rfl; omega) | (apply w_min; rfl; rfl; rfl) | (apply w_mfR; rfl; rfl) | (apply w_cvp; rfl; rfl; exact inferInstance; rfl; rfl; assumption) | (apply w_eqS2T; rfl; rfl; rfl; omega) | (apply w_eqS2F; rfl; rfl; rfl; omega) | (apply w_neS2T; rfl; rfl; rfl; omega) | (apply w_neS2F; rfl; rfl; rfl; omega) | (apply w_eqS3T; rfl; rfl; rfl; omega) | (apply w_eqS3F; rfl; rfl; rfl; omega) | (apply w_neS3T; rfl; rfl; rfl; omega) | (apply w_neS3F; rfl; rfl; rfl; omega) | (apply w_eqS3; rfl; rfl; rfl) | (apply w_neS3; rfl; rfl; rfl) | (apply w_eqS2; rfl; rfl; rfl) | (apply w_neS2; rfl; rfl; rfl) | (apply w_maxL; rfl; rfl; rfl; omega) | (apply w_maxG; rfl; rfl; rfl; omega) | (apply w_max; rfl; rfl; rfl) | (apply w_neB; rfl; rfl; rfl; rfl) | (apply w_eqB; rfl; rfl; rfl; rfl) | (apply w_strA; rfl; rfl; rfl; first | omega | (simp only [List.length_append, List.length_cons, List.length_nil]; omega)) | (apply w_strET; rfl; rfl; rfl; assumption) | (apply w_strEF; rfl; rfl; rfl; assumption) | (apply w_strNF; rfl; rfl; rfl; assumption) | (apply w_strNT; rfl; rfl; rfl; assumption) | (apply w_strE; rfl; rfl; rfl; rfl) | (apply w_strN; rfl; rfl; rfl; rfl) | (apply w_strL; rfl; rfl) | (apply w_strSh (j' := q + 1); rfl; rfl; rfl; omega; omega) | (apply w_strSl (i' := q + 1); rfl; rfl; rfl; omega; omega) | refine spl ?_ ?_ | intro hc)
  exact At_ret1 (by (first | exact .inl rfl | exact .inr rfl)) Tryd.results31 rfl ⟨_, rfl, rfl⟩ (by (exact frm))
end Go.Proofs.YteggkdlgailfoaaDoor
