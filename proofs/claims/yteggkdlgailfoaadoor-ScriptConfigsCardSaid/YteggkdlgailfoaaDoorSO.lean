/- script: a text in pieces: Index, SplitSeq. Conditions: none. -/
import Derived.Test.YteggkdlgailfoaaDoorSM
set_option linter.all false
set_option linter.deprecated false
namespace Go.Sep
variable [B0 : Base]
/-- An iterator whose own things are others at the end, beside what has K. -/
def IterTP (P : Program) (K : List HP → Prop) (f : FuncId) (fs cs : List Value) (own own2 : HP) (g : Nat → Option (List Value)) : Prop :=
  ∀ (τ : Type) (B : τ → HP) (st : τ → List Value → Bool × τ) (dom : τ → List Value → Prop) (yf : Value) (s t : τ) (R : List HP), (∀ s X, K (B s :: X)) → Yields P yf B st dom → Goes st dom g 0 s t →
    Called P f (fs ++ [yf] ++ cs) (own :: B s :: R) (is (.tuple #[]) (own2 :: B t :: R))
section
variable {P : Program} {n : Nat} {F : Fr} {σ : Type} {A : σ → HP} {step : σ → List Value → Option Code × σ} {dom : σ → List Value → Prop}
theorem C_rangeTP {K : List HP → Prop} {g : Operand} {ps : Array Tmp} {assign body : Code} {f : FuncId} {fs cs : List Value} {own own2 : HP} {it : Nat → Option (List Value)} {s0 : σ} {t : σ × Option Code} {Q : Exit → Act → World → Prop} {ds : List Deferred} {L R : List HP} [he : CanEnter P f]
    (hg : ev F g = some (.func (.func f) fs.toArray cs.toArray)) (hKK : ∀ s l r p X, K (all [A s, recd l r p] :: X)) (hit : IterTP P K f fs cs own own2 it) (hps : ps.toList.all (Nat.blt · n) = true) (hlen : ∀ s xs, dom s xs → xs.length = ps.size)
    (hL : Sel L (own :: A s0 :: R)) (hround : RoundsE P n F ps.toList assign body A step dom)
    (hgo : Goes (fun (s : σ × Option Code) xs => ((step s.1 xs).1.isNone, ((step s.1 xs).2, (step s.1 xs).1))) (fun s xs => s.2 = none ∧ dom s.1 xs) it 0 (s0, none) t)
    (hk : ∀ r, ends Q P n F (mk r :: ds) (mblk r :: own2 :: A t.1 :: R) t.2) : C P none (.rangeFunc g ps assign body) Q n F ds L := by
  refine C_intro fun a w hf hs => ?_
  have hfr : FrOk { tmps := a.tmps, defers := [] } n F [] := ⟨hf.size, rfl, hf.slot⟩
  refine wpIn_rangeFunc fun fn _ => ?_
  let r0 : Loop := { state := .ready, pending := none, fn := fn, tmps := a.tmps, params := ps, assign := assign, body := body, defers := w.heap.size }
  let w1 : World := (w.alloc (.deferred (some []))).alloc (.loop r0)
  refine ⟨w.heap.size + 1, [mk w.heap.size], w1, { target := .fn (.func f) cs.toArray, args := fs.toArray ++ #[yv (w.heap.size + 1)] }, w1, f, fs.toArray ++ #[yv (w.heap.size + 1)] ++ cs.toArray, w1, run_enterLoop_outer fn a.tmps ps assign body, ?_, fun _ _ => trivial, run_enter he.out _ _, fun h => by simp [Fence.wide] at h, ?_⟩
  · simp only [resolve, hf.ev hg, Deferred.ofValue, Sem.run_pure, List.map_toArray, List.map_cons, List.map_nil]
    rfl
  · rw [callsIn_Fw]
    have hs1 : Sat w1 (blk (w.heap.size + 1) (.loop r0) :: mblk w.heap.size :: L) := by
      have := (hs.alloc (.deferred (some []))).alloc (.loop r0)
      have e : (w.alloc (.deferred (some []))).heap.size = w.heap.size + 1 := Array.size_push ..
      rw [e] at this
      exact this
    have hL' : ∀ {X : List HP}, Sat w1 (X ++ L) → Sat w1 (X ++ (own :: A s0 :: R)) := by
      intro X hX
      obtain ⟨D, hD⟩ := hL.perm
      have h1 : (X ++ L).Perm (D ++ (X ++ (own :: A s0 :: R))) := by
        refine (hD.append_left X).trans ?_
        rw [← List.append_assoc, ← List.append_assoc]
        exact List.perm_append_comm.append_right _
      exact (hX.perm h1).drops
    have hs2 : Sat w1 (own :: all [A s0, recd (w.heap.size + 1) r0 none] :: mblk w.heap.size :: R) := by
      have h3 : Sat w1 (blk (w.heap.size + 1) (.loop r0) :: mblk w.heap.size :: own :: A s0 :: R) := hL' (X := [_, _]) hs1
      have h4 : Sat w1 (all [A s0, recd (w.heap.size + 1) r0 none] :: own :: mblk w.heap.size :: R) := by
        refine Sat.all_iff.2 ?_
        refine h3.perm ?_
        refine List.Perm.trans (l₂ := A s0 :: blk (w.heap.size + 1) (.loop r0) :: mblk w.heap.size :: own :: R) ?_ ?_
        · exact (List.perm_middle (a := A s0) (l₁ := [blk (w.heap.size + 1) (.loop r0), mblk w.heap.size, own]) (l₂ := R))
        · exact ((List.Perm.swap ..).cons _).cons _
      exact h4.perm (.swap ..)
    have hy := yields_of_roundsE (P := P) (l := w.heap.size + 1) (r := r0) (ps := ps) (A := A) (step := step) (dom := dom) rfl hfr hps hlen hround
    have hc := (hit _ _ _ _ _ _ _ (mblk w.heap.size :: R) (fun s X => hKK _ _ _ _ _) hy hgo).out _ hs2
    have e1 : (fs.toArray ++ #[yv (w.heap.size + 1)] ++ cs.toArray : Array Value) = (fs ++ [yv (w.heap.size + 1)] ++ cs).toArray := by simp
    rw [e1]
    refine hc.mono fun e w3 ⟨v, hv, L', ⟨_, hM⟩, hs3⟩ => ?_
    subst hv; subst hM
    obtain ⟨ts, tp⟩ := t
    have hs4 : Sat w3 (recd (w.heap.size + 1) r0 tp :: mblk w.heap.size :: own2 :: A ts :: R) := by
      have h5 := Sat.all_iff.1 (hs3.perm (.swap ..))
      refine h5.perm ?_
      refine List.Perm.trans (l₂ := recd (w.heap.size + 1) r0 tp :: A ts :: own2 :: mblk w.heap.size :: R) (.swap ..) (.cons _ ?_)
      refine List.Perm.trans (l₂ := mblk w.heap.size :: A ts :: own2 :: R) (List.perm_middle (a := mblk w.heap.size) (l₁ := [A ts, own2]) (l₂ := R)) ((List.Perm.swap ..).cons _)
    have hk := hk w.heap.size
    cases tp with
    | none =>
      have hl := Sat.blk_heap hs4
      refine ⟨_, _, run_endLoop hl (by simp), ?_⟩
      have hs5 := (hs4.putObj (.loop { r0 with state := .exhausted })).drop
      exact At_elim hk _ _ ⟨hf.size, by simp [hf.defers], hf.slot⟩ hs5
    | some c =>
      have hl := Sat.blk_heap hs4
      refine ⟨_, _, run_endLoop hl (by simp), ?_⟩
      have hs5 := (hs4.putObj (.loop { r0 with state := .exhausted, pending := some c })).drop
      exact C_elim hk _ _ ⟨hf.size, by simp [hf.defers], hf.slot⟩ hs5
end
section
variable {P : Program} {ro : Option Nat} {m : Option Mode} {ops : Array Oper} {Q : Exit → Act → World → Prop} {n : Nat} {rest : List Oper} {F : Fr} {ds : List Deferred} {L : List HP} {d : Nat} {ty : TypeId} {pos : String} {aft : Array Edge}
theorem w_mf3 {fn : Fn} {x y z : Operand} {v u t : Value} (hd : Nat.blt d n = true) (hx : ev F x = some v) (hy : ev F y = some u) (hz : ev F z = some t) (hk : W P ro m ops Q n rest ((d, .func fn #[] #[v, u, t]) :: F) ds L) : W P ro m ops Q n (⟨some d, .makeFunc fn #[] #[x, y, z], ty, pos, aft, none⟩ :: rest) F ds L :=
  Wp hd (fun _ => runs_pure rfl fun ac w hf => by simp [execOp, Instr.makeFunc, hf.ev hx, hf.ev hy, hf.ev hz]) hk
end
end Go.Sep
namespace Go.Proofs.YteggkdlgailfoaaDoor
open Go.Sep
variable [B0 : Base]
theorem Index_ok (s m : List UInt8) (R : List HP) [h : HasP R] (hs : s.length < 4294967281) : Called Tryd.prog 78 [str s, str m] R (is (int (Lib.index s m)) R) := ⟨fun w hw => by
  obtain ⟨k, hk⟩ := (h.out w hw).most
  refine (Tryd.strings_Index ⟨s.toArray⟩ ⟨m.toArray⟩ k w (by show s.toArray.size < _; simpa using hs) hk).mono fun e w' ⟨he, hw'⟩ => ⟨_, he, _, ⟨rfl, rfl⟩, by subst hw'; exact hw⟩⟩
def pcG (s : List UInt8) (i : Nat) : Option (List Value) := (pcs s)[i]?.map fun t => [str t]
def spH (c1 c2 c3 : Nat) (s : List UInt8) : HP := all [pt c3 3 [int 0], pt c1 9 [str wPro], pt c2 9 [str s]]
def spE (c1 c2 c3 : Nat) : HP := ex fun r : List UInt8 => spH c1 c2 c3 r
set_option maxHeartbeats 4000000 in
theorem Split1_ok (c1 c2 c3 : Nat) (s0 : List UInt8) (hs0 : s0.length < 4294967281) : IterTP Tryd.prog HasP 76 [] [ptr c1, ptr c2, ptr c3] (spH c1 c2 c3 s0) (spE c1 c2 c3) (pcG s0) := by
  intro τ B st dom yf s t R hKK hy hgo
  haveI hKi : ∀ s X, HasP (B s :: X) := hKK
  obtain ⟨m, hgo⟩ := hgo.steps
  have h8 : wPro.length = 8 := rfl
  show Called Tryd.prog 76 [yf, ptr c1, ptr c2, ptr c3] (spH c1 c2 c3 s0 :: B s :: R) (is (.tuple #[]) (spE c1 c2 c3 :: B t :: R))
  refine Fn4 Tryd.func76 rfl Tryd.ntmps76 rfl ?_
  have hfold : ∀ (r : List UInt8) s w, Sat w (B s :: pt c3 3 [int 0] :: pt c1 9 [str wPro] :: pt c2 9 [str r] :: R) → Sat w (spE c1 c2 c3 :: B s :: R) := fun r s w h => Sat.ex_iff.2 ⟨r, Sat.all_iff.2 (Sel.sat (by (focus ((repeat (first | exact Sel.refl | (apply Sel.cons; (focus ((repeat (first | exact Del.here | apply Del.there)); done))) | refine Sel.drop ?_)); done))) h)⟩
  refine C_sat (L' := B s :: pt c3 3 [int 0] :: pt c1 9 [str wPro] :: pt c2 9 [str s0] :: R) (fun w hs => ?_) ?_
  · have h1 : Sat w (pt c3 3 [int 0] :: pt c1 9 [str wPro] :: pt c2 9 [str s0] :: B s :: R) := Sat.all_iff.1 hs
    exact Sel.sat (by (focus ((repeat (first | exact Sel.refl | (apply Sel.cons; (focus ((repeat (first | exact Del.here | apply Del.there)); done))) | refine Sel.drop ?_)); done))) h1
  have q : Nat := 0
  have hIx : True := trivial
  (repeat' first | refine stp ?_ | intro v' hv' | intro (b : Nat) | (apply w_convU; rfl; rfl; omega; omega) | (apply w_convI; rfl; rfl; omega; omega) | (apply w_quoU; rfl; rfl; rfl; omega; omega; omega) | (apply w_remU; rfl; rfl; rfl; omega; omega) | (apply w_minL; rfl; rfl; rfl; omega) | (apply w_minG; rfl; rfl; rfl; omega) | (apply w_min; rfl; rfl; rfl) | (apply w_mfR; rfl; rfl) | (apply w_cvp; rfl; rfl; exact inferInstance; rfl; rfl; assumption) | (apply w_eqS2T; rfl; rfl; rfl; omega) | (apply w_eqS2F; rfl; rfl; rfl; omega) | (apply w_neS2T; rfl; rfl; rfl; omega) | (apply w_neS2F; rfl; rfl; rfl; omega) | (apply w_eqS3T; rfl; rfl; rfl; omega) | (apply w_eqS3F; rfl; rfl; rfl; omega) | (apply w_neS3T; rfl; rfl; rfl; omega) | (apply w_neS3F; rfl; rfl; rfl; omega) | (apply w_eqS3; rfl; rfl; rfl) | (apply w_neS3; rfl; rfl; rfl) | (apply w_eqS2; rfl; rfl; rfl) | (apply w_neS2; rfl; rfl; rfl) | (apply w_maxL; rfl; rfl; rfl; omega) | (apply w_maxG; rfl; rfl; rfl; omega) | (apply w_max; rfl; rfl; rfl) | (apply w_neB; rfl; rfl; rfl; rfl) | (apply w_eqB; rfl; rfl; rfl; rfl) | (apply w_strA; rfl; rfl; rfl; first | omega | (simp only [List.length_append, List.length_cons, List.length_nil]; omega)) | (apply w_strET; rfl; rfl; rfl; assumption) | (apply w_strEF; rfl; rfl; rfl; assumption) | (apply w_strNF; rfl; rfl; rfl; assumption) | (apply w_strNT; rfl; rfl; rfl; assumption) | (apply w_strE; rfl; rfl; rfl; rfl) | (apply w_strN; rfl; rfl; rfl; rfl) | (apply w_strL; rfl; rfl) | (apply w_strSh (j' := q); rfl; rfl; rfl; omega; omega) | (apply w_strSl (i' := q + 8); rfl; rfl; rfl; omega; omega) | (apply w_mf3; rfl; rfl; rfl; rfl) | (apply w_cd; rfl; rfl; exact hIx; ((exact kmf))) | refine spl ?_ ?_ | intro hc)
  all_goals first | (exfalso; omega) | skip
  clear hIx q
  refine C_loopK (α := List UInt8 × Nat × τ) [7, 8, 29, 30, 31, 32, 33, 34, 35, 36, 37, 38, 39, 40, 41, 42, 43, 44, 45, 46, 47, 48] (fun x => x.1.length) (fun x => [])
    (fun x => B x.2.2 :: pt c3 3 [int 0] :: pt c1 9 [str wPro] :: pt c2 9 [str x.1] :: R)
    (fun x => (∃ nn, (pcs s0).drop x.2.1 = pcsN nn x.1 ∧ x.1.length ≤ nn) ∧ x.1.length ≤ s0.length ∧ ∃ k, GoesN st dom (pcG s0) k x.2.1 x.2.2 t) (s0, 0, s) ⟨⟨s0.length, rfl, Nat.le_refl _⟩, Nat.le_refl _, m, hgo⟩ (by (focus ((repeat (first | exact Keep.nil | apply Keep.drop rfl | apply Keep.keep rfl)); done))) (by (exact sbf)) (by (exact frm)) ?_
  rintro ⟨r, i, s⟩ ⟨⟨nn, hl, hrn⟩, hrl, k, hgo⟩
  dsimp only [List.cons_append, List.nil_append] at *
  have hix := Index_ok r wPro (B s :: pt c3 3 [int 0] :: pt c1 9 [str wPro] :: pt c2 9 [str r] :: R) (by omega)
  have hge := Lib.index_ge r wPro
  by_cases hi0 : 0 ≤ Lib.index r wPro
  · obtain ⟨mm, e1, e2, e3⟩ := pcs_next hi0 hrn
    obtain ⟨q, hq⟩ := Int.eq_ofNat_of_zero_le hi0
    rw [hq] at e1 e2 e3
    simp only [Int.toNat_natCast] at e1 e2 e3
    rw [hq] at hix
    have hIx : Called Tryd.prog 78 [str r, str wPro] (B s :: pt c3 3 [int 0] :: pt c1 9 [str wPro] :: pt c2 9 [str r] :: R) (is (int (q : Int)) (B s :: pt c3 3 [int 0] :: pt c1 9 [str wPro] :: pt c2 9 [str r] :: R)) := hix
    have hg : pcG s0 i = some [str (r.take q)] := by
      unfold pcG
      have h0 : ((pcs s0).drop i)[0]? = some (r.take q) := by rw [hl, e1]; rfl
      rw [List.getElem?_drop, Nat.add_zero] at h0
      rw [h0]; rfl
    obtain ⟨hd, hgo2⟩ := hgo.some hg
    have hl2 : (pcs s0).drop (i + 1) = pcsN mm (r.drop (q + 8)) := by rw [← List.drop_drop, hl, e1]; rfl
    have hqn : ¬ (q : Int) < 0 := by omega
    clear hix hq e1 hge hi0
    (repeat' first | refine stp ?_ | intro v' hv' | intro (b : Nat) | (apply w_convU; rfl; rfl; omega; omega) | (apply w_convI; rfl; rfl; omega; omega) | (apply w_quoU; rfl; rfl; rfl; omega; omega; omega) | (apply w_remU; rfl; rfl; rfl; omega; omega) | (apply w_minL; rfl; rfl; rfl; omega) | (apply w_minG; rfl; rfl; rfl; omega) | (apply w_min; rfl; rfl; rfl) | (apply w_mfR; rfl; rfl) | (apply w_cvp; rfl; rfl; exact inferInstance; rfl; rfl; assumption) | (apply w_eqS2T; rfl; rfl; rfl; omega) | (apply w_eqS2F; rfl; rfl; rfl; omega) | (apply w_neS2T; rfl; rfl; rfl; omega) | (apply w_neS2F; rfl; rfl; rfl; omega) | (apply w_eqS3T; rfl; rfl; rfl; omega) | (apply w_eqS3F; rfl; rfl; rfl; omega) | (apply w_neS3T; rfl; rfl; rfl; omega) | (apply w_neS3F; rfl; rfl; rfl; omega) | (apply w_eqS3; rfl; rfl; rfl) | (apply w_neS3; rfl; rfl; rfl) | (apply w_eqS2; rfl; rfl; rfl) | (apply w_neS2; rfl; rfl; rfl) | (apply w_maxL; rfl; rfl; rfl; omega) | (apply w_maxG; rfl; rfl; rfl; omega) | (apply w_max; rfl; rfl; rfl) | (apply w_neB; rfl; rfl; rfl; rfl) | (apply w_eqB; rfl; rfl; rfl; rfl) | (apply w_strA; rfl; rfl; rfl; first | omega | (simp only [List.length_append, List.length_cons, List.length_nil]; omega)) | (apply w_strET; rfl; rfl; rfl; assumption) | (apply w_strEF; rfl; rfl; rfl; assumption) | (apply w_strNF; rfl; rfl; rfl; assumption) | (apply w_strNT; rfl; rfl; rfl; assumption) | (apply w_strE; rfl; rfl; rfl; rfl) | (apply w_strN; rfl; rfl; rfl; rfl) | (apply w_strL; rfl; rfl) | (apply w_strSh (j' := q); rfl; rfl; rfl; omega; omega) | (apply w_strSl (i' := q + 8); rfl; rfl; rfl; omega; omega) | (apply w_mf3; rfl; rfl; rfl; rfl) | (apply w_cd; rfl; rfl; exact hIx; ((exact kmf))) | refine spl ?_ ?_ | intro hc)
    all_goals first | (exfalso; omega) | skip
    apply w_yield
    rfl; rfl; rfl; exact hy; exact hd; ((focus ((repeat (first | exact Del.here | apply Del.there)); done))); ((exact kmf))
    rcases hgo2 with ⟨hb, rfl⟩ | ⟨hb, k', rfl, hgo2⟩
    · rw [hb]
      (repeat' first | refine stp ?_ | intro v' hv' | intro (b : Nat) | (apply w_convU; rfl; rfl; omega; omega) | (apply w_convI; rfl; rfl; omega; omega) | (apply w_quoU; rfl; rfl; rfl; omega; omega; omega) | (apply w_remU; rfl; rfl; rfl; omega; omega) | (apply w_minL; rfl; rfl; rfl; omega) | (apply w_minG; rfl; rfl; rfl; omega) | (apply w_min; rfl; rfl; rfl) | (apply w_mfR; rfl; rfl) | (apply w_cvp; rfl; rfl; exact inferInstance; rfl; rfl; assumption) | (apply w_eqS2T; rfl; rfl; rfl; omega) | (apply w_eqS2F; rfl; rfl; rfl; omega) | (apply w_neS2T; rfl; rfl; rfl; omega) | (apply w_neS2F; rfl; rfl; rfl; omega) | (apply w_eqS3T; rfl; rfl; rfl; omega) | (apply w_eqS3F; rfl; rfl; rfl; omega) | (apply w_neS3T; rfl; rfl; rfl; omega) | (apply w_neS3F; rfl; rfl; rfl; omega) | (apply w_eqS3; rfl; rfl; rfl) | (apply w_neS3; rfl; rfl; rfl) | (apply w_eqS2; rfl; rfl; rfl) | (apply w_neS2; rfl; rfl; rfl) | (apply w_maxL; rfl; rfl; rfl; omega) | (apply w_maxG; rfl; rfl; rfl; omega) | (apply w_max; rfl; rfl; rfl) | (apply w_neB; rfl; rfl; rfl; rfl) | (apply w_eqB; rfl; rfl; rfl; rfl) | (apply w_strA; rfl; rfl; rfl; first | omega | (simp only [List.length_append, List.length_cons, List.length_nil]; omega)) | (apply w_strET; rfl; rfl; rfl; assumption) | (apply w_strEF; rfl; rfl; rfl; assumption) | (apply w_strNF; rfl; rfl; rfl; assumption) | (apply w_strNT; rfl; rfl; rfl; assumption) | (apply w_strE; rfl; rfl; rfl; rfl) | (apply w_strN; rfl; rfl; rfl; rfl) | (apply w_strL; rfl; rfl) | (apply w_strSh (j' := q); rfl; rfl; rfl; omega; omega) | (apply w_strSl (i' := q + 8); rfl; rfl; rfl; omega; omega) | (apply w_mf3; rfl; rfl; rfl; rfl) | (apply w_cd; rfl; rfl; exact hIx; ((exact kmf))) | refine spl ?_ ?_ | intro hc)
      exact At_ret0 (by (first | exact .inl rfl | exact .inr rfl)) Tryd.results76 ⟨rfl, rfl⟩ (fun w h => hfold _ _ w (Sel.sat (by (focus ((repeat (first | exact Sel.refl | (apply Sel.cons; (focus ((repeat (first | exact Del.here | apply Del.there)); done))) | refine Sel.drop ?_)); done))) h))
    · rw [hb]
      (repeat' first | refine stp ?_ | intro v' hv' | intro (b : Nat) | (apply w_convU; rfl; rfl; omega; omega) | (apply w_convI; rfl; rfl; omega; omega) | (apply w_quoU; rfl; rfl; rfl; omega; omega; omega) | (apply w_remU; rfl; rfl; rfl; omega; omega) | (apply w_minL; rfl; rfl; rfl; omega) | (apply w_minG; rfl; rfl; rfl; omega) | (apply w_min; rfl; rfl; rfl) | (apply w_mfR; rfl; rfl) | (apply w_cvp; rfl; rfl; exact inferInstance; rfl; rfl; assumption) | (apply w_eqS2T; rfl; rfl; rfl; omega) | (apply w_eqS2F; rfl; rfl; rfl; omega) | (apply w_neS2T; rfl; rfl; rfl; omega) | (apply w_neS2F; rfl; rfl; rfl; omega) | (apply w_eqS3T; rfl; rfl; rfl; omega) | (apply w_eqS3F; rfl; rfl; rfl; omega) | (apply w_neS3T; rfl; rfl; rfl; omega) | (apply w_neS3F; rfl; rfl; rfl; omega) | (apply w_eqS3; rfl; rfl; rfl) | (apply w_neS3; rfl; rfl; rfl) | (apply w_eqS2; rfl; rfl; rfl) | (apply w_neS2; rfl; rfl; rfl) | (apply w_maxL; rfl; rfl; rfl; omega) | (apply w_maxG; rfl; rfl; rfl; omega) | (apply w_max; rfl; rfl; rfl) | (apply w_neB; rfl; rfl; rfl; rfl) | (apply w_eqB; rfl; rfl; rfl; rfl) | (apply w_strA; rfl; rfl; rfl; first | omega | (simp only [List.length_append, List.length_cons, List.length_nil]; omega)) | (apply w_strET; rfl; rfl; rfl; assumption) | (apply w_strEF; rfl; rfl; rfl; assumption) | (apply w_strNF; rfl; rfl; rfl; assumption) | (apply w_strNT; rfl; rfl; rfl; assumption) | (apply w_strE; rfl; rfl; rfl; rfl) | (apply w_strN; rfl; rfl; rfl; rfl) | (apply w_strL; rfl; rfl) | (apply w_strSh (j' := q); rfl; rfl; rfl; omega; omega) | (apply w_strSl (i' := q + 8); rfl; rfl; rfl; omega; omega) | (apply w_mf3; rfl; rfl; rfl; rfl) | (apply w_cd; rfl; rfl; exact hIx; ((exact kmf))) | refine spl ?_ ?_ | intro hc)
      exact At_againK (r.drop (q + 8), i + 1, _) ⟨⟨mm, hl2, e2⟩, by show (r.drop (q + 8)).length ≤ _; rw [List.length_drop]; omega, k', hgo2⟩ (by show (r.drop (q + 8)).length < r.length; rw [List.length_drop]; omega) (by (exact sbf)) (by (exact sbf)) (by (exact frm))
  · have e1 := pcs_last (n := nn) (s := r) (by omega)
    have hq : Lib.index r wPro = -1 := by omega
    rw [hq] at hix
    have hg : pcG s0 i = some [str r] := by
      unfold pcG
      have h0 : ((pcs s0).drop i)[0]? = some r := by rw [hl, e1]; rfl
      rw [List.getElem?_drop, Nat.add_zero] at h0
      rw [h0]; rfl
    obtain ⟨hd, hgo2⟩ := hgo.some hg
    have hend : pcG s0 (i + 1) = none := by
      unfold pcG
      have h0 : ((pcs s0).drop i)[1]? = none := by rw [hl, e1]; rfl
      rw [List.getElem?_drop] at h0
      rw [h0]; rfl
    have q : Nat := 0
    have hIx := hix
    clear hq e1 hge hi0
    (repeat' first | refine stp ?_ | intro v' hv' | intro (b : Nat) | (apply w_convU; rfl; rfl; omega; omega) | (apply w_convI; rfl; rfl; omega; omega) | (apply w_quoU; rfl; rfl; rfl; omega; omega; omega) | (apply w_remU; rfl; rfl; rfl; omega; omega) | (apply w_minL; rfl; rfl; rfl; omega) | (apply w_minG; rfl; rfl; rfl; omega) | (apply w_min; rfl; rfl; rfl) | (apply w_mfR; rfl; rfl) | (apply w_cvp; rfl; rfl; exact inferInstance; rfl; rfl; assumption) | (apply w_eqS2T; rfl; rfl; rfl; omega) | (apply w_eqS2F; rfl; rfl; rfl; omega) | (apply w_neS2T; rfl; rfl; rfl; omega) | (apply w_neS2F; rfl; rfl; rfl; omega) | (apply w_eqS3T; rfl; rfl; rfl; omega) | (apply w_eqS3F; rfl; rfl; rfl; omega) | (apply w_neS3T; rfl; rfl; rfl; omega) | (apply w_neS3F; rfl; rfl; rfl; omega) | (apply w_eqS3; rfl; rfl; rfl) | (apply w_neS3; rfl; rfl; rfl) | (apply w_eqS2; rfl; rfl; rfl) | (apply w_neS2; rfl; rfl; rfl) | (apply w_maxL; rfl; rfl; rfl; omega) | (apply w_maxG; rfl; rfl; rfl; omega) | (apply w_max; rfl; rfl; rfl) | (apply w_neB; rfl; rfl; rfl; rfl) | (apply w_eqB; rfl; rfl; rfl; rfl) | (apply w_strA; rfl; rfl; rfl; first | omega | (simp only [List.length_append, List.length_cons, List.length_nil]; omega)) | (apply w_strET; rfl; rfl; rfl; assumption) | (apply w_strEF; rfl; rfl; rfl; assumption) | (apply w_strNF; rfl; rfl; rfl; assumption) | (apply w_strNT; rfl; rfl; rfl; assumption) | (apply w_strE; rfl; rfl; rfl; rfl) | (apply w_strN; rfl; rfl; rfl; rfl) | (apply w_strL; rfl; rfl) | (apply w_strSh (j' := q); rfl; rfl; rfl; omega; omega) | (apply w_strSl (i' := q + 8); rfl; rfl; rfl; omega; omega) | (apply w_mf3; rfl; rfl; rfl; rfl) | (apply w_cd; rfl; rfl; exact hIx; ((exact kmf))) | refine spl ?_ ?_ | intro hc)
    all_goals first | (exfalso; omega) | skip
    apply w_yield
    rfl; rfl; rfl; exact hy; exact hd; ((focus ((repeat (first | exact Del.here | apply Del.there)); done))); ((exact kmf))
    have hlast : ∀ w, Sat w (B (st s [str r]).2 :: pt c3 3 [int 0] :: pt c1 9 [str wPro] :: pt c2 9 [str r] :: R) → Sat w (spE c1 c2 c3 :: B t :: R) := by
      rcases hgo2 with ⟨hb, rfl⟩ | ⟨hb, k', rfl, hgo2⟩
      · exact fun w h => hfold _ _ w h
      · obtain rfl := hgo2.none hend
        exact fun w h => hfold _ _ w h
    (repeat' first | refine stp ?_ | intro v' hv' | intro (b : Nat) | (apply w_convU; rfl; rfl; omega; omega) | (apply w_convI; rfl; rfl; omega; omega) | (apply w_quoU; rfl; rfl; rfl; omega; omega; omega) | (apply w_remU; rfl; rfl; rfl; omega; omega) | (apply w_minL; rfl; rfl; rfl; omega) | (apply w_minG; rfl; rfl; rfl; omega) | (apply w_min; rfl; rfl; rfl) | (apply w_mfR; rfl; rfl) | (apply w_cvp; rfl; rfl; exact inferInstance; rfl; rfl; assumption) | (apply w_eqS2T; rfl; rfl; rfl; omega) | (apply w_eqS2F; rfl; rfl; rfl; omega) | (apply w_neS2T; rfl; rfl; rfl; omega) | (apply w_neS2F; rfl; rfl; rfl; omega) | (apply w_eqS3T; rfl; rfl; rfl; omega) | (apply w_eqS3F; rfl; rfl; rfl; omega) | (apply w_neS3T; rfl; rfl; rfl; omega) | (apply w_neS3F; rfl; rfl; rfl; omega) | (apply w_eqS3; rfl; rfl; rfl) | (apply w_neS3; rfl; rfl; rfl) | (apply w_eqS2; rfl; rfl; rfl) | (apply w_neS2; rfl; rfl; rfl) | (apply w_maxL; rfl; rfl; rfl; omega) | (apply w_maxG; rfl; rfl; rfl; omega) | (apply w_max; rfl; rfl; rfl) | (apply w_neB; rfl; rfl; rfl; rfl) | (apply w_eqB; rfl; rfl; rfl; rfl) | (apply w_strA; rfl; rfl; rfl; first | omega | (simp only [List.length_append, List.length_cons, List.length_nil]; omega)) | (apply w_strET; rfl; rfl; rfl; assumption) | (apply w_strEF; rfl; rfl; rfl; assumption) | (apply w_strNF; rfl; rfl; rfl; assumption) | (apply w_strNT; rfl; rfl; rfl; assumption) | (apply w_strE; rfl; rfl; rfl; rfl) | (apply w_strN; rfl; rfl; rfl; rfl) | (apply w_strL; rfl; rfl) | (apply w_strSh (j' := q); rfl; rfl; rfl; omega; omega) | (apply w_strSl (i' := q + 8); rfl; rfl; rfl; omega; omega) | (apply w_mf3; rfl; rfl; rfl; rfl) | (apply w_cd; rfl; rfl; exact hIx; ((exact kmf))) | refine spl ?_ ?_ | intro hc)
    exact At_ret0 (by (first | exact .inl rfl | exact .inr rfl)) Tryd.results76 ⟨rfl, rfl⟩ (fun w h => hlast w (Sel.sat (by (focus ((repeat (first | exact Sel.refl | (apply Sel.cons; (focus ((repeat (first | exact Del.here | apply Del.there)); done))) | refine Sel.drop ?_)); done))) h))
theorem splitSeq_ok (s : List UInt8) (R : List HP) : Called Tryd.prog 63 [str s, str wPro, int 0] R (fun u M => ∃ c1 c2 c3, u = .func (.func 76) #[] #[ptr c1, ptr c2, ptr c3] ∧ M = pt c3 3 [int 0] :: pt c1 9 [str wPro] :: pt c2 9 [str s] :: R) := by
  refine Fn3 Tryd.func63 rfl Tryd.ntmps63 rfl ?_
  have q : Nat := 0
  have hIx : True := trivial
  (repeat' first | refine stp ?_ | intro v' hv' | intro (b : Nat) | (apply w_convU; rfl; rfl; omega; omega) | (apply w_convI; rfl; rfl; omega; omega) | (apply w_quoU; rfl; rfl; rfl; omega; omega; omega) | (apply w_remU; rfl; rfl; rfl; omega; omega) | (apply w_minL; rfl; rfl; rfl; omega) | (apply w_minG; rfl; rfl; rfl; omega) | (apply w_min; rfl; rfl; rfl) | (apply w_mfR; rfl; rfl) | (apply w_cvp; rfl; rfl; exact inferInstance; rfl; rfl; assumption) | (apply w_eqS2T; rfl; rfl; rfl; omega) | (apply w_eqS2F; rfl; rfl; rfl; omega) | (apply w_neS2T; rfl; rfl; rfl; omega) | (apply w_neS2F; rfl; rfl; rfl; omega) | (apply w_eqS3T; rfl; rfl; rfl; omega) | (apply w_eqS3F; rfl; rfl; rfl; omega) | (apply w_neS3T; rfl; rfl; rfl; omega) | (apply w_neS3F; rfl; rfl; rfl; omega) | (apply w_eqS3; rfl; rfl; rfl) | (apply w_neS3; rfl; rfl; rfl) | (apply w_eqS2; rfl; rfl; rfl) | (apply w_neS2; rfl; rfl; rfl) | (apply w_maxL; rfl; rfl; rfl; omega) | (apply w_maxG; rfl; rfl; rfl; omega) | (apply w_max; rfl; rfl; rfl) | (apply w_neB; rfl; rfl; rfl; rfl) | (apply w_eqB; rfl; rfl; rfl; rfl) | (apply w_strA; rfl; rfl; rfl; first | omega | (simp only [List.length_append, List.length_cons, List.length_nil]; omega)) | (apply w_strET; rfl; rfl; rfl; assumption) | (apply w_strEF; rfl; rfl; rfl; assumption) | (apply w_strNF; rfl; rfl; rfl; assumption) | (apply w_strNT; rfl; rfl; rfl; assumption) | (apply w_strE; rfl; rfl; rfl; rfl) | (apply w_strN; rfl; rfl; rfl; rfl) | (apply w_strL; rfl; rfl) | (apply w_strSh (j' := q); rfl; rfl; rfl; omega; omega) | (apply w_strSl (i' := q + 8); rfl; rfl; rfl; omega; omega) | (apply w_mf3; rfl; rfl; rfl; rfl) | (apply w_cd; rfl; rfl; exact hIx; ((exact kmf))) | refine spl ?_ ?_ | intro hc)
  exact At_ret1 (by (first | exact .inl rfl | exact .inr rfl)) Tryd.results63 rfl ⟨_, _, _, rfl, rfl⟩ (by (exact frm))
theorem SplitSeq_ok (s : List UInt8) (R : List HP) : Called Tryd.prog 43 [str s, str wPro] R (fun u M => ∃ c1 c2 c3, u = .func (.func 76) #[] #[ptr c1, ptr c2, ptr c3] ∧ M = pt c3 3 [int 0] :: pt c1 9 [str wPro] :: pt c2 9 [str s] :: R) := by
  refine Fn2 Tryd.func43 rfl Tryd.ntmps43 rfl ?_
  (repeat' first | refine stp ?_ | intro v' hv' | intro (b : Nat) | (apply w_convU; rfl; rfl; omega; omega) | (apply w_convI; rfl; rfl; omega; omega) | (apply w_quoU; rfl; rfl; rfl; omega; omega; omega) | (apply w_remU; rfl; rfl; rfl; omega; omega) | (apply w_minL; rfl; rfl; rfl; omega) | (apply w_minG; rfl; rfl; rfl; omega) | (apply w_min; rfl; rfl; rfl) | (apply w_mfR; rfl; rfl) | (apply w_cvp; rfl; rfl; exact inferInstance; rfl; rfl; assumption) | (apply w_eqS2T; rfl; rfl; rfl; omega) | (apply w_eqS2F; rfl; rfl; rfl; omega) | (apply w_neS2T; rfl; rfl; rfl; omega) | (apply w_neS2F; rfl; rfl; rfl; omega) | (apply w_eqS3T; rfl; rfl; rfl; omega) | (apply w_eqS3F; rfl; rfl; rfl; omega) | (apply w_neS3T; rfl; rfl; rfl; omega) | (apply w_neS3F; rfl; rfl; rfl; omega) | (apply w_eqS3; rfl; rfl; rfl) | (apply w_neS3; rfl; rfl; rfl) | (apply w_eqS2; rfl; rfl; rfl) | (apply w_neS2; rfl; rfl; rfl) | (apply w_maxL; rfl; rfl; rfl; omega) | (apply w_maxG; rfl; rfl; rfl; omega) | (apply w_max; rfl; rfl; rfl) | (apply w_neB; rfl; rfl; rfl; rfl) | (apply w_eqB; rfl; rfl; rfl; rfl) | (apply w_strA; rfl; rfl; rfl; first | omega | (simp only [List.length_append, List.length_cons, List.length_nil]; omega)) | (apply w_strET; rfl; rfl; rfl; assumption) | (apply w_strEF; rfl; rfl; rfl; assumption) | (apply w_strNF; rfl; rfl; rfl; assumption) | (apply w_strNT; rfl; rfl; rfl; assumption) | (apply w_strE; rfl; rfl; rfl; rfl) | (apply w_strN; rfl; rfl; rfl; rfl) | (apply w_strL; rfl; rfl) | (apply w_cl; rfl; rfl; exact splitSeq_ok _ _; exact ⟨_, _, 0, 0, 0, rfl, rfl⟩; rintro _ _ ⟨c1, c2, c3, rfl, rfl⟩; refine ⟨by (exact kmf), ?_⟩) | refine spl ?_ ?_ | intro hc)
  exact At_ret1 (by (first | exact .inl rfl | exact .inr rfl)) Tryd.results43 rfl ⟨_, _, _, rfl, rfl⟩ (by (exact frm))
end Go.Proofs.YteggkdlgailfoaaDoor
