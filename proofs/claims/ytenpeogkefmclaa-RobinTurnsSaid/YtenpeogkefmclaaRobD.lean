/- Robin: Turns, First, Copy. Conditions: none. -/
import Derived.Test.YtenpeogkefmclaaRobC
import Derived.Test.YtenpeogkefmclaaRange

set_option linter.all false
set_option linter.deprecated false
namespace Go.Proofs.Ytenpeogkefmclaa
open Go.Sep
variable [B0 : Base]

/-- What the iterator holds. -/
def tr (b : Nat) (l : List Th) : HP := ex fun v => all [pt b 56 [v], sl 61 2 v (l.map thE)]
theorem tr_fold {b : Nat} {l : List Th} {v : Value} {w : World} {R : List HP} (h : Sat w (pt b 56 [v] :: sl 61 2 v (l.map thE) :: R)) : Sat w (tr b l :: R) :=
  Sat.ex_iff.2 ⟨v, Sat.all_iff.2 h⟩
theorem C_tr {P : Program} {ro : Option Nat} {Q : Exit → Act → World → Prop} {n : Nat} {F : Fr} {ds : List Deferred} {R : List HP} {cd : Code} {b : Nat} {l : List Th}
    (h : ∀ v, IsSl v l.length → C P ro cd Q n F ds (pt b 56 [v] :: sl 61 2 v (l.map thE) :: R)) : C P ro cd Q n F ds (tr b l :: R) := by
  unfold tr
  refine C_ex fun v => ?_
  refine C_sat (fun w h => Sat.all_iff.1 h) ?_
  exact C_isl (v := v) (by (focus ((repeat (first | assumption | exact Len.of ‹_› | exact .slm | exact .sl | apply Len.there)); done))) fun hN _ => h v hN
attribute [irreducible] tr

/-- What comes in turn, again and again. -/
def turnsF (l : List Th) (i : Nat) : Option (List Value) := (l[i % l.length]?).map fun t => [int t.id]

set_option maxHeartbeats 1000000 in
theorem Turns1_ok (b : Nat) (l : List Th) : Iter Try.prog 31 [] [ptr b] (tr b l) (turnsF l) := by
  intro τ B st dom yf s t R hy hgo
  obtain ⟨k, hgo⟩ := hgo.steps
  show Called Try.prog 31 [yf, ptr b] (tr b l :: B s :: R) (is (.tuple #[]) (tr b l :: B t :: R))
  refine Fn2 Try.func31 rfl Try.ntmps31 rfl ?_
  refine C_tr fun v hv => ?_
  have hN := hv.len
  (repeat' first | refine stp ?_ | intro v' hv' | intro (b : Nat) | (apply w_cl; rfl; rfl; exact Called.del (by (focus ((repeat (first | exact Del.here | apply Del.there)); done))) (Turns_ok _ _); exact ⟨_, _, 0, rfl, rfl⟩; rintro _ _ ⟨bt, rfl, rfl⟩; refine ⟨by (exact kmf), ?_⟩) | (apply w_cq0; rfl; rfl; exact Called.at (by (focus ((repeat (first | exact Rep.here | apply Rep.there)); done))) (Len_ok _ _)) | (apply w_cq; rfl; rfl; exact Called.at (by (focus ((repeat (first | exact Rep.here | apply Rep.there)); done))) (Len_ok _ _)))
  refine C_loop (fun m F L' => ∃ (i : Nat) (s : τ) (z : Int), GoesN st dom (turnsF l) m i s t ∧ z = ((i % l.length : Nat) : Int) ∧ F = [(0, yf), (1, ptr b), (3, int z)] ∧ L' = B s :: pt b 56 [v] :: sl 61 2 v (l.map thE) :: R) k _ _
    ⟨0, s, 0, hgo, by simp, rfl, rfl⟩ (by (exact sbf)) (by (exact frm)) ?_
  rintro m F L' ⟨i, s, z, hgo, rfl, rfl, rfl⟩
  have hfold : ∀ s w, Sat w (B s :: pt b 56 [v] :: sl 61 2 v (l.map thE) :: R) → Sat w (tr b l :: B s :: R) := fun s w h => tr_fold (Sel.sat (by (focus ((repeat (first | exact Sel.refl | (apply Sel.cons; (focus ((repeat (first | exact Del.here | apply Del.there)); done))) | refine Sel.drop ?_)); done))) h)
  (repeat' first | refine stp ?_ | intro v' hv' | intro (b : Nat) | (apply w_cl; rfl; rfl; exact Called.del (by (focus ((repeat (first | exact Del.here | apply Del.there)); done))) (Turns_ok _ _); exact ⟨_, _, 0, rfl, rfl⟩; rintro _ _ ⟨bt, rfl, rfl⟩; refine ⟨by (exact kmf), ?_⟩) | (apply w_cq0; rfl; rfl; exact Called.at (by (focus ((repeat (first | exact Rep.here | apply Rep.there)); done))) (Len_ok _ _)) | (apply w_cq; rfl; rfl; exact Called.at (by (focus ((repeat (first | exact Rep.here | apply Rep.there)); done))) (Len_ok _ _)))
  refine C_cond rfl (fun hc => ?_) (fun hc => ?_)
  · have hpos : 0 < l.length := by simp at hc; omega
    have hj : i % l.length < l.length := Nat.mod_lt _ hpos
    obtain ⟨th, ht⟩ : ∃ th, l[i % l.length]? = some th := ⟨l[i % l.length], by simp [hj]⟩
    have hget : (l.map thE)[i % l.length]? = some (thE th) := by simp [ht]
    obtain ⟨hd, hgo2⟩ := hgo.some (x := [int th.id]) (by simp [turnsF, ht])
    generalize hjj : i % l.length = j at *
    (repeat' first | refine stp ?_ | intro v' hv' | intro (b : Nat) | (apply w_cl; rfl; rfl; exact Called.del (by (focus ((repeat (first | exact Del.here | apply Del.there)); done))) (Turns_ok _ _); exact ⟨_, _, 0, rfl, rfl⟩; rintro _ _ ⟨bt, rfl, rfl⟩; refine ⟨by (exact kmf), ?_⟩) | (apply w_cq0; rfl; rfl; exact Called.at (by (focus ((repeat (first | exact Rep.here | apply Rep.there)); done))) (Len_ok _ _)) | (apply w_cq; rfl; rfl; exact Called.at (by (focus ((repeat (first | exact Rep.here | apply Rep.there)); done))) (Len_ok _ _)))
    apply w_yield
    rfl; rfl; rfl; exact hy; exact hd; ((focus ((repeat (first | exact Del.here | apply Del.there)); done))); ((exact kmf))
    (repeat' first | refine stp ?_ | intro v' hv' | intro (b : Nat) | (apply w_cl; rfl; rfl; exact Called.del (by (focus ((repeat (first | exact Del.here | apply Del.there)); done))) (Turns_ok _ _); exact ⟨_, _, 0, rfl, rfl⟩; rintro _ _ ⟨bt, rfl, rfl⟩; refine ⟨by (exact kmf), ?_⟩) | (apply w_cq0; rfl; rfl; exact Called.at (by (focus ((repeat (first | exact Rep.here | apply Rep.there)); done))) (Len_ok _ _)) | (apply w_cq; rfl; rfl; exact Called.at (by (focus ((repeat (first | exact Rep.here | apply Rep.there)); done))) (Len_ok _ _)))
    rcases hgo2 with ⟨hb, rfl⟩ | ⟨hb, k', rfl, hgo2⟩
    · refine C_cond rfl (fun hc => ?_) (fun hc => ?_)
      · (repeat' first | refine stp ?_ | intro v' hv' | intro (b : Nat) | (apply w_cl; rfl; rfl; exact Called.del (by (focus ((repeat (first | exact Del.here | apply Del.there)); done))) (Turns_ok _ _); exact ⟨_, _, 0, rfl, rfl⟩; rintro _ _ ⟨bt, rfl, rfl⟩; refine ⟨by (exact kmf), ?_⟩) | (apply w_cq0; rfl; rfl; exact Called.at (by (focus ((repeat (first | exact Rep.here | apply Rep.there)); done))) (Len_ok _ _)) | (apply w_cq; rfl; rfl; exact Called.at (by (focus ((repeat (first | exact Rep.here | apply Rep.there)); done))) (Len_ok _ _)))
        exact At_ret0 (.inl rfl) Try.results31 ⟨rfl, rfl⟩ (hfold _)
      · rw [hb] at hc; cases hc
    · refine C_cond rfl (fun hc => ?_) (fun hc => ?_)
      · rw [hb] at hc; cases hc
      · (repeat' first | refine stp ?_ | intro v' hv' | intro (b : Nat) | (apply w_cl; rfl; rfl; exact Called.del (by (focus ((repeat (first | exact Del.here | apply Del.there)); done))) (Turns_ok _ _); exact ⟨_, _, 0, rfl, rfl⟩; rintro _ _ ⟨bt, rfl, rfl⟩; refine ⟨by (exact kmf), ?_⟩) | (apply w_cq0; rfl; rfl; exact Called.at (by (focus ((repeat (first | exact Rep.here | apply Rep.there)); done))) (Len_ok _ _)) | (apply w_cq; rfl; rfl; exact Called.at (by (focus ((repeat (first | exact Rep.here | apply Rep.there)); done))) (Len_ok _ _)))
        refine At_again k' _ _ (by omega) ⟨i + 1, _, ((j : Int) + 1).tmod l.length, hgo2, ?_, rfl, rfl⟩ (by (exact sbf)) (fun _ h => h)
        rw [show ((j : Int) + 1) = ((j + 1 : Nat) : Int) by omega, ← Int.ofNat_tmod, ← hjj, Nat.mod_add_mod]
  · have h0 : l.length = 0 := by have := of_decide_eq_false hc; omega
    obtain rfl := hgo.none (by have : l = [] := List.eq_nil_of_length_eq_zero h0; subst this; rfl)
    (repeat' first | refine stp ?_ | intro v' hv' | intro (b : Nat) | (apply w_cl; rfl; rfl; exact Called.del (by (focus ((repeat (first | exact Del.here | apply Del.there)); done))) (Turns_ok _ _); exact ⟨_, _, 0, rfl, rfl⟩; rintro _ _ ⟨bt, rfl, rfl⟩; refine ⟨by (exact kmf), ?_⟩) | (apply w_cq0; rfl; rfl; exact Called.at (by (focus ((repeat (first | exact Rep.here | apply Rep.there)); done))) (Len_ok _ _)) | (apply w_cq; rfl; rfl; exact Called.at (by (focus ((repeat (first | exact Rep.here | apply Rep.there)); done))) (Len_ok _ _)))
    exact At_ret0 (.inr rfl) Try.results31 ⟨rfl, rfl⟩ (hfold _)

set_option maxHeartbeats 1000000 in
theorem Turns_ok (p : Nat) (c : Cls) (R : List HP) : Called Try.prog 20 [ptr p] (cls p c :: R) (fun u M => ∃ b, u = .func (.func 31) #[] #[ptr b] ∧ M = tr b c.l :: cls p c :: R) := by
  refine Fn1 Try.func20 rfl Try.ntmps20 rfl ?_
  refine C_cls fun v ho hv => ?_
  have ho3 := ho.2.2.1
  (repeat' first | refine stp ?_ | intro v' hv' | intro (b : Nat) | (apply w_cl; rfl; rfl; exact Called.del (by (focus ((repeat (first | exact Del.here | apply Del.there)); done))) (Turns_ok _ _); exact ⟨_, _, 0, rfl, rfl⟩; rintro _ _ ⟨bt, rfl, rfl⟩; refine ⟨by (exact kmf), ?_⟩) | (apply w_cq0; rfl; rfl; exact Called.at (by (focus ((repeat (first | exact Rep.here | apply Rep.there)); done))) (Len_ok _ _)) | (apply w_cq; rfl; rfl; exact Called.at (by (focus ((repeat (first | exact Rep.here | apply Rep.there)); done))) (Len_ok _ _)))
  apply w_clS
  rfl; rfl; exact Called.del1 (by (focus ((repeat (first | exact Del.here | apply Del.there)); done))) (Clone_ok v (c.l.map thE) (by simp [List.all_map, thE, Value.oneCell']) (by simp; omega) _)
  (simp; omega)
  intro v' hv'
  refine ⟨by (exact kmf), ?_⟩
  (repeat' first | refine stp ?_ | intro v' hv' | intro (b : Nat) | (apply w_cl; rfl; rfl; exact Called.del (by (focus ((repeat (first | exact Del.here | apply Del.there)); done))) (Turns_ok _ _); exact ⟨_, _, 0, rfl, rfl⟩; rintro _ _ ⟨bt, rfl, rfl⟩; refine ⟨by (exact kmf), ?_⟩) | (apply w_cq0; rfl; rfl; exact Called.at (by (focus ((repeat (first | exact Rep.here | apply Rep.there)); done))) (Len_ok _ _)) | (apply w_cq; rfl; rfl; exact Called.at (by (focus ((repeat (first | exact Rep.here | apply Rep.there)); done))) (Len_ok _ _)))
  refine At_ret1 (.inl rfl) Try.results20 rfl ⟨_, rfl, rfl⟩ (fun w h => ?_)
  have h1 : Sat w (pt p 58 [.int .i64 c.q, v] :: sl 61 2 v (c.l.map thE) :: pt b 56 [v'] :: sl 61 2 v' (c.l.map thE) :: R) := Sel.sat (by (focus ((repeat (first | exact Sel.refl | (apply Sel.cons; (focus ((repeat (first | exact Del.here | apply Del.there)); done))) | refine Sel.drop ?_)); done))) h
  have h2 := cls_fold ho h1
  exact (tr_fold (Sel.sat (by (focus ((repeat (first | exact Sel.refl | (apply Sel.cons; (focus ((repeat (first | exact Del.here | apply Del.there)); done))) | refine Sel.drop ?_)); done))) h2 : Sat w (pt b 56 [v'] :: sl 61 2 v' (c.l.map thE) :: cls p c :: R)))

/-- The first n. -/
def firstM (c : Cls) (n : Int) : List Int := (c.l.map (·.id)).take (min n c.l.length).toNat
/-- What First has gathered, with what it reads. -/
def fst (p : Nat) (c : Cls) (n : Int) (b2 b3 b5 : Nat) (out : List Int) : HP :=
  ex fun v => all [fact (out.length ≤ 64), pt b5 22 [v], sl 3 1 v (out.map inE), cls p c, pt b2 23 [ptr p], pt b3 3 [int n]]
theorem fst_fold {p : Nat} {c : Cls} {n : Int} {b2 b3 b5 : Nat} {out : List Int} {v : Value} {w : World} {R : List HP} (ho : out.length ≤ 64) (h : Sat w (pt b5 22 [v] :: sl 3 1 v (out.map inE) :: cls p c :: pt b2 23 [ptr p] :: pt b3 3 [int n] :: R)) : Sat w (fst p c n b2 b3 b5 out :: R) :=
  Sat.ex_iff.2 ⟨v, Sat.all_iff.2 (Sat.fact_iff.2 ⟨ho, h⟩)⟩
theorem C_fst {P : Program} {ro : Option Nat} {Q : Exit → Act → World → Prop} {n : Nat} {F : Fr} {ds : List Deferred} {R : List HP} {cd : Code} {p : Nat} {c : Cls} {m : Int} {b2 b3 b5 : Nat} {out : List Int}
    (h : ∀ v, out.length ≤ 64 → IsSl v out.length → C P ro cd Q n F ds (pt b5 22 [v] :: sl 3 1 v (out.map inE) :: cls p c :: pt b2 23 [ptr p] :: pt b3 3 [int m] :: R)) : C P ro cd Q n F ds (fst p c m b2 b3 b5 out :: R) := by
  unfold fst
  refine C_ex fun v => ?_
  refine C_sat (fun w h => Sat.all_iff.1 h) ?_
  refine C_fact fun ho => ?_
  exact C_isl (v := v) (by (focus ((repeat (first | assumption | exact Len.of ‹_› | exact .slm | exact .sl | apply Len.there)); done))) fun hN _ => h v ho hN
theorem W_fst {P : Program} {ro : Option Nat} {ops : Array Oper} {Q : Exit → Act → World → Prop} {n : Nat} {F : Fr} {ds : List Deferred} {R : List HP} {cd : List Oper} {p : Nat} {c : Cls} {m : Int} {b2 b3 b5 : Nat} {out : List Int}
    (h : ∀ v, out.length ≤ 64 → IsSl v out.length → W P ro none ops Q n cd F ds (pt b5 22 [v] :: sl 3 1 v (out.map inE) :: cls p c :: pt b2 23 [ptr p] :: pt b3 3 [int m] :: R)) : W P ro none ops Q n cd F ds (fst p c m b2 b3 b5 out :: R) := by
  unfold fst
  refine W_ex fun v => ?_
  refine W_know (p := out.length ≤ 64) (fun w h => (Sat.fact_iff.1 (Sat.all_iff.1 h)).1) fun ho => ?_
  refine W_sat (fun w h => (Sat.fact_iff.1 (Sat.all_iff.1 h)).2) ?_
  exact W_know (p := IsSl v out.length) (fun w hs => Len.slm.there.out w hs) fun hN => h v ho hN
attribute [irreducible] fst

def fstStep (c : Cls) (n : Int) (out : List Int) (xs : List Value) : Option Code × List Int :=
  if min n c.l.length ≤ (out.length : Int) then (some (.exit 0), out) else (none, out ++ (match xs with | [.int _ i] => [i] | _ => []))
def fstDom (out : List Int) (xs : List Value) : Prop := ∃ i, xs = [int i]

theorem fst_no {c : Cls} {n : Int} {out : List Int} {xs : List Value} (h : min n c.l.length ≤ (out.length : Int)) : fstStep c n out xs = (some (.exit 0), out) := if_pos h
theorem fst_on {c : Cls} {n : Int} {out : List Int} {i : Int} (h : ¬ min n c.l.length ≤ (out.length : Int)) : fstStep c n out [int i] = (none, out ++ [i]) := if_neg h

theorem first_goes (c : Cls) (n : Int) : ∃ pe, Goes (fun (s : List Int × Option Code) xs => ((fstStep c n s.1 xs).1.isNone, ((fstStep c n s.1 xs).2, (fstStep c n s.1 xs).1))) (fun s xs => s.2 = none ∧ fstDom s.1 xs) (turnsF c.l) 0 ([], none) (firstM c n, pe) ∧ (pe = none ∨ pe = some (.exit 0)) := by
  by_cases h0 : c.l.length = 0
  · have hl : c.l = [] := List.eq_nil_of_length_eq_zero h0
    refine ⟨none, ?_, .inl rfl⟩
    have : firstM c n = [] := by simp [firstM, hl]
    rw [this]
    exact .stop (by simp [turnsF, hl])
  · have hpos : 0 < c.l.length := Nat.pos_of_ne_zero h0
    generalize hm : (min n (c.l.length : Int)).toNat = m
    have hml : m ≤ c.l.length := by omega
    have key : ∀ k i, i + k = m → Goes (fun (s : List Int × Option Code) xs => ((fstStep c n s.1 xs).1.isNone, ((fstStep c n s.1 xs).2, (fstStep c n s.1 xs).1))) (fun s xs => s.2 = none ∧ fstDom s.1 xs) (turnsF c.l) i ((c.l.map (·.id)).take i, none) ((c.l.map (·.id)).take m, some (.exit 0)) := by
      intro k
      induction k with
      | zero =>
        intro i hi
        obtain rfl : i = m := by omega
        have hj : i % c.l.length < c.l.length := Nat.mod_lt _ hpos
        refine .quit (x := [int (c.l[i % c.l.length]).id]) (by simp [turnsF, hj]) ⟨rfl, _, rfl⟩ ?_
        have hlen : ((c.l.map (·.id)).take i).length = i := by simp; omega
        rw [fst_no (by rw [hlen]; omega)]; rfl
      | succ k ih =>
        intro i hi
        have hlt : i < c.l.length := by omega
        have hj : i % c.l.length = i := Nat.mod_eq_of_lt hlt
        have hlen : ((c.l.map (·.id)).take i).length = i := by simp; omega
        refine .next (x := [int (c.l[i]).id]) (by simp [turnsF, hj, hlt]) ⟨rfl, _, rfl⟩ ?_ (ih (i + 1) (by omega))
        rw [fst_on (by rw [hlen]; omega)]
        have : (c.l.map (·.id)).take (i + 1) = (c.l.map (·.id)).take i ++ [c.l[i].id] := by rw [List.take_succ]; simp [hlt]
        rw [this]; rfl
    refine ⟨_, ?_, .inr rfl⟩
    have := key m 0 (by omega)
    unfold firstM
    rw [hm]; exact this

set_option maxHeartbeats 2000000 in
theorem First_ok (p : Nat) (c : Cls) (n : Int) (R : List HP) : Called Try.prog 13 [ptr p, int n] (cls p c :: R) (retSl 3 1 ((firstM c n).map inE) (cls p c :: R)) := by
  refine Called.isl ?_
  refine FnM2 Try.func13 rfl Try.ntmps13 rfl ?_
  refine C_know (p := c.Ok) (fun w h => let ⟨_, ho, _⟩ := cls_open h; ho) fun hok => ?_
  have hok3 := hok.2.2.1
  (repeat' first | refine stp ?_ | intro v' hv' | intro (b : Nat) | (apply w_cl; rfl; rfl; exact Called.del (by (focus ((repeat (first | exact Del.here | apply Del.there)); done))) (Turns_ok _ _); exact ⟨_, _, 0, rfl, rfl⟩; rintro _ _ ⟨bt, rfl, rfl⟩; refine ⟨by (exact kmf), ?_⟩) | (apply w_cq0; rfl; rfl; exact Called.at (by (focus ((repeat (first | exact Rep.here | apply Rep.there)); done))) (Len_ok _ _)) | (apply w_cq; rfl; rfl; exact Called.at (by (focus ((repeat (first | exact Rep.here | apply Rep.there)); done))) (Len_ok _ _)))
  rename_i b2 b3
  refine C_sat (L' := tr bt c.l :: fst p c n b2 b3 b [] :: R) (fun w h => ?_) ?_
  · have h1 : Sat w (pt b 22 [.slice none 0 0] :: sl 3 1 (.slice none 0 0) (([] : List Int).map inE) :: cls p c :: pt b2 23 [ptr p] :: pt b3 3 [int n] :: tr bt c.l :: R) := Sel.sat (by (focus ((repeat (first | exact Sel.refl | (apply Sel.cons; (focus ((repeat (first | exact Del.here | apply Del.there)); done))) | refine Sel.drop ?_)); done))) (h.sl_nil (E := 3) (n := 1))
    exact (fst_fold (by simp) h1).perm (.swap ..)
  obtain ⟨pe, hgo, hpe⟩ := first_goes c n
  refine C_range (A := fst p c n b2 b3 b) (step := fstStep c n) (dom := fstDom) rfl (Turns1_ok bt c.l) rfl (fun s xs ⟨i, h⟩ => by rw [h]; rfl) Sel.refl ?_ hgo fun r => ?_
  · rintro l r out xs J ⟨i, rfl⟩
    apply Exists.intro
    refine ⟨fun Q r' hQ => ?_, ?_⟩
    · simp only [parF]
      (repeat' first | refine stp ?_ | intro v' hv' | intro (b : Nat) | (apply w_cl; rfl; rfl; exact Called.del (by (focus ((repeat (first | exact Del.here | apply Del.there)); done))) (Turns_ok _ _); exact ⟨_, _, 0, rfl, rfl⟩; rintro _ _ ⟨bt, rfl, rfl⟩; refine ⟨by (exact kmf), ?_⟩) | (apply w_cq0; rfl; rfl; exact Called.at (by (focus ((repeat (first | exact Rep.here | apply Rep.there)); done))) (Len_ok _ _)) | (apply w_cq; rfl; rfl; exact Called.at (by (focus ((repeat (first | exact Rep.here | apply Rep.there)); done))) (Len_ok _ _)))
      exact hQ
    · by_cases hlt : min n c.l.length ≤ (out.length : Int)
      · rw [fst_no hlt]
        refine C_block ?_
        refine C_fst fun v ho hv => ?_
        (repeat' first | refine stp ?_ | intro v' hv' | intro (b : Nat) | (apply w_cl; rfl; rfl; exact Called.del (by (focus ((repeat (first | exact Del.here | apply Del.there)); done))) (Turns_ok _ _); exact ⟨_, _, 0, rfl, rfl⟩; rintro _ _ ⟨bt, rfl, rfl⟩; refine ⟨by (exact kmf), ?_⟩) | (apply w_cq0; rfl; rfl; exact Called.at (by (focus ((repeat (first | exact Rep.here | apply Rep.there)); done))) (Len_ok _ _)) | (apply w_cq; rfl; rfl; exact Called.at (by (focus ((repeat (first | exact Rep.here | apply Rep.there)); done))) (Len_ok _ _)))
        exact At_round_exit (fun w h => fst_fold ho h)
      · rw [fst_on hlt]
        refine C_block ?_
        refine C_fst fun v ho hv => ?_
        (repeat' first | refine stp ?_ | intro v' hv' | intro (b : Nat) | (apply w_cl; rfl; rfl; exact Called.del (by (focus ((repeat (first | exact Del.here | apply Del.there)); done))) (Turns_ok _ _); exact ⟨_, _, 0, rfl, rfl⟩; rintro _ _ ⟨bt, rfl, rfl⟩; refine ⟨by (exact kmf), ?_⟩) | (apply w_cq0; rfl; rfl; exact Called.at (by (focus ((repeat (first | exact Rep.here | apply Rep.there)); done))) (Len_ok _ _)) | (apply w_cq; rfl; rfl; exact Called.at (by (focus ((repeat (first | exact Rep.here | apply Rep.there)); done))) (Len_ok _ _)))
        apply w_ap
        rfl; rfl; rfl; ((focus ((repeat (first | exact Del.here | apply Del.there)); done))); ((exact srf)); rfl; (simp; omega); (simp; omega)
        intro v2 hv2
        refine ⟨by (exact kmf), ?_⟩
        (repeat' first | refine stp ?_ | intro v' hv' | intro (b : Nat) | (apply w_cl; rfl; rfl; exact Called.del (by (focus ((repeat (first | exact Del.here | apply Del.there)); done))) (Turns_ok _ _); exact ⟨_, _, 0, rfl, rfl⟩; rintro _ _ ⟨bt, rfl, rfl⟩; refine ⟨by (exact kmf), ?_⟩) | (apply w_cq0; rfl; rfl; exact Called.at (by (focus ((repeat (first | exact Rep.here | apply Rep.there)); done))) (Len_ok _ _)) | (apply w_cq; rfl; rfl; exact Called.at (by (focus ((repeat (first | exact Rep.here | apply Rep.there)); done))) (Len_ok _ _)))
        refine At_round_normal (fun w h => ?_)
        have e : (out ++ [i]).map inE = out.map inE ++ [[int i]] := by simp [inE]
        refine fst_fold (v := v2) (by simp; omega) ?_
        rw [e]
        exact Sel.sat (by (focus ((repeat (first | exact Sel.refl | (apply Sel.cons; (focus ((repeat (first | exact Del.here | apply Del.there)); done))) | refine Sel.drop ?_)); done))) h
  · have hend : ∀ v, ∀ w, Sat w (pt b 22 [v] :: sl 3 1 v ((firstM c n).map inE) :: cls p c :: pt b2 23 [ptr p] :: pt b3 3 [int n] :: tr bt c.l :: R) → Sat w (sl 3 1 v ((firstM c n).map inE) :: cls p c :: R) := fun v w h => Sel.sat (by (focus ((repeat (first | exact Sel.refl | (apply Sel.cons; (focus ((repeat (first | exact Del.here | apply Del.there)); done))) | refine Sel.drop ?_)); done))) h
    rcases hpe with rfl | rfl
    · simp only [ends]
      (repeat' first | refine stp ?_ | intro v' hv' | intro (b : Nat) | (apply w_cl; rfl; rfl; exact Called.del (by (focus ((repeat (first | exact Del.here | apply Del.there)); done))) (Turns_ok _ _); exact ⟨_, _, 0, rfl, rfl⟩; rintro _ _ ⟨bt, rfl, rfl⟩; refine ⟨by (exact kmf), ?_⟩) | (apply w_cq0; rfl; rfl; exact Called.at (by (focus ((repeat (first | exact Rep.here | apply Rep.there)); done))) (Len_ok _ _)) | (apply w_cq; rfl; rfl; exact Called.at (by (focus ((repeat (first | exact Rep.here | apply Rep.there)); done))) (Len_ok _ _)))
      refine W_sat (L' := fst p c n b2 b3 b (firstM c n) :: mblk r :: tr bt c.l :: R) (by (exact frm)) ?_
      refine W_fst fun v ho hv => ?_
      (repeat' first | refine stp ?_ | intro v' hv' | intro (b : Nat) | (apply w_cl; rfl; rfl; exact Called.del (by (focus ((repeat (first | exact Del.here | apply Del.there)); done))) (Turns_ok _ _); exact ⟨_, _, 0, rfl, rfl⟩; rintro _ _ ⟨bt, rfl, rfl⟩; refine ⟨by (exact kmf), ?_⟩) | (apply w_cq0; rfl; rfl; exact Called.at (by (focus ((repeat (first | exact Rep.here | apply Rep.there)); done))) (Len_ok _ _)) | (apply w_cq; rfl; rfl; exact Called.at (by (focus ((repeat (first | exact Rep.here | apply Rep.there)); done))) (Len_ok _ _)))
      exact AtM_ret1 (.inl rfl) (by (focus ((repeat (first | exact Taken.nil | (apply Taken.cons; (focus ((repeat (first | exact Del.here | apply Del.there)); done))))); done))) Try.results13 rfl rfl (hend v)
    · simp only [ends]
      (repeat' first | refine stp ?_ | intro v' hv' | intro (b : Nat) | (apply w_cl; rfl; rfl; exact Called.del (by (focus ((repeat (first | exact Del.here | apply Del.there)); done))) (Turns_ok _ _); exact ⟨_, _, 0, rfl, rfl⟩; rintro _ _ ⟨bt, rfl, rfl⟩; refine ⟨by (exact kmf), ?_⟩) | (apply w_cq0; rfl; rfl; exact Called.at (by (focus ((repeat (first | exact Rep.here | apply Rep.there)); done))) (Len_ok _ _)) | (apply w_cq; rfl; rfl; exact Called.at (by (focus ((repeat (first | exact Rep.here | apply Rep.there)); done))) (Len_ok _ _)))
      refine W_sat (L' := fst p c n b2 b3 b (firstM c n) :: mblk r :: tr bt c.l :: R) (by (exact frm)) ?_
      refine W_fst fun v ho hv => ?_
      (repeat' first | refine stp ?_ | intro v' hv' | intro (b : Nat) | (apply w_cl; rfl; rfl; exact Called.del (by (focus ((repeat (first | exact Del.here | apply Del.there)); done))) (Turns_ok _ _); exact ⟨_, _, 0, rfl, rfl⟩; rintro _ _ ⟨bt, rfl, rfl⟩; refine ⟨by (exact kmf), ?_⟩) | (apply w_cq0; rfl; rfl; exact Called.at (by (focus ((repeat (first | exact Rep.here | apply Rep.there)); done))) (Len_ok _ _)) | (apply w_cq; rfl; rfl; exact Called.at (by (focus ((repeat (first | exact Rep.here | apply Rep.there)); done))) (Len_ok _ _)))
      exact AtM_ret1 (.inl rfl) (by (focus ((repeat (first | exact Taken.nil | (apply Taken.cons; (focus ((repeat (first | exact Del.here | apply Del.there)); done))))); done))) Try.results13 rfl rfl (hend v)

/-! ### Copy, ints -/
set_option maxHeartbeats 1000000 in
theorem Copy_ok (p : Nat) (c : Cls) (R : List HP) : Called Try.prog 19 [ptr p] (cls p c :: R) (fun u M => ∃ b, u = ptr b ∧ M = cls b c :: cls p c :: R) := by
  refine Fn1 Try.func19 rfl Try.ntmps19 rfl ?_
  refine C_cls fun v ho hv => ?_
  have ho3 := ho.2.2.1
  (repeat' first | refine stp ?_ | intro v' hv' | intro (b : Nat) | (apply w_cl; rfl; rfl; exact Called.del (by (focus ((repeat (first | exact Del.here | apply Del.there)); done))) (Turns_ok _ _); exact ⟨_, _, 0, rfl, rfl⟩; rintro _ _ ⟨bt, rfl, rfl⟩; refine ⟨by (exact kmf), ?_⟩) | (apply w_cq0; rfl; rfl; exact Called.at (by (focus ((repeat (first | exact Rep.here | apply Rep.there)); done))) (Len_ok _ _)) | (apply w_cq; rfl; rfl; exact Called.at (by (focus ((repeat (first | exact Rep.here | apply Rep.there)); done))) (Len_ok _ _)))
  apply w_clS
  rfl; rfl; exact Called.del1 (by (focus ((repeat (first | exact Del.here | apply Del.there)); done))) (Clone_ok v (c.l.map thE) (by simp [List.all_map, thE, Value.oneCell']) (by simp; omega) _)
  (simp; omega)
  intro v' hv'
  refine ⟨by (exact kmf), ?_⟩
  (repeat' first | refine stp ?_ | intro v' hv' | intro (b : Nat) | (apply w_cl; rfl; rfl; exact Called.del (by (focus ((repeat (first | exact Del.here | apply Del.there)); done))) (Turns_ok _ _); exact ⟨_, _, 0, rfl, rfl⟩; rintro _ _ ⟨bt, rfl, rfl⟩; refine ⟨by (exact kmf), ?_⟩) | (apply w_cq0; rfl; rfl; exact Called.at (by (focus ((repeat (first | exact Rep.here | apply Rep.there)); done))) (Len_ok _ _)) | (apply w_cq; rfl; rfl; exact Called.at (by (focus ((repeat (first | exact Rep.here | apply Rep.there)); done))) (Len_ok _ _)))
  refine At_ret1 (.inl rfl) Try.results19 rfl ⟨_, rfl, rfl⟩ (fun w h => ?_)
  have h1 : Sat w (pt p 58 [.int .i64 c.q, v] :: sl 61 2 v (c.l.map thE) :: pt b 58 [.int .i64 c.q, v'] :: sl 61 2 v' (c.l.map thE) :: R) := Sel.sat (by (focus ((repeat (first | exact Sel.refl | (apply Sel.cons; (focus ((repeat (first | exact Del.here | apply Del.there)); done))) | refine Sel.drop ?_)); done))) h
  have h2 := cls_fold ho h1
  exact cls_fold ho (Sel.sat (by (focus ((repeat (first | exact Sel.refl | (apply Sel.cons; (focus ((repeat (first | exact Del.here | apply Del.there)); done))) | refine Sel.drop ?_)); done))) h2 : Sat w (pt b 58 [.int .i64 c.q, v'] :: sl 61 2 v' (c.l.map thE) :: cls p c :: R))
end Go.Proofs.Ytenpeogkefmclaa
