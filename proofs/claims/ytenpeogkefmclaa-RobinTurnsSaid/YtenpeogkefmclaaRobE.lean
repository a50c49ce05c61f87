/- Robin's law: ints, awake. Conditions: none. -/
import Derived.Test.YtenpeogkefmclaaRobD

set_option linter.all false
set_option linter.deprecated false
namespace Go.Proofs.Ytenpeogkefmclaa
open Go.Sep
variable [B0 : Base]

set_option maxHeartbeats 1000000 in
theorem ints_ok (u v : Value) (xs ys : List Int) (R : List HP) (hu : IsSl u xs.length) (hv : IsSl v ys.length) (hus : Src R u 1 (xs.map inE)) (hvs : Src R v 1 (ys.map inE)) :
    Called Try.prog 12 [u, v] R (is (.bool (decide (xs = ys))) R) := by
  refine Fn2 Try.func12 rfl Try.ntmps12 rfl ?_
  have hun := hu.len
  have hvn := hv.len
  by_cases hl : xs.length = ys.length
  · (repeat' first | refine stp ?_ | intro v' hv' | intro (b : Nat))
    refine C_loop (fun m F L' => ∃ k : Nat, k ≤ xs.length ∧ m = xs.length - k ∧ xs.take k = ys.take k ∧ F = [(0, u), (1, v), (5, int k)] ∧ L' = R) xs.length _ _ ⟨0, Nat.zero_le _, rfl, rfl, rfl, rfl⟩ (by (exact sbf)) (fun _ h => h) ?_
    rintro m F L' ⟨k, hk, rfl, hp, rfl, rfl⟩
    (repeat' first | refine stp ?_ | intro v' hv' | intro (b : Nat))
    refine C_cond rfl (fun hc => ?_) (fun hc => ?_)
    · have hk' : k < xs.length := by have := of_decide_eq_true hc; omega
      have hk2 : k < ys.length := by omega
      have hla : Rd L' ⟨vb u, vo u + k * 1, none⟩ (int xs[k]) := Rd.src hus (e := inE xs[k]) (k := 0) (by simp [hk']) rfl
      have hlb : Rd L' ⟨vb v, vo v + k * 1, none⟩ (int ys[k]) := Rd.src hvs (e := inE ys[k]) (k := 0) (by simp [hk2]) rfl
      have hta : xs.take (k + 1) = xs.take k ++ [xs[k]] := by rw [List.take_add_one]; simp [hk']
      have htb : ys.take (k + 1) = ys.take k ++ [ys[k]] := by rw [List.take_add_one]; simp [hk2]
      by_cases he : xs[k] = ys[k]
      · (repeat' first | refine stp ?_ | intro v' hv' | intro (b : Nat))
        exact At_again (xs.length - (k + 1)) _ _ (by omega) ⟨k + 1, hk', rfl, by rw [hta, htb, hp, he], rfl, rfl⟩ (by (exact sbf)) (fun w h => h)
      · (repeat' first | refine stp ?_ | intro v' hv' | intro (b : Nat))
        exact At_ret1 (.inl rfl) Try.results12 rfl ⟨by rw [decide_eq_false (fun e => he (by subst e; rfl))], rfl⟩ (fun w h => h)
    · have hk' : k = xs.length := by have := of_decide_eq_false hc; omega
      have he : xs = ys := by
        rw [hk', List.take_length] at hp
        rw [hl, List.take_length] at hp
        exact hp
      (repeat' first | refine stp ?_ | intro v' hv' | intro (b : Nat))
      exact At_ret1 (.inl rfl) Try.results12 rfl ⟨by rw [decide_eq_true he], rfl⟩ (fun w h => h)
  · (repeat' first | refine stp ?_ | intro v' hv' | intro (b : Nat))
    exact At_ret1 (.inl rfl) Try.results12 rfl ⟨by rw [decide_eq_false (fun e => hl (by rw [e]))], rfl⟩ (fun w h => h)

set_option maxHeartbeats 2000000 in
theorem awake_ok (R : List HP) : Called Try.prog 9 [] R (is (.bool true) R) := by
  refine Fn0 Try.func9 rfl Try.ntmps9 ?_
  (repeat' first | refine stp ?_ | intro v' hv' | intro (b : Nat))
  apply w_cl
  rfl; rfl; exact New_ok 5 (by decide) R
  exact ⟨_, _, 0, rfl, rfl⟩
  rintro _ _ ⟨p, rfl, rfl⟩
  refine ⟨by (exact kmf), ?_⟩
  (repeat' first | refine stp ?_ | intro v' hv' | intro (b : Nat))
  have hadd : ∀ R0 v', Src R0 v' 1 ([7, 3, 9].map inE) → IsSl v' 3 → Called Try.prog 10 [ptr p, v'] (cls p ⟨5, []⟩ :: R0) (is (int 0) (cls p ⟨5, [⟨7, 0⟩, ⟨3, 0⟩, ⟨9, 0⟩]⟩ :: R0)) := fun R0 v' h1 h2 => Add_ok p ⟨5, []⟩ v' [7, 3, 9] R0 h1 h2
  apply w_cd
  rfl; rfl; exact Called.del1 (by (focus ((repeat (first | exact Del.here | apply Del.there)); done))) (hadd _ _ Src.sl (by assumption)); ((exact kmf))
  (repeat' first | refine stp ?_ | intro v' hv' | intro (b : Nat))
  have hrun : ∀ R0, Called Try.prog 11 [ptr p, int 7, int 5] (cls p ⟨5, [⟨7, 0⟩, ⟨3, 0⟩, ⟨9, 0⟩]⟩ :: R0) (is (int 0) (cls p ⟨5, [⟨3, 0⟩, ⟨9, 0⟩, ⟨7, 0⟩]⟩ :: R0)) := fun R0 => Run_ok p ⟨5, [⟨7, 0⟩, ⟨3, 0⟩, ⟨9, 0⟩]⟩ 7 5 (by decide) R0
  apply w_cd
  rfl; rfl; exact Called.at (by (focus ((repeat (first | exact Rep.here | apply Rep.there)); done))) hrun; ((exact kmf))
  (repeat' first | refine stp ?_ | intro v' hv' | intro (b : Nat))
  have hf1 : ∀ R0, Called Try.prog 13 [ptr p, int 3] (cls p ⟨5, [⟨3, 0⟩, ⟨9, 0⟩, ⟨7, 0⟩]⟩ :: R0) (retSl 3 1 ([3, 9, 7].map inE) (cls p ⟨5, [⟨3, 0⟩, ⟨9, 0⟩, ⟨7, 0⟩]⟩ :: R0)) := fun R0 => First_ok p ⟨5, [⟨3, 0⟩, ⟨9, 0⟩, ⟨7, 0⟩]⟩ 3 R0
  apply w_clS
  rfl; rfl; exact Called.del1 (by (focus ((repeat (first | exact Del.here | apply Del.there)); done))) (hf1 _)
  decide
  intro v1 hv1
  refine ⟨by (exact kmf), ?_⟩
  (repeat' first | refine stp ?_ | intro v' hv' | intro (b : Nat))
  have hrun2 : ∀ R0, Called Try.prog 11 [ptr p, int 3, int 2] (cls p ⟨5, [⟨3, 0⟩, ⟨9, 0⟩, ⟨7, 0⟩]⟩ :: R0) (is (int 0) (cls p ⟨5, [⟨3, 2⟩, ⟨9, 0⟩, ⟨7, 0⟩]⟩ :: R0)) := fun R0 => Run_ok p ⟨5, [⟨3, 0⟩, ⟨9, 0⟩, ⟨7, 0⟩]⟩ 3 2 (by decide) R0
  apply w_cd
  rfl; rfl; exact Called.at (by (focus ((repeat (first | exact Rep.here | apply Rep.there)); done))) hrun2; ((exact kmf))
  (repeat' first | refine stp ?_ | intro v' hv' | intro (b : Nat))
  have hleft : ∀ R0, Called Try.prog 14 [ptr p, int 3] (cls p ⟨5, [⟨3, 2⟩, ⟨9, 0⟩, ⟨7, 0⟩]⟩ :: R0) (is (.tuple #[int 3, int 0]) (cls p ⟨5, [⟨3, 2⟩, ⟨9, 0⟩, ⟨7, 0⟩]⟩ :: R0)) := fun R0 => Left_ok p ⟨5, [⟨3, 2⟩, ⟨9, 0⟩, ⟨7, 0⟩]⟩ 3 R0
  apply w_cq0
  rfl; rfl; exact Called.at (by (focus ((repeat (first | exact Rep.here | apply Rep.there)); done))) hleft
  (repeat' first | refine stp ?_ | intro v' hv' | intro (b : Nat))
  have hy : ∀ R0, Called Try.prog 18 [ptr p, int 3] (cls p ⟨5, [⟨3, 2⟩, ⟨9, 0⟩, ⟨7, 0⟩]⟩ :: R0) (is (int 0) (cls p ⟨5, [⟨9, 0⟩, ⟨7, 0⟩, ⟨3, 0⟩]⟩ :: R0)) := fun R0 => Yield_ok p ⟨5, [⟨3, 2⟩, ⟨9, 0⟩, ⟨7, 0⟩]⟩ 3 R0
  apply w_cd
  rfl; rfl; exact Called.at (by (focus ((repeat (first | exact Rep.here | apply Rep.there)); done))) hy; ((exact kmf))
  (repeat' first | refine stp ?_ | intro v' hv' | intro (b : Nat))
  apply w_cq0
  rfl; rfl; exact ints_ok v1 _ [3, 9, 7] [3, 9, 7] _ hv1 (by assumption) (by (exact srf)) (by (exact srf))
  (repeat' first | refine stp ?_ | intro v' hv' | intro (b : Nat))
  have hf2 : ∀ R0, Called Try.prog 13 [ptr p, int 9] (cls p ⟨5, [⟨9, 0⟩, ⟨7, 0⟩, ⟨3, 0⟩]⟩ :: R0) (retSl 3 1 ([9, 7, 3].map inE) (cls p ⟨5, [⟨9, 0⟩, ⟨7, 0⟩, ⟨3, 0⟩]⟩ :: R0)) := fun R0 => First_ok p ⟨5, [⟨9, 0⟩, ⟨7, 0⟩, ⟨3, 0⟩]⟩ 9 R0
  apply w_clS
  rfl; rfl; exact Called.del1 (by (focus ((repeat (first | exact Del.here | apply Del.there)); done))) (hf2 _)
  decide
  intro v2 hv2
  refine ⟨by (exact kmf), ?_⟩
  (repeat' first | refine stp ?_ | intro v' hv' | intro (b : Nat))
  apply w_cq0
  rfl; rfl; exact ints_ok v2 _ [9, 7, 3] [9, 7, 3] _ hv2 (by assumption) (by (exact srf)) (by (exact srf))
  (repeat' first | refine stp ?_ | intro v' hv' | intro (b : Nat))

  exact At_ret1 (.inl rfl) Try.results9 rfl ⟨rfl, rfl⟩ (by (exact frm))
end Go.Proofs.Ytenpeogkefmclaa
