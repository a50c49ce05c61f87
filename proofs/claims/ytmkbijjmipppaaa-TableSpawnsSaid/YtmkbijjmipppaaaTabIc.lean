/- TableSpawns: it answers true. Conditions: none. -/
import Derived.Test.YtmkbijjmipppaaaTabIa
import Derived.Test.YtmkbijjmipppaaaTabIb
set_option linter.all false
set_option linter.deprecated false
namespace Go.Proofs.Ytmkbijjmipppaaa
open Go.Sep
variable [B0 : Base]
set_option maxHeartbeats 16000000 in
theorem spawns_c (M : Nat) (kill run : Int) (hm : W64 M) (hk : W64 kill) (hr : W64 run) (hM : M ≤ 70) (hrun : (M : Int) ≤ run ∨ 64 ≤ run ∧ 0 ≤ run) (R : List HP) : Called Try.prog 3 [int M, int kill, int run] R (is (.bool true) R) := by
  have h70 : ¬ ((M : Int) < 0 ∨ 70 < (M : Int)) := by omega
  refine Fn3 Try.func3 rfl Try.ntmps3 rfl ?_
  (repeat' first | refine stp ?_ | intro v' hv' | intro (b : Nat) | (apply w_minE; rfl; rfl; rfl; exact hmin) | (apply w_convU; rfl; rfl; omega; omega) | (apply w_convI; rfl; rfl; omega; omega) | (apply w_quoU; rfl; rfl; rfl; omega; omega; omega) | (apply w_remU; rfl; rfl; rfl; omega; omega) | (apply w_minL; rfl; rfl; rfl; omega) | (apply w_minG; rfl; rfl; rfl; omega) | (apply w_min; rfl; rfl; rfl) | (apply w_mfR; rfl; rfl) | (apply w_cvp; rfl; rfl; exact inferInstance; rfl; rfl; assumption) | (apply w_eqS2T; rfl; rfl; rfl; omega) | (apply w_eqS2F; rfl; rfl; rfl; omega) | (apply w_neS2T; rfl; rfl; rfl; omega) | (apply w_neS2F; rfl; rfl; rfl; omega) | (apply w_eqS3T; rfl; rfl; rfl; omega) | (apply w_eqS3F; rfl; rfl; rfl; omega) | (apply w_neS3T; rfl; rfl; rfl; omega) | (apply w_neS3F; rfl; rfl; rfl; omega) | (apply w_eqS3; rfl; rfl; rfl) | (apply w_neS3; rfl; rfl; rfl) | (apply w_eqS2; rfl; rfl; rfl) | (apply w_neS2; rfl; rfl; rfl) | (apply w_maxL; rfl; rfl; rfl; omega) | (apply w_maxG; rfl; rfl; rfl; omega) | (apply w_max; rfl; rfl; rfl) | (apply w_neB; rfl; rfl; rfl; rfl) | (apply w_eqB; rfl; rfl; rfl; rfl) | (apply w_cp; rfl; rfl; exact awake_ok) | refine spl ?_ ?_ | intro hc)
  rename_i v1 hv1
  apply w_cl
  rfl; rfl; exact New_good v' [(.slice none 0 0, []), (v1, [⟨1, 3⟩, ⟨1, 3⟩])] _ ⟨hv', srf, fun x hx => by
    rcases List.mem_cons.1 hx with rfl | hx
    · exact PrIn.nil
    · rw [List.mem_singleton] at hx; subst hx; exact ⟨hv1, srf⟩⟩ (by show newE spL = 0; decide) spL rfl
  exact ⟨_, _, 0, rfl, rfl⟩
  rintro _ _ ⟨p, rfl, rfl⟩
  refine ⟨by (exact kmf), ?_⟩
  rw [show (⟨spL, List.replicate 64 none⟩ : Tab) = spT 0 from rfl]
  (repeat' first | refine stp ?_ | intro v' hv' | intro (b : Nat) | (apply w_minE; rfl; rfl; rfl; exact hmin) | (apply w_convU; rfl; rfl; omega; omega) | (apply w_convI; rfl; rfl; omega; omega) | (apply w_quoU; rfl; rfl; rfl; omega; omega; omega) | (apply w_remU; rfl; rfl; rfl; omega; omega) | (apply w_minL; rfl; rfl; rfl; omega) | (apply w_minG; rfl; rfl; rfl; omega) | (apply w_min; rfl; rfl; rfl) | (apply w_mfR; rfl; rfl) | (apply w_cvp; rfl; rfl; exact inferInstance; rfl; rfl; assumption) | (apply w_eqS2T; rfl; rfl; rfl; omega) | (apply w_eqS2F; rfl; rfl; rfl; omega) | (apply w_neS2T; rfl; rfl; rfl; omega) | (apply w_neS2F; rfl; rfl; rfl; omega) | (apply w_eqS3T; rfl; rfl; rfl; omega) | (apply w_eqS3F; rfl; rfl; rfl; omega) | (apply w_neS3T; rfl; rfl; rfl; omega) | (apply w_neS3F; rfl; rfl; rfl; omega) | (apply w_eqS3; rfl; rfl; rfl) | (apply w_neS3; rfl; rfl; rfl) | (apply w_eqS2; rfl; rfl; rfl) | (apply w_neS2; rfl; rfl; rfl) | (apply w_maxL; rfl; rfl; rfl; omega) | (apply w_maxG; rfl; rfl; rfl; omega) | (apply w_max; rfl; rfl; rfl) | (apply w_neB; rfl; rfl; rfl; rfl) | (apply w_eqB; rfl; rfl; rfl; rfl) | (apply w_cp; rfl; rfl; exact awake_ok) | refine spl ?_ ?_ | intro hc)
  refine C_loopK [6, 9, 10, 11, 45, 46, 47, 48, 49, 50, 51, 52, 53, 54, 55, 56, 57, 58, 59, 60, 61, 62, 63, 64, 65, 66, 67, 68, 69, 70, 71, 72, 73] (fun k : Nat => M - k) (fun k => [(9, int k)]) (fun k => tbl p (spT (min k 64)) :: R) (fun k => k ≤ M) 0 (Nat.zero_le _) (by (focus ((repeat (first | exact Keep.nil | apply Keep.drop rfl | apply Keep.keep rfl)); done))) (by (exact sbf)) (by (exact frm)) ?_
  intro k hkM
  dsimp only [List.cons_append, List.nil_append]
  by_cases hlt : k < M
  · by_cases h64 : k < 64
    · have hc : ∀ R, Called Try.prog 9 [ptr p, int 1] (tbl p (spT (min k 64)) :: R) (is (.tuple #[int k, int 0]) (tbl p (spT (min (k + 1) 64)) :: R)) := fun R => by
        have := Spawn_ok p (spT k) 1 R
        rw [spawn_sp h64] at this
        rwa [Nat.min_eq_left (by omega), Nat.min_eq_left (by omega)]
      (repeat' first | refine stp ?_ | intro v' hv' | intro (b : Nat) | (apply w_minE; rfl; rfl; rfl; exact hmin) | (apply w_convU; rfl; rfl; omega; omega) | (apply w_convI; rfl; rfl; omega; omega) | (apply w_quoU; rfl; rfl; rfl; omega; omega; omega) | (apply w_remU; rfl; rfl; rfl; omega; omega) | (apply w_minL; rfl; rfl; rfl; omega) | (apply w_minG; rfl; rfl; rfl; omega) | (apply w_min; rfl; rfl; rfl) | (apply w_mfR; rfl; rfl) | (apply w_cvp; rfl; rfl; exact inferInstance; rfl; rfl; assumption) | (apply w_eqS2T; rfl; rfl; rfl; omega) | (apply w_eqS2F; rfl; rfl; rfl; omega) | (apply w_neS2T; rfl; rfl; rfl; omega) | (apply w_neS2F; rfl; rfl; rfl; omega) | (apply w_eqS3T; rfl; rfl; rfl; omega) | (apply w_eqS3F; rfl; rfl; rfl; omega) | (apply w_neS3T; rfl; rfl; rfl; omega) | (apply w_neS3F; rfl; rfl; rfl; omega) | (apply w_eqS3; rfl; rfl; rfl) | (apply w_neS3; rfl; rfl; rfl) | (apply w_eqS2; rfl; rfl; rfl) | (apply w_neS2; rfl; rfl; rfl) | (apply w_maxL; rfl; rfl; rfl; omega) | (apply w_maxG; rfl; rfl; rfl; omega) | (apply w_max; rfl; rfl; rfl) | (apply w_neB; rfl; rfl; rfl; rfl) | (apply w_eqB; rfl; rfl; rfl; rfl) | (apply w_cp; rfl; rfl; exact awake_ok) | refine spl ?_ ?_ | intro hc)
      exact At_againK (k + 1) hlt (by omega) (by (exact sbf)) (by (exact sbf)) (by (exact frm))
    · have hc : ∀ R, Called Try.prog 9 [ptr p, int 1] (tbl p (spT (min k 64)) :: R) (is (.tuple #[int 0, int 13]) (tbl p (spT (min (k + 1) 64)) :: R)) := fun R => by
        have := Spawn_ok p (spT 64) 1 R
        rw [spawn_sp64] at this
        rwa [Nat.min_eq_right (by omega), Nat.min_eq_right (by omega)]
      (repeat' first | refine stp ?_ | intro v' hv' | intro (b : Nat) | (apply w_minE; rfl; rfl; rfl; exact hmin) | (apply w_convU; rfl; rfl; omega; omega) | (apply w_convI; rfl; rfl; omega; omega) | (apply w_quoU; rfl; rfl; rfl; omega; omega; omega) | (apply w_remU; rfl; rfl; rfl; omega; omega) | (apply w_minL; rfl; rfl; rfl; omega) | (apply w_minG; rfl; rfl; rfl; omega) | (apply w_min; rfl; rfl; rfl) | (apply w_mfR; rfl; rfl) | (apply w_cvp; rfl; rfl; exact inferInstance; rfl; rfl; assumption) | (apply w_eqS2T; rfl; rfl; rfl; omega) | (apply w_eqS2F; rfl; rfl; rfl; omega) | (apply w_neS2T; rfl; rfl; rfl; omega) | (apply w_neS2F; rfl; rfl; rfl; omega) | (apply w_eqS3T; rfl; rfl; rfl; omega) | (apply w_eqS3F; rfl; rfl; rfl; omega) | (apply w_neS3T; rfl; rfl; rfl; omega) | (apply w_neS3F; rfl; rfl; rfl; omega) | (apply w_eqS3; rfl; rfl; rfl) | (apply w_neS3; rfl; rfl; rfl) | (apply w_eqS2; rfl; rfl; rfl) | (apply w_neS2; rfl; rfl; rfl) | (apply w_maxL; rfl; rfl; rfl; omega) | (apply w_maxG; rfl; rfl; rfl; omega) | (apply w_max; rfl; rfl; rfl) | (apply w_neB; rfl; rfl; rfl; rfl) | (apply w_eqB; rfl; rfl; rfl; rfl) | (apply w_cp; rfl; rfl; exact awake_ok) | refine spl ?_ ?_ | intro hc)
      exact At_againK (k + 1) hlt (by omega) (by (exact sbf)) (by (exact sbf)) (by (exact frm))
  · obtain rfl : k = M := by omega
    obtain ⟨K, hK, hKe⟩ : ∃ K : Nat, K = min k 64 ∧ K ≤ 64 := ⟨_, rfl, by omega⟩
    rw [← hK]
    have hrK : ¬ (0 ≤ run ∧ run < (K : Int)) := by omega
    have hr0 : 0 ≤ run := by omega
    have hKr : ¬ run < (K : Int) := by omega
    obtain ⟨n, f, e1, e2⟩ := run_sp (run := run) hKe
    have hc : ∀ R, Called Try.prog 10 [ptr p, int run, int 4] (tbl p (spT K) :: R) (is (.tuple #[int n, int f]) (tbl p (T1 K run) :: R)) := fun R => by
      have := Run_ok p (spT K) run 4 (by unfold W64; omega) R
      rwa [e1] at this
    have hmin : (if (64 : Int) < (k : Int) then 64 else (k : Int)) = (K : Int) := by split <;> omega
    have key : ∀ i : Nat, i < K → ∀ R, Called Try.prog 11 [ptr p, int i] (tbl p (T1 K run) :: R) (is (.tuple #[.agg #[int 1, int (if (i : Int) = run then 1 else 0), int 3], int 0]) (tbl p (T1 K run) :: R)) := fun i hi R => by
      have := Where_ok p (T1 K run) i R
      rwa [where_sp hKe hi] at this
    obtain ⟨g, g1, g2⟩ := kill_sp (run := run) (kill := kill) hKe
    have hkl : ∀ R, Called Try.prog 12 [ptr p, int kill] (tbl p (T1 K run) :: R) (is (int g) (tbl p (T2 K run kill) :: R)) := fun R => by
      have := Kill_ok p (T1 K run) kill R
      rwa [g1] at this
    have hcn := T2_cnt (run := run) (kill := kill) hKe
    have h64 : (liveT (T2 K run kill)).length ≤ 64 := by rw [live_cnt]; have := cnt_le (T2 K run kill).ths; rw [T2_len hKe] at this; exact this
    have hmn := fun R => Many_ok p (T2 K run kill) h64 R
    rw [live_cnt] at hmn
    have hls := last_sp (run := run) (kill := kill) hKe
    have hfin : (cnt (T2 K run kill).ths = 64 ∧ (∀ R, Called Try.prog 9 [ptr p, int 0] (tbl p (T2 K run kill) :: R) (is (.tuple #[int 0, int 13]) (tbl p (T2 K run kill) :: R)))) ∨
        (cnt (T2 K run kill).ths ≠ 64 ∧ ∃ (id : Int) (T3 : Tab), id = (if 0 ≤ kill ∧ kill < K then kill else K) ∧ (∀ R, Called Try.prog 9 [ptr p, int 0] (tbl p (T2 K run kill) :: R) (is (.tuple #[int id, int 0]) (tbl p T3 :: R))) ∧
          (∀ R, Called Try.prog 14 [ptr p, int id] (tbl p T3 :: R) (is (.tuple #[.agg #[int 9, int 0], int 0]) (tbl p T3 :: R)))) := by
      rcases hls with ⟨a1, a2⟩ | ⟨a1, id, T3, a2, a3, a4⟩
      · refine .inl ⟨a1, fun R => ?_⟩
        have := Spawn_ok p (T2 K run kill) 0 R
        rwa [a2] at this
      · refine .inr ⟨a1, id, T3, a4, fun R => ?_, fun R => ?_⟩
        · have := Spawn_ok p (T2 K run kill) 0 R
          rwa [a2] at this
        · have := Act_ok p T3 id R
          rwa [a3] at this
    clear hls e1 g1
    generalize cnt (T2 K run kill).ths = N at *
    rcases e2 with ⟨r1, rfl, rfl⟩ | ⟨r1, r2⟩
    · exact absurd r1 hrK
    · (repeat' first | refine stp ?_ | intro v' hv' | intro (b : Nat) | (apply w_minE; rfl; rfl; rfl; exact hmin) | (apply w_convU; rfl; rfl; omega; omega) | (apply w_convI; rfl; rfl; omega; omega) | (apply w_quoU; rfl; rfl; rfl; omega; omega; omega) | (apply w_remU; rfl; rfl; rfl; omega; omega) | (apply w_minL; rfl; rfl; rfl; omega) | (apply w_minG; rfl; rfl; rfl; omega) | (apply w_min; rfl; rfl; rfl) | (apply w_mfR; rfl; rfl) | (apply w_cvp; rfl; rfl; exact inferInstance; rfl; rfl; assumption) | (apply w_eqS2T; rfl; rfl; rfl; omega) | (apply w_eqS2F; rfl; rfl; rfl; omega) | (apply w_neS2T; rfl; rfl; rfl; omega) | (apply w_neS2F; rfl; rfl; rfl; omega) | (apply w_eqS3T; rfl; rfl; rfl; omega) | (apply w_eqS3F; rfl; rfl; rfl; omega) | (apply w_neS3T; rfl; rfl; rfl; omega) | (apply w_neS3F; rfl; rfl; rfl; omega) | (apply w_eqS3; rfl; rfl; rfl) | (apply w_neS3; rfl; rfl; rfl) | (apply w_eqS2; rfl; rfl; rfl) | (apply w_neS2; rfl; rfl; rfl) | (apply w_maxL; rfl; rfl; rfl; omega) | (apply w_maxG; rfl; rfl; rfl; omega) | (apply w_max; rfl; rfl; rfl) | (apply w_neB; rfl; rfl; rfl; rfl) | (apply w_eqB; rfl; rfl; rfl; rfl) | (apply w_cp; rfl; rfl; exact awake_ok) | refine spl ?_ ?_ | intro hc)
      refine C_loopK [6, 15, 16, 17, 18, 97, 98, 99, 100, 101, 102, 103, 104, 105, 106, 107, 108, 109, 110, 111, 112, 113, 114, 115, 116, 117, 118, 119] (fun i : Nat => K - i) (fun i => [(15, int i)]) (fun _ => tbl p (T1 K run) :: R) (fun i => i ≤ K) 0 (Nat.zero_le _) (by (focus ((repeat (first | exact Keep.nil | apply Keep.drop rfl | apply Keep.keep rfl)); done))) (by (exact sbf)) (by (exact frm)) ?_
      intro i hi
      dsimp only [List.cons_append, List.nil_append]
      by_cases hlt : i < K
      · have hw := key i hlt
        rw [if_neg (by omega)] at hw
        (repeat' first | refine stp ?_ | intro v' hv' | intro (b : Nat) | (apply w_minE; rfl; rfl; rfl; exact hmin) | (apply w_convU; rfl; rfl; omega; omega) | (apply w_convI; rfl; rfl; omega; omega) | (apply w_quoU; rfl; rfl; rfl; omega; omega; omega) | (apply w_remU; rfl; rfl; rfl; omega; omega) | (apply w_minL; rfl; rfl; rfl; omega) | (apply w_minG; rfl; rfl; rfl; omega) | (apply w_min; rfl; rfl; rfl) | (apply w_mfR; rfl; rfl) | (apply w_cvp; rfl; rfl; exact inferInstance; rfl; rfl; assumption) | (apply w_eqS2T; rfl; rfl; rfl; omega) | (apply w_eqS2F; rfl; rfl; rfl; omega) | (apply w_neS2T; rfl; rfl; rfl; omega) | (apply w_neS2F; rfl; rfl; rfl; omega) | (apply w_eqS3T; rfl; rfl; rfl; omega) | (apply w_eqS3F; rfl; rfl; rfl; omega) | (apply w_neS3T; rfl; rfl; rfl; omega) | (apply w_neS3F; rfl; rfl; rfl; omega) | (apply w_eqS3; rfl; rfl; rfl) | (apply w_neS3; rfl; rfl; rfl) | (apply w_eqS2; rfl; rfl; rfl) | (apply w_neS2; rfl; rfl; rfl) | (apply w_maxL; rfl; rfl; rfl; omega) | (apply w_maxG; rfl; rfl; rfl; omega) | (apply w_max; rfl; rfl; rfl) | (apply w_neB; rfl; rfl; rfl; rfl) | (apply w_eqB; rfl; rfl; rfl; rfl) | (apply w_cp; rfl; rfl; exact awake_ok) | refine spl ?_ ?_ | intro hc)
        exact At_againK (i + 1) hlt (by omega) (by (exact sbf)) (by (exact sbf)) (by (exact frm))
      · clear key
        obtain rfl : i = K := by omega
        rcases g2 with ⟨q1, rfl⟩ | ⟨q1, q2⟩
        · rw [if_pos q1] at hcn
          rcases hfin with ⟨z1, z2⟩ | ⟨z1, id, T3, z2, z3, z4⟩
          · (repeat' first | refine stp ?_ | intro v' hv' | intro (b : Nat) | (apply w_minE; rfl; rfl; rfl; exact hmin) | (apply w_convU; rfl; rfl; omega; omega) | (apply w_convI; rfl; rfl; omega; omega) | (apply w_quoU; rfl; rfl; rfl; omega; omega; omega) | (apply w_remU; rfl; rfl; rfl; omega; omega) | (apply w_minL; rfl; rfl; rfl; omega) | (apply w_minG; rfl; rfl; rfl; omega) | (apply w_min; rfl; rfl; rfl) | (apply w_mfR; rfl; rfl) | (apply w_cvp; rfl; rfl; exact inferInstance; rfl; rfl; assumption) | (apply w_eqS2T; rfl; rfl; rfl; omega) | (apply w_eqS2F; rfl; rfl; rfl; omega) | (apply w_neS2T; rfl; rfl; rfl; omega) | (apply w_neS2F; rfl; rfl; rfl; omega) | (apply w_eqS3T; rfl; rfl; rfl; omega) | (apply w_eqS3F; rfl; rfl; rfl; omega) | (apply w_neS3T; rfl; rfl; rfl; omega) | (apply w_neS3F; rfl; rfl; rfl; omega) | (apply w_eqS3; rfl; rfl; rfl) | (apply w_neS3; rfl; rfl; rfl) | (apply w_eqS2; rfl; rfl; rfl) | (apply w_neS2; rfl; rfl; rfl) | (apply w_maxL; rfl; rfl; rfl; omega) | (apply w_maxG; rfl; rfl; rfl; omega) | (apply w_max; rfl; rfl; rfl) | (apply w_neB; rfl; rfl; rfl; rfl) | (apply w_eqB; rfl; rfl; rfl; rfl) | (apply w_cp; rfl; rfl; exact awake_ok) | refine spl ?_ ?_ | intro hc)
            all_goals first | (exfalso; omega) | skip
            all_goals (refine At_ret1 (by (first | exact .inl rfl | exact .inr rfl)) Try.results3 rfl ⟨by rfl, rfl⟩ (by (exact frm)))
          · rw [if_pos q1] at z2
            (repeat' first | refine stp ?_ | intro v' hv' | intro (b : Nat) | (apply w_minE; rfl; rfl; rfl; exact hmin) | (apply w_convU; rfl; rfl; omega; omega) | (apply w_convI; rfl; rfl; omega; omega) | (apply w_quoU; rfl; rfl; rfl; omega; omega; omega) | (apply w_remU; rfl; rfl; rfl; omega; omega) | (apply w_minL; rfl; rfl; rfl; omega) | (apply w_minG; rfl; rfl; rfl; omega) | (apply w_min; rfl; rfl; rfl) | (apply w_mfR; rfl; rfl) | (apply w_cvp; rfl; rfl; exact inferInstance; rfl; rfl; assumption) | (apply w_eqS2T; rfl; rfl; rfl; omega) | (apply w_eqS2F; rfl; rfl; rfl; omega) | (apply w_neS2T; rfl; rfl; rfl; omega) | (apply w_neS2F; rfl; rfl; rfl; omega) | (apply w_eqS3T; rfl; rfl; rfl; omega) | (apply w_eqS3F; rfl; rfl; rfl; omega) | (apply w_neS3T; rfl; rfl; rfl; omega) | (apply w_neS3F; rfl; rfl; rfl; omega) | (apply w_eqS3; rfl; rfl; rfl) | (apply w_neS3; rfl; rfl; rfl) | (apply w_eqS2; rfl; rfl; rfl) | (apply w_neS2; rfl; rfl; rfl) | (apply w_maxL; rfl; rfl; rfl; omega) | (apply w_maxG; rfl; rfl; rfl; omega) | (apply w_max; rfl; rfl; rfl) | (apply w_neB; rfl; rfl; rfl; rfl) | (apply w_eqB; rfl; rfl; rfl; rfl) | (apply w_cp; rfl; rfl; exact awake_ok) | refine spl ?_ ?_ | intro hc)
            all_goals first | (exfalso; omega) | skip
            all_goals (refine At_ret1 (by (first | exact .inl rfl | exact .inr rfl)) Try.results3 rfl ⟨by rfl, rfl⟩ (by (exact frm)))
        · rw [if_neg q1] at hcn
          rcases hfin with ⟨z1, z2⟩ | ⟨z1, id, T3, z2, z3, z4⟩
          · (repeat' first | refine stp ?_ | intro v' hv' | intro (b : Nat) | (apply w_minE; rfl; rfl; rfl; exact hmin) | (apply w_convU; rfl; rfl; omega; omega) | (apply w_convI; rfl; rfl; omega; omega) | (apply w_quoU; rfl; rfl; rfl; omega; omega; omega) | (apply w_remU; rfl; rfl; rfl; omega; omega) | (apply w_minL; rfl; rfl; rfl; omega) | (apply w_minG; rfl; rfl; rfl; omega) | (apply w_min; rfl; rfl; rfl) | (apply w_mfR; rfl; rfl) | (apply w_cvp; rfl; rfl; exact inferInstance; rfl; rfl; assumption) | (apply w_eqS2T; rfl; rfl; rfl; omega) | (apply w_eqS2F; rfl; rfl; rfl; omega) | (apply w_neS2T; rfl; rfl; rfl; omega) | (apply w_neS2F; rfl; rfl; rfl; omega) | (apply w_eqS3T; rfl; rfl; rfl; omega) | (apply w_eqS3F; rfl; rfl; rfl; omega) | (apply w_neS3T; rfl; rfl; rfl; omega) | (apply w_neS3F; rfl; rfl; rfl; omega) | (apply w_eqS3; rfl; rfl; rfl) | (apply w_neS3; rfl; rfl; rfl) | (apply w_eqS2; rfl; rfl; rfl) | (apply w_neS2; rfl; rfl; rfl) | (apply w_maxL; rfl; rfl; rfl; omega) | (apply w_maxG; rfl; rfl; rfl; omega) | (apply w_max; rfl; rfl; rfl) | (apply w_neB; rfl; rfl; rfl; rfl) | (apply w_eqB; rfl; rfl; rfl; rfl) | (apply w_cp; rfl; rfl; exact awake_ok) | refine spl ?_ ?_ | intro hc)
            all_goals first | (exfalso; omega) | skip
            all_goals (refine At_ret1 (by (first | exact .inl rfl | exact .inr rfl)) Try.results3 rfl ⟨by rfl, rfl⟩ (by (exact frm)))
          · rw [if_neg q1] at z2
            (repeat' first | refine stp ?_ | intro v' hv' | intro (b : Nat) | (apply w_minE; rfl; rfl; rfl; exact hmin) | (apply w_convU; rfl; rfl; omega; omega) | (apply w_convI; rfl; rfl; omega; omega) | (apply w_quoU; rfl; rfl; rfl; omega; omega; omega) | (apply w_remU; rfl; rfl; rfl; omega; omega) | (apply w_minL; rfl; rfl; rfl; omega) | (apply w_minG; rfl; rfl; rfl; omega) | (apply w_min; rfl; rfl; rfl) | (apply w_mfR; rfl; rfl) | (apply w_cvp; rfl; rfl; exact inferInstance; rfl; rfl; assumption) | (apply w_eqS2T; rfl; rfl; rfl; omega) | (apply w_eqS2F; rfl; rfl; rfl; omega) | (apply w_neS2T; rfl; rfl; rfl; omega) | (apply w_neS2F; rfl; rfl; rfl; omega) | (apply w_eqS3T; rfl; rfl; rfl; omega) | (apply w_eqS3F; rfl; rfl; rfl; omega) | (apply w_neS3T; rfl; rfl; rfl; omega) | (apply w_neS3F; rfl; rfl; rfl; omega) | (apply w_eqS3; rfl; rfl; rfl) | (apply w_neS3; rfl; rfl; rfl) | (apply w_eqS2; rfl; rfl; rfl) | (apply w_neS2; rfl; rfl; rfl) | (apply w_maxL; rfl; rfl; rfl; omega) | (apply w_maxG; rfl; rfl; rfl; omega) | (apply w_max; rfl; rfl; rfl) | (apply w_neB; rfl; rfl; rfl; rfl) | (apply w_eqB; rfl; rfl; rfl; rfl) | (apply w_cp; rfl; rfl; exact awake_ok) | refine spl ?_ ?_ | intro hc)
            all_goals first | (exfalso; omega) | skip
            all_goals (refine At_ret1 (by (first | exact .inl rfl | exact .inr rfl)) Try.results3 rfl ⟨by rfl, rfl⟩ (by (exact frm)))
theorem spawns_ok (many kill run : Int) (hm : W64 many) (hk : W64 kill) (hr : W64 run) (R : List HP) : Called Try.prog 3 [int many, int kill, int run] R (is (.bool true) R) := by
  by_cases h70 : many < 0 ∨ 70 < many
  · refine Fn3 Try.func3 rfl Try.ntmps3 rfl ?_
    (repeat' first | refine stp ?_ | intro v' hv' | intro (b : Nat) | (apply w_minE; rfl; rfl; rfl; exact hmin) | (apply w_convU; rfl; rfl; omega; omega) | (apply w_convI; rfl; rfl; omega; omega) | (apply w_quoU; rfl; rfl; rfl; omega; omega; omega) | (apply w_remU; rfl; rfl; rfl; omega; omega) | (apply w_minL; rfl; rfl; rfl; omega) | (apply w_minG; rfl; rfl; rfl; omega) | (apply w_min; rfl; rfl; rfl) | (apply w_mfR; rfl; rfl) | (apply w_cvp; rfl; rfl; exact inferInstance; rfl; rfl; assumption) | (apply w_eqS2T; rfl; rfl; rfl; omega) | (apply w_eqS2F; rfl; rfl; rfl; omega) | (apply w_neS2T; rfl; rfl; rfl; omega) | (apply w_neS2F; rfl; rfl; rfl; omega) | (apply w_eqS3T; rfl; rfl; rfl; omega) | (apply w_eqS3F; rfl; rfl; rfl; omega) | (apply w_neS3T; rfl; rfl; rfl; omega) | (apply w_neS3F; rfl; rfl; rfl; omega) | (apply w_eqS3; rfl; rfl; rfl) | (apply w_neS3; rfl; rfl; rfl) | (apply w_eqS2; rfl; rfl; rfl) | (apply w_neS2; rfl; rfl; rfl) | (apply w_maxL; rfl; rfl; rfl; omega) | (apply w_maxG; rfl; rfl; rfl; omega) | (apply w_max; rfl; rfl; rfl) | (apply w_neB; rfl; rfl; rfl; rfl) | (apply w_eqB; rfl; rfl; rfl; rfl) | (apply w_cp; rfl; rfl; exact awake_ok) | refine spl ?_ ?_ | intro hc)
    all_goals first | (exfalso; omega) | skip
    all_goals (refine At_ret1 (by (first | exact .inl rfl | exact .inr rfl)) Try.results3 rfl ⟨by rfl, rfl⟩ (by (exact frm)))
  · obtain ⟨M, rfl⟩ := Int.eq_ofNat_of_zero_le (show 0 ≤ many by omega)
    have hM : M ≤ 70 := by omega
    by_cases r0 : run < 0
    · exact spawns_b M kill run hm hk hr hM r0 R
    · by_cases r1 : run < M ∧ run < 64
      · exact spawns_a M kill run hm hk hr hM ⟨by omega, r1⟩ R
      · exact spawns_c M kill run hm hk hr hM (by omega) R
end Go.Proofs.Ytmkbijjmipppaaa
