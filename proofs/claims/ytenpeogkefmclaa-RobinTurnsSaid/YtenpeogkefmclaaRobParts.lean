/- RobinParts: the walk. Conditions: none. -/
import Derived.Test.YtenpeogkefmclaaRobKeeps
set_option linter.all false
set_option linter.deprecated false
namespace Go.Proofs.Ytenpeogkefmclaa
open Go.Sep
variable [B0 : Base]

theorem Src.takeS {L : List HP} {x : Value} {n : Nat} {es : List (List Value)} (h : Src L x n es) {k : Nat} (hk : k ≤ es.length) : Src L (vsl x 0 k (vcap x) n) n (es.take k) :=
  ⟨fun w hs e he => h.each w hs e (List.mem_of_mem_take he), fun w hs => by
    obtain ⟨ao, c, rfl, hx⟩ := h.out w hs
    refine ⟨ao, c, ?_, ?_⟩
    · simp only [vsl, vcap, List.length_take, Nat.min_eq_left hk, Nat.sub_zero, Nat.zero_mul, Addr.add, if_true]
      cases ao <;> simp
    · rcases hx with rfl | ⟨b, o, rfl, hc⟩
      · left; simp
      · right
        refine ⟨b, o, rfl, fun j u hu => hc j u ?_⟩
        rw [take_flatten (h.each w hs)] at hu
        rw [List.getElem?_take] at hu
        split at hu
        · exact hu
        · cases hu⟩
theorem Src.dropS {L : List HP} {x : Value} {n N : Nat} {es : List (List Value)} (h : Src L x n es) {k : Nat} (hk : k ≤ es.length) (hN : N = es.length) (hi : IsSl x N) : Src L (vsl x k N (vcap x) n) n (es.drop k) :=
  ⟨fun w hs e he => h.each w hs e (List.mem_of_mem_drop he), fun w hs => by
    subst hN
    obtain ⟨ao, c, rfl, hx⟩ := h.out w hs
    obtain ⟨_, c', he, hc1, _⟩ := hi
    cases he
    refine ⟨_, c - k, by simp only [vsl, vcap, List.length_drop]; rfl, ?_⟩
    rcases Nat.lt_or_ge k es.length with hlt | hge
    · rcases hx with rfl | ⟨b, o, rfl, hc⟩
      · simp at hlt
      · right
        refine ⟨b, o + k * n, ?_, fun j u hu => ?_⟩
        · exact (if_neg (show ¬ c = k by omega)).trans (by simp only [Option.map_some, Addr.add_off])
        · rw [drop_flatten (h.each w hs), List.getElem?_drop] at hu
          have := hc _ _ hu
          rw [← Nat.add_assoc] at this; exact this
    · left; exact List.drop_eq_nil_of_le hge⟩
theorem vsl_tail (ao : Option Addr) (l c k N n : Nat) : vsl (.slice ao l c) k N (vcap (.slice ao l c)) n = .slice (if c = k then ao else ao.map (·.add (k * n))) (N - k) (c - k) := rfl
theorem IsSl.dropS {v : Value} {N k n : Nat} (hv : IsSl v N) (hk : k ≤ N) : IsSl (vsl v k N (vcap v) n) (N - k) := by
  obtain ⟨ao, c, rfl, h1, h2, h3, h4⟩ := hv
  rw [vsl_tail]
  by_cases hck : c = k
  · rw [if_pos hck]
    exact ⟨ao, c - k, rfl, by omega, by omega, fun _ => by omega, fun a h hp => by omega⟩
  · rw [if_neg hck]
    refine ⟨_, c - k, rfl, by omega, by omega, fun h => ?_, fun a h hp => ?_⟩
    · cases ao with
      | none => have := h3 rfl; omega
      | some a => simp at h
    · cases ao with
      | none => simp at h
      | some a' =>
        simp only [Option.map_some, Option.some.injEq] at h
        have := h4 a' rfl (by omega)
        subst h
        unfold Addr.add
        split
        · exact this
        · rfl

theorem addGo_append : ∀ (a b : List Int) (l : List Th), addGo l (a ++ b) = match addGo l a with | .ok l' => addGo l' b | .error e => .error e
  | [], _, _ => rfl
  | i :: a, b, l => by
    simp only [List.cons_append, addGo]
    split
    · rfl
    · split
      · rfl
      · split
        · rfl
        · exact addGo_append a b _
theorem addGo_parts {ks : List Int} {l : List Th} (h : addGo [] ks = .ok l) (k : Nat) : ∃ l1, addGo [] (ks.take k) = .ok l1 ∧ addGo l1 (ks.drop k) = .ok l := by
  rw [← List.take_append_drop k ks, addGo_append] at h
  split at h
  · rename_i l1 h1; exact ⟨l1, h1, h⟩
  · cases h

theorem parts_law {q : Int} {k0 : Int} {r : List Int} (hn : (k0 :: r).Nodup) (h0 : 0 ≤ k0) (h64 : (k0 :: r).length ≤ 20) {y z : Int} (hy : 0 ≤ y) (hz : 0 ≤ z) (hq : y < q) (hyz : z ≤ q - y) :
    ∃ d c1 x, runM ⟨q, fresh (k0 :: r)⟩ k0 (y + z) = (d, 0) ∧ runM ⟨q, fresh (k0 :: r)⟩ k0 y = (c1, 0) ∧ runM c1 k0 z = (d, 0) ∧ leftV d k0 = (x, 0) ∧ d.l.length = (k0 :: r).length := by
  have hnd : ∀ (x : Int), (ids (⟨k0, x⟩ :: fresh r)).Nodup := fun x => by show (k0 :: ids (fresh r)).Nodup; rw [ids_fresh]; exact hn
  have hf : ∀ (x : Int), findIx (⟨k0, x⟩ :: fresh r) k0 = some 0 := fun x => findIx_nodup (t := ⟨k0, x⟩) (hnd x) rfl
  have hlen : (fresh r).length = r.length := by simp [fresh]
  have e1 : runM ⟨q, fresh (k0 :: r)⟩ k0 y = (⟨q, ⟨k0, y⟩ :: fresh r⟩, 0) := by
    rw [runM_some (k := 0) (t := ⟨k0, 0⟩) (hf 0) rfl, if_neg (by show ¬ (y < 0 ∨ q - 0 < y); omega), if_neg (by show ¬ (0 + y = q); omega)]
    show (Cls.mk q (⟨k0, 0 + y⟩ :: fresh r), (0 : Int)) = _
    rw [Int.zero_add]
  have two : ∀ a b : Int, a + b = y + z → 0 ≤ b → b ≤ q - a → runM ⟨q, ⟨k0, a⟩ :: fresh r⟩ k0 b = if y + z = q then yieldM ⟨q, ⟨k0, y + z⟩ :: fresh r⟩ k0 else (⟨q, ⟨k0, y + z⟩ :: fresh r⟩, 0) := by
    intro a b hab hb hbq
    rw [runM_some (k := 0) (t := ⟨k0, a⟩) (hf a) rfl, if_neg (by show ¬ (b < 0 ∨ q - a < b); omega)]
    show (if a + b = q then yieldM ⟨q, ⟨k0, a + b⟩ :: fresh r⟩ k0 else (⟨q, ⟨k0, a + b⟩ :: fresh r⟩, 0)) = _
    rw [hab]
  have e2 := two 0 (y + z) (by omega) (by omega) (by omega)
  have e3 := two y z rfl hz hyz
  by_cases hq' : y + z = q
  · rw [if_pos hq'] at e2 e3
    have hy : yieldM ⟨q, ⟨k0, y + z⟩ :: fresh r⟩ k0 = (⟨q, fresh r ++ [⟨k0, 0⟩]⟩, 0) := by
      unfold yieldM
      rw [dropM_some (c := ⟨q, ⟨k0, y + z⟩ :: fresh r⟩) (hf (y + z)), if_pos rfl]
      unfold addM
      rw [show (Cls.mk q ((⟨k0, y + z⟩ :: fresh r).eraseIdx 0), (0 : Int)).1.l = fresh r from rfl, addGo_one h0 (by rw [ids_fresh]; exact (List.nodup_cons.1 hn).1) (by rw [hlen]; simp at h64; omega)]
    rw [hy] at e2 e3
    refine ⟨_, _, q - 0, e2, e1, e3, ?_, by show (fresh r ++ [_]).length = _; simp [hlen]⟩
    have : findIx (fresh r ++ [⟨k0, 0⟩]) k0 = some (fresh r).length := findIx_nodup (t := ⟨k0, 0⟩) (by
      show (ids (fresh r ++ [⟨k0, 0⟩])).Nodup
      rw [show ids (fresh r ++ [⟨k0, 0⟩]) = ids (fresh r) ++ [k0] from List.map_append .., ids_fresh]
      exact (List.perm_append_comm (l₁ := [k0]) (l₂ := r)).nodup_iff.1 hn) (by simp)
    unfold leftV
    rw [this]
    simp
  · rw [if_neg hq'] at e2 e3
    exact ⟨_, _, _, e2, e1, e3, leftV_at (q := q) (t := ⟨k0, y + z⟩) (k := 0) (hnd _) rfl, by simp [hlen]⟩

set_option maxHeartbeats 8000000 in
theorem parts_ok (q : Int) (u : Value) (ks : List Int) (x y z : Int) (hq : -9223372036854775808 ≤ q ∧ q ≤ 9223372036854775807) (hy : -9223372036854775808 ≤ y ∧ y ≤ 9223372036854775807) (hz : -9223372036854775808 ≤ z ∧ z ≤ 9223372036854775807) (R : List HP) (hu : IsSl u ks.length) (hus : Src R u 1 (ks.map inE)) :
    Called Try.prog 5 [int q, u, .agg [int x, int y, int z].toArray] R (is (.bool true) R) := by
  refine Fn3 Try.func5 rfl Try.ntmps5 rfl ?_
  have hN := hu.len
  by_cases hc0 : (1 ≤ q ∧ q ≤ 1073741824) ∧ ks.length ≤ 20 ∧ 0 ≤ x ∧ x ≤ ks.length ∧ 0 ≤ y ∧ 0 ≤ z
  · obtain ⟨hqq, h20, hx0, hx1, hy0, hz0⟩ := hc0
    obtain ⟨xn, rfl⟩ := Int.eq_ofNat_of_zero_le hx0
    obtain ⟨hq1, hq2⟩ := id hqq
    have hxn : xn ≤ ks.length := by omega
    (repeat' first | refine stp ?_ | intro v' hv' | intro (b : Nat) | (apply w_cq; rfl; rfl; exact awake_ok _) | refine spl ?_ ?_ | intro hc)
    apply w_cl
    rfl; rfl; exact New_ok q hqq _
    exact ⟨_, _, 0, rfl, rfl⟩
    rintro _ _ ⟨pa, rfl, rfl⟩
    refine ⟨by (exact kmf), ?_⟩
    (repeat' first | refine stp ?_ | intro v' hv' | intro (b : Nat) | (apply w_cq; rfl; rfl; exact awake_ok _) | refine spl ?_ ?_ | intro hc)
    apply w_cl
    rfl; rfl; exact New_ok q hqq _
    exact ⟨_, _, 0, rfl, rfl⟩
    rintro _ _ ⟨pb, rfl, rfl⟩
    refine ⟨by (exact kmf), ?_⟩
    cases hadd : addGo [] ks with
    | error e =>
      have he : e ≠ 0 := by rcases addGo_err hadd with h | h | h <;> omega
      have hA := Add_ok pa ⟨q, []⟩ u ks (cls pb ⟨q, []⟩ :: pt b 47 [int xn, int y, int z] :: R) hus.there.there hu
      rw [addM_err (c := ⟨q, []⟩) hadd] at hA
      have hL := Len_ok pa ⟨q, []⟩
      (repeat' first | refine stp ?_ | intro v' hv' | intro (b : Nat) | (apply w_cq; rfl; rfl; exact awake_ok _) | refine spl ?_ ?_ | intro hc)
      apply w_cd
      rfl; rfl; exact Called.del1 (by (focus ((repeat (first | exact Del.here | apply Del.there)); done))) hA; ((exact kmf))
      (repeat' first | refine stp ?_ | intro v' hv' | intro (b : Nat) | (apply w_cq; rfl; rfl; exact awake_ok _) | refine spl ?_ ?_ | intro hc)
      (refine At_ret1 (by (first | exact .inl rfl | exact .inr rfl)) Try.results5 rfl ⟨by rfl, rfl⟩ (by (exact frm)))
    | ok l =>
      obtain ⟨hl, hnd, _, hpos⟩ := addGo_ok hadd (by simp [ids]) (by simp)
      obtain ⟨l1, ha1, ha2⟩ := addGo_parts hadd xn
      rw [List.nil_append] at hl
      have hA := Add_ok pa ⟨q, []⟩ u ks (cls pb ⟨q, []⟩ :: pt b 47 [int xn, int y, int z] :: R) hus.there.there hu
      rw [addM_ok (c := ⟨q, []⟩) hadd] at hA
      cases ks with
      | nil =>
        subst hl
        have hL := Len_ok pa ⟨q, fresh []⟩
        (repeat' first | refine stp ?_ | intro v' hv' | intro (b : Nat) | (apply w_cq; rfl; rfl; exact awake_ok _) | refine spl ?_ ?_ | intro hc)
        apply w_cd
        rfl; rfl; exact Called.del1 (by (focus ((repeat (first | exact Del.here | apply Del.there)); done))) hA; ((exact kmf))
        (repeat' first | refine stp ?_ | intro v' hv' | intro (b : Nat) | (apply w_cq; rfl; rfl; exact awake_ok _) | refine spl ?_ ?_ | intro hc)
        (refine At_ret1 (by (first | exact .inl rfl | exact .inr rfl)) Try.results5 rfl ⟨by rfl, rfl⟩ (by (exact frm)))
      | cons k0 r =>
        have hle1 : (k0 :: r).length = r.length + 1 := rfl
        have h1 := Src.takeS (hus : Src R u 1 ((k0 :: r).map inE)) (k := xn) (by simpa using hxn)
        have h2 := Src.dropS (hus : Src R u 1 ((k0 :: r).map inE)) (k := xn) (N := (k0 :: r).length) (by simpa using hxn) (by simp) hu
        rw [← List.map_take] at h1
        rw [← List.map_drop] at h2
        have i1 : IsSl (vsl u 0 xn (vcap u) 1) ((k0 :: r).take xn).length := by rw [List.length_take, Nat.min_eq_left hxn]; exact hu.vsl hxn
        have i2 : IsSl (vsl u xn (k0 :: r).length (vcap u) 1) ((k0 :: r).drop xn).length := by rw [List.length_drop]; exact IsSl.dropS hu hxn
        (repeat' first | refine stp ?_ | intro v' hv' | intro (b : Nat) | (apply w_cq; rfl; rfl; exact awake_ok _) | refine spl ?_ ?_ | intro hc)
        apply w_cd
        rfl; rfl; exact Called.del1 (by (focus ((repeat (first | exact Del.here | apply Del.there)); done))) hA; ((exact kmf))
        clear hA
        dsimp only
        have hB1 := Add_ok pb ⟨q, []⟩ (vsl u 0 xn (vcap u) 1) ((k0 :: r).take xn) (cls pa ⟨q, l⟩ :: pt b 47 [int xn, int y, int z] :: R) h1.there.there i1
        rw [addM_ok (c := ⟨q, []⟩) ha1] at hB1
        have hB2 := Add_ok pb ⟨q, l1⟩ (vsl u xn (k0 :: r).length (vcap u) 1) ((k0 :: r).drop xn) (cls pa ⟨q, l⟩ :: pt b 47 [int xn, int y, int z] :: R) h2.there.there i2
        rw [addM_ok (c := ⟨q, l1⟩) ha2] at hB2
        (repeat' first | refine stp ?_ | intro v' hv' | intro (b : Nat) | (apply w_cq; rfl; rfl; exact awake_ok _) | refine spl ?_ ?_ | intro hc)
        apply w_cd
        rfl; rfl
        exact Called.del1 (by (focus ((repeat (first | exact Del.here | apply Del.there)); done))) hB1
        ((exact kmf))
        dsimp only
        (repeat' first | refine stp ?_ | intro v' hv' | intro (b : Nat) | (apply w_cq; rfl; rfl; exact awake_ok _) | refine spl ?_ ?_ | intro hc)
        apply w_cd
        rfl; rfl
        exact Called.del1 (by (focus ((repeat (first | exact Del.here | apply Del.there)); done))) hB2
        ((exact kmf))
        dsimp only
        subst hl
        have hfl : (fresh (k0 :: r)).length = (k0 :: r).length := by simp [fresh]
        have hFa := First_ok pa ⟨q, fresh (k0 :: r)⟩ 20
        have hFb := First_ok pb ⟨q, fresh (k0 :: r)⟩ 20
        rw [firstM_ge (by show ((fresh (k0 :: r)).length : Int) ≤ 20; omega), show (Cls.mk q (fresh (k0 :: r))).l = fresh (k0 :: r) from rfl, ids_fresh] at hFa hFb
        (repeat' first | refine stp ?_ | intro v' hv' | intro (b : Nat) | (apply w_cq; rfl; rfl; exact awake_ok _) | refine spl ?_ ?_ | intro hc)
        apply w_cq
        rfl; rfl; exact ints_eq _ _ (k0 :: r) _ (by assumption) (by assumption) (by (exact srf)) (by (exact srf))
        clear hFa hFb
        by_cases hyq : y < q
        · by_cases hzq : z ≤ q - y
          · obtain ⟨d, c1, x, g1, g2, g3, g4, g5⟩ := parts_law (q := q) (k0 := k0) (r := r) (by rwa [ids_fresh] at hnd) (hpos k0 (by simp)) h20 hy0 hz0 hyq hzq
            have hrd : Rd R ⟨vb u, vo u + 0 * 1, none⟩ (int k0) := Rd.src hus (e := inE k0) (i := 0) (k := 0) rfl rfl
            have hRa := Run_ok pa ⟨q, fresh (k0 :: r)⟩ k0 (y + z) (by omega)
            have hRb := Run_ok pb ⟨q, fresh (k0 :: r)⟩ k0 y (by omega)
            have hRb2 := Run_ok pb c1 k0 z (by omega)
            have hLa := Left_ok pa d k0
            have hLb := Left_ok pb d k0
            rw [g1] at hRa
            rw [g2] at hRb
            rw [g3] at hRb2
            rw [g4] at hLa hLb
            dsimp only at hRa hRb hRb2 hLa hLb
            have hGa := First_ok pa d 20
            have hGb := First_ok pb d 20
            rw [firstM_ge (by omega)] at hGa hGb
            have hdl : (ids d.l).length = (k0 :: r).length := by rw [ids_length, g5]
            (repeat' first | refine stp ?_ | intro v' hv' | intro (b : Nat) | (apply w_cq; rfl; rfl; exact awake_ok _) | refine spl ?_ ?_ | intro hc)
            apply w_cq
            rfl; rfl; exact ints_eq _ _ (ids d.l) _ (by assumption) (by assumption) (by (exact srf)) (by (exact srf))
            (repeat' first | refine stp ?_ | intro v' hv' | intro (b : Nat) | (apply w_cq; rfl; rfl; exact awake_ok _) | refine spl ?_ ?_ | intro hc)
            (refine At_ret1 (by (first | exact .inl rfl | exact .inr rfl)) Try.results5 rfl ⟨by rfl, rfl⟩ (by (exact frm)))
          · (repeat' first | refine stp ?_ | intro v' hv' | intro (b : Nat) | (apply w_cq; rfl; rfl; exact awake_ok _) | refine spl ?_ ?_ | intro hc)
            (refine At_ret1 (by (first | exact .inl rfl | exact .inr rfl)) Try.results5 rfl ⟨by rfl, rfl⟩ (by (exact frm)))
        · (repeat' first | refine stp ?_ | intro v' hv' | intro (b : Nat) | (apply w_cq; rfl; rfl; exact awake_ok _) | refine spl ?_ ?_ | intro hc)
          (refine At_ret1 (by (first | exact .inl rfl | exact .inr rfl)) Try.results5 rfl ⟨by rfl, rfl⟩ (by (exact frm)))
  · (repeat' first | refine stp ?_ | intro v' hv' | intro (b : Nat) | (apply w_cq; rfl; rfl; exact awake_ok _) | refine spl ?_ ?_ | intro hc)
    all_goals first | (refine At_ret1 (by (first | exact .inl rfl | exact .inr rfl)) Try.results5 rfl ⟨by rfl, rfl⟩ (by (exact frm))) | (exfalso; omega)
end Go.Proofs.Ytenpeogkefmclaa
