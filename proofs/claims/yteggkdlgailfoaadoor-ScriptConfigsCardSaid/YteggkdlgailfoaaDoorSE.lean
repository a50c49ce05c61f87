/- script: a line's words. Conditions: none. -/
import Derived.Test.YteggkdlgailfoaaDoorSD
import Derived.Lib.SplitLaws
set_option linter.all false
set_option linter.deprecated false
namespace Go.Proofs.YteggkdlgailfoaaDoor
open Go.Sep
variable [B0 : Base]
/-- The words between blanks. -/
def wrds (s : List UInt8) : List (List UInt8) := Lib.split s [32]
theorem wrds_miss {w : List UInt8} (h : (32 : UInt8) ∉ w) : wrds w = [w] := by
  unfold wrds Lib.split
  rw [Lib.count_one, List.count_eq_zero.2 h]
  rfl
theorem wrds_hit {w r : List UInt8} (h : (32 : UInt8) ∉ w) : wrds (w ++ 32 :: r) = w :: wrds r := by
  unfold wrds Lib.split
  rw [Lib.count_one, Lib.count_one, List.count_append, List.count_eq_zero.2 h, List.count_cons_self, Nat.zero_add]
  have hi := index_hit w r 32 h
  rw [Lib.splitK, hi, if_neg (by simp)]
  have e1 : (w ++ 32 :: r).take ((w.length : Int).toNat + 0) = w := by simp
  have e2 : (w ++ 32 :: r).drop ((w.length : Int).toNat + [(32 : UInt8)].length) = r := by
    rw [Int.toNat_natCast, List.drop_append]
    simp
  rw [e1, e2]
theorem wrds_len (s : List UInt8) : (wrds s).length = s.count 32 + 1 := by
  have h := Lib.splitB_all ⟨#[32]⟩ (by decide) 0 (Lib.countB ⟨s.toArray⟩ ⟨#[32]⟩) ⟨s.toArray⟩ rfl
  have e := Lib.splitB_data ⟨#[32]⟩ 0 (Lib.countB ⟨s.toArray⟩ ⟨#[32]⟩) ⟨s.toArray⟩
  unfold wrds Lib.split
  have e2 := congrArg List.length e
  rw [List.length_map, h] at e2
  have e3 : Lib.countB ⟨s.toArray⟩ ⟨#[32]⟩ = s.count 32 := by
    show Lib.count s.toArray.toList [32] = _
    rw [Lib.count_one]
  have e4 : Lib.count s [32] = s.count 32 := Lib.count_one 32 s
  rw [e3] at e2
  rw [e4]
  exact e2.symm
theorem Split_ok (s : List UInt8) (R : List HP) [h : HasP R] (hs : s.length < 4294967281) : Called Tryd.prog 50 [str s, str [32]] R (retSl 9 1 ((wrds s).map fun t => [str t]) R) := by
  refine Called.isl ⟨fun w hw => ?_⟩
  obtain ⟨k, hk⟩ := (h.out w hw).most
  refine (Tryd.strings_Split ⟨s.toArray⟩ ⟨#[32]⟩ k w (by show s.toArray.size < _; simpa using hs) hk (by decide)).mono fun e w' ⟨he, hw'⟩ => ⟨_, he, _, rfl, ?_⟩
  subst hw'
  have e1 : (Lib.splitB ⟨#[32]⟩ 0 (Lib.countB ⟨s.toArray⟩ ⟨#[32]⟩) ⟨s.toArray⟩).map Value.string = (wrds s).map str := by
    have := Lib.splitB_data ⟨#[32]⟩ 0 (Lib.countB ⟨s.toArray⟩ ⟨#[32]⟩) ⟨s.toArray⟩
    have e2 : wrds s = (Lib.splitB ⟨#[32]⟩ 0 (Lib.countB ⟨s.toArray⟩ ⟨#[32]⟩) ⟨s.toArray⟩).map (·.data.toList) := this.symm
    rw [e2, List.map_map]
    apply List.map_congr_left
    intro b _
    show Value.string b = Value.string ⟨b.data.toList.toArray⟩
    rw [Lib.mk_data]
  have e3 : Lib.countB ⟨s.toArray⟩ ⟨#[32]⟩ + 1 = ((wrds s).map fun t => [str t]).length := by
    rw [List.length_map, wrds_len]
    show Lib.count s.toArray.toList [32] + 1 = _
    rw [Lib.count_one]
  have hc := List.count_le_length (a := (32 : UInt8)) (l := s)
  rw [e1, e3]
  refine sl_anew (A := emp) hw.more (by rw [List.length_map, wrds_len]; unfold maxLen; omega) (by simp) (E := 9) (n := 1) (cur' := ((wrds s).map str).toArray) ?_ (fun j hj => Lib.alloc_old w _ j hj) (Nat.le_refl _) (by simp) ?_
  · show (w.heap.push _)[w.heap.size]? = _
    rw [Array.getElem?_push_size]
  · have : ∀ l : List (List UInt8), (l.map fun t => [str t]).flatten = l.map str := by
      intro l
      induction l with
      | nil => rfl
      | cons a l ih => rw [List.map_cons, List.flatten_cons, ih]; rfl
    rw [this]
    simp only [List.length_map, Nat.mul_one]
    rw [List.take_of_length_le (by simp)]
/-! ### What a line tells -/
def atW (l : List (List UInt8)) (j : Nat) : Int := atoiV (l.getD (j + 1) [])
def wL (l : List (List UInt8)) : List Value := [int (atW l 0), int (atW l 1), int (atW l 2), int (atW l 3), int (atW l 4), int (atW l 5)]
def fN (l : List (List UInt8)) (k j : Nat) : Int := if j < k then atW l j else 0
def fL (l : List (List UInt8)) (k : Nat) : List Value := [int (fN l k 0), int (fN l k 1), int (fN l k 2), int (fN l k 3), int (fN l k 4), int (fN l k 5)]
theorem fN_end {l : List (List UInt8)} {k j : Nat} (hk : l.length ≤ k + 1) : fN l k j = atW l j := by
  unfold fN
  split
  · rfl
  · unfold atW
    rw [List.getD_eq_getElem?_getD, List.getElem?_eq_none (by omega)]
    rfl
theorem fL_end {l : List (List UInt8)} {k : Nat} (hk : l.length ≤ k + 1) : fL l k = wL l := by
  unfold fL wL
  simp only [fN_end hk]
theorem fN_six {l : List (List UInt8)} {k j : Nat} (hk : 6 ≤ k) (hj : j < 6) : fN l (k + 1) j = fN l k j := by
  unfold fN
  rw [if_pos (by omega), if_pos (by omega)]
theorem fL_six {l : List (List UInt8)} {k : Nat} (hk : 6 ≤ k) : fL l (k + 1) = fL l k := by
  unfold fL
  simp only [fN_six hk (show 0 < 6 by decide), fN_six hk (show 1 < 6 by decide), fN_six hk (show 2 < 6 by decide), fN_six hk (show 3 < 6 by decide), fN_six hk (show 4 < 6 by decide), fN_six hk (show 5 < 6 by decide)]
theorem fL_set {l : List (List UInt8)} {k : Nat} (hk : k < 6) : (fL l k).set k (int (atW l k)) = fL l (k + 1) := by
  rcases (show k = 0 ∨ k = 1 ∨ k = 2 ∨ k = 3 ∨ k = 4 ∨ k = 5 by omega) with rfl | rfl | rfl | rfl | rfl | rfl <;> simp [fL, fN]
/-- The word and the numbers of a line. -/
def lw (t : List UInt8) : List (List UInt8) := wrds (Lib.trimSuffix t [10])
theorem trimS_len (s p : List UInt8) : (Lib.trimSuffix s p).length ≤ s.length := by
  unfold Lib.trimSuffix
  split
  · rw [List.length_take]; omega
  · exact Nat.le_refl _
theorem mem_split {l : List UInt8} {w : List UInt8} (h : w ∈ wrds l) : w.length ≤ l.length := by
  have key : ∀ (n : Nat) (l : List UInt8), l.length ≤ n → ∀ w ∈ wrds l, w.length ≤ l.length := by
    intro n
    induction n with
    | zero =>
      intro l hl w hw
      have : l = [] := List.eq_nil_of_length_eq_zero (by omega)
      subst this
      rw [wrds_miss (by simp), List.mem_singleton] at hw
      subst hw; simp
    | succ n ih =>
      intro l hl w hw
      by_cases h32 : (32 : UInt8) ∈ l
      · obtain ⟨a, b, rfl, hn⟩ := List.append_of_mem h32 |> fun ⟨a, b, e⟩ => (show ∃ a b, l = a ++ 32 :: b ∧ (32 : UInt8) ∉ a from by
          have := List.eq_append_cons_of_mem h32
          obtain ⟨a, b, e, h⟩ := this
          exact ⟨a, b, e, h⟩)
        rw [wrds_hit hn] at hw
        rcases List.mem_cons.1 hw with rfl | hw
        · simp
        · have := ih b (by simp at hl; omega) w hw
          simp; omega
      · rw [wrds_miss h32, List.mem_singleton] at hw
        subst hw; exact Nat.le_refl _
  exact key l.length l (Nat.le_refl _) w h
set_option maxHeartbeats 4000000 in
theorem lwords_ok (t : List UInt8) (R : List HP) [hV : HasP R] (ht : t.length < 4294967281) : Called Tryd.prog 32 [str t] R (is (.tuple #[str ((lw t).getD 0 []), .agg (wL (lw t)).toArray]) R) := by
  have hTr : ∀ M, Called Tryd.prog 51 [str t, str [10]] M (is (str (Lib.trimSuffix t [10])) M) := fun M => Trim_ok t [10] M (by omega)
  have htl := trimS_len t [10]
  have hlt : (Lib.trimSuffix t [10]).length < 4294967281 := by omega
  have hlen := wrds_len (Lib.trimSuffix t [10])
  have hcl := List.count_le_length (a := (32 : UInt8)) (l := Lib.trimSuffix t [10])
  have hwl : ∀ w ∈ wrds (Lib.trimSuffix t [10]), w.length ≤ 281474976710656 := fun w hw => by have := mem_split hw; omega
  refine Fn1 Tryd.func32 rfl Tryd.ntmps32 rfl ?_
  (repeat' first | refine stp ?_ | intro v' hv' | intro (b : Nat) | (apply w_convU; rfl; rfl; omega; omega) | (apply w_convI; rfl; rfl; omega; omega) | (apply w_quoU; rfl; rfl; rfl; omega; omega; omega) | (apply w_remU; rfl; rfl; rfl; omega; omega) | (apply w_minL; rfl; rfl; rfl; omega) | (apply w_minG; rfl; rfl; rfl; omega) | (apply w_min; rfl; rfl; rfl) | (apply w_mfR; rfl; rfl) | (apply w_cvp; rfl; rfl; exact inferInstance; rfl; rfl; assumption) | (apply w_eqS2T; rfl; rfl; rfl; omega) | (apply w_eqS2F; rfl; rfl; rfl; omega) | (apply w_neS2T; rfl; rfl; rfl; omega) | (apply w_neS2F; rfl; rfl; rfl; omega) | (apply w_eqS3T; rfl; rfl; rfl; omega) | (apply w_eqS3F; rfl; rfl; rfl; omega) | (apply w_neS3T; rfl; rfl; rfl; omega) | (apply w_neS3F; rfl; rfl; rfl; omega) | (apply w_eqS3; rfl; rfl; rfl) | (apply w_neS3; rfl; rfl; rfl) | (apply w_eqS2; rfl; rfl; rfl) | (apply w_neS2; rfl; rfl; rfl) | (apply w_maxL; rfl; rfl; rfl; omega) | (apply w_maxG; rfl; rfl; rfl; omega) | (apply w_max; rfl; rfl; rfl) | (apply w_neB; rfl; rfl; rfl; rfl) | (apply w_eqB; rfl; rfl; rfl; rfl) | (apply w_strA; rfl; rfl; rfl; first | omega | (simp only [List.length_append, List.length_cons, List.length_nil]; omega)) | (apply w_strET; rfl; rfl; rfl; assumption) | (apply w_strEF; rfl; rfl; rfl; assumption) | (apply w_strNF; rfl; rfl; rfl; assumption) | (apply w_strNT; rfl; rfl; rfl; assumption) | (apply w_strE; rfl; rfl; rfl; rfl) | (apply w_strN; rfl; rfl; rfl; rfl) | (apply w_strL; rfl; rfl) | (apply w_cp; rfl; rfl; exact hTr) | (apply w_ld; rfl; rfl; exact hra0 _) | (apply w_clM; rfl; rfl; exact Split_ok _ _ hlt; (first | omega | (simp; omega) | simp); intro u hu; refine ⟨by (exact kmf), ?_⟩) | refine spl ?_ ?_ | intro hc)
  unfold lw
  generalize wrds (Lib.trimSuffix t [10]) = ws at *
  rename_i b3
  obtain ⟨b4, hb4⟩ : ∃ r, r = b := ⟨_, rfl⟩
  subst hb4
  have hu1 : IsSl u ws.length := hu
  clear hu
  apply w_sll (h := 1) (N := ws.length); rfl; rfl; rfl; assumption; omega
  have hsrc : ∀ X, Sep.Src (sl 9 1 u (ws.map fun t => [str t]) :: X) u 1 (ws.map fun t => [str t]) := fun X => Sep.Src.sl
  have hsd : ∀ X, Sep.Src (sl 9 1 u (ws.map fun t => [str t]) :: X) (vsl u 1 ws.length (vcap u) 1) 1 ((ws.map fun t => [str t]).drop 1) := fun X => (hsrc X).dropS (by simp; omega) (by simp) hu1
  have hisd : IsSl (vsl u 1 ws.length (vcap u) 1) (ws.length - 1) := hu1.dropS (by omega)
  generalize hvv : vsl u 1 ws.length (vcap u) 1 = vv at *
  have hN := hisd.len
  (repeat' first | refine stp ?_ | intro v' hv' | intro (b : Nat) | (apply w_convU; rfl; rfl; omega; omega) | (apply w_convI; rfl; rfl; omega; omega) | (apply w_quoU; rfl; rfl; rfl; omega; omega; omega) | (apply w_remU; rfl; rfl; rfl; omega; omega) | (apply w_minL; rfl; rfl; rfl; omega) | (apply w_minG; rfl; rfl; rfl; omega) | (apply w_min; rfl; rfl; rfl) | (apply w_mfR; rfl; rfl) | (apply w_cvp; rfl; rfl; exact inferInstance; rfl; rfl; assumption) | (apply w_eqS2T; rfl; rfl; rfl; omega) | (apply w_eqS2F; rfl; rfl; rfl; omega) | (apply w_neS2T; rfl; rfl; rfl; omega) | (apply w_neS2F; rfl; rfl; rfl; omega) | (apply w_eqS3T; rfl; rfl; rfl; omega) | (apply w_eqS3F; rfl; rfl; rfl; omega) | (apply w_neS3T; rfl; rfl; rfl; omega) | (apply w_neS3F; rfl; rfl; rfl; omega) | (apply w_eqS3; rfl; rfl; rfl) | (apply w_neS3; rfl; rfl; rfl) | (apply w_eqS2; rfl; rfl; rfl) | (apply w_neS2; rfl; rfl; rfl) | (apply w_maxL; rfl; rfl; rfl; omega) | (apply w_maxG; rfl; rfl; rfl; omega) | (apply w_max; rfl; rfl; rfl) | (apply w_neB; rfl; rfl; rfl; rfl) | (apply w_eqB; rfl; rfl; rfl; rfl) | (apply w_strA; rfl; rfl; rfl; first | omega | (simp only [List.length_append, List.length_cons, List.length_nil]; omega)) | (apply w_strET; rfl; rfl; rfl; assumption) | (apply w_strEF; rfl; rfl; rfl; assumption) | (apply w_strNF; rfl; rfl; rfl; assumption) | (apply w_strNT; rfl; rfl; rfl; assumption) | (apply w_strE; rfl; rfl; rfl; rfl) | (apply w_strN; rfl; rfl; rfl; rfl) | (apply w_strL; rfl; rfl) | (apply w_cp; rfl; rfl; exact hTr) | (apply w_ld; rfl; rfl; exact hra0 _) | (apply w_clM; rfl; rfl; exact Split_ok _ _ hlt; (first | omega | (simp; omega) | simp); intro u hu; refine ⟨by (exact kmf), ?_⟩) | refine spl ?_ ?_ | intro hc)
  refine C_loopK [6, 7, 14, 15, 16, 17, 18, 19, 20, 21, 22, 23, 24, 25, 26, 27, 28] (fun k : Nat => ws.length - k) (fun k => [(14, int k)]) (fun k => sl 9 1 u (ws.map fun t => [str t]) :: pt b4 25 (fL ws k) :: pt b3 25 [int 0, int 0, int 0, int 0, int 0, int 0] :: R) (fun k => k + 1 ≤ ws.length) 0 (by show 0 + 1 ≤ _; omega) (by (focus ((repeat (first | exact Keep.nil | apply Keep.drop rfl | apply Keep.keep rfl)); done))) (by (exact sbf)) (by (exact frm)) ?_
  intro k hk
  dsimp only [List.cons_append, List.nil_append]
  by_cases hkl : k + 1 < ws.length
  · have hk1 : k < ws.length - 1 := by omega
    have hg : ws[k + 1]? = some ws[k + 1] := by simp [hkl]
    have hat : atW ws k = atoiV ws[k + 1] := by unfold atW; rw [List.getD_eq_getElem?_getD, hg]; rfl
    have hra0 : ∀ X, Rd (sl 9 1 u (ws.map fun t => [str t]) :: X) ⟨vb vv, vo vv + k * 1 + 0, none⟩ (str ws[k + 1]) := fun X => Rd.src (hsd X) (i := k) (e := [str ws[k + 1]]) (by rw [List.getElem?_drop, Nat.add_comm 1 k, List.getElem?_map, hg]; rfl) rfl
    simp only [Nat.add_zero] at hra0
    have hwm := hwl _ (List.mem_of_getElem? hg)
    generalize ws[k + 1] = wd at *
    by_cases h6 : k < 6
    · have hset := fL_set (l := ws) h6
      rw [hat] at hset
      refine C_sat (L' := sl 9 1 u (ws.map fun t => [str t]) :: pt b4 25 [int (fN ws k 0), int (fN ws k 1), int (fN ws k 2), int (fN ws k 3), int (fN ws k 4), int (fN ws k 5)] :: pt b3 25 [int 0, int 0, int 0, int 0, int 0, int 0] :: R) (fun w h => h) ?_
      have hfr : ∀ {w : World}, Sat w (sl 9 1 u (ws.map fun t => [str t]) :: pt b4 25 ((fL ws k).set k (int (atoiV wd))) :: pt b3 25 [int 0, int 0, int 0, int 0, int 0, int 0] :: R) → Sat w (sl 9 1 u (ws.map fun t => [str t]) :: pt b4 25 (fL ws (k + 1)) :: pt b3 25 [int 0, int 0, int 0, int 0, int 0, int 0] :: R) := fun {w} h => by rw [← hset]; exact h
      obtain ⟨k1, hkq⟩ : ∃ k1, k1 = k + 1 := ⟨_, rfl⟩
      rw [← hkq] at hfr
      rcases (show k = 0 ∨ k = 1 ∨ k = 2 ∨ k = 3 ∨ k = 4 ∨ k = 5 by omega) with rfl | rfl | rfl | rfl | rfl | rfl
      all_goals
        (repeat' first | refine stp ?_ | intro v' hv' | intro (b : Nat) | (apply w_convU; rfl; rfl; omega; omega) | (apply w_convI; rfl; rfl; omega; omega) | (apply w_quoU; rfl; rfl; rfl; omega; omega; omega) | (apply w_remU; rfl; rfl; rfl; omega; omega) | (apply w_minL; rfl; rfl; rfl; omega) | (apply w_minG; rfl; rfl; rfl; omega) | (apply w_min; rfl; rfl; rfl) | (apply w_mfR; rfl; rfl) | (apply w_cvp; rfl; rfl; exact inferInstance; rfl; rfl; assumption) | (apply w_eqS2T; rfl; rfl; rfl; omega) | (apply w_eqS2F; rfl; rfl; rfl; omega) | (apply w_neS2T; rfl; rfl; rfl; omega) | (apply w_neS2F; rfl; rfl; rfl; omega) | (apply w_eqS3T; rfl; rfl; rfl; omega) | (apply w_eqS3F; rfl; rfl; rfl; omega) | (apply w_neS3T; rfl; rfl; rfl; omega) | (apply w_neS3F; rfl; rfl; rfl; omega) | (apply w_eqS3; rfl; rfl; rfl) | (apply w_neS3; rfl; rfl; rfl) | (apply w_eqS2; rfl; rfl; rfl) | (apply w_neS2; rfl; rfl; rfl) | (apply w_maxL; rfl; rfl; rfl; omega) | (apply w_maxG; rfl; rfl; rfl; omega) | (apply w_max; rfl; rfl; rfl) | (apply w_neB; rfl; rfl; rfl; rfl) | (apply w_eqB; rfl; rfl; rfl; rfl) | (apply w_strA; rfl; rfl; rfl; first | omega | (simp only [List.length_append, List.length_cons, List.length_nil]; omega)) | (apply w_strET; rfl; rfl; rfl; assumption) | (apply w_strEF; rfl; rfl; rfl; assumption) | (apply w_strNF; rfl; rfl; rfl; assumption) | (apply w_strNT; rfl; rfl; rfl; assumption) | (apply w_strE; rfl; rfl; rfl; rfl) | (apply w_strN; rfl; rfl; rfl; rfl) | (apply w_strL; rfl; rfl) | (apply w_cp; rfl; rfl; exact hTr) | (apply w_ld; rfl; rfl; exact hra0 _) | (apply w_clM; rfl; rfl; exact Split_ok _ _ hlt; (first | omega | (simp; omega) | simp); intro u hu; refine ⟨by (exact kmf), ?_⟩) | refine spl ?_ ?_ | intro hc)
        all_goals first | (exfalso; omega) | skip
        refine W_run (.inl rfl) rfl (cl rfl (Atoi_ok _ _ hwm)) ?_
        rintro _ _ ⟨e, rfl, rfl⟩
        (repeat' first | refine stp ?_ | intro v' hv' | intro (b : Nat) | (apply w_convU; rfl; rfl; omega; omega) | (apply w_convI; rfl; rfl; omega; omega) | (apply w_quoU; rfl; rfl; rfl; omega; omega; omega) | (apply w_remU; rfl; rfl; rfl; omega; omega) | (apply w_minL; rfl; rfl; rfl; omega) | (apply w_minG; rfl; rfl; rfl; omega) | (apply w_min; rfl; rfl; rfl) | (apply w_mfR; rfl; rfl) | (apply w_cvp; rfl; rfl; exact inferInstance; rfl; rfl; assumption) | (apply w_eqS2T; rfl; rfl; rfl; omega) | (apply w_eqS2F; rfl; rfl; rfl; omega) | (apply w_neS2T; rfl; rfl; rfl; omega) | (apply w_neS2F; rfl; rfl; rfl; omega) | (apply w_eqS3T; rfl; rfl; rfl; omega) | (apply w_eqS3F; rfl; rfl; rfl; omega) | (apply w_neS3T; rfl; rfl; rfl; omega) | (apply w_neS3F; rfl; rfl; rfl; omega) | (apply w_eqS3; rfl; rfl; rfl) | (apply w_neS3; rfl; rfl; rfl) | (apply w_eqS2; rfl; rfl; rfl) | (apply w_neS2; rfl; rfl; rfl) | (apply w_maxL; rfl; rfl; rfl; omega) | (apply w_maxG; rfl; rfl; rfl; omega) | (apply w_max; rfl; rfl; rfl) | (apply w_neB; rfl; rfl; rfl; rfl) | (apply w_eqB; rfl; rfl; rfl; rfl) | (apply w_strA; rfl; rfl; rfl; first | omega | (simp only [List.length_append, List.length_cons, List.length_nil]; omega)) | (apply w_strET; rfl; rfl; rfl; assumption) | (apply w_strEF; rfl; rfl; rfl; assumption) | (apply w_strNF; rfl; rfl; rfl; assumption) | (apply w_strNT; rfl; rfl; rfl; assumption) | (apply w_strE; rfl; rfl; rfl; rfl) | (apply w_strN; rfl; rfl; rfl; rfl) | (apply w_strL; rfl; rfl) | (apply w_cp; rfl; rfl; exact hTr) | (apply w_ld; rfl; rfl; exact hra0 _) | (apply w_clM; rfl; rfl; exact Split_ok _ _ hlt; (first | omega | (simp; omega) | simp); intro u hu; refine ⟨by (exact kmf), ?_⟩) | refine spl ?_ ?_ | intro hc)
        all_goals first | (exfalso; omega) | skip
        refine At_againK k1 (by show k1 + 1 ≤ _; omega) (by show ws.length - k1 < _; omega) (by subst hkq; (exact sbf)) (by (exact sbf)) (fun w h => hfr h)
    · refine C_sat (L' := sl 9 1 u (ws.map fun t => [str t]) :: pt b4 25 [int (fN ws k 0), int (fN ws k 1), int (fN ws k 2), int (fN ws k 3), int (fN ws k 4), int (fN ws k 5)] :: pt b3 25 [int 0, int 0, int 0, int 0, int 0, int 0] :: R) (fun w h => h) ?_
      have hsix := fL_six (l := ws) (k := k) (by omega)
      have hfr : ∀ {w : World}, Sat w (sl 9 1 u (ws.map fun t => [str t]) :: pt b4 25 (fL ws k) :: pt b3 25 [int 0, int 0, int 0, int 0, int 0, int 0] :: R) → Sat w (sl 9 1 u (ws.map fun t => [str t]) :: pt b4 25 (fL ws (k + 1)) :: pt b3 25 [int 0, int 0, int 0, int 0, int 0, int 0] :: R) := fun {w} h => by rw [hsix]; exact h
      (repeat' first | refine stp ?_ | intro v' hv' | intro (b : Nat) | (apply w_convU; rfl; rfl; omega; omega) | (apply w_convI; rfl; rfl; omega; omega) | (apply w_quoU; rfl; rfl; rfl; omega; omega; omega) | (apply w_remU; rfl; rfl; rfl; omega; omega) | (apply w_minL; rfl; rfl; rfl; omega) | (apply w_minG; rfl; rfl; rfl; omega) | (apply w_min; rfl; rfl; rfl) | (apply w_mfR; rfl; rfl) | (apply w_cvp; rfl; rfl; exact inferInstance; rfl; rfl; assumption) | (apply w_eqS2T; rfl; rfl; rfl; omega) | (apply w_eqS2F; rfl; rfl; rfl; omega) | (apply w_neS2T; rfl; rfl; rfl; omega) | (apply w_neS2F; rfl; rfl; rfl; omega) | (apply w_eqS3T; rfl; rfl; rfl; omega) | (apply w_eqS3F; rfl; rfl; rfl; omega) | (apply w_neS3T; rfl; rfl; rfl; omega) | (apply w_neS3F; rfl; rfl; rfl; omega) | (apply w_eqS3; rfl; rfl; rfl) | (apply w_neS3; rfl; rfl; rfl) | (apply w_eqS2; rfl; rfl; rfl) | (apply w_neS2; rfl; rfl; rfl) | (apply w_maxL; rfl; rfl; rfl; omega) | (apply w_maxG; rfl; rfl; rfl; omega) | (apply w_max; rfl; rfl; rfl) | (apply w_neB; rfl; rfl; rfl; rfl) | (apply w_eqB; rfl; rfl; rfl; rfl) | (apply w_strA; rfl; rfl; rfl; first | omega | (simp only [List.length_append, List.length_cons, List.length_nil]; omega)) | (apply w_strET; rfl; rfl; rfl; assumption) | (apply w_strEF; rfl; rfl; rfl; assumption) | (apply w_strNF; rfl; rfl; rfl; assumption) | (apply w_strNT; rfl; rfl; rfl; assumption) | (apply w_strE; rfl; rfl; rfl; rfl) | (apply w_strN; rfl; rfl; rfl; rfl) | (apply w_strL; rfl; rfl) | (apply w_cp; rfl; rfl; exact hTr) | (apply w_ld; rfl; rfl; exact hra0 _) | (apply w_clM; rfl; rfl; exact Split_ok _ _ hlt; (first | omega | (simp; omega) | simp); intro u hu; refine ⟨by (exact kmf), ?_⟩) | refine spl ?_ ?_ | intro hc)
      all_goals first | (exfalso; omega) | skip
      refine At_againK (k + 1) (by show k + 1 + 1 ≤ _; omega) (by omega) (by (exact sbf)) (by (exact sbf)) (fun w h => hfr h)
  · have hke : ws.length = k + 1 := by omega
    have hend := fL_end (l := ws) (k := k) (by omega)
    have h0 : (ws.map fun t => [str t])[(0 : Int).toNat]? = some [str (ws.getD 0 [])] := by
      rw [List.getElem?_map, List.getD_eq_getElem?_getD]
      show Option.map _ ws[0]? = _
      rw [List.getElem?_eq_getElem (by omega)]
      rfl
    refine C_sat (L' := sl 9 1 u (ws.map fun t => [str t]) :: pt b4 25 (wL ws) :: pt b3 25 [int 0, int 0, int 0, int 0, int 0, int 0] :: R) (fun w h => by rw [← hend]; exact h) ?_
    generalize ws.getD 0 [] = w0 at *
    unfold wL
    (repeat' first | refine stp ?_ | intro v' hv' | intro (b : Nat) | (apply w_convU; rfl; rfl; omega; omega) | (apply w_convI; rfl; rfl; omega; omega) | (apply w_quoU; rfl; rfl; rfl; omega; omega; omega) | (apply w_remU; rfl; rfl; rfl; omega; omega) | (apply w_minL; rfl; rfl; rfl; omega) | (apply w_minG; rfl; rfl; rfl; omega) | (apply w_min; rfl; rfl; rfl) | (apply w_mfR; rfl; rfl) | (apply w_cvp; rfl; rfl; exact inferInstance; rfl; rfl; assumption) | (apply w_eqS2T; rfl; rfl; rfl; omega) | (apply w_eqS2F; rfl; rfl; rfl; omega) | (apply w_neS2T; rfl; rfl; rfl; omega) | (apply w_neS2F; rfl; rfl; rfl; omega) | (apply w_eqS3T; rfl; rfl; rfl; omega) | (apply w_eqS3F; rfl; rfl; rfl; omega) | (apply w_neS3T; rfl; rfl; rfl; omega) | (apply w_neS3F; rfl; rfl; rfl; omega) | (apply w_eqS3; rfl; rfl; rfl) | (apply w_neS3; rfl; rfl; rfl) | (apply w_eqS2; rfl; rfl; rfl) | (apply w_neS2; rfl; rfl; rfl) | (apply w_maxL; rfl; rfl; rfl; omega) | (apply w_maxG; rfl; rfl; rfl; omega) | (apply w_max; rfl; rfl; rfl) | (apply w_neB; rfl; rfl; rfl; rfl) | (apply w_eqB; rfl; rfl; rfl; rfl) | (apply w_strA; rfl; rfl; rfl; first | omega | (simp only [List.length_append, List.length_cons, List.length_nil]; omega)) | (apply w_strET; rfl; rfl; rfl; assumption) | (apply w_strEF; rfl; rfl; rfl; assumption) | (apply w_strNF; rfl; rfl; rfl; assumption) | (apply w_strNT; rfl; rfl; rfl; assumption) | (apply w_strE; rfl; rfl; rfl; rfl) | (apply w_strN; rfl; rfl; rfl; rfl) | (apply w_strL; rfl; rfl) | (apply w_cp; rfl; rfl; exact hTr) | (apply w_ld; rfl; rfl; exact hra0 _) | (apply w_clM; rfl; rfl; exact Split_ok _ _ hlt; (first | omega | (simp; omega) | simp); intro u hu; refine ⟨by (exact kmf), ?_⟩) | refine spl ?_ ?_ | intro hc)
    all_goals first | (exfalso; omega) | skip
    all_goals (apply At_retR (by (first | exact .inl rfl | exact .inr rfl)) Tryd.results32; ((focus ((repeat (first | exact ResR.nil | (apply ResR.tmp; rfl) | (apply ResR.one; rfl; (focus ((repeat (first | assumption | exact .pt rfl | exact .sl ‹_› rfl | exact .sl1 (by first | assumption | rfl) | apply Rd.there)); done))) | (apply ResR.agg; rfl; (focus ((repeat (first | assumption | exact .pt | exact .sl ‹_› | apply RdAll.there)); done)); rfl))); done))); (refine ⟨?_, rfl⟩; rfl); ((exact frm)))
end Go.Proofs.YteggkdlgailfoaaDoor
