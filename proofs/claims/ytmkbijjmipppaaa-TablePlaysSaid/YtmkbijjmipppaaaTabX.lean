/- table's reference: Spawn. Conditions: none. -/
import Derived.Test.YtmkbijjmipppaaaTabW
set_option linter.all false
set_option linter.deprecated false
namespace Go.Proofs.Ytmkbijjmipppaaa
open Go.Sep
variable [B0 : Base]
def rspawnZ (Z : RTab) (p : Int) : (Int × Int) × RTab := if p < 0 ∨ (Z.progs.length : Int) ≤ p then ((0, 14), Z) else match Z.ths.findIdx? (fun t => !t.is) with
  | none => ((0, 13), Z)
  | some k => ((k, 0), Z.setZ k ⟨true, p, 0, Z.progs.getD p.toNat []⟩)
theorem rlibTop {lv : Value} {ys : List (Value × List Ins)} {R : List HP} : Src (rlibH lv ys :: R) lv 1 (ys.map fun y => [y.1]) := by
  refine Src.of (M := []) (A := sl 59 1 lv (ys.map fun y => [y.1])) (fun w hs => ?_) (fun R => Src.sl)
  unfold rlibH at hs
  exact ⟨_, Sat.all_iff.1 hs⟩
theorem rlibSrc {lv : Value} {ys : List (Value × List Ins)} {y : Value × List Ins} (h : y ∈ ys) {R : List HP} : Src (rlibH lv ys :: R) y.1 2 (y.2.map insE) := by
  obtain ⟨a, c, rfl⟩ := List.append_of_mem h
  refine Src.of (M := []) (A := sl 86 2 y.1 (y.2.map insE)) (fun w hs => ?_) (fun R => Src.sl)
  unfold rlibH at hs
  have h1 := Sat.all_iff.1 hs
  simp only [List.map_append, List.map_cons, List.cons_append, List.append_assoc] at h1
  exact ⟨_, h1.perm (List.Perm.trans (List.Perm.cons _ List.perm_middle) (.swap ..))⟩
set_option maxHeartbeats 8000000 in
theorem rSpawn_ok (b : Nat) (Z : RTab) (p : Int) (R : List HP) : Called Try.prog 35 [ptr b, int p] (rtbl b Z :: R) (is (.tuple #[int (rspawnZ Z p).1.1, int (rspawnZ Z p).1.2]) (rtbl b (rspawnZ Z p).2 :: R)) := by
  refine Fn2 Try.func35 rfl Try.ntmps35 rfl ?_
  refine C_rtbl fun lv ys es hok => ?_
  have hlv := hok.lisl
  have hfew := hok.few
  have hpl : Z.progs.length = ys.length := by rw [hok.progs, List.length_map]
  have hr0 : Rd (pt b 85 (rcells lv es) :: ownsH es :: rlibH lv ys :: R) ⟨b, 0 + 0, none⟩ lv := Rd.pt rfl
  unfold rspawnZ
  rw [hpl]
  by_cases hp : p < 0 ∨ (ys.length : Int) ≤ p
  · rw [if_pos hp]
    (repeat' first | refine C_drawI (id := 8) [] [0, 1, 2, 3, 4, 5, 6, 7, 8, 9, 10, 11, 12, 13, 14, 15, 17, 18, 16, 19, 20, 21] (by kernel_rfl) (by kernel_rfl) (by kernel_rfl) rfl ?_ | refine stp ?_ | intro v' hv' | intro (b : Nat) | (apply w_convU; rfl; rfl; omega; omega) | (apply w_convI; rfl; rfl; omega; omega) | (apply w_quoU; rfl; rfl; rfl; omega; omega; omega) | (apply w_remU; rfl; rfl; rfl; omega; omega) | (apply w_minL; rfl; rfl; rfl; omega) | (apply w_minG; rfl; rfl; rfl; omega) | (apply w_min; rfl; rfl; rfl) | (apply w_mfR; rfl; rfl) | (apply w_cvp; rfl; rfl; exact inferInstance; rfl; rfl; assumption) | (apply w_eqS2T; rfl; rfl; rfl; omega) | (apply w_eqS2F; rfl; rfl; rfl; omega) | (apply w_neS2T; rfl; rfl; rfl; omega) | (apply w_neS2F; rfl; rfl; rfl; omega) | (apply w_eqS3T; rfl; rfl; rfl; omega) | (apply w_eqS3F; rfl; rfl; rfl; omega) | (apply w_neS3T; rfl; rfl; rfl; omega) | (apply w_neS3F; rfl; rfl; rfl; omega) | (apply w_eqS3; rfl; rfl; rfl) | (apply w_neS3; rfl; rfl; rfl) | (apply w_eqS2; rfl; rfl; rfl) | (apply w_neS2; rfl; rfl; rfl) | (apply w_maxL; rfl; rfl; rfl; omega) | (apply w_maxG; rfl; rfl; rfl; omega) | (apply w_max; rfl; rfl; rfl) | (apply w_neB; rfl; rfl; rfl; rfl) | (apply w_eqB; rfl; rfl; rfl; rfl) | (apply w_sa; rfl; rfl; rfl; rfl; (focus ((repeat (first | exact hSa _ | apply StAll.there)); done)); ((exact kmf))) | (apply w_st; rfl; rfl; (exact hv2.one); (focus ((repeat (first | exact hSt _ | apply St.there)); done)); ((exact kmf))) | refine spl ?_ ?_ | intro hc)
    all_goals first | (exfalso; omega) | skip
    all_goals (apply At_retR (by (first | exact .inl rfl | exact .inr rfl)) Try.results35; ((focus ((repeat (first | exact ResR.nil | (apply ResR.tmp; rfl) | (apply ResR.one; rfl; (focus ((repeat (first | assumption | exact .pt rfl | exact .sl ‹_› rfl | exact .sl1 (by first | assumption | rfl) | apply Rd.there)); done))) | (apply ResR.agg; rfl; (focus ((repeat (first | assumption | exact .pt | exact .sl ‹_› | apply RdAll.there)); done)); rfl))); done))); (refine ⟨?_, rfl⟩; rfl); (exact fun w h => rtbl_fold hok (Sel.sat (by (focus ((repeat (first | exact Sel.refl | (apply Sel.cons; (focus ((repeat (first | exact Del.here | apply Del.there)); done))) | refine Sel.drop ?_)); done))) h)))
  · rw [if_neg hp]
    (repeat' first | refine C_drawI (id := 8) [] [0, 1, 2, 3, 4, 5, 6, 7, 8, 9, 10, 11, 12, 13, 14, 15, 17, 18, 16, 19, 20, 21] (by kernel_rfl) (by kernel_rfl) (by kernel_rfl) rfl ?_ | refine stp ?_ | intro v' hv' | intro (b : Nat) | (apply w_convU; rfl; rfl; omega; omega) | (apply w_convI; rfl; rfl; omega; omega) | (apply w_quoU; rfl; rfl; rfl; omega; omega; omega) | (apply w_remU; rfl; rfl; rfl; omega; omega) | (apply w_minL; rfl; rfl; rfl; omega) | (apply w_minG; rfl; rfl; rfl; omega) | (apply w_min; rfl; rfl; rfl) | (apply w_mfR; rfl; rfl) | (apply w_cvp; rfl; rfl; exact inferInstance; rfl; rfl; assumption) | (apply w_eqS2T; rfl; rfl; rfl; omega) | (apply w_eqS2F; rfl; rfl; rfl; omega) | (apply w_neS2T; rfl; rfl; rfl; omega) | (apply w_neS2F; rfl; rfl; rfl; omega) | (apply w_eqS3T; rfl; rfl; rfl; omega) | (apply w_eqS3F; rfl; rfl; rfl; omega) | (apply w_neS3T; rfl; rfl; rfl; omega) | (apply w_neS3F; rfl; rfl; rfl; omega) | (apply w_eqS3; rfl; rfl; rfl) | (apply w_neS3; rfl; rfl; rfl) | (apply w_eqS2; rfl; rfl; rfl) | (apply w_neS2; rfl; rfl; rfl) | (apply w_maxL; rfl; rfl; rfl; omega) | (apply w_maxG; rfl; rfl; rfl; omega) | (apply w_max; rfl; rfl; rfl) | (apply w_neB; rfl; rfl; rfl; rfl) | (apply w_eqB; rfl; rfl; rfl; rfl) | (apply w_sa; rfl; rfl; rfl; rfl; (focus ((repeat (first | exact hSa _ | apply StAll.there)); done)); ((exact kmf))) | (apply w_st; rfl; rfl; (exact hv2.one); (focus ((repeat (first | exact hSt _ | apply St.there)); done)); ((exact kmf))) | refine spl ?_ ?_ | intro hc)
    refine C_loopK [4, 5, 6, 18, 19, 20, 21, 22, 23, 24, 25, 26, 27, 28, 29, 30, 31, 32, 33, 34, 35, 36, 37, 38, 39, 40, 41, 42, 43, 44, 45, 46, 47, 48, 49, 50, 51, 52, 53, 54, 55, 56, 57] (fun k : Nat => 64 - k) (fun k => [(6, int k)]) (fun _ => pt b 85 (rcells lv es) :: ownsH es :: rlibH lv ys :: R) (fun k => k ≤ 64 ∧ ∀ t ∈ Z.ths.take k, t.is = true) 0 ⟨Nat.zero_le _, by simp⟩ (by (focus ((repeat (first | exact Keep.nil | apply Keep.drop rfl | apply Keep.keep rfl)); done))) (by (exact sbf)) (by (exact frm)) ?_
    rintro k ⟨hk, hall⟩
    dsimp only [List.cons_append, List.nil_append]
    have hZl : Z.ths.length = 64 := by rw [hok.ths, List.length_map, hok.n64]
    by_cases hlt : k < 64
    · obtain ⟨e, he, hz⟩ := hok.get (i := k) hlt
      have hr : Rd (pt b 85 (rcells lv es) :: ownsH es :: rlibH lv ys :: R) ⟨b, 1 + k * 4 + 0, none⟩ (.bool e.is) := Rd.ref he rfl
      cases hb : e.is with
      | true =>
        rw [hb] at hr
        (repeat' first | refine C_drawI (id := 8) [] [0, 1, 2, 3, 4, 5, 6, 7, 8, 9, 10, 11, 12, 13, 14, 15, 17, 18, 16, 19, 20, 21] (by kernel_rfl) (by kernel_rfl) (by kernel_rfl) rfl ?_ | refine stp ?_ | intro v' hv' | intro (b : Nat) | (apply w_convU; rfl; rfl; omega; omega) | (apply w_convI; rfl; rfl; omega; omega) | (apply w_quoU; rfl; rfl; rfl; omega; omega; omega) | (apply w_remU; rfl; rfl; rfl; omega; omega) | (apply w_minL; rfl; rfl; rfl; omega) | (apply w_minG; rfl; rfl; rfl; omega) | (apply w_min; rfl; rfl; rfl) | (apply w_mfR; rfl; rfl) | (apply w_cvp; rfl; rfl; exact inferInstance; rfl; rfl; assumption) | (apply w_eqS2T; rfl; rfl; rfl; omega) | (apply w_eqS2F; rfl; rfl; rfl; omega) | (apply w_neS2T; rfl; rfl; rfl; omega) | (apply w_neS2F; rfl; rfl; rfl; omega) | (apply w_eqS3T; rfl; rfl; rfl; omega) | (apply w_eqS3F; rfl; rfl; rfl; omega) | (apply w_neS3T; rfl; rfl; rfl; omega) | (apply w_neS3F; rfl; rfl; rfl; omega) | (apply w_eqS3; rfl; rfl; rfl) | (apply w_neS3; rfl; rfl; rfl) | (apply w_eqS2; rfl; rfl; rfl) | (apply w_neS2; rfl; rfl; rfl) | (apply w_maxL; rfl; rfl; rfl; omega) | (apply w_maxG; rfl; rfl; rfl; omega) | (apply w_max; rfl; rfl; rfl) | (apply w_neB; rfl; rfl; rfl; rfl) | (apply w_eqB; rfl; rfl; rfl; rfl) | (apply w_sa; rfl; rfl; rfl; rfl; (focus ((repeat (first | exact hSa _ | apply StAll.there)); done)); ((exact kmf))) | (apply w_st; rfl; rfl; (exact hv2.one); (focus ((repeat (first | exact hSt _ | apply St.there)); done)); ((exact kmf))) | refine spl ?_ ?_ | intro hc)
        refine At_againK (k + 1) ⟨hlt, ?_⟩ (by omega) (by (exact sbf)) (by (exact sbf)) (by (exact frm))
        intro t ht
        rw [List.take_add_one, hz] at ht
        rcases List.mem_append.1 ht with h | h
        · exact hall t h
        · simp at h; subst h; exact hb
      | false =>
        rw [hb] at hr
        have hfi : Z.ths.findIdx? (fun t => !t.is) = some k := by
          rw [List.findIdx?_eq_some_iff_getElem]
          obtain ⟨hk2, hn2⟩ := List.getElem?_eq_some_iff.1 hz
          refine ⟨hk2, by rw [hn2]; show (!e.is) = true; rw [hb]; rfl, fun j hj => ?_⟩
          have := hall Z.ths[j] (List.mem_iff_getElem.2 ⟨j, by simp; omega, by simp⟩)
          simp [this]
        rw [hfi]
        have hpy : p.toNat < ys.length := by omega
        have hy : ys[p.toNat]? = some ys[p.toNat] := by simp [hpy]
        have hym := List.mem_of_getElem? hy
        have hyo := hok.isl _ hym
        have hrl : Rd (rlibH lv ys :: R) ⟨vb lv, vo lv + p.toNat * 1, none⟩ ys[p.toNat].1 := by
          have : Rd (rlibH lv ys :: R) ⟨vb lv, vo lv + p.toNat * 1 + 0, none⟩ ys[p.toNat].1 := Rd.src rlibTop (i := p.toNat) (k := 0) (e := [ys[p.toNat].1]) (by simp [hpy]) rfl
          exact this
        have hys : ∀ R, Src (rlibH lv ys :: R) ys[p.toNat].1 2 (ys[p.toNat].2.map insE) := fun R => rlibSrc hym
        have hget : Z.progs.getD p.toNat [] = ys[p.toNat].2 := by rw [hok.progs, List.getD_eq_getElem?_getD, List.getElem?_map, hy]; rfl
        rw [hget]
        clear hall hy hym hget
        generalize ys[p.toNat] = y at *
        obtain ⟨yv, yl⟩ := y
        dsimp only at *
        have hyi := hyo.1
        have hone := hyi.one
        let e1 : RE := ⟨true, p, 0, .slice none 0 0, .slice none 0 0, [], 0⟩
        have hlt' : k < es.length := (List.getElem?_eq_some_iff.1 he).1
        have he1 : (es.set k e1)[k]? = some e1 := List.getElem?_set_self hlt'
        have hSa : ∀ L, StAll (pt b 85 (rcells lv es) :: L) b (1 + k * 4) [.bool true, int p, int 0, .slice none 0 0] (pt b 85 (rcells lv (es.set k e1)) :: L) := fun L => StAll.ref he rfl
        have hr3 : Rd (pt b 85 (rcells lv (es.set k e1)) :: ownsH es :: rlibH lv ys :: R) ⟨b, 1 + k * 4 + 3, none⟩ (.slice none 0 0) := Rd.ref he1 rfl
        have hr00 : Rd (pt b 85 (rcells lv (es.set k e1)) :: ownsH es :: rlibH lv ys :: R) ⟨b, 0 + 0, none⟩ lv := Rd.pt rfl
        refine C_sat (L' := sl 86 2 (.slice none 0 0) [] :: pt b 85 (rcells lv es) :: ownsH es :: rlibH lv ys :: R) (fun w h => h.sl_nil) ?_
        (repeat' first | refine C_drawI (id := 8) [] [0, 1, 2, 3, 4, 5, 6, 7, 8, 9, 10, 11, 12, 13, 14, 15, 17, 18, 16, 19, 20, 21] (by kernel_rfl) (by kernel_rfl) (by kernel_rfl) rfl ?_ | refine stp ?_ | intro v' hv' | intro (b : Nat) | (apply w_convU; rfl; rfl; omega; omega) | (apply w_convI; rfl; rfl; omega; omega) | (apply w_quoU; rfl; rfl; rfl; omega; omega; omega) | (apply w_remU; rfl; rfl; rfl; omega; omega) | (apply w_minL; rfl; rfl; rfl; omega) | (apply w_minG; rfl; rfl; rfl; omega) | (apply w_min; rfl; rfl; rfl) | (apply w_mfR; rfl; rfl) | (apply w_cvp; rfl; rfl; exact inferInstance; rfl; rfl; assumption) | (apply w_eqS2T; rfl; rfl; rfl; omega) | (apply w_eqS2F; rfl; rfl; rfl; omega) | (apply w_neS2T; rfl; rfl; rfl; omega) | (apply w_neS2F; rfl; rfl; rfl; omega) | (apply w_eqS3T; rfl; rfl; rfl; omega) | (apply w_eqS3F; rfl; rfl; rfl; omega) | (apply w_neS3T; rfl; rfl; rfl; omega) | (apply w_neS3F; rfl; rfl; rfl; omega) | (apply w_eqS3; rfl; rfl; rfl) | (apply w_neS3; rfl; rfl; rfl) | (apply w_eqS2; rfl; rfl; rfl) | (apply w_neS2; rfl; rfl; rfl) | (apply w_maxL; rfl; rfl; rfl; omega) | (apply w_maxG; rfl; rfl; rfl; omega) | (apply w_max; rfl; rfl; rfl) | (apply w_neB; rfl; rfl; rfl; rfl) | (apply w_eqB; rfl; rfl; rfl; rfl) | (apply w_sa; rfl; rfl; rfl; rfl; (focus ((repeat (first | exact hSa _ | apply StAll.there)); done)); ((exact kmf))) | (apply w_st; rfl; rfl; (exact hv2.one); (focus ((repeat (first | exact hSt _ | apply St.there)); done)); ((exact kmf))) | refine spl ?_ ?_ | intro hc)
        apply w_ap (es := yl.map insE)
        rfl; rfl; rfl; ((focus ((repeat (first | exact Del.here | apply Del.there)); done))); (focus ((repeat (first | exact hys _ | apply Src.there)); done)); (simp [List.all_map, insE, Value.oneCell']); (simp; omega); (simp; omega)
        intro v2 hv2
        refine ⟨by (exact kmf), ?_⟩
        have hv3 : IsSl v2 yl.length := by simpa using hv2
        let e2 : RE := ⟨true, p, 0, v2, v2, yl, 0⟩
        have hSt : ∀ L, St (pt b 85 (rcells lv (es.set k e1)) :: L) ⟨b, 1 + k * 4 + 3, none⟩ v2 (pt b 85 (rcells lv (es.set k e2)) :: L) := fun L => by
          have := St.ref (b := b) (lv := lv) (es := es.set k e1) (R := L) (i := k) (f := 3) (e := e1) (e' := e2) (u := v2) he1 (by omega) rfl
          rwa [List.set_set] at this
        have hok2 : RTabOk (Z.setZ k (absR e2)) lv ys (es.set k e2) := hok.set (e := e2) (TvOk.start hv3) hyo.2.1 rfl hyo.2.2
        have hfold : ∀ w, Sat w (sl 86 2 v2 ([] ++ yl.map insE) :: pt b 85 (rcells lv (es.set k e2)) :: ownsH es :: rlibH lv ys :: R) → Sat w (rtbl b (Z.setZ k (absR e2)) :: R) := fun w h => by
          have h1 : Sat w (ownsH es :: sl 86 2 v2 (yl.map insE) :: pt b 85 (rcells lv (es.set k e2)) :: rlibH lv ys :: R) := Sel.sat (by (focus ((repeat (first | exact Sel.refl | (apply Sel.cons; (focus ((repeat (first | exact Del.here | apply Del.there)); done))) | refine Sel.drop ?_)); done))) h
          have h2 := (owns_open he h1).drop
          have h3 : Sat w (sl 86 2 e2.u (e2.full.map insE) :: all ((es.eraseIdx k).map fun e => sl 86 2 e.u (e.full.map insE)) :: pt b 85 (rcells lv (es.set k e2)) :: rlibH lv ys :: R) := Sel.sat (by (focus ((repeat (first | exact Sel.refl | (apply Sel.cons; (focus ((repeat (first | exact Del.here | apply Del.there)); done))) | refine Sel.drop ?_)); done))) h2
          have h4 := owns_close he (e2 := e2) h3
          exact rtbl_fold hok2 (h4.perm (.swap ..))
        (repeat' first | refine C_drawI (id := 8) [] [0, 1, 2, 3, 4, 5, 6, 7, 8, 9, 10, 11, 12, 13, 14, 15, 17, 18, 16, 19, 20, 21] (by kernel_rfl) (by kernel_rfl) (by kernel_rfl) rfl ?_ | refine stp ?_ | intro v' hv' | intro (b : Nat) | (apply w_convU; rfl; rfl; omega; omega) | (apply w_convI; rfl; rfl; omega; omega) | (apply w_quoU; rfl; rfl; rfl; omega; omega; omega) | (apply w_remU; rfl; rfl; rfl; omega; omega) | (apply w_minL; rfl; rfl; rfl; omega) | (apply w_minG; rfl; rfl; rfl; omega) | (apply w_min; rfl; rfl; rfl) | (apply w_mfR; rfl; rfl) | (apply w_cvp; rfl; rfl; exact inferInstance; rfl; rfl; assumption) | (apply w_eqS2T; rfl; rfl; rfl; omega) | (apply w_eqS2F; rfl; rfl; rfl; omega) | (apply w_neS2T; rfl; rfl; rfl; omega) | (apply w_neS2F; rfl; rfl; rfl; omega) | (apply w_eqS3T; rfl; rfl; rfl; omega) | (apply w_eqS3F; rfl; rfl; rfl; omega) | (apply w_neS3T; rfl; rfl; rfl; omega) | (apply w_neS3F; rfl; rfl; rfl; omega) | (apply w_eqS3; rfl; rfl; rfl) | (apply w_neS3; rfl; rfl; rfl) | (apply w_eqS2; rfl; rfl; rfl) | (apply w_neS2; rfl; rfl; rfl) | (apply w_maxL; rfl; rfl; rfl; omega) | (apply w_maxG; rfl; rfl; rfl; omega) | (apply w_max; rfl; rfl; rfl) | (apply w_neB; rfl; rfl; rfl; rfl) | (apply w_eqB; rfl; rfl; rfl; rfl) | (apply w_sa; rfl; rfl; rfl; rfl; (focus ((repeat (first | exact hSa _ | apply StAll.there)); done)); ((exact kmf))) | (apply w_st; rfl; rfl; (exact hv2.one); (focus ((repeat (first | exact hSt _ | apply St.there)); done)); ((exact kmf))) | refine spl ?_ ?_ | intro hc)
        all_goals (apply At_retR (by (first | exact .inl rfl | exact .inr rfl)) Try.results35; ((focus ((repeat (first | exact ResR.nil | (apply ResR.tmp; rfl) | (apply ResR.one; rfl; (focus ((repeat (first | assumption | exact .pt rfl | exact .sl ‹_› rfl | exact .sl1 (by first | assumption | rfl) | apply Rd.there)); done))) | (apply ResR.agg; rfl; (focus ((repeat (first | assumption | exact .pt | exact .sl ‹_› | apply RdAll.there)); done)); rfl))); done))); (refine ⟨?_, rfl⟩; rfl); (exact fun w h => hfold w h))
    · have hk' : k = 64 := by omega
      subst hk'
      have hfi : Z.ths.findIdx? (fun t => !t.is) = none := by
        rw [List.findIdx?_eq_none_iff]
        intro t ht
        have := hall t (by rw [← hZl, List.take_length]; exact ht)
        simp [this]
      rw [hfi]
      (repeat' first | refine C_drawI (id := 8) [] [0, 1, 2, 3, 4, 5, 6, 7, 8, 9, 10, 11, 12, 13, 14, 15, 17, 18, 16, 19, 20, 21] (by kernel_rfl) (by kernel_rfl) (by kernel_rfl) rfl ?_ | refine stp ?_ | intro v' hv' | intro (b : Nat) | (apply w_convU; rfl; rfl; omega; omega) | (apply w_convI; rfl; rfl; omega; omega) | (apply w_quoU; rfl; rfl; rfl; omega; omega; omega) | (apply w_remU; rfl; rfl; rfl; omega; omega) | (apply w_minL; rfl; rfl; rfl; omega) | (apply w_minG; rfl; rfl; rfl; omega) | (apply w_min; rfl; rfl; rfl) | (apply w_mfR; rfl; rfl) | (apply w_cvp; rfl; rfl; exact inferInstance; rfl; rfl; assumption) | (apply w_eqS2T; rfl; rfl; rfl; omega) | (apply w_eqS2F; rfl; rfl; rfl; omega) | (apply w_neS2T; rfl; rfl; rfl; omega) | (apply w_neS2F; rfl; rfl; rfl; omega) | (apply w_eqS3T; rfl; rfl; rfl; omega) | (apply w_eqS3F; rfl; rfl; rfl; omega) | (apply w_neS3T; rfl; rfl; rfl; omega) | (apply w_neS3F; rfl; rfl; rfl; omega) | (apply w_eqS3; rfl; rfl; rfl) | (apply w_neS3; rfl; rfl; rfl) | (apply w_eqS2; rfl; rfl; rfl) | (apply w_neS2; rfl; rfl; rfl) | (apply w_maxL; rfl; rfl; rfl; omega) | (apply w_maxG; rfl; rfl; rfl; omega) | (apply w_max; rfl; rfl; rfl) | (apply w_neB; rfl; rfl; rfl; rfl) | (apply w_eqB; rfl; rfl; rfl; rfl) | (apply w_sa; rfl; rfl; rfl; rfl; (focus ((repeat (first | exact hSa _ | apply StAll.there)); done)); ((exact kmf))) | (apply w_st; rfl; rfl; (exact hv2.one); (focus ((repeat (first | exact hSt _ | apply St.there)); done)); ((exact kmf))) | refine spl ?_ ?_ | intro hc)
      all_goals (apply At_retR (by (first | exact .inl rfl | exact .inr rfl)) Try.results35; ((focus ((repeat (first | exact ResR.nil | (apply ResR.tmp; rfl) | (apply ResR.one; rfl; (focus ((repeat (first | assumption | exact .pt rfl | exact .sl ‹_› rfl | exact .sl1 (by first | assumption | rfl) | apply Rd.there)); done))) | (apply ResR.agg; rfl; (focus ((repeat (first | assumption | exact .pt | exact .sl ‹_› | apply RdAll.there)); done)); rfl))); done))); (refine ⟨?_, rfl⟩; rfl); (exact fun w h => rtbl_fold hok (Sel.sat (by (focus ((repeat (first | exact Sel.refl | (apply Sel.cons; (focus ((repeat (first | exact Del.here | apply Del.there)); done))) | refine Sel.drop ?_)); done))) h)))
end Go.Proofs.Ytmkbijjmipppaaa
