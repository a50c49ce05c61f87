/- table: Rest. Conditions: none. -/
import Derived.Test.YtmkbijjmipppaaaTabG
import Derived.Test.YtmkbijjmipppaaaPrD
import Derived.Test.YtmkbijjmipppaaaSub
set_option linter.all false
set_option linter.deprecated false
namespace Go.Proofs.Ytmkbijjmipppaaa
open Go.Sep
variable [B0 : Base]
/-- What is left to a thread: of the instruction that it is at, and of all behind it. -/
def restN (s : Int × Bool) (x : Ins) : Int × Bool := (if x.op = 1 ∧ s.2 = false then s.1 + x.n else s.1, false)
def restP (l : List Ins) (t : Tm) : Int := ((listed (l.drop t.at')).foldl restN (t.left, true)).1
def restT (T : Tab) (id : Int) : Int × Int := match findT T id with
  | (none, e) => (0, e)
  | (some t, _) => if 1099511627776 ≤ restP (T.l t) t then (0, 11) else (restP (T.l t) t, 0)
theorem rest_bounds {l : List Ins} (h : ∀ x ∈ l, mayE x = 0) : ∀ s : Int × Bool, 0 ≤ s.1 → 0 ≤ (l.foldl restN s).1 ∧ (l.foldl restN s).1 ≤ s.1 + l.length * 1099511627776 := by
  induction l with
  | nil => intro s hs; simp; exact hs
  | cons x l ih =>
    intro s hs
    have hx := may_n (h x List.mem_cons_self)
    have h2 : 0 ≤ (restN s x).1 ∧ (restN s x).1 ≤ s.1 + 1099511627776 := by unfold restN; dsimp only; split <;> omega
    have h1 := ih (fun y hy => h y (List.mem_cons_of_mem _ hy)) (restN s x) h2.1
    rw [List.foldl_cons, List.length_cons]
    omega
def restStep (s : Int × Bool) (xs : List Value) : Option Code × (Int × Bool) := match xs with
  | [_, .agg ⟨[.int _ op, .int _ n]⟩] => (none, restN s ⟨op, n⟩)
  | _ => (none, s)
def restDom (s : Int × Bool) (xs : List Value) : Prop := ∃ (i : Nat) (x : Ins), xs = [int i, .agg (insE x).toArray] ∧ 0 ≤ s.1 ∧ s.1 ≤ 65 * 1099511627776 ∧ mayE x = 0
theorem rest_goes {l : List Ins} {left : Int} (h64 : l.length ≤ 64) (hm : ∀ x ∈ l, mayE x = 0) (h0 : 0 ≤ left) (h1 : left ≤ 1099511627776) : Goes (fun (s : (Int × Bool) × Option Code) xs => ((restStep s.1 xs).1.isNone, ((restStep s.1 xs).2, (restStep s.1 xs).1))) (fun s xs => s.2 = none ∧ restDom s.1 xs) (alG l) 0 ((left, true), none) ((listed l).foldl restN (left, true), none) := by
  refine goes_fold (listed l) (fun i x => [int i, .agg (insE x).toArray]) restN restStep restDom (left, true) fun i x hx => ⟨⟨i, x, rfl, ?_⟩, rfl⟩
  have hb := rest_bounds (l := (listed l).take i) (fun y hy => hm y (listed_mem (List.mem_of_mem_take hy))) (left, true) h0
  have hl := listed_len l
  have htl : ((listed l).take i).length ≤ 64 := by rw [List.length_take]; omega
  dsimp only at hb
  exact ⟨hb.1, by omega, hm x (listed_mem (List.mem_of_getElem? hx))⟩
def rcH (b8 b9 : Nat) (s : Int × Bool) : HP := all [pt b8 3 [int s.1], pt b9 4 [.bool s.2]]
set_option maxHeartbeats 8000000 in
theorem Rest_ok (tb : Nat) (T : Tab) (id : Int) (R : List HP) : Called Try.prog 26 [ptr tb, int id] (tbl tb T :: R) (is (.tuple #[int (restT T id).1, int (restT T id).2]) (tbl tb T :: R)) := by
  refine FnM2 Try.func26 rfl Try.ntmps26 rfl ?_
  refine C_tbl fun lv xs ls hok => ?_
  have hF := find_ok tb lv (qsOf ls) id (qs64 hok)
  unfold restT
  rcases find_low hok id with ⟨e, he, h1, h2⟩ | ⟨n, t, i0, i1, hl, h1, h2⟩
  · rw [h2] at hF
    rw [h1]
    dsimp only [ptrO] at hF ⊢
    (repeat' first | refine stp ?_ | intro v' hv' | intro (b : Nat) | (apply w_convU; rfl; rfl; omega; omega) | (apply w_convI; rfl; rfl; omega; omega) | (apply w_quoU; rfl; rfl; rfl; omega; omega; omega) | (apply w_remU; rfl; rfl; rfl; omega; omega) | (apply w_minL; rfl; rfl; rfl; omega) | (apply w_minG; rfl; rfl; rfl; omega) | (apply w_min; rfl; rfl; rfl) | (apply w_mfR; rfl; rfl) | (apply w_cvp; rfl; rfl; exact inferInstance; rfl; rfl; assumption) | (apply w_eqS2T; rfl; rfl; rfl; omega) | (apply w_eqS2F; rfl; rfl; rfl; omega) | (apply w_neS2T; rfl; rfl; rfl; omega) | (apply w_neS2F; rfl; rfl; rfl; omega) | (apply w_eqS3T; rfl; rfl; rfl; omega) | (apply w_eqS3F; rfl; rfl; rfl; omega) | (apply w_neS3T; rfl; rfl; rfl; omega) | (apply w_neS3F; rfl; rfl; rfl; omega) | (apply w_eqS3; rfl; rfl; rfl) | (apply w_neS3; rfl; rfl; rfl) | (apply w_eqS2; rfl; rfl; rfl) | (apply w_neS2; rfl; rfl; rfl) | (apply w_maxL; rfl; rfl; rfl; omega) | (apply w_maxG; rfl; rfl; rfl; omega) | (apply w_max; rfl; rfl; rfl) | (apply w_neB; rfl; rfl; rfl; rfl) | (apply w_eqB; rfl; rfl; rfl; rfl) | (apply w_sll; rfl; rfl; rfl; exact hp; omega) | (apply w_cq; rfl; rfl; apply Called.at (h := hF); ((focus ((repeat (first | exact Rep.here | apply Rep.there)); done)))) | (apply w_cl; rfl; rfl; exact All_ok _ _ hp2.one; exact ⟨_, _, 0, rfl, rfl⟩; rintro _ _ ⟨bt, rfl, rfl⟩; refine ⟨by (exact kmf), ?_⟩) | refine spl ?_ ?_ | intro hc)
    exact AtM_retR (by (first | exact .inl rfl | exact .inr rfl)) Taken.nil Try.results26 (by (focus ((repeat (first | exact ResR.nil | (apply ResR.tmp; rfl) | (apply ResR.one; rfl; (focus ((repeat (first | assumption | exact .pt rfl | exact .sl ‹_› rfl | exact .sl1 (by first | assumption | rfl) | apply Rd.there)); done))) | (apply ResR.agg; rfl; (focus ((repeat (first | assumption | exact .pt | exact .sl ‹_› | apply RdAll.there)); done)); rfl))); done))) ⟨rfl, rfl⟩ (fun w h => tbl_fold hok (Sel.sat (by (focus ((repeat (first | exact Sel.refl | (apply Sel.cons; (focus ((repeat (first | exact Del.here | apply Del.there)); done))) | refine Sel.drop ?_)); done))) h))
  · have hm := List.mem_of_getElem? hl
    obtain ⟨q1, q2, q3, q4, q5⟩ := hok.each n t hm
    have hprog := progE_may (hok.isl _ (List.mem_of_getElem? q2)).2
    dsimp only at hprog
    rw [h2] at hF
    rw [h1]
    dsimp only [ptrO] at hF ⊢
    rw [hok.tl hm]
    have hp : IsSl t.p t.l.length := (hok.isl _ (List.mem_of_getElem? q2)).1
    have hp2 : IsSl (vsl t.p t.at' t.l.length (vcap t.p) 2) (t.l.length - t.at') := hp.dropS q3
    have hN := hp.len
    have hPr : ∀ R, PrIn (libH lv xs :: R) (vsl t.p t.at' t.l.length (vcap t.p) 2) (t.l.drop t.at') := fun R => ⟨by rw [List.length_drop]; exact hp2, by rw [List.map_drop]; exact (hok.prIn hm R).src.dropS (by rw [List.length_map]; exact q3) (by rw [List.length_map]) hp⟩
    have hgo := rest_goes (l := t.l.drop t.at') (left := t.left) (by rw [List.length_drop]; omega) (fun x hx => hprog.2 x (List.mem_of_mem_drop hx)) q4 (by omega)
    have hbd := rest_bounds (l := listed (t.l.drop t.at')) (fun y hy => hprog.2 y (List.mem_of_mem_drop (listed_mem hy))) (t.left, true) q4
    have hll := listed_len (t.l.drop t.at')
    rw [List.length_drop] at hll
    dsimp only at hbd
    have hrp : restP t.l (absT t) = ((listed (t.l.drop t.at')).foldl restN (t.left, true)).1 := rfl
    rw [hrp]
    refine C_sat (L' := pt n 73 [int t.pr, int t.at', int t.left, t.p] :: pt tb 69 (lv :: (qsOf ls).map ptrO) :: thsH (ls.set id.toNat none) :: libH lv xs :: R) (fun w h => tbl_open hl h) ?_
    have hback : ∀ {w : World}, Sat w (pt n 73 [int t.pr, int t.at', int t.left, t.p] :: pt tb 69 (lv :: (qsOf ls).map ptrO) :: thsH (ls.set id.toNat none) :: libH lv xs :: R) → Sat w (tbl tb T :: R) := fun {w} h => tbl_back hl (hok.same hl) h
    by_cases hlt : t.at' < t.l.length
    · (repeat' first | refine stp ?_ | intro v' hv' | intro (b : Nat) | (apply w_convU; rfl; rfl; omega; omega) | (apply w_convI; rfl; rfl; omega; omega) | (apply w_quoU; rfl; rfl; rfl; omega; omega; omega) | (apply w_remU; rfl; rfl; rfl; omega; omega) | (apply w_minL; rfl; rfl; rfl; omega) | (apply w_minG; rfl; rfl; rfl; omega) | (apply w_min; rfl; rfl; rfl) | (apply w_mfR; rfl; rfl) | (apply w_cvp; rfl; rfl; exact inferInstance; rfl; rfl; assumption) | (apply w_eqS2T; rfl; rfl; rfl; omega) | (apply w_eqS2F; rfl; rfl; rfl; omega) | (apply w_neS2T; rfl; rfl; rfl; omega) | (apply w_neS2F; rfl; rfl; rfl; omega) | (apply w_eqS3T; rfl; rfl; rfl; omega) | (apply w_eqS3F; rfl; rfl; rfl; omega) | (apply w_neS3T; rfl; rfl; rfl; omega) | (apply w_neS3F; rfl; rfl; rfl; omega) | (apply w_eqS3; rfl; rfl; rfl) | (apply w_neS3; rfl; rfl; rfl) | (apply w_eqS2; rfl; rfl; rfl) | (apply w_neS2; rfl; rfl; rfl) | (apply w_maxL; rfl; rfl; rfl; omega) | (apply w_maxG; rfl; rfl; rfl; omega) | (apply w_max; rfl; rfl; rfl) | (apply w_neB; rfl; rfl; rfl; rfl) | (apply w_eqB; rfl; rfl; rfl; rfl) | (apply w_sll; rfl; rfl; rfl; exact hp; omega) | (apply w_cq; rfl; rfl; apply Called.at (h := hF); ((focus ((repeat (first | exact Rep.here | apply Rep.there)); done)))) | (apply w_cl; rfl; rfl; exact All_ok _ _ hp2.one; exact ⟨_, _, 0, rfl, rfl⟩; rintro _ _ ⟨bt, rfl, rfl⟩; refine ⟨by (exact kmf), ?_⟩) | refine spl ?_ ?_ | intro hc)
      rename_i b8
      obtain ⟨b9, hb9⟩ : ∃ r, r = b := ⟨_, rfl⟩
      subst hb9
      have hPr2 : PrIn (pt n 73 [int t.pr, int t.at', int t.left, t.p] :: pt tb 69 (lv :: (qsOf ls).map ptrO) :: thsH (ls.set id.toNat none) :: libH lv xs :: R) (Sep.vsl t.p t.at' t.l.length (vcap t.p) 2) (t.l.drop t.at') := (hPr R).there.there.there
      have hback' : ∀ {w : World}, Sat w (pt n 73 [int t.pr, int t.at', int t.left, t.p] :: pt tb 69 (lv :: (qsOf ls).map ptrO) :: thsH (ls.set id.toNat none) :: libH lv xs :: R) → Sat w (tbl tb T :: R) := hback
      clear hback
      generalize hR0 : pt n 73 [int t.pr, int t.at', int t.left, t.p] :: pt tb 69 (lv :: (qsOf ls).map ptrO) :: thsH (ls.set id.toNat none) :: libH lv xs :: R = R0 at *
      generalize Sep.vsl t.p t.at' t.l.length (vcap t.p) 2 = V at *
      refine C_sat (L' := alH bt V R0 :: rcH b8 b9 (t.left, true) :: []) (fun w hs => ?_) ?_
      · have h1 : Sat w ([pt bt 29 [V], pt b9 4 [.bool true], pt b8 3 [int t.left]] ++ R0) := hs
        have h2 : Sat w (all R0 :: [pt bt 29 [V], pt b9 4 [.bool true], pt b8 3 [int t.left]]) := Sat.all_iff.2 (h1.perm List.perm_append_comm)
        have h3 : Sat w (pt bt 29 [V] :: all R0 :: [pt b9 4 [.bool true], pt b8 3 [int t.left]]) := h2.perm (.swap ..)
        have h4 : Sat w (alH bt V R0 :: [pt b9 4 [.bool true], pt b8 3 [int t.left]]) := by unfold alH; exact Sat.all_iff.2 h3
        have h5 : Sat w (pt b8 3 [int t.left] :: pt b9 4 [.bool true] :: [alH bt V R0]) := Sel.sat (by (focus ((repeat (first | exact Sel.refl | (apply Sel.cons; (focus ((repeat (first | exact Del.here | apply Del.there)); done))) | refine Sel.drop ?_)); done))) h4
        have h6 : Sat w (rcH b8 b9 (t.left, true) :: [alH bt V R0]) := by unfold rcH; exact Sat.all_iff.2 h5
        exact h6.perm (.swap ..)
      refine C_rangeE (A := rcH b8 b9) (s0 := (t.left, true)) (step := restStep) (dom := restDom) rfl (All1_ok bt V _ R0 hPr2) rfl (fun s xs hd => by obtain ⟨i, x, rfl, -⟩ := hd; rfl) Sel.refl ?_ hgo fun r => ?_
      · rintro lb r ⟨k, fl⟩ xs' J ⟨i, ⟨op, m⟩, rfl, hk0, hk1, hmx⟩
        have hn := may_n hmx
        dsimp only at hn hk0 hk1
        apply Exists.intro
        refine ⟨fun b => pt b 28 [int op, int m], fun Q r' hQ => ?_, fun b => ?_⟩
        · simp only [parF]
          (repeat' first | refine stp ?_ | intro v' hv' | intro (b : Nat) | (apply w_convU; rfl; rfl; omega; omega) | (apply w_convI; rfl; rfl; omega; omega) | (apply w_quoU; rfl; rfl; rfl; omega; omega; omega) | (apply w_remU; rfl; rfl; rfl; omega; omega) | (apply w_minL; rfl; rfl; rfl; omega) | (apply w_minG; rfl; rfl; rfl; omega) | (apply w_min; rfl; rfl; rfl) | (apply w_mfR; rfl; rfl) | (apply w_cvp; rfl; rfl; exact inferInstance; rfl; rfl; assumption) | (apply w_eqS2T; rfl; rfl; rfl; omega) | (apply w_eqS2F; rfl; rfl; rfl; omega) | (apply w_neS2T; rfl; rfl; rfl; omega) | (apply w_neS2F; rfl; rfl; rfl; omega) | (apply w_eqS3T; rfl; rfl; rfl; omega) | (apply w_eqS3F; rfl; rfl; rfl; omega) | (apply w_neS3T; rfl; rfl; rfl; omega) | (apply w_neS3F; rfl; rfl; rfl; omega) | (apply w_eqS3; rfl; rfl; rfl) | (apply w_neS3; rfl; rfl; rfl) | (apply w_eqS2; rfl; rfl; rfl) | (apply w_neS2; rfl; rfl; rfl) | (apply w_maxL; rfl; rfl; rfl; omega) | (apply w_maxG; rfl; rfl; rfl; omega) | (apply w_max; rfl; rfl; rfl) | (apply w_neB; rfl; rfl; rfl; rfl) | (apply w_eqB; rfl; rfl; rfl; rfl) | (apply w_sll; rfl; rfl; rfl; exact hp; omega) | (apply w_cq; rfl; rfl; apply Called.at (h := hF); ((focus ((repeat (first | exact Rep.here | apply Rep.there)); done)))) | (apply w_cl; rfl; rfl; exact All_ok _ _ hp2.one; exact ⟨_, _, 0, rfl, rfl⟩; rintro _ _ ⟨bt, rfl, rfl⟩; refine ⟨by (exact kmf), ?_⟩) | refine spl ?_ ?_ | intro hc)
          exact hQ b
        · refine C_block ?_
          show C Try.prog _ _ (Exit.inBlock _ (RPost none (rcH b8 b9 (restN (k, fl) ⟨op, m⟩) :: blk lb (.loop r) :: J))) _ _ _ _
          refine C_sat (L' := pt b8 3 [int k] :: pt b9 4 [.bool fl] :: pt b 28 [int op, int m] :: blk lb (.loop r) :: J) (fun w hs => ?_) ?_
          · unfold rcH at hs
            exact Sel.sat (by (focus ((repeat (first | exact Sel.refl | (apply Sel.cons; (focus ((repeat (first | exact Del.here | apply Del.there)); done))) | refine Sel.drop ?_)); done))) (Sat.all_iff.1 (hs.perm (.swap ..)))
          have hfold : ∀ (k' : Int) (w : World), Sat w (pt b8 3 [int k'] :: pt b9 4 [.bool false] :: blk lb (.loop r) :: J) → Sat w (rcH b8 b9 (k', false) :: blk lb (.loop r) :: J) := fun k' w hs => by unfold rcH; exact Sat.all_iff.2 hs
          by_cases h1 : op = 1
          · cases fl with
            | false =>
              have e : restN (k, false) ⟨op, m⟩ = (k + m, false) := by unfold restN; rw [if_pos ⟨h1, rfl⟩]
              rw [e]
              (repeat' first | refine stp ?_ | intro v' hv' | intro (b : Nat) | (apply w_convU; rfl; rfl; omega; omega) | (apply w_convI; rfl; rfl; omega; omega) | (apply w_quoU; rfl; rfl; rfl; omega; omega; omega) | (apply w_remU; rfl; rfl; rfl; omega; omega) | (apply w_minL; rfl; rfl; rfl; omega) | (apply w_minG; rfl; rfl; rfl; omega) | (apply w_min; rfl; rfl; rfl) | (apply w_mfR; rfl; rfl) | (apply w_cvp; rfl; rfl; exact inferInstance; rfl; rfl; assumption) | (apply w_eqS2T; rfl; rfl; rfl; omega) | (apply w_eqS2F; rfl; rfl; rfl; omega) | (apply w_neS2T; rfl; rfl; rfl; omega) | (apply w_neS2F; rfl; rfl; rfl; omega) | (apply w_eqS3T; rfl; rfl; rfl; omega) | (apply w_eqS3F; rfl; rfl; rfl; omega) | (apply w_neS3T; rfl; rfl; rfl; omega) | (apply w_neS3F; rfl; rfl; rfl; omega) | (apply w_eqS3; rfl; rfl; rfl) | (apply w_neS3; rfl; rfl; rfl) | (apply w_eqS2; rfl; rfl; rfl) | (apply w_neS2; rfl; rfl; rfl) | (apply w_maxL; rfl; rfl; rfl; omega) | (apply w_maxG; rfl; rfl; rfl; omega) | (apply w_max; rfl; rfl; rfl) | (apply w_neB; rfl; rfl; rfl; rfl) | (apply w_eqB; rfl; rfl; rfl; rfl) | (apply w_sll; rfl; rfl; rfl; exact hp; omega) | (apply w_cq; rfl; rfl; apply Called.at (h := hF); ((focus ((repeat (first | exact Rep.here | apply Rep.there)); done)))) | (apply w_cl; rfl; rfl; exact All_ok _ _ hp2.one; exact ⟨_, _, 0, rfl, rfl⟩; rintro _ _ ⟨bt, rfl, rfl⟩; refine ⟨by (exact kmf), ?_⟩) | refine spl ?_ ?_ | intro hc)
              exact At_round_normal (fun w hs => hfold _ w (Sel.sat (by (focus ((repeat (first | exact Sel.refl | (apply Sel.cons; (focus ((repeat (first | exact Del.here | apply Del.there)); done))) | refine Sel.drop ?_)); done))) hs))
            | true =>
              have e : restN (k, true) ⟨op, m⟩ = (k, false) := by unfold restN; rw [if_neg (by simp)]
              rw [e]
              (repeat' first | refine stp ?_ | intro v' hv' | intro (b : Nat) | (apply w_convU; rfl; rfl; omega; omega) | (apply w_convI; rfl; rfl; omega; omega) | (apply w_quoU; rfl; rfl; rfl; omega; omega; omega) | (apply w_remU; rfl; rfl; rfl; omega; omega) | (apply w_minL; rfl; rfl; rfl; omega) | (apply w_minG; rfl; rfl; rfl; omega) | (apply w_min; rfl; rfl; rfl) | (apply w_mfR; rfl; rfl) | (apply w_cvp; rfl; rfl; exact inferInstance; rfl; rfl; assumption) | (apply w_eqS2T; rfl; rfl; rfl; omega) | (apply w_eqS2F; rfl; rfl; rfl; omega) | (apply w_neS2T; rfl; rfl; rfl; omega) | (apply w_neS2F; rfl; rfl; rfl; omega) | (apply w_eqS3T; rfl; rfl; rfl; omega) | (apply w_eqS3F; rfl; rfl; rfl; omega) | (apply w_neS3T; rfl; rfl; rfl; omega) | (apply w_neS3F; rfl; rfl; rfl; omega) | (apply w_eqS3; rfl; rfl; rfl) | (apply w_neS3; rfl; rfl; rfl) | (apply w_eqS2; rfl; rfl; rfl) | (apply w_neS2; rfl; rfl; rfl) | (apply w_maxL; rfl; rfl; rfl; omega) | (apply w_maxG; rfl; rfl; rfl; omega) | (apply w_max; rfl; rfl; rfl) | (apply w_neB; rfl; rfl; rfl; rfl) | (apply w_eqB; rfl; rfl; rfl; rfl) | (apply w_sll; rfl; rfl; rfl; exact hp; omega) | (apply w_cq; rfl; rfl; apply Called.at (h := hF); ((focus ((repeat (first | exact Rep.here | apply Rep.there)); done)))) | (apply w_cl; rfl; rfl; exact All_ok _ _ hp2.one; exact ⟨_, _, 0, rfl, rfl⟩; rintro _ _ ⟨bt, rfl, rfl⟩; refine ⟨by (exact kmf), ?_⟩) | refine spl ?_ ?_ | intro hc)
              exact At_round_normal (fun w hs => hfold _ w (Sel.sat (by (focus ((repeat (first | exact Sel.refl | (apply Sel.cons; (focus ((repeat (first | exact Del.here | apply Del.there)); done))) | refine Sel.drop ?_)); done))) hs))
          · have e : restN (k, fl) ⟨op, m⟩ = (k, false) := by unfold restN; rw [if_neg (fun h => h1 h.1)]
            rw [e]
            (repeat' first | refine stp ?_ | intro v' hv' | intro (b : Nat) | (apply w_convU; rfl; rfl; omega; omega) | (apply w_convI; rfl; rfl; omega; omega) | (apply w_quoU; rfl; rfl; rfl; omega; omega; omega) | (apply w_remU; rfl; rfl; rfl; omega; omega) | (apply w_minL; rfl; rfl; rfl; omega) | (apply w_minG; rfl; rfl; rfl; omega) | (apply w_min; rfl; rfl; rfl) | (apply w_mfR; rfl; rfl) | (apply w_cvp; rfl; rfl; exact inferInstance; rfl; rfl; assumption) | (apply w_eqS2T; rfl; rfl; rfl; omega) | (apply w_eqS2F; rfl; rfl; rfl; omega) | (apply w_neS2T; rfl; rfl; rfl; omega) | (apply w_neS2F; rfl; rfl; rfl; omega) | (apply w_eqS3T; rfl; rfl; rfl; omega) | (apply w_eqS3F; rfl; rfl; rfl; omega) | (apply w_neS3T; rfl; rfl; rfl; omega) | (apply w_neS3F; rfl; rfl; rfl; omega) | (apply w_eqS3; rfl; rfl; rfl) | (apply w_neS3; rfl; rfl; rfl) | (apply w_eqS2; rfl; rfl; rfl) | (apply w_neS2; rfl; rfl; rfl) | (apply w_maxL; rfl; rfl; rfl; omega) | (apply w_maxG; rfl; rfl; rfl; omega) | (apply w_max; rfl; rfl; rfl) | (apply w_neB; rfl; rfl; rfl; rfl) | (apply w_eqB; rfl; rfl; rfl; rfl) | (apply w_sll; rfl; rfl; rfl; exact hp; omega) | (apply w_cq; rfl; rfl; apply Called.at (h := hF); ((focus ((repeat (first | exact Rep.here | apply Rep.there)); done)))) | (apply w_cl; rfl; rfl; exact All_ok _ _ hp2.one; exact ⟨_, _, 0, rfl, rfl⟩; rintro _ _ ⟨bt, rfl, rfl⟩; refine ⟨by (exact kmf), ?_⟩) | refine spl ?_ ?_ | intro hc)
            exact At_round_normal (fun w hs => hfold _ w (Sel.sat (by (focus ((repeat (first | exact Sel.refl | (apply Sel.cons; (focus ((repeat (first | exact Del.here | apply Del.there)); done))) | refine Sel.drop ?_)); done))) hs))
      · simp only [ends]
        have hout : ∀ {w : World} {Y : List HP}, Sat w (alH bt V R0 :: Y) → Sat w (tbl tb T :: R) := fun {w Y} hs => by
          unfold alH at hs
          have h1 : Sat w (pt bt 29 [V] :: all R0 :: Y) := Sat.all_iff.1 hs
          exact hback' h1.drop.all_left
        generalize hz : (listed (t.l.drop t.at')).foldl restN (t.left, true) = z at *
        obtain ⟨z1, z2⟩ := z
        dsimp only at hbd ⊢
        refine At_sat (L' := pt b8 3 [int z1] :: pt b9 4 [.bool z2] :: mblk r :: alH bt V R0 :: []) (fun w hs => ?_) ?_
        · have h1 : Sat w (rcH b8 b9 (z1, z2) :: mblk r :: alH bt V R0 :: []) := Sel.sat (by (focus ((repeat (first | exact Sel.refl | (apply Sel.cons; (focus ((repeat (first | exact Del.here | apply Del.there)); done))) | refine Sel.drop ?_)); done))) hs
          unfold rcH at h1
          exact Sat.all_iff.1 h1
        by_cases hov : 1099511627776 ≤ z1
        · rw [if_pos hov]
          (repeat' first | refine stp ?_ | intro v' hv' | intro (b : Nat) | (apply w_convU; rfl; rfl; omega; omega) | (apply w_convI; rfl; rfl; omega; omega) | (apply w_quoU; rfl; rfl; rfl; omega; omega; omega) | (apply w_remU; rfl; rfl; rfl; omega; omega) | (apply w_minL; rfl; rfl; rfl; omega) | (apply w_minG; rfl; rfl; rfl; omega) | (apply w_min; rfl; rfl; rfl) | (apply w_mfR; rfl; rfl) | (apply w_cvp; rfl; rfl; exact inferInstance; rfl; rfl; assumption) | (apply w_eqS2T; rfl; rfl; rfl; omega) | (apply w_eqS2F; rfl; rfl; rfl; omega) | (apply w_neS2T; rfl; rfl; rfl; omega) | (apply w_neS2F; rfl; rfl; rfl; omega) | (apply w_eqS3T; rfl; rfl; rfl; omega) | (apply w_eqS3F; rfl; rfl; rfl; omega) | (apply w_neS3T; rfl; rfl; rfl; omega) | (apply w_neS3F; rfl; rfl; rfl; omega) | (apply w_eqS3; rfl; rfl; rfl) | (apply w_neS3; rfl; rfl; rfl) | (apply w_eqS2; rfl; rfl; rfl) | (apply w_neS2; rfl; rfl; rfl) | (apply w_maxL; rfl; rfl; rfl; omega) | (apply w_maxG; rfl; rfl; rfl; omega) | (apply w_max; rfl; rfl; rfl) | (apply w_neB; rfl; rfl; rfl; rfl) | (apply w_eqB; rfl; rfl; rfl; rfl) | (apply w_sll; rfl; rfl; rfl; exact hp; omega) | (apply w_cq; rfl; rfl; apply Called.at (h := hF); ((focus ((repeat (first | exact Rep.here | apply Rep.there)); done)))) | (apply w_cl; rfl; rfl; exact All_ok _ _ hp2.one; exact ⟨_, _, 0, rfl, rfl⟩; rintro _ _ ⟨bt, rfl, rfl⟩; refine ⟨by (exact kmf), ?_⟩) | refine spl ?_ ?_ | intro hc)
          exact AtM_retR (by (first | exact .inl rfl | exact .inr rfl)) (by (focus ((repeat (first | exact Taken.nil | (apply Taken.cons; (focus ((repeat (first | exact Del.here | apply Del.there)); done))))); done))) Try.results26 (by (focus ((repeat (first | exact ResR.nil | (apply ResR.tmp; rfl) | (apply ResR.one; rfl; (focus ((repeat (first | assumption | exact .pt rfl | exact .sl ‹_› rfl | exact .sl1 (by first | assumption | rfl) | apply Rd.there)); done))) | (apply ResR.agg; rfl; (focus ((repeat (first | assumption | exact .pt | exact .sl ‹_› | apply RdAll.there)); done)); rfl))); done))) ⟨rfl, rfl⟩ (fun w hs => hout (Y := []) (Sel.sat (by (focus ((repeat (first | exact Sel.refl | (apply Sel.cons; (focus ((repeat (first | exact Del.here | apply Del.there)); done))) | refine Sel.drop ?_)); done))) hs))
        · rw [if_neg hov]
          (repeat' first | refine stp ?_ | intro v' hv' | intro (b : Nat) | (apply w_convU; rfl; rfl; omega; omega) | (apply w_convI; rfl; rfl; omega; omega) | (apply w_quoU; rfl; rfl; rfl; omega; omega; omega) | (apply w_remU; rfl; rfl; rfl; omega; omega) | (apply w_minL; rfl; rfl; rfl; omega) | (apply w_minG; rfl; rfl; rfl; omega) | (apply w_min; rfl; rfl; rfl) | (apply w_mfR; rfl; rfl) | (apply w_cvp; rfl; rfl; exact inferInstance; rfl; rfl; assumption) | (apply w_eqS2T; rfl; rfl; rfl; omega) | (apply w_eqS2F; rfl; rfl; rfl; omega) | (apply w_neS2T; rfl; rfl; rfl; omega) | (apply w_neS2F; rfl; rfl; rfl; omega) | (apply w_eqS3T; rfl; rfl; rfl; omega) | (apply w_eqS3F; rfl; rfl; rfl; omega) | (apply w_neS3T; rfl; rfl; rfl; omega) | (apply w_neS3F; rfl; rfl; rfl; omega) | (apply w_eqS3; rfl; rfl; rfl) | (apply w_neS3; rfl; rfl; rfl) | (apply w_eqS2; rfl; rfl; rfl) | (apply w_neS2; rfl; rfl; rfl) | (apply w_maxL; rfl; rfl; rfl; omega) | (apply w_maxG; rfl; rfl; rfl; omega) | (apply w_max; rfl; rfl; rfl) | (apply w_neB; rfl; rfl; rfl; rfl) | (apply w_eqB; rfl; rfl; rfl; rfl) | (apply w_sll; rfl; rfl; rfl; exact hp; omega) | (apply w_cq; rfl; rfl; apply Called.at (h := hF); ((focus ((repeat (first | exact Rep.here | apply Rep.there)); done)))) | (apply w_cl; rfl; rfl; exact All_ok _ _ hp2.one; exact ⟨_, _, 0, rfl, rfl⟩; rintro _ _ ⟨bt, rfl, rfl⟩; refine ⟨by (exact kmf), ?_⟩) | refine spl ?_ ?_ | intro hc)
          exact AtM_retR (by (first | exact .inl rfl | exact .inr rfl)) (by (focus ((repeat (first | exact Taken.nil | (apply Taken.cons; (focus ((repeat (first | exact Del.here | apply Del.there)); done))))); done))) Try.results26 (by (focus ((repeat (first | exact ResR.nil | (apply ResR.tmp; rfl) | (apply ResR.one; rfl; (focus ((repeat (first | assumption | exact .pt rfl | exact .sl ‹_› rfl | exact .sl1 (by first | assumption | rfl) | apply Rd.there)); done))) | (apply ResR.agg; rfl; (focus ((repeat (first | assumption | exact .pt | exact .sl ‹_› | apply RdAll.there)); done)); rfl))); done))) ⟨rfl, rfl⟩ (fun w hs => hout (Y := []) (Sel.sat (by (focus ((repeat (first | exact Sel.refl | (apply Sel.cons; (focus ((repeat (first | exact Del.here | apply Del.there)); done))) | refine Sel.drop ?_)); done))) hs))
    · have hd : t.l.drop t.at' = [] := List.drop_eq_nil_of_le (by omega)
      rw [hd]
      have hs0 : ((listed []).foldl restN (t.left, true)).1 = t.left := rfl
      rw [hs0, if_neg (by omega)]
      (repeat' first | refine stp ?_ | intro v' hv' | intro (b : Nat) | (apply w_convU; rfl; rfl; omega; omega) | (apply w_convI; rfl; rfl; omega; omega) | (apply w_quoU; rfl; rfl; rfl; omega; omega; omega) | (apply w_remU; rfl; rfl; rfl; omega; omega) | (apply w_minL; rfl; rfl; rfl; omega) | (apply w_minG; rfl; rfl; rfl; omega) | (apply w_min; rfl; rfl; rfl) | (apply w_mfR; rfl; rfl) | (apply w_cvp; rfl; rfl; exact inferInstance; rfl; rfl; assumption) | (apply w_eqS2T; rfl; rfl; rfl; omega) | (apply w_eqS2F; rfl; rfl; rfl; omega) | (apply w_neS2T; rfl; rfl; rfl; omega) | (apply w_neS2F; rfl; rfl; rfl; omega) | (apply w_eqS3T; rfl; rfl; rfl; omega) | (apply w_eqS3F; rfl; rfl; rfl; omega) | (apply w_neS3T; rfl; rfl; rfl; omega) | (apply w_neS3F; rfl; rfl; rfl; omega) | (apply w_eqS3; rfl; rfl; rfl) | (apply w_neS3; rfl; rfl; rfl) | (apply w_eqS2; rfl; rfl; rfl) | (apply w_neS2; rfl; rfl; rfl) | (apply w_maxL; rfl; rfl; rfl; omega) | (apply w_maxG; rfl; rfl; rfl; omega) | (apply w_max; rfl; rfl; rfl) | (apply w_neB; rfl; rfl; rfl; rfl) | (apply w_eqB; rfl; rfl; rfl; rfl) | (apply w_sll; rfl; rfl; rfl; exact hp; omega) | (apply w_cq; rfl; rfl; apply Called.at (h := hF); ((focus ((repeat (first | exact Rep.here | apply Rep.there)); done)))) | (apply w_cl; rfl; rfl; exact All_ok _ _ hp2.one; exact ⟨_, _, 0, rfl, rfl⟩; rintro _ _ ⟨bt, rfl, rfl⟩; refine ⟨by (exact kmf), ?_⟩) | refine spl ?_ ?_ | intro hc)
      exact AtM_retR (by (first | exact .inl rfl | exact .inr rfl)) Taken.nil Try.results26 (by (focus ((repeat (first | exact ResR.nil | (apply ResR.tmp; rfl) | (apply ResR.one; rfl; (focus ((repeat (first | assumption | exact .pt rfl | exact .sl ‹_› rfl | exact .sl1 (by first | assumption | rfl) | apply Rd.there)); done))) | (apply ResR.agg; rfl; (focus ((repeat (first | assumption | exact .pt | exact .sl ‹_› | apply RdAll.there)); done)); rfl))); done))) ⟨rfl, rfl⟩ (fun w h => hback (Sel.sat (by (focus ((repeat (first | exact Sel.refl | (apply Sel.cons; (focus ((repeat (first | exact Del.here | apply Del.there)); done))) | refine Sel.drop ?_)); done))) h))
end Go.Proofs.Ytmkbijjmipppaaa
