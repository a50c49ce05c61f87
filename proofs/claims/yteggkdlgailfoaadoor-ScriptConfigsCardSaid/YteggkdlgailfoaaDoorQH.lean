/- prog: an instruction's line, a program's text. Conditions: none. -/
import Derived.Test.YteggkdlgailfoaaDoorQG
set_option linter.all false
set_option linter.deprecated false
namespace Go.Proofs.YteggkdlgailfoaaDoor
open Go.Sep
variable [B0 : Base]
def kW (i : Nat) : List UInt8 := (kWd i).data.toList
theorem str_kW (i : Nat) : Value.string (kWd i) = str (kW i) := by
  unfold kW
  show _ = Value.string ⟨(kWd i).data.toList.toArray⟩
  rw [Lib.mk_data]
/-- An instruction's line. -/
def lineB (x : Ins) : List UInt8 := if kHi x.op = 0 then kW x.op.toNat ++ [10] else kW x.op.toNat ++ [32] ++ Lib.itoa x.n ++ [10]
def textB (l : List Ins) : List UInt8 := (l.map lineB).flatten
theorem decDigits_len (u : Nat) : (Lib.decDigits u).length ≤ u + 1 := by
  induction u using Nat.strongRecOn with
  | _ u ih =>
    rw [Lib.decDigits]
    split
    · simp
    · have := ih (u / 10) (by omega)
      simp only [List.length_append, List.length_cons, List.length_nil]
      omega
theorem itoa_len {n : Int} (h0 : 0 ≤ n) : (Lib.itoa n).length ≤ n.toNat + 1 := by
  unfold Lib.itoa
  rw [if_neg (by omega)]
  exact decDigits_len _
theorem kW_len (i : Nat) : (kW i).length ≤ 7 := by
  unfold kW kWd
  split <;> decide
theorem lineB_len {x : Ins} (h : mayE x = 0) : (lineB x).length ≤ 1099511627800 := by
  have h1 := may_n h
  have h2 := kW_len x.op.toNat
  have h3 := itoa_len h1.1
  unfold lineB
  split <;> simp only [List.length_append, List.length_cons, List.length_nil] <;> omega
theorem textB_len : ∀ {l : List Ins}, (∀ x ∈ l, mayE x = 0) → (textB l).length ≤ 1099511627800 * l.length
  | [], _ => by simp [textB]
  | x :: l, h => by
    have h1 := lineB_len (h x List.mem_cons_self)
    have h2 := textB_len (l := l) (fun y hy => h y (List.mem_cons_of_mem _ hy))
    unfold textB at h2 ⊢
    simp only [List.map_cons, List.flatten_cons, List.length_append, List.length_cons]
    omega
set_option maxHeartbeats 2000000 in
theorem line_ok (x : Ins) (R : List HP) [hV : HasV R] (hm : mayE x = 0) : Called Tryd.prog 57 [.agg (insE x).toArray] R (is (str (lineB x)) R) := by
  obtain ⟨op, n⟩ := x
  obtain ⟨h1, h2, h3, h4, -⟩ := may_n hm
  have h5 := kW_len op.toNat
  have h6 := itoa_len h1
  dsimp only at h1 h2 h3 h4 h6
  unfold lineB insE
  dsimp only
  have hr := kindsL_row (o := op) (by omega) (by omega)
  unfold krow at hr
  have ho : ((op.toNat : Nat) : Int) = op := by omega
  rw [ho, str_kW] at hr
  by_cases hk : kHi op = 0
  · rw [if_pos hk]
    refine Fn1 Tryd.func57 rfl Tryd.ntmps57 rfl ?_
    (repeat' first | refine C_drawI (id := 1) [some 4] [1, 2, 0, 3, 4, 5] (by kernel_rfl) (by kernel_rfl) (by kernel_rfl) rfl ?_ | refine stp ?_ | intro v' hv' | intro (b : Nat) | (apply w_convU; rfl; rfl; omega; omega) | (apply w_convI; rfl; rfl; omega; omega) | (apply w_quoU; rfl; rfl; rfl; omega; omega; omega) | (apply w_remU; rfl; rfl; rfl; omega; omega) | (apply w_minL; rfl; rfl; rfl; omega) | (apply w_minG; rfl; rfl; rfl; omega) | (apply w_min; rfl; rfl; rfl) | (apply w_mfR; rfl; rfl) | (apply w_cvp; rfl; rfl; exact inferInstance; rfl; rfl; assumption) | (apply w_eqS2T; rfl; rfl; rfl; omega) | (apply w_eqS2F; rfl; rfl; rfl; omega) | (apply w_neS2T; rfl; rfl; rfl; omega) | (apply w_neS2F; rfl; rfl; rfl; omega) | (apply w_eqS3T; rfl; rfl; rfl; omega) | (apply w_eqS3F; rfl; rfl; rfl; omega) | (apply w_neS3T; rfl; rfl; rfl; omega) | (apply w_neS3F; rfl; rfl; rfl; omega) | (apply w_eqS3; rfl; rfl; rfl) | (apply w_neS3; rfl; rfl; rfl) | (apply w_eqS2; rfl; rfl; rfl) | (apply w_neS2; rfl; rfl; rfl) | (apply w_maxL; rfl; rfl; rfl; omega) | (apply w_maxG; rfl; rfl; rfl; omega) | (apply w_max; rfl; rfl; rfl) | (apply w_neB; rfl; rfl; rfl; rfl) | (apply w_eqB; rfl; rfl; rfl; rfl) | (apply w_strA; rfl; rfl; rfl; first | omega | (simp only [List.length_append, List.length_cons, List.length_nil]; omega)) | (apply w_strET; rfl; rfl; rfl; assumption) | (apply w_strEF; rfl; rfl; rfl; assumption) | (apply w_strNF; rfl; rfl; rfl; assumption) | (apply w_strNT; rfl; rfl; rfl; assumption) | (apply w_strE; rfl; rfl; rfl; rfl) | (apply w_strN; rfl; rfl; rfl; rfl) | (apply w_strL; rfl; rfl) | (apply w_fldV; rfl; rfl; rfl) | (apply w_ixA; rfl; rfl; rfl; omega; omega; assumption) | (apply w_cp; rfl; rfl; first | assumption | exact kinds_ok) | (apply w_cd; rfl; rfl; exact Itoa_ok _ _ (by assumption); ((exact kmf))) | refine spl ?_ ?_ | intro hc)
    all_goals first | (exfalso; omega) | skip
    all_goals (apply At_retR (by (first | exact .inl rfl | exact .inr rfl)) Tryd.results57; ((focus ((repeat (first | exact ResR.nil | (apply ResR.tmp; rfl) | (apply ResR.one; rfl; (focus ((repeat (first | assumption | exact .pt rfl | exact .sl ‹_› rfl | exact .sl1 (by first | assumption | rfl) | apply Rd.there)); done))) | (apply ResR.agg; rfl; (focus ((repeat (first | assumption | exact .pt | exact .sl ‹_› | apply RdAll.there)); done)); rfl))); done))); (refine ⟨?_, rfl⟩; rfl); ((exact frm)))
  · rw [if_neg hk]
    have hw : W64 n := ⟨by omega, by omega⟩
    refine Fn1 Tryd.func57 rfl Tryd.ntmps57 rfl ?_
    (repeat' first | refine C_drawI (id := 1) [some 4] [1, 2, 0, 3, 4, 5] (by kernel_rfl) (by kernel_rfl) (by kernel_rfl) rfl ?_ | refine stp ?_ | intro v' hv' | intro (b : Nat) | (apply w_convU; rfl; rfl; omega; omega) | (apply w_convI; rfl; rfl; omega; omega) | (apply w_quoU; rfl; rfl; rfl; omega; omega; omega) | (apply w_remU; rfl; rfl; rfl; omega; omega) | (apply w_minL; rfl; rfl; rfl; omega) | (apply w_minG; rfl; rfl; rfl; omega) | (apply w_min; rfl; rfl; rfl) | (apply w_mfR; rfl; rfl) | (apply w_cvp; rfl; rfl; exact inferInstance; rfl; rfl; assumption) | (apply w_eqS2T; rfl; rfl; rfl; omega) | (apply w_eqS2F; rfl; rfl; rfl; omega) | (apply w_neS2T; rfl; rfl; rfl; omega) | (apply w_neS2F; rfl; rfl; rfl; omega) | (apply w_eqS3T; rfl; rfl; rfl; omega) | (apply w_eqS3F; rfl; rfl; rfl; omega) | (apply w_neS3T; rfl; rfl; rfl; omega) | (apply w_neS3F; rfl; rfl; rfl; omega) | (apply w_eqS3; rfl; rfl; rfl) | (apply w_neS3; rfl; rfl; rfl) | (apply w_eqS2; rfl; rfl; rfl) | (apply w_neS2; rfl; rfl; rfl) | (apply w_maxL; rfl; rfl; rfl; omega) | (apply w_maxG; rfl; rfl; rfl; omega) | (apply w_max; rfl; rfl; rfl) | (apply w_neB; rfl; rfl; rfl; rfl) | (apply w_eqB; rfl; rfl; rfl; rfl) | (apply w_strA; rfl; rfl; rfl; first | omega | (simp only [List.length_append, List.length_cons, List.length_nil]; omega)) | (apply w_strET; rfl; rfl; rfl; assumption) | (apply w_strEF; rfl; rfl; rfl; assumption) | (apply w_strNF; rfl; rfl; rfl; assumption) | (apply w_strNT; rfl; rfl; rfl; assumption) | (apply w_strE; rfl; rfl; rfl; rfl) | (apply w_strN; rfl; rfl; rfl; rfl) | (apply w_strL; rfl; rfl) | (apply w_fldV; rfl; rfl; rfl) | (apply w_ixA; rfl; rfl; rfl; omega; omega; assumption) | (apply w_cp; rfl; rfl; first | assumption | exact kinds_ok) | (apply w_cd; rfl; rfl; exact Itoa_ok _ _ (by assumption); ((exact kmf))) | refine spl ?_ ?_ | intro hc)
    all_goals first | (exfalso; omega) | skip
    all_goals (apply At_retR (by (first | exact .inl rfl | exact .inr rfl)) Tryd.results57; ((focus ((repeat (first | exact ResR.nil | (apply ResR.tmp; rfl) | (apply ResR.one; rfl; (focus ((repeat (first | assumption | exact .pt rfl | exact .sl ‹_› rfl | exact .sl1 (by first | assumption | rfl) | apply Rd.there)); done))) | (apply ResR.agg; rfl; (focus ((repeat (first | assumption | exact .pt | exact .sl ‹_› | apply RdAll.there)); done)); rfl))); done))); (refine ⟨?_, rfl⟩; rfl); ((exact frm)))
/-- A program's text, and what is wrong with it. -/
def printM (l : List Ins) : List UInt8 × Int := if progE l ≠ 0 then ([], progE l) else (textB l, 0)
theorem w_builder {d : Nat} {ty : TypeId} {pos : String} {aft : Array Edge} {n : Nat} {F : Fr} {ds : List Deferred} {R : List HP} {ro : Option Nat} {ops : Array Oper} {Q : Exit → Act → World → Prop} {rest : List Oper}
    (hd : Nat.blt d n = true) (hk : ∀ b, W Tryd.prog ro none ops Q n rest ((d, ptr b) :: F) ds [bld b [], und b R]) : W Tryd.prog ro none ops Q n (⟨some d, .alloc 73, ty, pos, aft, none⟩ :: rest) F ds R :=
  W_run (.inl rfl) hd (runs_builder R) fun v L' ⟨b, e1, e2⟩ => by subst e1; subst e2; exact hk b
set_option maxHeartbeats 4000000 in
theorem Print_ok (v : Value) (l : List Ins) (R : List HP) [hV : HasV R] (h : PrIn R v l) : Called Tryd.prog 37 [v] R (is (.tuple #[str (printM l).1, int (printM l).2]) R) := by
  have hv := h.isl
  have hN := hv.len
  have hC := Check_ok v l R h.isl h.src
  have hs : ∀ (A : List HP) (b : Nat), Src (A ++ [und b R]) v 2 (l.map insE) := fun A b => src_und h.src
  unfold printM
  by_cases h0 : progE l = 0
  · rw [if_neg (by simpa using h0)]
    rw [h0] at hC
    obtain ⟨h64, hall⟩ := progE_may h0
    have hTL := textB_len hall
    refine Fn1 Tryd.func37 rfl Tryd.ntmps37 rfl ?_
    (repeat' first | refine stp ?_ | intro v' hv' | intro (b : Nat) | (apply w_convU; rfl; rfl; omega; omega) | (apply w_convI; rfl; rfl; omega; omega) | (apply w_quoU; rfl; rfl; rfl; omega; omega; omega) | (apply w_remU; rfl; rfl; rfl; omega; omega) | (apply w_minL; rfl; rfl; rfl; omega) | (apply w_minG; rfl; rfl; rfl; omega) | (apply w_min; rfl; rfl; rfl) | (apply w_mfR; rfl; rfl) | (apply w_cvp; rfl; rfl; exact inferInstance; rfl; rfl; assumption) | (apply w_eqS2T; rfl; rfl; rfl; omega) | (apply w_eqS2F; rfl; rfl; rfl; omega) | (apply w_neS2T; rfl; rfl; rfl; omega) | (apply w_neS2F; rfl; rfl; rfl; omega) | (apply w_eqS3T; rfl; rfl; rfl; omega) | (apply w_eqS3F; rfl; rfl; rfl; omega) | (apply w_neS3T; rfl; rfl; rfl; omega) | (apply w_neS3F; rfl; rfl; rfl; omega) | (apply w_eqS3; rfl; rfl; rfl) | (apply w_neS3; rfl; rfl; rfl) | (apply w_eqS2; rfl; rfl; rfl) | (apply w_neS2; rfl; rfl; rfl) | (apply w_maxL; rfl; rfl; rfl; omega) | (apply w_maxG; rfl; rfl; rfl; omega) | (apply w_max; rfl; rfl; rfl) | (apply w_neB; rfl; rfl; rfl; rfl) | (apply w_eqB; rfl; rfl; rfl; rfl) | (apply w_strA; rfl; rfl; rfl; first | omega | (simp only [List.length_append, List.length_cons, List.length_nil]; omega)) | (apply w_strET; rfl; rfl; rfl; assumption) | (apply w_strEF; rfl; rfl; rfl; assumption) | (apply w_strNF; rfl; rfl; rfl; assumption) | (apply w_strNT; rfl; rfl; rfl; assumption) | (apply w_strE; rfl; rfl; rfl; rfl) | (apply w_strN; rfl; rfl; rfl; rfl) | (apply w_strL; rfl; rfl) | (apply w_cp; rfl; rfl; assumption) | refine spl ?_ ?_ | intro hc)
    apply w_cd; rfl; rfl; exact hC; ((exact kmf))
    (repeat' first | (refine w_builder rfl ?_; intro bq) | refine stp ?_ | intro v' hv' | intro (b : Nat) | (apply w_convU; rfl; rfl; omega; omega) | (apply w_convI; rfl; rfl; omega; omega) | (apply w_quoU; rfl; rfl; rfl; omega; omega; omega) | (apply w_remU; rfl; rfl; rfl; omega; omega) | (apply w_minL; rfl; rfl; rfl; omega) | (apply w_minG; rfl; rfl; rfl; omega) | (apply w_min; rfl; rfl; rfl) | (apply w_mfR; rfl; rfl) | (apply w_cvp; rfl; rfl; exact inferInstance; rfl; rfl; assumption) | (apply w_eqS2T; rfl; rfl; rfl; omega) | (apply w_eqS2F; rfl; rfl; rfl; omega) | (apply w_neS2T; rfl; rfl; rfl; omega) | (apply w_neS2F; rfl; rfl; rfl; omega) | (apply w_eqS3T; rfl; rfl; rfl; omega) | (apply w_eqS3F; rfl; rfl; rfl; omega) | (apply w_neS3T; rfl; rfl; rfl; omega) | (apply w_neS3F; rfl; rfl; rfl; omega) | (apply w_eqS3; rfl; rfl; rfl) | (apply w_neS3; rfl; rfl; rfl) | (apply w_eqS2; rfl; rfl; rfl) | (apply w_neS2; rfl; rfl; rfl) | (apply w_maxL; rfl; rfl; rfl; omega) | (apply w_maxG; rfl; rfl; rfl; omega) | (apply w_max; rfl; rfl; rfl) | (apply w_neB; rfl; rfl; rfl; rfl) | (apply w_eqB; rfl; rfl; rfl; rfl) | (apply w_strA; rfl; rfl; rfl; first | omega | (simp only [List.length_append, List.length_cons, List.length_nil]; omega)) | (apply w_strET; rfl; rfl; rfl; assumption) | (apply w_strEF; rfl; rfl; rfl; assumption) | (apply w_strNF; rfl; rfl; rfl; assumption) | (apply w_strNT; rfl; rfl; rfl; assumption) | (apply w_strE; rfl; rfl; rfl; rfl) | (apply w_strN; rfl; rfl; rfl; rfl) | (apply w_strL; rfl; rfl) | (apply w_cp; rfl; rfl; assumption) | refine spl ?_ ?_ | intro hc)
    refine C_loopK [7, 15, 16, 17, 18, 19, 20, 21, 22] (fun k : Nat => l.length - k) (fun k => [(15, int k)]) (fun k => [bld bq (textB (l.take k)), und bq R]) (fun k => k ≤ l.length) 0 (Nat.zero_le _) (by (focus ((repeat (first | exact Keep.nil | apply Keep.drop rfl | apply Keep.keep rfl)); done))) (by (exact sbf)) (by (exact frm)) ?_
    intro k hk
    dsimp only [List.cons_append, List.nil_append]
    by_cases hlt : k < l.length
    · have hm : mayE l[k] = 0 := hall _ (List.getElem_mem hlt)
      have hra : ∀ A, RdAll (A ++ [und bq R]) (vb v) (vo v + k * 2) (insE l[k]) := fun A => RdAll.srcI (hs A bq) (by simp [hlt])
      have hra0 := hra [bld bq (textB (l.take k))]
      have htk : textB (l.take (k + 1)) = textB (l.take k) ++ lineB l[k] := by
        unfold textB
        rw [List.take_add_one, List.getElem?_eq_getElem hlt]
        simp only [Option.toList, List.map_append, List.map_cons, List.map_nil, List.flatten_append, List.flatten_cons, List.flatten_nil, List.append_nil]
      have hl1 := lineB_len hm
      have hl2 := textB_len (l := l.take k) (fun y hy => hall y (List.mem_of_mem_take hy))
      rw [List.length_take] at hl2
      generalize l[k] = x at *
      generalize ht : textB (l.take k) = tx at *
      obtain ⟨op, n⟩ := x
      have hln := line_ok ⟨op, n⟩
      unfold insE at *
      dsimp only [List.cons_append, List.nil_append] at *
      (repeat' first | refine stp ?_ | intro v' hv' | intro (b : Nat) | (apply w_convU; rfl; rfl; omega; omega) | (apply w_convI; rfl; rfl; omega; omega) | (apply w_quoU; rfl; rfl; rfl; omega; omega; omega) | (apply w_remU; rfl; rfl; rfl; omega; omega) | (apply w_minL; rfl; rfl; rfl; omega) | (apply w_minG; rfl; rfl; rfl; omega) | (apply w_min; rfl; rfl; rfl) | (apply w_mfR; rfl; rfl) | (apply w_cvp; rfl; rfl; exact inferInstance; rfl; rfl; assumption) | (apply w_eqS2T; rfl; rfl; rfl; omega) | (apply w_eqS2F; rfl; rfl; rfl; omega) | (apply w_neS2T; rfl; rfl; rfl; omega) | (apply w_neS2F; rfl; rfl; rfl; omega) | (apply w_eqS3T; rfl; rfl; rfl; omega) | (apply w_eqS3F; rfl; rfl; rfl; omega) | (apply w_neS3T; rfl; rfl; rfl; omega) | (apply w_neS3F; rfl; rfl; rfl; omega) | (apply w_eqS3; rfl; rfl; rfl) | (apply w_neS3; rfl; rfl; rfl) | (apply w_eqS2; rfl; rfl; rfl) | (apply w_neS2; rfl; rfl; rfl) | (apply w_maxL; rfl; rfl; rfl; omega) | (apply w_maxG; rfl; rfl; rfl; omega) | (apply w_max; rfl; rfl; rfl) | (apply w_neB; rfl; rfl; rfl; rfl) | (apply w_eqB; rfl; rfl; rfl; rfl) | (apply w_strA; rfl; rfl; rfl; first | omega | (simp only [List.length_append, List.length_cons, List.length_nil]; omega)) | (apply w_strET; rfl; rfl; rfl; assumption) | (apply w_strEF; rfl; rfl; rfl; assumption) | (apply w_strNF; rfl; rfl; rfl; assumption) | (apply w_strNT; rfl; rfl; rfl; assumption) | (apply w_strE; rfl; rfl; rfl; rfl) | (apply w_strN; rfl; rfl; rfl; rfl) | (apply w_strL; rfl; rfl) | (apply w_cp; rfl; rfl; assumption) | refine spl ?_ ?_ | intro hc)
      apply w_cd; rfl; rfl; exact hln _ hm; ((exact kmf))
      (repeat' first | refine stp ?_ | intro v' hv' | intro (b : Nat) | (apply w_convU; rfl; rfl; omega; omega) | (apply w_convI; rfl; rfl; omega; omega) | (apply w_quoU; rfl; rfl; rfl; omega; omega; omega) | (apply w_remU; rfl; rfl; rfl; omega; omega) | (apply w_minL; rfl; rfl; rfl; omega) | (apply w_minG; rfl; rfl; rfl; omega) | (apply w_min; rfl; rfl; rfl) | (apply w_mfR; rfl; rfl) | (apply w_cvp; rfl; rfl; exact inferInstance; rfl; rfl; assumption) | (apply w_eqS2T; rfl; rfl; rfl; omega) | (apply w_eqS2F; rfl; rfl; rfl; omega) | (apply w_neS2T; rfl; rfl; rfl; omega) | (apply w_neS2F; rfl; rfl; rfl; omega) | (apply w_eqS3T; rfl; rfl; rfl; omega) | (apply w_eqS3F; rfl; rfl; rfl; omega) | (apply w_neS3T; rfl; rfl; rfl; omega) | (apply w_neS3F; rfl; rfl; rfl; omega) | (apply w_eqS3; rfl; rfl; rfl) | (apply w_neS3; rfl; rfl; rfl) | (apply w_eqS2; rfl; rfl; rfl) | (apply w_neS2; rfl; rfl; rfl) | (apply w_maxL; rfl; rfl; rfl; omega) | (apply w_maxG; rfl; rfl; rfl; omega) | (apply w_max; rfl; rfl; rfl) | (apply w_neB; rfl; rfl; rfl; rfl) | (apply w_eqB; rfl; rfl; rfl; rfl) | (apply w_strA; rfl; rfl; rfl; first | omega | (simp only [List.length_append, List.length_cons, List.length_nil]; omega)) | (apply w_strET; rfl; rfl; rfl; assumption) | (apply w_strEF; rfl; rfl; rfl; assumption) | (apply w_strNF; rfl; rfl; rfl; assumption) | (apply w_strNT; rfl; rfl; rfl; assumption) | (apply w_strE; rfl; rfl; rfl; rfl) | (apply w_strN; rfl; rfl; rfl; rfl) | (apply w_strL; rfl; rfl) | (apply w_cp; rfl; rfl; assumption) | refine spl ?_ ?_ | intro hc)
      apply w_cd; rfl; rfl; exact Called.pre (Write_ok bq tx (lineB ⟨op, n⟩) R (by omega)) (fun w h => h.drop); ((exact kmf))
      (repeat' first | refine stp ?_ | intro v' hv' | intro (b : Nat) | (apply w_convU; rfl; rfl; omega; omega) | (apply w_convI; rfl; rfl; omega; omega) | (apply w_quoU; rfl; rfl; rfl; omega; omega; omega) | (apply w_remU; rfl; rfl; rfl; omega; omega) | (apply w_minL; rfl; rfl; rfl; omega) | (apply w_minG; rfl; rfl; rfl; omega) | (apply w_min; rfl; rfl; rfl) | (apply w_mfR; rfl; rfl) | (apply w_cvp; rfl; rfl; exact inferInstance; rfl; rfl; assumption) | (apply w_eqS2T; rfl; rfl; rfl; omega) | (apply w_eqS2F; rfl; rfl; rfl; omega) | (apply w_neS2T; rfl; rfl; rfl; omega) | (apply w_neS2F; rfl; rfl; rfl; omega) | (apply w_eqS3T; rfl; rfl; rfl; omega) | (apply w_eqS3F; rfl; rfl; rfl; omega) | (apply w_neS3T; rfl; rfl; rfl; omega) | (apply w_neS3F; rfl; rfl; rfl; omega) | (apply w_eqS3; rfl; rfl; rfl) | (apply w_neS3; rfl; rfl; rfl) | (apply w_eqS2; rfl; rfl; rfl) | (apply w_neS2; rfl; rfl; rfl) | (apply w_maxL; rfl; rfl; rfl; omega) | (apply w_maxG; rfl; rfl; rfl; omega) | (apply w_max; rfl; rfl; rfl) | (apply w_neB; rfl; rfl; rfl; rfl) | (apply w_eqB; rfl; rfl; rfl; rfl) | (apply w_strA; rfl; rfl; rfl; first | omega | (simp only [List.length_append, List.length_cons, List.length_nil]; omega)) | (apply w_strET; rfl; rfl; rfl; assumption) | (apply w_strEF; rfl; rfl; rfl; assumption) | (apply w_strNF; rfl; rfl; rfl; assumption) | (apply w_strNT; rfl; rfl; rfl; assumption) | (apply w_strE; rfl; rfl; rfl; rfl) | (apply w_strN; rfl; rfl; rfl; rfl) | (apply w_strL; rfl; rfl) | (apply w_cp; rfl; rfl; assumption) | refine spl ?_ ?_ | intro hc)
      exact At_againK (k + 1) hlt (by omega) (by (exact sbf)) (by (exact sbf)) (fun w h => by show Sat w [bld bq (textB (l.take (k + 1))), und bq R]; rw [htk]; exact h)
    · have hk' : k = l.length := by omega
      subst hk'
      rw [List.take_length]
      have hst := String_ok bq (textB l) R
      (repeat' first | refine stp ?_ | intro v' hv' | intro (b : Nat) | (apply w_convU; rfl; rfl; omega; omega) | (apply w_convI; rfl; rfl; omega; omega) | (apply w_quoU; rfl; rfl; rfl; omega; omega; omega) | (apply w_remU; rfl; rfl; rfl; omega; omega) | (apply w_minL; rfl; rfl; rfl; omega) | (apply w_minG; rfl; rfl; rfl; omega) | (apply w_min; rfl; rfl; rfl) | (apply w_mfR; rfl; rfl) | (apply w_cvp; rfl; rfl; exact inferInstance; rfl; rfl; assumption) | (apply w_eqS2T; rfl; rfl; rfl; omega) | (apply w_eqS2F; rfl; rfl; rfl; omega) | (apply w_neS2T; rfl; rfl; rfl; omega) | (apply w_neS2F; rfl; rfl; rfl; omega) | (apply w_eqS3T; rfl; rfl; rfl; omega) | (apply w_eqS3F; rfl; rfl; rfl; omega) | (apply w_neS3T; rfl; rfl; rfl; omega) | (apply w_neS3F; rfl; rfl; rfl; omega) | (apply w_eqS3; rfl; rfl; rfl) | (apply w_neS3; rfl; rfl; rfl) | (apply w_eqS2; rfl; rfl; rfl) | (apply w_neS2; rfl; rfl; rfl) | (apply w_maxL; rfl; rfl; rfl; omega) | (apply w_maxG; rfl; rfl; rfl; omega) | (apply w_max; rfl; rfl; rfl) | (apply w_neB; rfl; rfl; rfl; rfl) | (apply w_eqB; rfl; rfl; rfl; rfl) | (apply w_strA; rfl; rfl; rfl; first | omega | (simp only [List.length_append, List.length_cons, List.length_nil]; omega)) | (apply w_strET; rfl; rfl; rfl; assumption) | (apply w_strEF; rfl; rfl; rfl; assumption) | (apply w_strNF; rfl; rfl; rfl; assumption) | (apply w_strNT; rfl; rfl; rfl; assumption) | (apply w_strE; rfl; rfl; rfl; rfl) | (apply w_strN; rfl; rfl; rfl; rfl) | (apply w_strL; rfl; rfl) | (apply w_cp; rfl; rfl; assumption) | refine spl ?_ ?_ | intro hc)
      apply w_cd; rfl; rfl; exact hst; ((exact kmf))
      (repeat' first | refine stp ?_ | intro v' hv' | intro (b : Nat) | (apply w_convU; rfl; rfl; omega; omega) | (apply w_convI; rfl; rfl; omega; omega) | (apply w_quoU; rfl; rfl; rfl; omega; omega; omega) | (apply w_remU; rfl; rfl; rfl; omega; omega) | (apply w_minL; rfl; rfl; rfl; omega) | (apply w_minG; rfl; rfl; rfl; omega) | (apply w_min; rfl; rfl; rfl) | (apply w_mfR; rfl; rfl) | (apply w_cvp; rfl; rfl; exact inferInstance; rfl; rfl; assumption) | (apply w_eqS2T; rfl; rfl; rfl; omega) | (apply w_eqS2F; rfl; rfl; rfl; omega) | (apply w_neS2T; rfl; rfl; rfl; omega) | (apply w_neS2F; rfl; rfl; rfl; omega) | (apply w_eqS3T; rfl; rfl; rfl; omega) | (apply w_eqS3F; rfl; rfl; rfl; omega) | (apply w_neS3T; rfl; rfl; rfl; omega) | (apply w_neS3F; rfl; rfl; rfl; omega) | (apply w_eqS3; rfl; rfl; rfl) | (apply w_neS3; rfl; rfl; rfl) | (apply w_eqS2; rfl; rfl; rfl) | (apply w_neS2; rfl; rfl; rfl) | (apply w_maxL; rfl; rfl; rfl; omega) | (apply w_maxG; rfl; rfl; rfl; omega) | (apply w_max; rfl; rfl; rfl) | (apply w_neB; rfl; rfl; rfl; rfl) | (apply w_eqB; rfl; rfl; rfl; rfl) | (apply w_strA; rfl; rfl; rfl; first | omega | (simp only [List.length_append, List.length_cons, List.length_nil]; omega)) | (apply w_strET; rfl; rfl; rfl; assumption) | (apply w_strEF; rfl; rfl; rfl; assumption) | (apply w_strNF; rfl; rfl; rfl; assumption) | (apply w_strNT; rfl; rfl; rfl; assumption) | (apply w_strE; rfl; rfl; rfl; rfl) | (apply w_strN; rfl; rfl; rfl; rfl) | (apply w_strL; rfl; rfl) | (apply w_cp; rfl; rfl; assumption) | refine spl ?_ ?_ | intro hc)
      all_goals (refine At_ret2 (by (first | exact .inl rfl | exact .inr rfl)) Tryd.results37 rfl rfl ⟨by rfl, rfl⟩ (by (exact frm)))
  · rw [if_pos h0]
    refine Fn1 Tryd.func37 rfl Tryd.ntmps37 rfl ?_
    (repeat' first | refine stp ?_ | intro v' hv' | intro (b : Nat) | (apply w_convU; rfl; rfl; omega; omega) | (apply w_convI; rfl; rfl; omega; omega) | (apply w_quoU; rfl; rfl; rfl; omega; omega; omega) | (apply w_remU; rfl; rfl; rfl; omega; omega) | (apply w_minL; rfl; rfl; rfl; omega) | (apply w_minG; rfl; rfl; rfl; omega) | (apply w_min; rfl; rfl; rfl) | (apply w_mfR; rfl; rfl) | (apply w_cvp; rfl; rfl; exact inferInstance; rfl; rfl; assumption) | (apply w_eqS2T; rfl; rfl; rfl; omega) | (apply w_eqS2F; rfl; rfl; rfl; omega) | (apply w_neS2T; rfl; rfl; rfl; omega) | (apply w_neS2F; rfl; rfl; rfl; omega) | (apply w_eqS3T; rfl; rfl; rfl; omega) | (apply w_eqS3F; rfl; rfl; rfl; omega) | (apply w_neS3T; rfl; rfl; rfl; omega) | (apply w_neS3F; rfl; rfl; rfl; omega) | (apply w_eqS3; rfl; rfl; rfl) | (apply w_neS3; rfl; rfl; rfl) | (apply w_eqS2; rfl; rfl; rfl) | (apply w_neS2; rfl; rfl; rfl) | (apply w_maxL; rfl; rfl; rfl; omega) | (apply w_maxG; rfl; rfl; rfl; omega) | (apply w_max; rfl; rfl; rfl) | (apply w_neB; rfl; rfl; rfl; rfl) | (apply w_eqB; rfl; rfl; rfl; rfl) | (apply w_strA; rfl; rfl; rfl; first | omega | (simp only [List.length_append, List.length_cons, List.length_nil]; omega)) | (apply w_strET; rfl; rfl; rfl; assumption) | (apply w_strEF; rfl; rfl; rfl; assumption) | (apply w_strNF; rfl; rfl; rfl; assumption) | (apply w_strNT; rfl; rfl; rfl; assumption) | (apply w_strE; rfl; rfl; rfl; rfl) | (apply w_strN; rfl; rfl; rfl; rfl) | (apply w_strL; rfl; rfl) | (apply w_cp; rfl; rfl; assumption) | refine spl ?_ ?_ | intro hc)
    apply w_cd; rfl; rfl; exact hC; ((exact kmf))
    (repeat' first | refine stp ?_ | intro v' hv' | intro (b : Nat) | (apply w_convU; rfl; rfl; omega; omega) | (apply w_convI; rfl; rfl; omega; omega) | (apply w_quoU; rfl; rfl; rfl; omega; omega; omega) | (apply w_remU; rfl; rfl; rfl; omega; omega) | (apply w_minL; rfl; rfl; rfl; omega) | (apply w_minG; rfl; rfl; rfl; omega) | (apply w_min; rfl; rfl; rfl) | (apply w_mfR; rfl; rfl) | (apply w_cvp; rfl; rfl; exact inferInstance; rfl; rfl; assumption) | (apply w_eqS2T; rfl; rfl; rfl; omega) | (apply w_eqS2F; rfl; rfl; rfl; omega) | (apply w_neS2T; rfl; rfl; rfl; omega) | (apply w_neS2F; rfl; rfl; rfl; omega) | (apply w_eqS3T; rfl; rfl; rfl; omega) | (apply w_eqS3F; rfl; rfl; rfl; omega) | (apply w_neS3T; rfl; rfl; rfl; omega) | (apply w_neS3F; rfl; rfl; rfl; omega) | (apply w_eqS3; rfl; rfl; rfl) | (apply w_neS3; rfl; rfl; rfl) | (apply w_eqS2; rfl; rfl; rfl) | (apply w_neS2; rfl; rfl; rfl) | (apply w_maxL; rfl; rfl; rfl; omega) | (apply w_maxG; rfl; rfl; rfl; omega) | (apply w_max; rfl; rfl; rfl) | (apply w_neB; rfl; rfl; rfl; rfl) | (apply w_eqB; rfl; rfl; rfl; rfl) | (apply w_strA; rfl; rfl; rfl; first | omega | (simp only [List.length_append, List.length_cons, List.length_nil]; omega)) | (apply w_strET; rfl; rfl; rfl; assumption) | (apply w_strEF; rfl; rfl; rfl; assumption) | (apply w_strNF; rfl; rfl; rfl; assumption) | (apply w_strNT; rfl; rfl; rfl; assumption) | (apply w_strE; rfl; rfl; rfl; rfl) | (apply w_strN; rfl; rfl; rfl; rfl) | (apply w_strL; rfl; rfl) | (apply w_cp; rfl; rfl; assumption) | refine spl ?_ ?_ | intro hc)
    all_goals (refine At_ret2 (by (first | exact .inl rfl | exact .inr rfl)) Tryd.results37 rfl rfl ⟨by rfl, rfl⟩ (by (exact frm)))
end Go.Proofs.YteggkdlgailfoaaDoor
