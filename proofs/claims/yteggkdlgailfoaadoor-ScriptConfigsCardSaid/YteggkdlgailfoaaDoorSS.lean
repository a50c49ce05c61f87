/- script: configurations held against each other; as they are read. Conditions: none. -/
import Derived.Test.YteggkdlgailfoaaDoorSQ
import Derived.Test.YteggkdlgailfoaaDoorSR
import Derived.Test.YteggkdlgailfoaaDoorOpen
set_option linter.all false
set_option linter.deprecated false
namespace Go.Proofs.YteggkdlgailfoaaDoor
open Go.Sep
section
variable [B0 : Base]
instance : KeyT Tryd.prog 49 3 := ⟨by kernel_rfl, by kernel_rfl⟩
instance : FlatEq Tryd.prog 88 2 := ⟨by kernel_rfl⟩
theorem pl_lits {p : Pl} (h1 : W64 p.wk) (h2 : W64 p.cp) : Tryd.prog.keyLits 4 49 (plE p) = some [.int .i64 p.wk, .bool p.hd, .int .i64 p.cp] := by
  have c3 : Tryd.prog.cellsOf 3 = 1 := by kernel_rfl
  have c4 : Tryd.prog.cellsOf 4 = 1 := by kernel_rfl
  have c49 : Tryd.prog.cellsOf 49 = 3 := by kernel_rfl
  have w1 := wf_i64 h1
  have w2 := wf_i64 h2
  have ki : ∀ d (n : Int), (Lit.int .i64 n).wf = true → Tryd.prog.keyLits (d + 1) 3 [int n] = some [.int .i64 n] := fun d n hn => by simp [Program.keyLits, Tryd.underlying3, hn]
  have kb : ∀ d (c : Bool), Tryd.prog.keyLits (d + 1) 4 [.bool c] = some [.bool c] := fun d c => by simp [Program.keyLits, Tryd.underlying4]
  rw [show (4 : Nat) = 3 + 1 from rfl, Program.keyLits.eq_def]
  simp only [Tryd.underlying49]
  unfold plE
  simp [c49, c4, c3, ki 2 _ w1, ki 2 _ w2, kb 2]
theorem src_none {R : List HP} {n : Nat} : Sep.Src R (.slice none 0 0) n [] := ⟨fun w _ e he => (by cases he), fun w _ => ⟨none, 0, rfl, .inl rfl⟩⟩
theorem cfIn_zero {R : List HP} : CfIn R (.slice none 0 0) (.slice none 0 0) [] cfg0 := ⟨IsSl.nil, src_none, IsSl.nil, rfl, src_none, fun i p q h1 _ => by simp at h1⟩
set_option maxHeartbeats 8000000 in
set_option maxRecDepth 4000 in
theorem alike_ok (v u v2 u2 : Value) (us us2 : List Value) (c : Cfg) (R : List HP) (h : CfIn R v u us c) (h2 : CfIn R v2 u2 us2 c) (hw : ∀ p ∈ c.ds, plOk p = true) :
    Called Tryd.prog 20 [.agg (cfE v u c).toArray, .agg (cfE v2 u2 c).toArray] R (is (.bool true) R) := by
  have hv := h.dl
  have hu := h.ll
  have hv2 := h2.dl
  have hu2 := h2.ll
  have hvN := hv.len
  have huN := hu.len
  have hk : True := trivial
  obtain ⟨ds, mu, qu, lib⟩ := c
  unfold cfE
  dsimp only at *
  refine Fn2 Tryd.func20 rfl Tryd.ntmps20 rfl ?_
  (repeat' first | refine stp ?_ | intro v' hv' | intro (b : Nat) | (apply w_convU; rfl; rfl; omega; omega) | (apply w_convI; rfl; rfl; omega; omega) | (apply w_quoU; rfl; rfl; rfl; omega; omega; omega) | (apply w_remU; rfl; rfl; rfl; omega; omega) | (apply w_minL; rfl; rfl; rfl; omega) | (apply w_minG; rfl; rfl; rfl; omega) | (apply w_min; rfl; rfl; rfl) | (apply w_mfR; rfl; rfl) | (apply w_cvp; rfl; rfl; exact inferInstance; rfl; rfl; assumption) | (apply w_eqS2T; rfl; rfl; rfl; omega) | (apply w_eqS2F; rfl; rfl; rfl; omega) | (apply w_neS2T; rfl; rfl; rfl; omega) | (apply w_neS2F; rfl; rfl; rfl; omega) | (apply w_eqS3T; rfl; rfl; rfl; omega) | (apply w_eqS3F; rfl; rfl; rfl; omega) | (apply w_neS3T; rfl; rfl; rfl; omega) | (apply w_neS3F; rfl; rfl; rfl; omega) | (apply w_eqS3; rfl; rfl; rfl) | (apply w_neS3; rfl; rfl; rfl) | (apply w_eqS2; rfl; rfl; rfl) | (apply w_neS2; rfl; rfl; rfl) | (apply w_maxL; rfl; rfl; rfl; omega) | (apply w_maxG; rfl; rfl; rfl; omega) | (apply w_max; rfl; rfl; rfl) | (apply w_neB; rfl; rfl; rfl; rfl) | (apply w_eqB; rfl; rfl; rfl; rfl) | (apply w_neK; rfl; rfl; rfl; rfl; rfl; exact hk; exact hk; exact (Iff.intro (fun _ => rfl) (fun _ => rfl) : true = true ↔ _)) | refine spl ?_ ?_ | intro hc)
  all_goals first | (exfalso; omega) | skip
  rename_i bc
  obtain ⟨bd, e1⟩ : ∃ r, r = b := ⟨_, rfl⟩
  subst e1
  refine C_loopK [4, 5, 38, 39, 40, 41, 42, 43, 44, 45, 46, 47, 48, 49, 50, 51, 52, 53, 54, 55] (fun k : Nat => ds.length - k) (fun k => [(5, int k)]) (fun _ => pt bd 45 [v2, int mu, int qu, u2] :: pt bc 45 [v, int mu, int qu, u] :: R) (fun k => k ≤ ds.length) 0 (Nat.zero_le _) (by (focus ((repeat (first | exact Keep.nil | apply Keep.drop rfl | apply Keep.keep rfl)); done))) (by (exact sbf)) (by (exact frm)) ?_
  intro k hk0
  dsimp only [List.cons_append, List.nil_append]
  by_cases hlt : k < ds.length
  · have hra : RdAll R (vb v) (vo v + k * 3) (plE ds[k]) := RdAll.srcS h.dsrc (by simp [hlt])
    have hrb : RdAll R (vb v2) (vo v2 + k * 3) (plE ds[k]) := RdAll.srcS h2.dsrc (by simp [hlt])
    have hpo := hw _ (List.getElem_mem hlt)
    generalize ds[k] = p at *
    obtain ⟨hn1, hn2⟩ := plOk_iff.1 hpo
    obtain ⟨a1, a2⟩ := numB_iff.1 hn1
    obtain ⟨a3, a4⟩ := numB_iff.1 hn2
    clear hk
    have hk := pl_lits (p := p) ⟨by omega, by omega⟩ ⟨by omega, by omega⟩
    unfold plE at *
    (repeat' first | refine stp ?_ | intro v' hv' | intro (b : Nat) | (apply w_convU; rfl; rfl; omega; omega) | (apply w_convI; rfl; rfl; omega; omega) | (apply w_quoU; rfl; rfl; rfl; omega; omega; omega) | (apply w_remU; rfl; rfl; rfl; omega; omega) | (apply w_minL; rfl; rfl; rfl; omega) | (apply w_minG; rfl; rfl; rfl; omega) | (apply w_min; rfl; rfl; rfl) | (apply w_mfR; rfl; rfl) | (apply w_cvp; rfl; rfl; exact inferInstance; rfl; rfl; assumption) | (apply w_eqS2T; rfl; rfl; rfl; omega) | (apply w_eqS2F; rfl; rfl; rfl; omega) | (apply w_neS2T; rfl; rfl; rfl; omega) | (apply w_neS2F; rfl; rfl; rfl; omega) | (apply w_eqS3T; rfl; rfl; rfl; omega) | (apply w_eqS3F; rfl; rfl; rfl; omega) | (apply w_neS3T; rfl; rfl; rfl; omega) | (apply w_neS3F; rfl; rfl; rfl; omega) | (apply w_eqS3; rfl; rfl; rfl) | (apply w_neS3; rfl; rfl; rfl) | (apply w_eqS2; rfl; rfl; rfl) | (apply w_neS2; rfl; rfl; rfl) | (apply w_maxL; rfl; rfl; rfl; omega) | (apply w_maxG; rfl; rfl; rfl; omega) | (apply w_max; rfl; rfl; rfl) | (apply w_neB; rfl; rfl; rfl; rfl) | (apply w_eqB; rfl; rfl; rfl; rfl) | (apply w_neK; rfl; rfl; rfl; rfl; rfl; exact hk; exact hk; exact (Iff.intro (fun _ => rfl) (fun _ => rfl) : true = true ↔ _)) | refine spl ?_ ?_ | intro hc)
    all_goals first | (exfalso; omega) | skip
    all_goals exact At_againK (k + 1) hlt (by omega) (by (exact sbf)) (by (exact sbf)) (by (exact frm))
  · have hk' : k = ds.length := by omega
    subst hk'
    (repeat' first | refine stp ?_ | intro v' hv' | intro (b : Nat) | (apply w_convU; rfl; rfl; omega; omega) | (apply w_convI; rfl; rfl; omega; omega) | (apply w_quoU; rfl; rfl; rfl; omega; omega; omega) | (apply w_remU; rfl; rfl; rfl; omega; omega) | (apply w_minL; rfl; rfl; rfl; omega) | (apply w_minG; rfl; rfl; rfl; omega) | (apply w_min; rfl; rfl; rfl) | (apply w_mfR; rfl; rfl) | (apply w_cvp; rfl; rfl; exact inferInstance; rfl; rfl; assumption) | (apply w_eqS2T; rfl; rfl; rfl; omega) | (apply w_eqS2F; rfl; rfl; rfl; omega) | (apply w_neS2T; rfl; rfl; rfl; omega) | (apply w_neS2F; rfl; rfl; rfl; omega) | (apply w_eqS3T; rfl; rfl; rfl; omega) | (apply w_eqS3F; rfl; rfl; rfl; omega) | (apply w_neS3T; rfl; rfl; rfl; omega) | (apply w_neS3F; rfl; rfl; rfl; omega) | (apply w_eqS3; rfl; rfl; rfl) | (apply w_neS3; rfl; rfl; rfl) | (apply w_eqS2; rfl; rfl; rfl) | (apply w_neS2; rfl; rfl; rfl) | (apply w_maxL; rfl; rfl; rfl; omega) | (apply w_maxG; rfl; rfl; rfl; omega) | (apply w_max; rfl; rfl; rfl) | (apply w_neB; rfl; rfl; rfl; rfl) | (apply w_eqB; rfl; rfl; rfl; rfl) | (apply w_neK; rfl; rfl; rfl; rfl; rfl; exact hk; exact hk; exact (Iff.intro (fun _ => rfl) (fun _ => rfl) : true = true ↔ _)) | refine spl ?_ ?_ | intro hc)
    all_goals first | (exfalso; omega) | skip
    refine C_loopK [4, 6, 7, 56, 57, 58, 59, 60, 61, 62, 63, 64, 65, 66, 67, 68, 69, 70, 71, 72, 73, 74, 75, 76, 77, 78, 79, 80, 81, 82, 83, 84, 85, 86, 87, 88, 89, 90, 91, 92, 93, 94, 95, 96, 97, 98, 99, 100, 101, 102] (fun k : Nat => lib.length - k) (fun k => [(6, int k)]) (fun _ => pt bd 45 [v2, int mu, int qu, u2] :: pt bc 45 [v, int mu, int qu, u] :: R) (fun k => k ≤ lib.length) 0 (Nat.zero_le _) (by (focus ((repeat (first | exact Keep.nil | apply Keep.drop rfl | apply Keep.keep rfl)); done))) (by (exact sbf)) (by (exact frm)) ?_
    intro k hk2
    dsimp only [List.cons_append, List.nil_append]
    by_cases hlt2 : k < lib.length
    · obtain ⟨p, hp, hrd, hpi⟩ := h.row (k := k) hlt2
      obtain ⟨p2, hp2, hrd2, hpi2⟩ := h2.row (k := k) hlt2
      dsimp only at hpi2
      have hpl := hpi.isl
      have hpl2 := hpi2.isl
      have hps := hpi.src
      have hps2 := hpi2.src
      generalize lib[k] = q at *
      have hpN := hpl.len
      (repeat' first | refine stp ?_ | intro v' hv' | intro (b : Nat) | (apply w_convU; rfl; rfl; omega; omega) | (apply w_convI; rfl; rfl; omega; omega) | (apply w_quoU; rfl; rfl; rfl; omega; omega; omega) | (apply w_remU; rfl; rfl; rfl; omega; omega) | (apply w_minL; rfl; rfl; rfl; omega) | (apply w_minG; rfl; rfl; rfl; omega) | (apply w_min; rfl; rfl; rfl) | (apply w_mfR; rfl; rfl) | (apply w_cvp; rfl; rfl; exact inferInstance; rfl; rfl; assumption) | (apply w_eqS2T; rfl; rfl; rfl; omega) | (apply w_eqS2F; rfl; rfl; rfl; omega) | (apply w_neS2T; rfl; rfl; rfl; omega) | (apply w_neS2F; rfl; rfl; rfl; omega) | (apply w_eqS3T; rfl; rfl; rfl; omega) | (apply w_eqS3F; rfl; rfl; rfl; omega) | (apply w_neS3T; rfl; rfl; rfl; omega) | (apply w_neS3F; rfl; rfl; rfl; omega) | (apply w_eqS3; rfl; rfl; rfl) | (apply w_neS3; rfl; rfl; rfl) | (apply w_eqS2; rfl; rfl; rfl) | (apply w_neS2; rfl; rfl; rfl) | (apply w_maxL; rfl; rfl; rfl; omega) | (apply w_maxG; rfl; rfl; rfl; omega) | (apply w_max; rfl; rfl; rfl) | (apply w_neB; rfl; rfl; rfl; rfl) | (apply w_eqB; rfl; rfl; rfl; rfl) | (apply w_neK; rfl; rfl; rfl; rfl; rfl; exact hk; exact hk; exact (Iff.intro (fun _ => rfl) (fun _ => rfl) : true = true ↔ _)) | refine spl ?_ ?_ | intro hc)
      all_goals first | (exfalso; omega) | skip
      refine C_loopK [4, 7, 76, 77, 78, 79, 80, 81, 82, 83, 84, 85, 86, 87, 88, 89, 90, 91, 92, 93, 94, 95, 96, 97, 98, 99, 100, 101, 102] (fun j : Nat => q.length - j) (fun j => [(7, int j)]) (fun _ => pt bd 45 [v2, int mu, int qu, u2] :: pt bc 45 [v, int mu, int qu, u] :: R) (fun j => j ≤ q.length) 0 (Nat.zero_le _) (by (focus ((repeat (first | exact Keep.nil | apply Keep.drop rfl | apply Keep.keep rfl)); done))) (by (exact sbf)) (by (exact frm)) ?_
      intro j hj0
      dsimp only [List.cons_append, List.nil_append]
      by_cases hjl : j < q.length
      · have hra : RdAll R (vb p) (vo p + j * 2) (insE q[j]) := RdAll.srcI hps (by simp [hjl])
        have hrb : RdAll R (vb p2) (vo p2 + j * 2) (insE q[j]) := RdAll.srcI hps2 (by simp [hjl])
        generalize q[j] = x at *
        unfold insE at *
        (repeat' first | refine stp ?_ | intro v' hv' | intro (b : Nat) | (apply w_convU; rfl; rfl; omega; omega) | (apply w_convI; rfl; rfl; omega; omega) | (apply w_quoU; rfl; rfl; rfl; omega; omega; omega) | (apply w_remU; rfl; rfl; rfl; omega; omega) | (apply w_minL; rfl; rfl; rfl; omega) | (apply w_minG; rfl; rfl; rfl; omega) | (apply w_min; rfl; rfl; rfl) | (apply w_mfR; rfl; rfl) | (apply w_cvp; rfl; rfl; exact inferInstance; rfl; rfl; assumption) | (apply w_eqS2T; rfl; rfl; rfl; omega) | (apply w_eqS2F; rfl; rfl; rfl; omega) | (apply w_neS2T; rfl; rfl; rfl; omega) | (apply w_neS2F; rfl; rfl; rfl; omega) | (apply w_eqS3T; rfl; rfl; rfl; omega) | (apply w_eqS3F; rfl; rfl; rfl; omega) | (apply w_neS3T; rfl; rfl; rfl; omega) | (apply w_neS3F; rfl; rfl; rfl; omega) | (apply w_eqS3; rfl; rfl; rfl) | (apply w_neS3; rfl; rfl; rfl) | (apply w_eqS2; rfl; rfl; rfl) | (apply w_neS2; rfl; rfl; rfl) | (apply w_maxL; rfl; rfl; rfl; omega) | (apply w_maxG; rfl; rfl; rfl; omega) | (apply w_max; rfl; rfl; rfl) | (apply w_neB; rfl; rfl; rfl; rfl) | (apply w_eqB; rfl; rfl; rfl; rfl) | (apply w_neK; rfl; rfl; rfl; rfl; rfl; exact hk; exact hk; exact (Iff.intro (fun _ => rfl) (fun _ => rfl) : true = true ↔ _)) | refine spl ?_ ?_ | intro hc)
        all_goals first | (exfalso; omega) | skip
        all_goals exact At_againK (j + 1) hjl (by omega) (by (exact sbf)) (by (exact sbf)) (by (exact frm))
      · have hj' : j = q.length := by omega
        subst hj'
        (repeat' first | refine stp ?_ | intro v' hv' | intro (b : Nat) | (apply w_convU; rfl; rfl; omega; omega) | (apply w_convI; rfl; rfl; omega; omega) | (apply w_quoU; rfl; rfl; rfl; omega; omega; omega) | (apply w_remU; rfl; rfl; rfl; omega; omega) | (apply w_minL; rfl; rfl; rfl; omega) | (apply w_minG; rfl; rfl; rfl; omega) | (apply w_min; rfl; rfl; rfl) | (apply w_mfR; rfl; rfl) | (apply w_cvp; rfl; rfl; exact inferInstance; rfl; rfl; assumption) | (apply w_eqS2T; rfl; rfl; rfl; omega) | (apply w_eqS2F; rfl; rfl; rfl; omega) | (apply w_neS2T; rfl; rfl; rfl; omega) | (apply w_neS2F; rfl; rfl; rfl; omega) | (apply w_eqS3T; rfl; rfl; rfl; omega) | (apply w_eqS3F; rfl; rfl; rfl; omega) | (apply w_neS3T; rfl; rfl; rfl; omega) | (apply w_neS3F; rfl; rfl; rfl; omega) | (apply w_eqS3; rfl; rfl; rfl) | (apply w_neS3; rfl; rfl; rfl) | (apply w_eqS2; rfl; rfl; rfl) | (apply w_neS2; rfl; rfl; rfl) | (apply w_maxL; rfl; rfl; rfl; omega) | (apply w_maxG; rfl; rfl; rfl; omega) | (apply w_max; rfl; rfl; rfl) | (apply w_neB; rfl; rfl; rfl; rfl) | (apply w_eqB; rfl; rfl; rfl; rfl) | (apply w_neK; rfl; rfl; rfl; rfl; rfl; exact hk; exact hk; exact (Iff.intro (fun _ => rfl) (fun _ => rfl) : true = true ↔ _)) | refine spl ?_ ?_ | intro hc)
        all_goals first | (exfalso; omega) | skip
        all_goals exact At_againK (k + 1) hlt2 (by omega) (by (exact sbf)) (by (exact sbf)) (by (exact frm))
    · have hk' : k = lib.length := by omega
      subst hk'
      (repeat' first | refine stp ?_ | intro v' hv' | intro (b : Nat) | (apply w_convU; rfl; rfl; omega; omega) | (apply w_convI; rfl; rfl; omega; omega) | (apply w_quoU; rfl; rfl; rfl; omega; omega; omega) | (apply w_remU; rfl; rfl; rfl; omega; omega) | (apply w_minL; rfl; rfl; rfl; omega) | (apply w_minG; rfl; rfl; rfl; omega) | (apply w_min; rfl; rfl; rfl) | (apply w_mfR; rfl; rfl) | (apply w_cvp; rfl; rfl; exact inferInstance; rfl; rfl; assumption) | (apply w_eqS2T; rfl; rfl; rfl; omega) | (apply w_eqS2F; rfl; rfl; rfl; omega) | (apply w_neS2T; rfl; rfl; rfl; omega) | (apply w_neS2F; rfl; rfl; rfl; omega) | (apply w_eqS3T; rfl; rfl; rfl; omega) | (apply w_eqS3F; rfl; rfl; rfl; omega) | (apply w_neS3T; rfl; rfl; rfl; omega) | (apply w_neS3F; rfl; rfl; rfl; omega) | (apply w_eqS3; rfl; rfl; rfl) | (apply w_neS3; rfl; rfl; rfl) | (apply w_eqS2; rfl; rfl; rfl) | (apply w_neS2; rfl; rfl; rfl) | (apply w_maxL; rfl; rfl; rfl; omega) | (apply w_maxG; rfl; rfl; rfl; omega) | (apply w_max; rfl; rfl; rfl) | (apply w_neB; rfl; rfl; rfl; rfl) | (apply w_eqB; rfl; rfl; rfl; rfl) | (apply w_neK; rfl; rfl; rfl; rfl; rfl; exact hk; exact hk; exact (Iff.intro (fun _ => rfl) (fun _ => rfl) : true = true ↔ _)) | refine spl ?_ ?_ | intro hc)
      all_goals first | (exfalso; omega) | skip
      all_goals (refine At_ret1 (by (first | exact .inl rfl | exact .inr rfl)) Tryd.results20 rfl ⟨by rfl, rfl⟩ (by (exact frm)))
end
/-! ### As they are read -/
section
open Go.WideShapes
set_option maxRecDepth 100000 in
theorem cfg_arg {H : Type} {enc : TypeId × Value → H} {W : World} {d : DataW H} {p : List MemPlace} {x : Value} {base : Nat} (o : Value.okWide Tryd.prog W .any base 45 x) (k : DataW.Trod enc Tryd.prog W 0 (fun _ => true) true 45 x d p) :
    ∃ v u us c, x = .agg (cfE v u c).toArray ∧ @CfIn (baseOf W) [Go.Sep.old W.heap] v u us c := by
  letI := baseOf W
  have dPl : Dec Tryd.prog W 49 plE (fun _ => True) :=
    (dec_struct (w := W) Tryd.underlying49 (by kernel_rfl) (decRow_cons (n := 1) (by kernel_rfl) rfl (dec_i64 Tryd.underlying3) (decRow_cons (n := 1) (by kernel_rfl) rfl (dec_bool Tryd.underlying4) (decRow_cons (n := 1) (by kernel_rfl) rfl (dec_i64 Tryd.underlying3) decRow_nil)))).mono
      (fun x => (⟨x.1, x.2.1, x.2.2.1⟩ : Pl)) (fun _ => rfl) (fun _ _ => trivial)
  have dIns : Dec Tryd.prog W 88 insE (fun _ => True) :=
    (dec_struct (w := W) Tryd.underlying88 (by kernel_rfl) (decRow_cons (n := 1) (by kernel_rfl) rfl (dec_i64 Tryd.underlying3) (decRow_cons (n := 1) (by kernel_rfl) rfl (dec_i64 Tryd.underlying3) decRow_nil))).mono
      (fun x => ⟨x.1, x.2.1⟩) (fun _ => rfl) (fun _ _ => trivial)
  have dDs := dec_slice (w := W) Tryd.underlying42 (n := 3) (by kernel_rfl) (by decide) dPl (fun _ => rfl)
  have dP := dec_slice (w := W) Tryd.underlying86 (n := 2) (by kernel_rfl) (by decide) dIns (fun _ => rfl)
  have dLb := dec_slice (w := W) Tryd.underlying43 (n := 1) (by kernel_rfl) (by decide) dP (fun _ => rfl)
  have dC := dec_struct (w := W) Tryd.underlying45 (by kernel_rfl) (decRow_cons (n := 1) (by kernel_rfl) rfl dDs (decRow_cons (n := 1) (by kernel_rfl) rfl (dec_i64 Tryd.underlying3) (decRow_cons (n := 1) (by kernel_rfl) rfl (dec_i64 Tryd.underlying3) (decRow_cons (n := 1) (by kernel_rfl) rfl dLb decRow_nil))))
  obtain ⟨⟨⟨v, ds⟩, mu, qu, ⟨u, L⟩, z⟩, hx, ⟨hds, -⟩, -, -, ⟨hlb, hall⟩, -⟩ := dC.arg k
  refine ⟨v, u, L.map (·.1), ⟨ds, mu, qu, L.map (·.2)⟩, agg_cells (P := Tryd.prog) (w := W) (.inr ⟨4, by kernel_rfl⟩) o hx, ?_, hds.src, ?_, by simp, ?_, ?_⟩
  · have := hds.isl
    rwa [List.length_map] at this
  · have := hlb.isl
    rw [List.length_map] at this
    show IsSl u (L.map (·.2)).length
    rwa [List.length_map]
  · have := hlb.src (L := [])
    rw [List.map_map]
    exact this
  · intro i p' q h1 h2
    rw [List.getElem?_map] at h1
    have h2' : (L.map (·.2))[i]? = some q := h2
    rw [List.getElem?_map] at h2'
    cases hi : L[i]? with
    | none => rw [hi] at h1; cases h1
    | some y =>
      rw [hi] at h1 h2'
      simp only [Option.map_some, Option.some.injEq] at h1 h2'
      subst h1
      subst h2'
      obtain ⟨hin, -⟩ := hall y (List.mem_of_getElem? hi)
      exact ⟨by have := hin.isl; rwa [List.length_map] at this, hin.src⟩
end
end Go.Proofs.YteggkdlgailfoaaDoor
