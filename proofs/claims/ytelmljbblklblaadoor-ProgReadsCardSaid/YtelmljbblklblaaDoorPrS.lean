/- What the laid variables give. Conditions: none. -/
import Derived.Test.YtelmljbblklblaaDoorRows
import Derived.Test.YtelmljbblklblaaDoorPrG
import Derived.Test.YtelmljbblklblaaDoorPrArgs
import Derived.ProofKit
import Derived.LaidMore
import Derived.OpenShut
import Derived.Stop.Joined
import Derived.Lib.LaidTab
import Derived.LaidHandle
import Derived.SizedLaws
set_option linter.all false
set_option linter.deprecated false
namespace Go.Proofs.YtelmljbblklblaaDoor
open Go.ChangeShapes Go.WideShapes Go.ChangeAt Go.RowKit
def laidL : List (String × DataW Unit) := [("math/bits.deBruijn32tab", Rows.laid_math_bits_deBruijn32tab), ("math/bits.deBruijn64tab", Rows.laid_math_bits_deBruijn64tab), ("internal/strconv.uint64pow10", Rows.laid_internal_strconv_uint64pow10)]
set_option maxRecDepth 100000 in
theorem door_met (os : Os) (args : Array Value) : laidMetH Tryd.prog laidL ((World.doorLaid Tryd.prog 400 os).forCall (fun _ _ => 0) ⟨#[], args, []⟩).memory :=
  laidMetH_of_parts3 (fuel := 8) (laidMet_of_run' 8 (by kernel_rfl) (by kernel_rfl)) (by kernel_rfl) (by kernel_rfl)
set_option maxRecDepth 100000 in
theorem tab_of_laid {W : World} (h : laidMetH Tryd.prog laidL W) : Lib.TabIs Tryd.prog W "internal/strconv.uint64pow10" .u64 Lib.pow10Tab := by
  rw [MakeChecks.laidMetH_plain _ _ _ (by kernel_rfl)] at h
  obtain ⟨ps, ⟨g0, t0, cs0, f0, p0, q0, hg0, ht0, hv0, hd0, ⟨g1, t1, cs1, f1, p1, q1, hg1, ht1, hv1, hd1, ⟨g2, t2, cs2, f2, p2, q2, hg2, ht2, hv2, hd2, _, _⟩, _⟩, _⟩, _, _⟩ := h
  unfold Lib.TabIs
  have e : (Rows.laid_internal_strconv_uint64pow10 : DataW Unit) = Lib.tabData .u64 Lib.pow10Tab := by kernel_rfl
  rw [e] at hd2
  have hg : Tryd.prog.globalNamed "internal/strconv.uint64pow10" = some g2 := hg2
  obtain ⟨t, n, ee, h1, h2, h3, h4, h5⟩ : ∃ t n ee, (Tryd.prog.globalNamed "internal/strconv.uint64pow10").bind (fun g => (Tryd.prog.globals[g]?).map (·.type)) = some t ∧ Tryd.prog.underlying t = some (.array n ee) ∧ Tryd.prog.underlying ee = some (.int .u64) ∧ Tryd.prog.cellsOf ee = 1 ∧ Tryd.prog.cellsOf t = n := ⟨136, 20, 120, by kernel_rfl, by kernel_rfl, by kernel_rfl, by kernel_rfl, by kernel_rfl⟩
  rw [hg] at h1
  have h6 : t2 = t := Option.some.inj (ht2.symm.trans h1)
  subst h6
  rw [hv2, ← Lib.cells_of_tab h2 h3 h4 h5 hd2]
theorem hasV_old {W : World} (h : laidMetH Tryd.prog laidL W) : @HasV (Sep.baseOf W) [Go.Sep.old W.heap] := by
  letI := Sep.baseOf W
  refine ⟨fun w hs => ?_⟩
  have h1 := tab_of_laid h
  unfold Lib.TabIs at h1 ⊢
  have hb := Sep.Sat.below (R := []) hs
  have hg : Tryd.prog.globalNamed "internal/strconv.uint64pow10" = some 3 := by kernel_rfl
  unfold World.var? at h1 ⊢
  rw [hg] at h1 ⊢
  simp only [Option.bind_some] at h1 ⊢
  have hlt : 3 < W.heap.size := by
    rcases Nat.lt_or_ge 3 W.heap.size with h | h
    · exact h
    · rw [Array.getElem?_eq_none h] at h1; cases h1
  rw [hb.block 3 hlt]; exact h1
theorem prog_size {H : Type} {enc : TypeId × Value → H} {W : World} {d : DataW H} {p : List MemPlace} {v : Value} {n : Nat} (k : DataW.Trod enc Tryd.prog W 0 (fun _ => true) true 22 v d p)
    (hz : (DataW.weightsEach Tryd.prog [22] [d]).all (· ≤ reachBytes) = true) (hi : Sep.IsSl v n) : n * 16 ≤ 140737488355328 := by
  obtain ⟨m, hm⟩ := k
  obtain ⟨ao, cap0, rfl, hc, _, hn, _⟩ := hi
  have hb : Tryd.prog.bytesOf 27 = 16 := by kernel_rfl
  rcases DataW.trod_slice Tryd.underlying22 hm with ⟨hcs, hx⟩ | ⟨a, len, cap, elems, rest, q, _, hcs, hx, _, _, _, hlen, _⟩
  · have e : Value.slice ao n cap0 = .slice none 0 0 := by simpa [Value.cells] using hcs
    injection e with _ e2 _
    omega
  · have e : Value.slice ao n cap0 = .slice (some a) len cap := by simpa [Value.cells] using hcs
    injection e with _ e2 _
    have e3 := congrArg Prod.fst hx
    dsimp only at e3
    subst e3
    have := sized_slice hz (j := 0) rfl rfl Tryd.underlying22
    rw [hb] at this
    have h4 := reachBytes_lt
    simp only [List.length_map] at this
    have : n * 16 ≤ reachBytes := by
      subst e2; rw [← hlen]
      exact Nat.le_trans (Nat.mul_le_mul_right _ (Nat.le_add_right _ _)) this
    omega
end Go.Proofs.YtelmljbblklblaaDoor
