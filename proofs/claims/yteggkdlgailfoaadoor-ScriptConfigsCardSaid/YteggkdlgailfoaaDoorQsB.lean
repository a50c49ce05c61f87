/- What the laid variables give to the reading of a text. Conditions: none. -/
import Derived.Test.YteggkdlgailfoaaDoorRows
import Derived.ProofKit
import Derived.LaidMore
import Derived.Lay
import Derived.OpenShut
import Derived.Stop.Joined
import Derived.Lib.LaidTab
import Derived.LaidHandle
import Derived.SizedLaws
import Derived.Test.YteggkdlgailfoaaDoorShelfB
import Derived.Test.YteggkdlgailfoaaDoorQsA
import Derived.Stop.LaidErr
import Derived.Shelf.Strconv.AtoiAll
import Derived.Handed
import Derived.Test.YteggkdlgailfoaaDoorOpen
set_option linter.all false
set_option linter.deprecated false
namespace Go.Proofs.YteggkdlgailfoaaDoor
open Go.ChangeShapes Go.WideShapes Go.ChangeAt Go.RowKit
def laidM : List (String × DataW Unit) := [("math/bits.deBruijn32tab", Rows.laid_math_bits_deBruijn32tab), ("math/bits.deBruijn64tab", Rows.laid_math_bits_deBruijn64tab), ("internal/strconv.uint64pow10", Rows.laid_internal_strconv_uint64pow10), ("unicode/utf8.acceptRanges", Rows.laid_unicode_utf8_acceptRanges), ("strconv.ErrRange", Rows.laid_strconv_ErrRange), ("strconv.ErrSyntax", Rows.laid_strconv_ErrSyntax), ("unicode/utf8.first", Rows.laid_unicode_utf8_first)]
set_option maxRecDepth 100000 in
theorem door_metM (os : Os) (args : Array Value) : laidMetH Tryd.prog laidM ((World.laidAll Tryd.prog os laidM).forCall (fun _ _ => 0) ⟨#[], args, []⟩).memory := by
  rw [MakeChecks.laidMetH_plain _ _ _ (by kernel_rfl)]
  exact laidMet_laidAll _ (by kernel_rfl) (by kernel_rfl)
set_option maxRecDepth 100000 in
theorem door_shape (os : Os) (args : Array Value) : ((World.laidAll Tryd.prog os laidM).forCall (fun _ _ => 0) ⟨#[], args, []⟩).Shaped Tryd.checked.prog := World.shaped_of_ZipB (by kernel_rfl) (by kernel_rfl)
/-- What the reading of a text asks of the variables. -/
structure VarsP (w : World) : Prop where
  tab : Lib.TabIs Tryd.prog w "internal/strconv.uint64pow10" .u64 Lib.pow10Tab
  most : ∃ m, w.cell? ⟨0, 0, none⟩ = some (.int .i64 m)
  syn : ∃ te pe, w.cell? ⟨1, 0, none⟩ = some (.iface te pe)
  ran : ∃ te pe, w.cell? ⟨2, 0, none⟩ = some (.iface te pe)
theorem star_err : "*" ++ "errors.errorString" = "*errors.errorString" := by decide
theorem row_err (u : TypeId) (h : Tryd.prog.typeName? 3 u = some "*errors.errorString") : u = 159 :=
  typeName_ptr_named (nm := "errors.errorString") (by rw [star_err]; kernel_rfl) (by kernel_rfl) (by decide) u (by rw [star_err]; exact h)
set_option maxRecDepth 100000 in
theorem varsP_of_laid {W : World} (h : laidMetH Tryd.prog laidM W) (hsh : W.ShapedOpen Tryd.prog) : VarsP W := by
  rw [MakeChecks.laidMetH_plain _ _ _ (by kernel_rfl)] at h
  have h3 := h.tail.tail.tail.tail
  have h4 := h3.tail
  have hgR : Tryd.prog.globalNamed "strconv.ErrRange" = some 2 := by kernel_rfl
  have hgS : Tryd.prog.globalNamed "strconv.ErrSyntax" = some 1 := by kernel_rfl
  obtain ⟨a2, s2, hv2, _, _, _⟩ := laid_sentinel h3 hgR (by kernel_rfl) Tryd.underlying75 row_err Tryd.underlying159 Tryd.underlying161 rfl rfl Tryd.underlying9 (by kernel_rfl) (by kernel_rfl)
  obtain ⟨a1, s1, hv1, _, _, _⟩ := laid_sentinel h4 hgS (by kernel_rfl) Tryd.underlying75 row_err Tryd.underlying159 Tryd.underlying161 rfl rfl Tryd.underlying9 (by kernel_rfl) (by kernel_rfl)
  refine ⟨?_, ?_, ?_, ?_⟩
  · obtain ⟨ps, ⟨g0, t0, cs0, f0, p0, q0, hg0, ht0, hv0, hd0, ⟨g1, t1, cs1, f1, p1, q1, hg1, ht1, hv1, hd1, ⟨g2, t2, cs2, f2, p2, q2, hg2, ht2, hv2, hd2, _, _⟩, _⟩, _⟩, _, _⟩ := h
    unfold Lib.TabIs
    have e : (Rows.laid_internal_strconv_uint64pow10 : DataW Unit) = Lib.tabData .u64 Lib.pow10Tab := by kernel_rfl
    rw [e] at hd2
    have hg : Tryd.prog.globalNamed "internal/strconv.uint64pow10" = some g2 := hg2
    obtain ⟨t, n, ee, h1, h2, h3, h4, h5⟩ : ∃ t n ee, (Tryd.prog.globalNamed "internal/strconv.uint64pow10").bind (fun g => (Tryd.prog.globals[g]?).map (·.type)) = some t ∧ Tryd.prog.underlying t = some (.array n ee) ∧ Tryd.prog.underlying ee = some (.int .u64) ∧ Tryd.prog.cellsOf ee = 1 ∧ Tryd.prog.cellsOf t = n := ⟨162, 20, 139, by kernel_rfl, by kernel_rfl, by kernel_rfl, by kernel_rfl, by kernel_rfl⟩
    rw [hg] at h1
    have h6 : t2 = t := Option.some.inj (ht2.symm.trans h1)
    subst h6
    rw [hv2, ← Lib.cells_of_tab h2 h3 h4 h5 hd2]
  · exact Go.Proofs.cell_of_shapedOpen_int (zero := #[.int .i64 0]) (t := 3) hsh (of_decide_eq_true (by kernel_rfl)) (by kernel_rfl) rfl (by kernel_rfl) (by kernel_rfl) Tryd.underlying3
  · exact ⟨_, _, by simpa using World.var?_cell hgS hv1 0⟩
  · exact ⟨_, _, by simpa using World.var?_cell hgR hv2 0⟩
section
variable [B0 : Sep.Base]
open Go.Sep
class HasP (R : List HP) : Prop where
  out : ∀ w, Sat w R → VarsP w
instance hasP_cons {A : HP} {R : List HP} [h : HasP R] : HasP (A :: R) := ⟨fun w hs => h.out w hs.drop⟩
instance hasP_und {b : Nat} {R : List HP} [h : HasP R] : HasP [und b R] := ⟨fun w hs => h.out w (sat_und_out hs)⟩
theorem hasP_all {R X : List HP} (h : HasP R) : HasP (Sep.all R :: X) := ⟨fun w hs => h.out w hs.all_left⟩
instance (priority := 50) hasP_V {R : List HP} [h : HasP R] : HasV R := ⟨fun w hs => (h.out w hs).tab⟩
theorem Cut_ok (s m : List UInt8) (R : List HP) [h : HasP R] (hs : s.length < 4294967281) : Called Tryd.prog 42 [str s, str m] R (is (.tuple #[str (Lib.cut s m).1, str (Lib.cut s m).2.1, .bool (Lib.cut s m).2.2]) R) := ⟨fun w hw => by
  obtain ⟨k, hk⟩ := (h.out w hw).most
  refine (Tryd.strings_Cut ⟨s.toArray⟩ ⟨m.toArray⟩ k w (by show s.toArray.size < _; simpa using hs) hk).mono fun e w' ⟨he, n, hw'⟩ => ⟨_, he, _, ⟨rfl, rfl⟩, ?_⟩
  subst hw'
  exact sat_kept hw ⟨rfl, rfl, rfl, Nat.le_refl _, fun _ _ => rfl⟩⟩
theorem Count_ok (s : List UInt8) (c : UInt8) (R : List HP) : Called Tryd.prog 64 [str s, str [c]] R (is (int (s.count c : Nat)) R) := ⟨fun w hw => by
  refine (Tryd.strings_Count_one ⟨s.toArray⟩ c w).mono fun e w' ⟨he, hw'⟩ => ⟨_, he, _, ⟨rfl, rfl⟩, by subst hw'; exact hw⟩⟩
theorem Trim_ok (s m : List UInt8) (R : List HP) (hs : s.length ≤ 9223372036854775807) : Called Tryd.prog 51 [str s, str m] R (is (str (Lib.trimSuffix s m)) R) := ⟨fun w hw => by
  refine (Tryd.strings_TrimSuffix ⟨s.toArray⟩ ⟨m.toArray⟩ w (by show s.toArray.size ≤ _; simpa using hs)).mono fun e w' ⟨he, hw'⟩ => ⟨_, he, _, ⟨rfl, rfl⟩, by subst hw'; exact hw⟩⟩
theorem IndexB_ok (s : List UInt8) (R : List HP) : Called Tryd.prog 49 [str s, .int .u8 10] R (is (int (Lib.indexByte s 10)) R) := ⟨fun w hw => by
  refine (Tryd.strings_IndexByte ⟨s.toArray⟩ 10 w).mono fun e w' ⟨he, hw'⟩ => ⟨_, he, _, ⟨rfl, rfl⟩, by subst hw'; exact hw⟩⟩
theorem Atoi_ok (s : List UInt8) (R : List HP) [h : HasP R] (hs : s.length ≤ 281474976710656) : Called Tryd.prog 52 [str s] R (fun u M => ∃ e, u = .tuple #[int (atoiV s), e] ∧ M = R) := ⟨fun w hw => by
  have hv := h.out w hw
  have hz : (ByteArray.mk s.toArray).size ≤ 281474976710656 := by show s.toArray.size ≤ _; simpa using hs
  unfold atoiV
  rcases hA : Lib.atoiAll s with v | _ | _
  · refine (Any.strconv_Atoi_ok Tryd.laysC172 ⟨s.toArray⟩ (by omega) v hA w).mono fun e w' ⟨he, hw'⟩ => ⟨_, he, _, ⟨_, rfl, rfl⟩, ?_⟩
    rcases hw' with rfl | ⟨t, rfl⟩
    · exact hw
    · exact sat_kept hw ⟨rfl, rfl, rfl, by rw [Lib.bytesWorld_size]; omega, fun j hj => Lib.bytesWorld_at_old w _ t j hj⟩
  · obtain ⟨te, pe, hc⟩ := hv.syn
    exact (Any.strconv_Atoi_syntax Tryd.laysC172 ⟨s.toArray⟩ hz hA (.iface te pe) w hc (.inr ⟨te, pe, rfl⟩)).mono fun e w' ⟨N, he, _, _, hb⟩ => ⟨_, he, _, ⟨_, rfl, rfl⟩, sat_kept hw hb⟩
  · obtain ⟨te, pe, hc⟩ := hv.ran
    exact (Any.strconv_Atoi_range Tryd.laysC172 ⟨s.toArray⟩ hz hA (.iface te pe) w hc (.inr ⟨te, pe, rfl⟩)).mono fun e w' ⟨N, he, _, _, hb⟩ => ⟨_, he, _, ⟨_, rfl, rfl⟩, sat_kept hw hb⟩⟩
end
theorem hasP_old {W : World} (h : VarsP W) : @HasP (Sep.baseOf W) [Go.Sep.old W.heap] := by
  letI := Sep.baseOf W
  refine ⟨fun w hs => ?_⟩
  have hc : ∀ {a : Addr} {v : Value}, W.cell? a = some v → w.cell? a = some v := fun ha => Sep.old_cell hs rfl ha
  have hb := Sep.Sat.below (R := []) hs
  obtain ⟨h1, ⟨m, h2⟩, ⟨te, pe, h3⟩, ⟨ue, qe, h4⟩⟩ := h
  refine ⟨?_, ⟨m, hc h2⟩, ⟨te, pe, hc h3⟩, ⟨ue, qe, hc h4⟩⟩
  unfold Lib.TabIs at h1 ⊢
  have hg : Tryd.prog.globalNamed "internal/strconv.uint64pow10" = some 5 := by kernel_rfl
  unfold World.var? at h1 ⊢
  rw [hg] at h1 ⊢
  simp only [Option.bind_some] at h1 ⊢
  have hlt : 5 < W.heap.size := by
    rcases Nat.lt_or_ge 5 W.heap.size with h | h
    · exact h
    · rw [Array.getElem?_eq_none h] at h1; cases h1
  rw [hb.block 5 hlt]; exact h1
set_option maxRecDepth 100000 in
/-- From a contract of a law that is told the world's shape, to what its row asks. -/
theorem handed_shaped {H : Type} {enc : TypeId × Value → H} {os : Os} {f : FuncId} {fn : Func} {s : ChangeSpec} {laid : List (String × DataW Unit)} {fresh handsOn again : Bool}
    (own : ownKnob Tryd.checked.prog.godebug = none) (started : os.Started) (noInit : Tryd.checked.prog.inits.idxOf? f = none) (hfn : Tryd.checked.prog.funcs[f]? = some fn)
    (witness : ∃ (w : World) (tape : Tape) (i : Input), w.os = os ∧ (w.forCall tape i).Shaped Tryd.checked.prog ∧ i.vars = [] ∧ Input.okWide Tryd.checked.prog (w.forCall tape i) .any w.heap.size f i ∧
      ((s.pre enc Tryd.checked.prog fn [] false (w.forCall tape i).memory i.args ∧ laidMetH Tryd.checked.prog laid (w.forCall tape i).memory) ∧ sizedMet enc Tryd.checked.prog fn (OpenSpec.ofChange s) false (w.forCall tape i).memory i.args) ∧ ({} : Assume).holds Tryd.checked.prog (lone (Frame.enter Tryd.checked.prog f i.args .normal) [] (w.forCall tape i)))
    (walk : ∀ (W : World) (base : Nat) (args : Array Value) (ds gs : List (DataW H)) (before : List MemPlace),
      (∀ (j : Nat) t v, fn.params[j]? = some t → args[j]? = some v → Value.okWide Tryd.checked.prog W .any base t v) →
      DataW.Whole enc Tryd.checked.prog fn.params.toList s.vars false W args.toList ds gs before →
      (DataW.weightsEach Tryd.checked.prog (fn.params.toList ++ s.plain.varTypes Tryd.checked.prog) (ds ++ gs)).all (· ≤ reachBytes) = true →
      laidMetH Tryd.checked.prog laid W → W.ShapedOpen Tryd.checked.prog →
      Calls Tryd.checked.prog f args W fun e W' => ∃ v, e = .returned v ∧ s.post enc Tryd.checked.prog fn false fresh handsOn again W args v W') :
    ReturnsInHanded {} Tryd.checked os f .any (fun w args => (s.pre enc Tryd.checked.prog fn [] false w args ∧ laidMetH Tryd.checked.prog laid w) ∧ sizedMet enc Tryd.checked.prog fn (OpenSpec.ofChange s) false w args) (s.post enc Tryd.checked.prog fn false fresh handsOn again) :=
  returnsInHanded_of_calls own started noInit witness fun w tape i _ hsh _ hok hpre _ => by
    obtain ⟨_, _, _, fn2, hfn2, _, _, _, _, hval⟩ := hok
    cases Option.some.inj (hfn2.symm.trans hfn)
    obtain ⟨⟨⟨ds, gs, before, hw, _⟩, hx⟩, hz⟩ := hpre
    exact (walk (w.forCall tape i) w.heap.size i.args ds gs before hval (DataW.Whole.of_heap (w' := w.forCall tape i) (by rfl) hw) (hz.weights hw) (hx.of_heap (by rfl)) hsh).mono fun e W' ⟨v, he, hp⟩ => by
      subst he
      exact ChangeSpec.post_blind hp
end Go.Proofs.YteggkdlgailfoaaDoor
