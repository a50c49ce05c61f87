/- ScriptConfigs: for every input the law returns true, and its arguments read as before; the card: tied to the program's text. Conditions: the listed variables lie as the program lays them. -/
import Derived.Test.YteggkdlgailfoaaDoorRows
import Derived.Test.YteggkdlgailfoaaDoorCards
import Derived.Test.YteggkdlgailfoaaDoorTie
import Derived.Test.YteggkdlgailfoaaDoorST
import Derived.Test.YteggkdlgailfoaaDoorQsB
import Derived.Test.YteggkdlgailfoaaDoorOpen
import Derived.WalkKit
import Derived.ProofKit
import Derived.OpenShut
import Derived.ShutString
import Derived.ChangeOld
import Derived.Below
import Derived.SevenTiedAt
namespace Go.Proofs.YteggkdlgailfoaaDoor.scriptConfigs
open Go.ChangeShapes Go.WideShapes Go.ChangeAt Go.RowKit Go.Sep
set_option linter.all false
set_option linter.deprecated false

theorem own : ownKnob Tryd.prog.godebug = none := by kernel_rfl
theorem laidOut : laidOutB Tryd.prog = true := by kernel_rfl

set_option maxRecDepth 100000 in
/-- The call. -/
theorem walk {H : Type} {enc : TypeId × Value → H} {base : Nat} (W : World) (hL : laidMetH Tryd.prog laidM W) (hsh : W.ShapedOpen Tryd.prog) (v0 v1 : Value) (d0 : DataW H) (p0 : List MemPlace) (d1 : DataW H) (p1 : List MemPlace)
    (o0 : Value.okWide Tryd.prog W .any base 45 v0) (o1 : Value.okWide Tryd.prog W .any base 9 v1)
    (k0 : DataW.Trod enc Tryd.prog W 0 (fun _ => true) true 45 v0 d0 p0) (k1 : DataW.Trod enc Tryd.prog W 0 (fun _ => true) true 9 v1 d1 p1) :
    Calls Tryd.prog 5 #[v0, v1] W fun e w' => e = .returned (.bool true) ∧ Below W.heap.size W w' := by
  letI := baseOf W
  haveI := hasP_old (varsP_of_laid hL hsh)
  obtain ⟨v, u, us, c, rfl, h⟩ := cfg_arg o0 k0
  obtain ⟨b, rfl⟩ := okWide_string Tryd.underlying9 o1
  rw [← Lib.mk_data b]
  exact Called.frame (vs := [.agg (cfE v u c).toArray, str b.data.toList]) ((ScriptConfigs_ok v u us c b.data.toList _ h).sat (fun _ h => h) (fun u M hM => ⟨M, ⟨hM.1, [], hM.2⟩, fun _ h => h⟩))

set_option maxRecDepth 100000 in
theorem lifted (os : Os) (started : os.Started) (H : Type) (enc : TypeId × Value → H) :
    ReturnsInHanded {} Tryd.checked os 5 .any (fun w args => (Rows.scriptConfigsSpec.pre enc Tryd.prog Tryd.f5 [] false w args ∧ laidMetH Tryd.prog laidM w) ∧ sizedMet enc Tryd.prog Tryd.f5 (OpenSpec.ofChange Rows.scriptConfigsSpec) false w args) (Rows.scriptConfigsSpec.post enc Tryd.prog Tryd.f5 false true false false) := by
  refine handed_shaped (laid := laidM) own started (by kernel_rfl) Tryd.func5
    (ChangeSpec.witness_shaped (enc := enc) (C := Tryd.checked) (os := os) (X := fun w _ => laidMetH Tryd.prog laidM w) false (World.laidAll Tryd.prog os laidM) #[.agg #[.slice none 0 0, .int .i64 0, .int .i64 0, .slice none 0 0], .string ⟨#[]⟩] 8 (World.laidAll_os _ _ _) (door_shape os _) (by kernel_rfl) (by kernel_rfl) (by kernel_rfl) (door_metM os _)) ?_
  intro W base args ds gs before hval0 hW hsz hL hsh
  have hval : ∀ (j : Nat) t v, Tryd.f5.params[j]? = some t → args[j]? = some v → Value.okWide Tryd.prog W .any base t v := hval0
  have hW' := hW
  obtain ⟨p, q, hA0, hV, rfl, hfz, hnd⟩ := hW
  have hA : DataW.TrodAll enc Tryd.prog W 0 (fun _ => true) true Tryd.f5.params.toList args.toList ds p := hA0
  rw [Tryd.params5] at hA hval
  obtain ⟨v0, vs0, d0, ds0, p0, q0, hargs, rfl, rfl, h0, r0⟩ := trodAll_cons hA
  obtain ⟨v1, vs1, d1, ds1, p1, q1, rfl, rfl, rfl, h1, r1⟩ := trodAll_cons r0
  obtain ⟨rfl, rfl, rfl⟩ := trodAll_nil r1
  obtain rfl : args = #[v0, v1] := by cases args; simp_all
  obtain ⟨rfl, rfl⟩ := trodVars_none hV
  have lt0 : ∀ x ∈ p0, x.block < W.heap.size := by obtain ⟨m, hm⟩ := h0; exact DataW.trod_lt m _ _ _ hm
  have lt1 : ∀ x ∈ p1, x.block < W.heap.size := by obtain ⟨m, hm⟩ := h1; exact DataW.trod_lt m _ _ _ hm
  clear hA0 hval0
  refine (walk W hL hsh v0 v1 d0 p0 d1 p1 (hval 0 45 v0 rfl rfl) (hval 1 9 v1 rfl rfl) h0 h1).mono fun e W' ⟨he, bel⟩ => ?_
  subst he
  exact ⟨_, rfl, _, _, _, [], _, [], hW', trodAll_mk1 (shut_bool Tryd.underlying4 _), (trodAll_cons_mk (Below.trod laidOut (by kernel_rfl) (of_decide_eq_true (by kernel_rfl)) h0 bel lt0) (trodAll_cons_mk (Below.trod laidOut (by kernel_rfl) (of_decide_eq_true (by kernel_rfl)) h1 bel lt1) trodAll_mk0)), rfl, bel.frame _, fun h => by cases h⟩

theorem over : Rows.scriptConfigsRow.holds Tryd.pinned (OpenSpec.ofChange Rows.scriptConfigsSpec) :=
  OpenClaim.holds_of_wide 5 Tryd.f5 rfl rfl rfl rfl rfl rfl rfl ⟨rfl, rfl, rfl, rfl, rfl⟩ rfl rfl rfl rfl rfl (by kernel_rfl) Tryd.func5 (by kernel_rfl)
    (of_decide_eq_true (by kernel_rfl)) (by unfold Func.isWrapper; first | (rw [if_pos (by decide +kernel)]; kernel_rfl) | (rw [if_neg (by decide +kernel)]; exact ⟨rfl, rfl⟩))
    (fun os started H enc _ => lifted os started H enc)

set_option maxRecDepth 100000 in
/-- The card. -/
theorem proved : Rows.ScriptConfigsCardSaid :=
  Claim7.holds_tied_plain_at .later [] [.data,.data,.data,.data,.sentinel,.sentinel,.pinned] true (true, "cf71a2284f0e6773e4268fa1b92ac55b7bf57caecbb3fcf4f7a0cee866a03bde") true over (fun _ h => by cases h) (by kernel_rfl) (fun _ h => by cases h) scriptConfigs_row_tie rfl ⟨rfl, rfl⟩ (by kernel_rfl) rfl
    (fun f fn hf hfn => by
      obtain rfl : f = 5 := Option.some.inj ((show Tryd.prog.funcNamed "metronome/metronomelaw22.ScriptConfigs" = some 5 by kernel_rfl).symm.trans hf) |>.symm
      obtain rfl : fn = Tryd.f5 := (Option.some.inj (Tryd.func5.symm.trans hfn)).symm
      exact ⟨by kernel_rfl, fun j t ht => by
        rw [Tryd.params5] at ht
        have key : (#[45, 9] : Array TypeId).toList.all (fun t => !Tryd.prog.wantsStandIn t) = true := by kernel_rfl
        have hm : t ∈ (#[45, 9] : Array TypeId).toList := by
          rw [← Array.getElem?_toList] at ht
          exact List.mem_of_getElem? ht
        have := List.all_eq_true.1 key t hm
        have h9 : Tryd.prog.wantsStandIn t = false := by simpa using this
        exact h9⟩)
    (by kernel_rfl)
#print axioms proved
end Go.Proofs.YteggkdlgailfoaaDoor.scriptConfigs
