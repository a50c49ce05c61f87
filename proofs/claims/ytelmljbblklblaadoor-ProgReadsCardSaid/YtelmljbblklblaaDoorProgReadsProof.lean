/- ProgReads: for every input the law returns true, and its arguments read as before; the card: tied to the program's text. Conditions: the listed variables lie as the program lays them. -/
import Derived.Test.YtelmljbblklblaaDoorRows
import Derived.Test.YtelmljbblklblaaDoorCards
import Derived.Test.YtelmljbblklblaaDoorTie
import Derived.Test.YtelmljbblklblaaDoorPsH
import Derived.Test.YtelmljbblklblaaDoorPsB
import Derived.Test.YtelmljbblklblaaDoorOpen
import Derived.WalkKit
import Derived.ProofKit
import Derived.OpenShut
import Derived.ShutString
import Derived.ChangeOld
import Derived.Below
import Derived.SevenTiedAt
namespace Go.Proofs.YtelmljbblklblaaDoor.progReads
open Go.ChangeShapes Go.WideShapes Go.ChangeAt Go.RowKit Go.Sep
set_option linter.all false
set_option linter.deprecated false

theorem own : ownKnob Tryd.prog.godebug = none := by kernel_rfl
theorem laidOut : laidOutB Tryd.prog = true := by kernel_rfl

set_option maxRecDepth 100000 in
/-- The call. -/
theorem walk {H : Type} {enc : TypeId × Value → H} {base : Nat} (W : World) (hL : laidMetH Tryd.prog laidM W) (hsh : W.ShapedOpen Tryd.prog) (v0 : Value) (d0 : DataW H) (p0 : List MemPlace)
    (o0 : Value.okWide Tryd.prog W .any base 9 v0)
    (k0 : DataW.Trod enc Tryd.prog W 0 (fun _ => true) true 9 v0 d0 p0) :
    Calls Tryd.prog 7 #[v0] W fun e w' => e = .returned (.bool true) ∧ Below W.heap.size W w' := by
  letI := baseOf W
  haveI := hasP_old (varsP_of_laid hL hsh)
  obtain ⟨b, rfl⟩ := okWide_string Tryd.underlying9 o0
  rw [← Lib.mk_data b]
  exact Called.frame (vs := [str b.data.toList]) ((ProgReads_ok b.data.toList _).sat (fun _ h => h) (fun u M hM => ⟨M, ⟨hM.1, [], hM.2⟩, fun _ h => h⟩))

set_option maxRecDepth 100000 in
theorem lifted (os : Os) (started : os.Started) (H : Type) (enc : TypeId × Value → H) :
    ReturnsInHanded {} Tryd.checked os 7 .any (fun w args => (Rows.progReadsSpec.pre enc Tryd.prog Tryd.f7 [] false w args ∧ laidMetH Tryd.prog laidM w) ∧ sizedMet enc Tryd.prog Tryd.f7 (OpenSpec.ofChange Rows.progReadsSpec) false w args) (Rows.progReadsSpec.post enc Tryd.prog Tryd.f7 false true false false) := by
  refine handed_shaped (laid := laidM) own started (by kernel_rfl) Tryd.func7
    (ChangeSpec.witness_shaped (enc := enc) (C := Tryd.checked) (os := os) (X := fun w _ => laidMetH Tryd.prog laidM w) false (World.doorLaid Tryd.prog 400 os) #[.string ⟨#[]⟩] 8 rfl (World.shaped_of_RefB (by kernel_rfl) (by kernel_rfl)) (by kernel_rfl) (by kernel_rfl) (by kernel_rfl) (door_metM os _)) ?_
  intro W base args ds gs before hval0 hW hsz hL hsh
  have hval : ∀ (j : Nat) t v, Tryd.f7.params[j]? = some t → args[j]? = some v → Value.okWide Tryd.prog W .any base t v := hval0
  have hW' := hW
  obtain ⟨p, q, hA0, hV, rfl, hfz, hnd⟩ := hW
  have hA : DataW.TrodAll enc Tryd.prog W 0 (fun _ => true) true Tryd.f7.params.toList args.toList ds p := hA0
  rw [Tryd.params7] at hA hval
  obtain ⟨v0, vs0, d0, ds0, p0, q0, hargs, rfl, rfl, h0, r0⟩ := trodAll_cons hA
  obtain ⟨rfl, rfl, rfl⟩ := trodAll_nil r0
  obtain rfl : args = #[v0] := by cases args; simp_all
  obtain ⟨rfl, rfl⟩ := trodVars_none hV
  have lt0 : ∀ x ∈ p0, x.block < W.heap.size := by obtain ⟨m, hm⟩ := h0; exact DataW.trod_lt m _ _ _ hm
  clear hA0 hval0
  refine (walk W hL hsh v0 d0 p0 (hval 0 9 v0 rfl rfl) h0).mono fun e W' ⟨he, bel⟩ => ?_
  subst he
  exact ⟨_, rfl, _, _, _, [], _, [], hW', trodAll_mk1 (shut_bool Tryd.underlying4 _), (trodAll_cons_mk (Below.trod laidOut (by kernel_rfl) (of_decide_eq_true (by kernel_rfl)) h0 bel lt0) trodAll_mk0), rfl, bel.frame _, fun h => by cases h⟩

theorem over : Rows.progReadsRow.holds Tryd.pinned (OpenSpec.ofChange Rows.progReadsSpec) :=
  OpenClaim.holds_of_wide 7 Tryd.f7 rfl rfl rfl rfl rfl rfl rfl ⟨rfl, rfl, rfl, rfl, rfl⟩ rfl rfl rfl rfl rfl (by kernel_rfl) Tryd.func7 (by kernel_rfl)
    (of_decide_eq_true (by kernel_rfl)) (by unfold Func.isWrapper; first | (rw [if_pos (by decide +kernel)]; kernel_rfl) | (rw [if_neg (by decide +kernel)]; exact ⟨rfl, rfl⟩))
    (fun os started H enc _ => lifted os started H enc)

set_option maxRecDepth 100000 in
/-- The card. -/
theorem proved : Rows.ProgReadsCardSaid :=
  Claim7.holds_tied_plain_at .later [] [.data,.data,.data,.sentinel,.sentinel] true (true, "f92560a58273a42bce1937f86dd63e8b3b481fce39f12dd3ff6fe12a09cb3642") true over (fun _ h => by cases h) (by kernel_rfl) (fun _ h => by cases h) progReads_row_tie rfl ⟨rfl, rfl⟩ (by kernel_rfl) rfl
    (fun f fn hf hfn => by
      obtain rfl : f = 7 := Option.some.inj ((show Tryd.prog.funcNamed "metronome/metronomelaw16.ProgReads" = some 7 by kernel_rfl).symm.trans hf) |>.symm
      obtain rfl : fn = Tryd.f7 := (Option.some.inj (Tryd.func7.symm.trans hfn)).symm
      exact ⟨by kernel_rfl, fun j t ht => by
        rw [Tryd.params7] at ht
        have key : (#[9] : Array TypeId).toList.all (fun t => !Tryd.prog.wantsStandIn t) = true := by kernel_rfl
        have hm : t ∈ (#[9] : Array TypeId).toList := by
          rw [← Array.getElem?_toList] at ht
          exact List.mem_of_getElem? ht
        have := List.all_eq_true.1 key t hm
        have h9 : Tryd.prog.wantsStandIn t = false := by simpa using this
        exact h9⟩)
    (by kernel_rfl)
#print axioms proved
end Go.Proofs.YtelmljbblklblaaDoor.progReads
