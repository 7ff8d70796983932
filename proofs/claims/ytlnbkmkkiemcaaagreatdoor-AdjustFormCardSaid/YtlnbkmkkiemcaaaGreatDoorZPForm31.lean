/- Part of a proof that a Go function answers true for every input. No condition. -/
import Derived.Test.YtlnbkmkkiemcaaaGreatDoorC5
import Derived.Test.YtlnbkmkkiemcaaaGreatDoorRows
import Derived.ProofKit
import Derived.Test.YtlnbkmkkiemcaaaGreatDoorCards
import Derived.Test.YtlnbkmkkiemcaaaGreatDoorTie
import Derived.LaidMore
import Derived.OpenShut
import Derived.Stop.Joined
import Derived.SevenTiedAt
set_option linter.unusedVariables false
set_option linter.unusedSimpArgs false
set_option linter.unusedSectionVars false
/- For every input AdjustForm answers true, and its arguments read behind the call as before. No condition. -/
namespace Go.Proofs.YtlnbkmkkiemcaaaGreatDoor
open Go.ChangeShapes Go.WideShapes Go.ChangeAt Go.RowKit
theorem adjustForm_own : ownKnob Tryz.prog.godebug = none := by kernel_rfl
theorem adjustForm_laid : laidOutB Tryz.prog = true := by kernel_rfl
abbrev adjustForm_l : List (String × DataW Unit) := [("math/bits.deBruijn32tab", Rows.laid_math_bits_deBruijn32tab), ("math/bits.deBruijn64tab", Rows.laid_math_bits_deBruijn64tab), ("internal/strconv.uint64pow10", Rows.laid_internal_strconv_uint64pow10)]
theorem adjustForm_met (os : Os) (args : Array Value) : laidMetH Tryz.prog adjustForm_l ((World.doorLaid Tryz.prog 400 os).forCall (fun _ _ => 0) ⟨#[], args, []⟩).memory :=
  laidMetH_of_parts3 (fuel := 8) (laidMet_of_run' 8 (by kernel_rfl) (by kernel_rfl)) (by kernel_rfl) (by kernel_rfl)
set_option maxRecDepth 100000 in
theorem adjustForm_lifted (os : Os) (started : os.Started) (H : Type) (enc : TypeId × Value → H) :
    ReturnsInHanded {} Tryz.checked os 10 .any (fun w args => (Rows.adjustFormSpec.pre enc Tryz.prog Tryz.f10 [] false w args ∧ laidMetH Tryz.prog adjustForm_l w) ∧ sizedMet enc Tryz.prog Tryz.f10 (OpenSpec.ofChange Rows.adjustFormSpec) false w args) (Rows.adjustFormSpec.post enc Tryz.prog Tryz.f10 false true false false) := by
  refine returnsInHanded_of_change_and (C := Tryz.checked) (X := fun w _ => laidMetH Tryz.prog adjustForm_l w) (fun _ _ _ hh h => h.of_heap hh) adjustForm_own started (by kernel_rfl) Tryz.func10
    (ChangeSpec.witness_shaped (enc := enc) (C := Tryz.checked) (os := os) (X := fun w _ => laidMetH Tryz.prog adjustForm_l w) false (World.doorLaid Tryz.prog 400 os) #[.agg #[.slice none 0 0, .slice none 0 0], .slice none 0 0] 8 rfl (World.shaped_of_RefB (by kernel_rfl) (by kernel_rfl)) (by kernel_rfl) (by kernel_rfl) (by kernel_rfl) (adjustForm_met os _)) ?_
  intro W base args ds gs before hval0 hW _ _ _ _
  have hval : ∀ (j : Nat) t v, Tryz.f10.params[j]? = some t → args[j]? = some v → Value.okWide Tryz.prog W .any base t v := hval0
  have hW' := hW
  obtain ⟨p, q, hA0, _⟩ := hW'
  have hA : DataW.TrodAll enc Tryz.prog W 0 (fun _ => true) true Tryz.f10.params.toList args.toList ds p := hA0
  rw [Tryz.params10] at hA hval
  obtain ⟨v0, vs0, d0, ds0, p0, q0, hargs, rfl, _, t0, r0⟩ := trodAll_cons hA
  obtain ⟨v1, vs1, d1, ds1, p1, q1, rfl, rfl, _, t1, r1⟩ := trodAll_cons r0
  obtain ⟨rfl, rfl, _⟩ := trodAll_nil r1
  obtain rfl : args = #[v0, v1] := by cases args; simp_all
  obtain ⟨x0, h0, s0⟩ := arg_G (hval 0 25 v0 rfl rfl) t0
  obtain ⟨x1, h1, s1⟩ := arg_SpotsL (hval 1 30 v1 rfl rfl) t1
  refine law_run (tb := 4) adjustForm_laid (by kernel_rfl) (by kernel_rfl) (by kernel_rfl) rfl ⟨rfl, rfl, rfl⟩ hW ⟨[AG x0.cs, V1 (dSs x1)], lForm_c x0 x1 h0.1 h1.1 h1.2, rfl, fun i x hx => ?_⟩
  match i, hx with
  | 0, hx => exact ⟨v0, rfl, by cases hx; exact s0⟩
  | 1, hx => exact ⟨v1, rfl, by cases hx; exact s1⟩
  | i + 2, hx => cases hx

theorem adjustForm_holds : Rows.AdjustFormSaid :=
  OpenClaim.holds_of_wide 10 Tryz.f10 rfl rfl rfl rfl rfl rfl rfl ⟨rfl, rfl, rfl, rfl, rfl⟩ rfl rfl rfl rfl rfl (by kernel_rfl) Tryz.func10 (by kernel_rfl)
    (of_decide_eq_true (by kernel_rfl)) (by unfold Func.isWrapper; first | (rw [if_pos (by decide +kernel)]; kernel_rfl) | (rw [if_neg (by decide +kernel)]; exact ⟨rfl, rfl⟩))
    (fun os started H enc _ => adjustForm_lifted os started H enc)
theorem adjustForm_card : Rows.AdjustFormCardSaid :=
  Claim7.holds_tied_plain_at .later [] [.data, .data, .data] true (true, "21ba96489bbe117ae21b2518256a10a960acca6c22139899dac994d95e871329") false
    adjustForm_holds (fun _ h => by cases h) (by kernel_rfl) (fun _ h => by cases h) adjustForm_row_tie rfl ⟨rfl, rfl⟩ (by kernel_rfl) rfl
    (fun f fn hf hfn => by
      obtain rfl : f = 10 := Option.some.inj ((show Tryz.prog.funcNamed "wayfinder/wayfinderlaw31.AdjustForm" = some 10 by kernel_rfl).symm.trans hf) |>.symm
      obtain rfl : fn = Tryz.f10 := (Option.some.inj (Tryz.func10.symm.trans hfn)).symm
      exact ⟨by kernel_rfl, fun j t ht => by
        rw [Tryz.params10] at ht
        match j, ht with
        | 0, ht => cases ht; exact (show Tryz.prog.wantsStandIn 25 = false by kernel_rfl)
        | 1, ht => cases ht; exact (show Tryz.prog.wantsStandIn 30 = false by kernel_rfl)
        | j + 2, ht => simp at ht⟩)
    (by kernel_rfl)
#print axioms adjustForm_card
end Go.Proofs.YtlnbkmkkiemcaaaGreatDoor
