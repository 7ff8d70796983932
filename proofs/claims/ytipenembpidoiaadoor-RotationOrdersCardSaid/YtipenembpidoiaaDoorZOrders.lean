/- Part of a proof that a Go function answers true for every input. No condition. -/
import Derived.Test.YtipenembpidoiaaDoorC4
import Derived.Test.YtipenembpidoiaaDoorRows
import Derived.ProofKit
import Derived.Test.YtipenembpidoiaaDoorCards
import Derived.Test.YtipenembpidoiaaDoorTie
import Derived.LaidMore
import Derived.OpenShut
import Derived.Stop.Joined
import Derived.SevenTiedAt
set_option linter.unusedVariables false
set_option linter.unusedSimpArgs false
set_option linter.unusedSectionVars false
/- For every input RotationOrders answers true, and its arguments read behind the call as before. No condition. -/
namespace Go.Proofs.YtipenembpidoiaaDoor
open Go.ChangeShapes Go.WideShapes Go.ChangeAt Go.RowKit
theorem rotationOrders_own : ownKnob Tryd.prog.godebug = none := by kernel_rfl
theorem rotationOrders_laid : laidOutB Tryd.prog = true := by kernel_rfl
abbrev rotationOrders_l : List (String × DataW Unit) := [("math/bits.deBruijn32tab", Rows.laid_math_bits_deBruijn32tab), ("math/bits.deBruijn64tab", Rows.laid_math_bits_deBruijn64tab), ("internal/strconv.uint64pow10", Rows.laid_internal_strconv_uint64pow10)]
theorem rotationOrders_met (os : Os) (args : Array Value) : laidMetH Tryd.prog rotationOrders_l ((World.doorLaid Tryd.prog 400 os).forCall (fun _ _ => 0) ⟨#[], args, []⟩).memory :=
  laidMetH_of_parts3 (fuel := 8) (laidMet_of_run' 8 (by kernel_rfl) (by kernel_rfl)) (by kernel_rfl) (by kernel_rfl)
set_option maxRecDepth 100000 in
theorem rotationOrders_lifted (os : Os) (started : os.Started) (H : Type) (enc : TypeId × Value → H) :
    ReturnsInHanded {} Tryd.checked os 10 .any (fun w args => (Rows.rotationOrdersSpec.pre enc Tryd.prog Tryd.f10 [] false w args ∧ laidMetH Tryd.prog rotationOrders_l w) ∧ sizedMet enc Tryd.prog Tryd.f10 (OpenSpec.ofChange Rows.rotationOrdersSpec) false w args) (Rows.rotationOrdersSpec.post enc Tryd.prog Tryd.f10 false true false false) := by
  refine returnsInHanded_of_change_and (C := Tryd.checked) (X := fun w _ => laidMetH Tryd.prog rotationOrders_l w) (fun _ _ _ hh h => h.of_heap hh) rotationOrders_own started (by kernel_rfl) Tryd.func10
    (ChangeSpec.witness_shaped (enc := enc) (C := Tryd.checked) (os := os) (X := fun w _ => laidMetH Tryd.prog rotationOrders_l w) false (World.doorLaid Tryd.prog 400 os) #[.agg #[.bool false, .slice none 0 0, .bool false, .slice none 0 0], .int .i64 0] 8 rfl (World.shaped_of_RefB (by kernel_rfl) (by kernel_rfl)) (by kernel_rfl) (by kernel_rfl) (by kernel_rfl) (rotationOrders_met os _)) ?_
  intro W base args ds gs before hval0 hW _ _ _ _
  have hval : ∀ (j : Nat) t v, Tryd.f10.params[j]? = some t → args[j]? = some v → Value.okWide Tryd.prog W .any base t v := hval0
  have hW' := hW
  obtain ⟨p, q, hA0, _⟩ := hW'
  have hA : DataW.TrodAll enc Tryd.prog W 0 (fun _ => true) true Tryd.f10.params.toList args.toList ds p := hA0
  rw [Tryd.params10] at hA hval
  obtain ⟨v0, vs0, d0, ds0, p0, q0, hargs, rfl, _, t0, r0⟩ := trodAll_cons hA
  obtain ⟨v1, vs1, d1, ds1, p1, q1, rfl, rfl, _, t1, r1⟩ := trodAll_cons r0
  obtain ⟨rfl, rfl, _⟩ := trodAll_nil r1
  obtain rfl : args = #[v0, v1] := by cases args; simp_all
  obtain ⟨x0, h0, s0⟩ := arg_R (hval 0 28 v0 rfl rfl) t0
  obtain ⟨x1, h1, s1⟩ := arg_I (hval 1 3 v1 rfl rfl) t1
  refine law_run (tb := 4) rotationOrders_laid (by kernel_rfl) (by kernel_rfl) (by kernel_rfl) rfl ⟨rfl, rfl, rfl⟩ hW ⟨[AG x0.cs, dI x1], lOrders_c x0 x1 h0 h1, rfl, fun i x hx => ?_⟩
  match i, hx with
  | 0, hx => exact ⟨v0, rfl, by cases hx; exact s0⟩
  | 1, hx => exact ⟨v1, rfl, by cases hx; exact s1⟩
  | i + 2, hx => cases hx

theorem rotationOrders_holds : Rows.RotationOrdersSaid :=
  OpenClaim.holds_of_wide 10 Tryd.f10 rfl rfl rfl rfl rfl rfl rfl ⟨rfl, rfl, rfl, rfl, rfl⟩ rfl rfl rfl rfl rfl (by kernel_rfl) Tryd.func10 (by kernel_rfl)
    (of_decide_eq_true (by kernel_rfl)) (by unfold Func.isWrapper; first | (rw [if_pos (by decide +kernel)]; kernel_rfl) | (rw [if_neg (by decide +kernel)]; exact ⟨rfl, rfl⟩))
    (fun os started H enc _ => rotationOrders_lifted os started H enc)
theorem rotationOrders_card : Rows.RotationOrdersCardSaid :=
  Claim7.holds_tied_plain_at .later [] [.data, .data, .data] true (true, "fff7243c4af72bb8ec180b7dc3ab37c2daed3e4bb8ab62085554cb9f133b3af0") false
    rotationOrders_holds (fun _ h => by cases h) (by kernel_rfl) (fun _ h => by cases h) rotationOrders_row_tie rfl ⟨rfl, rfl⟩ (by kernel_rfl) rfl
    (fun f fn hf hfn => by
      obtain rfl : f = 10 := Option.some.inj ((show Tryd.prog.funcNamed "wayfinder/wayfinderlaw03.RotationOrders" = some 10 by kernel_rfl).symm.trans hf) |>.symm
      obtain rfl : fn = Tryd.f10 := (Option.some.inj (Tryd.func10.symm.trans hfn)).symm
      exact ⟨by kernel_rfl, fun j t ht => by
        rw [Tryd.params10] at ht
        match j, ht with
        | 0, ht => cases ht; exact (show Tryd.prog.wantsStandIn 28 = false by kernel_rfl)
        | 1, ht => cases ht; exact (show Tryd.prog.wantsStandIn 3 = false by kernel_rfl)
        | j + 2, ht => simp at ht⟩)
    (by kernel_rfl)
#print axioms rotationOrders_card
end Go.Proofs.YtipenembpidoiaaDoor
