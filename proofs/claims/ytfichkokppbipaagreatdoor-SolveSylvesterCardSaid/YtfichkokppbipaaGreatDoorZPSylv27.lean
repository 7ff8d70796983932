/- Part of a proof that a Go function answers true for every input. No condition. -/
import Derived.Test.YtfichkokppbipaaGreatDoorC6
import Derived.Test.YtfichkokppbipaaGreatDoorRows
import Derived.ProofKit
import Derived.Test.YtfichkokppbipaaGreatDoorCards
import Derived.Test.YtfichkokppbipaaGreatDoorTie
import Derived.LaidMore
import Derived.OpenShut
import Derived.Stop.Joined
import Derived.SevenTiedAt
set_option linter.unusedVariables false
set_option linter.unusedSimpArgs false
set_option linter.unusedSectionVars false
/- For every input SolveSylvester answers true, and its arguments read behind the call as before. No condition. -/
namespace Go.Proofs.YtfichkokppbipaaGreatDoor
open Go.ChangeShapes Go.WideShapes Go.ChangeAt Go.RowKit
theorem l7 : ownKnob Tryz.prog.godebug = none := by kernel_rfl
theorem lD : laidOutB Tryz.prog = true := by kernel_rfl
abbrev dX : List (String × DataW Unit) := [("math/bits.deBruijn32tab", Rows.laid_math_bits_deBruijn32tab), ("math/bits.deBruijn64tab", Rows.laid_math_bits_deBruijn64tab), ("internal/strconv.uint64pow10", Rows.laid_internal_strconv_uint64pow10)]
theorem l8 (os : Os) (args : Array Value) : laidMetH Tryz.prog dX ((World.doorLaid Tryz.prog 400 os).forCall (fun _ _ => 0) ⟨#[], args, []⟩).memory :=
 laidMetH_of_parts3 (fuel := 8) (laidMet_of_run' 8 (by kernel_rfl) (by kernel_rfl)) (by kernel_rfl) (by kernel_rfl)
set_option maxRecDepth 100000 in
theorem jU (os : Os) (started : os.Started) (H : Type) (enc : TypeId × Value → H) :
  ReturnsInHanded {} Tryz.checked os 10 .any (fun w args => (Rows.solveSylvesterSpec.pre enc Tryz.prog Tryz.f10 [] false w args ∧ laidMetH Tryz.prog dX w) ∧ sizedMet enc Tryz.prog Tryz.f10 (OpenSpec.ofChange Rows.solveSylvesterSpec) false w args) (Rows.solveSylvesterSpec.post enc Tryz.prog Tryz.f10 false true false false) := by
 refine returnsInHanded_of_change_and (C := Tryz.checked) (X := fun w _ => laidMetH Tryz.prog dX w) (fun _ _ _ hh h => h.of_heap hh) l7 started (by kernel_rfl) Tryz.func10
  (ChangeSpec.witness_shaped (enc := enc) (C := Tryz.checked) (os := os) (X := fun w _ => laidMetH Tryz.prog dX w) false (World.doorLaid Tryz.prog 400 os) #[.slice none 0 0] 8 rfl (World.shaped_of_RefB (by kernel_rfl) (by kernel_rfl)) (by kernel_rfl) (by kernel_rfl) (by kernel_rfl) (l8 os _)) ?_
 intro W base args ds gs before hval0 hW _ _ _ _
 have hval : ∀ (j : Nat) t v, Tryz.f10.params[j]? = some t → args[j]? = some v → Value.okWide Tryz.prog W .any base t v := hval0
 have hW' := hW
 obtain ⟨p, q, hA0, _⟩ := hW'
 have hA : DataW.TrodAll enc Tryz.prog W 0 (fun _ => true) true Tryz.f10.params.toList args.toList ds p := hA0
 rw [Tryz.params10] at hA hval
 obtain ⟨v0, vs0, d0, ds0, p0, q0, hargs, rfl, _, t0, r0⟩ := trodAll_cons hA
 obtain ⟨rfl, rfl, _⟩ := trodAll_nil r0
 obtain rfl : args = #[v0] := by cases args; simp_all
 obtain ⟨x0, h0, s0⟩ := p6 (hval 0 46 v0 rfl rfl) t0
 refine iT (tb := 4) lD (by kernel_rfl) (by kernel_rfl) (by kernel_rfl) rfl ⟨rfl, rfl, rfl⟩ hW ⟨[V1 (dMs x0)], Ca x0 h0.1 h0.2, rfl, fun i x hx => ?_⟩
 match i, hx with
 | 0, hx => exact ⟨v0, rfl, by cases hx; exact s0⟩
 | i + 1, hx => cases hx

set_option maxHeartbeats 8000000 in
theorem jV : joinedFacts Tryz.checked.prog 10 Tryz.f10 Rows.solveSylvesterSpec Rows.solveSylvesterRow = true := by
 unfold joinedFacts
 simp only [Bool.and_eq_true]
 repeat' apply And.intro
 all_goals as_aux_lemma => kernel_rfl
theorem solveSylvester_holds : Rows.SolveSylvesterSaid :=
 OpenClaim.holds_of_wide 10 Tryz.f10 rfl rfl rfl rfl rfl rfl rfl ⟨rfl, rfl, rfl, rfl, rfl⟩ rfl rfl rfl rfl rfl (by kernel_rfl) Tryz.func10 jV
  (of_decide_eq_true (by kernel_rfl)) (by unfold Func.isWrapper; first | (rw [if_pos (by decide +kernel)]; kernel_rfl) | (rw [if_neg (by decide +kernel)]; exact ⟨rfl, rfl⟩))
  (fun os started H enc _ => jU os started H enc)
end Go.Proofs.YtfichkokppbipaaGreatDoor
