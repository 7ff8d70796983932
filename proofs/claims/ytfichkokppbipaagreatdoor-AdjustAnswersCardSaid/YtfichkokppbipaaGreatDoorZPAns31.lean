/- Part of a proof that a Go function answers true for every input. No condition. -/
import Derived.Test.YtfichkokppbipaaGreatDoorC6
import Derived.Test.YtfichkokppbipaaGreatDoorRows
import Derived.ProofKit
import Derived.Test.YtfichkokppbipaaGreatDoorCards
import Derived.Test.YtfichkokppbipaaGreatDoorTie
import Derived.LaidMore
import Derived.OpenShut
import Derived.Stop.Joined
import Derived.SevenTiedAt
set_option linter.unusedVariables false
set_option linter.unusedSimpArgs false
set_option linter.unusedSectionVars false
/- For every input AdjustAnswers answers true, and its arguments read behind the call as before. No condition. -/
namespace Go.Proofs.YtfichkokppbipaaGreatDoor
open Go.ChangeShapes Go.WideShapes Go.ChangeAt Go.RowKit
theorem mL : ownKnob Tryz.prog.godebug = none := by kernel_rfl
theorem lU : laidOutB Tryz.prog = true := by kernel_rfl
abbrev eD : List (String × DataW Unit) := [("math/bits.deBruijn32tab", Rows.laid_math_bits_deBruijn32tab), ("math/bits.deBruijn64tab", Rows.laid_math_bits_deBruijn64tab), ("internal/strconv.uint64pow10", Rows.laid_internal_strconv_uint64pow10)]
theorem mM (os : Os) (args : Array Value) : laidMetH Tryz.prog eD ((World.doorLaid Tryz.prog 400 os).forCall (fun _ _ => 0) ⟨#[], args, []⟩).memory :=
 laidMetH_of_parts3 (fuel := 8) (laidMet_of_run' 8 (by kernel_rfl) (by kernel_rfl)) (by kernel_rfl) (by kernel_rfl)
set_option maxRecDepth 100000 in
theorem kC (os : Os) (started : os.Started) (H : Type) (enc : TypeId × Value -> H) :
  ReturnsInHanded {} Tryz.checked os 3 .any (fun w args => (Rows.adjustAnswersSpec.pre enc Tryz.prog Tryz.f3 [] false w args /\ laidMetH Tryz.prog eD w) /\ sizedMet enc Tryz.prog Tryz.f3 (OpenSpec.ofChange Rows.adjustAnswersSpec) false w args) (Rows.adjustAnswersSpec.post enc Tryz.prog Tryz.f3 false true false false) := by
 refine returnsInHanded_of_change_and (C := Tryz.checked) (X := fun w _ => laidMetH Tryz.prog eD w) (fun _ _ _ hh h => h.of_heap hh) mL started (by kernel_rfl) Tryz.func3
  (ChangeSpec.witness_shaped (enc := enc) (C := Tryz.checked) (os := os) (X := fun w _ => laidMetH Tryz.prog eD w) false (World.doorLaid Tryz.prog 400 os) #[.agg #[.slice none 0 0, .slice none 0 0], .slice none 0 0] 8 rfl (World.shaped_of_RefB (by kernel_rfl) (by kernel_rfl)) (by kernel_rfl) (by kernel_rfl) (by kernel_rfl) (mM os _)) ?_
 intro W base args ds gs before hval0 hW _ _ _ _
 have hval : ∀ (j : Nat) t v, Tryz.f3.params[j]? = some t -> args[j]? = some v -> Value.okWide Tryz.prog W .any base t v := hval0
 have hW' := hW
 obtain ⟨p, q, hA0, _⟩ := hW'
 have hA : DataW.TrodAll enc Tryz.prog W 0 (fun _ => true) true Tryz.f3.params.toList args.toList ds p := hA0
 rw [Tryz.params3] at hA hval
 obtain ⟨v0, vs0, d0, ds0, p0, q0, hargs, rfl, _, t0, r0⟩ := trodAll_cons hA
 obtain ⟨v1, vs1, d1, ds1, p1, q1, rfl, rfl, _, t1, r1⟩ := trodAll_cons r0
 obtain ⟨rfl, rfl, _⟩ := trodAll_nil r1
 obtain rfl : args = #[v0, v1] := by cases args; simp_all
 obtain ⟨x0, h0, s0⟩ := Fc (hval 0 25 v0 rfl rfl) t0
 obtain ⟨x1, h1, s1⟩ := wx (hval 1 26 v1 rfl rfl) t1
 refine Ch (tb := 4) lU (by kernel_rfl) (by kernel_rfl) (by kernel_rfl) rfl ⟨rfl, rfl, rfl⟩ hW ⟨[AG x0.cs, V1 (dSs x1)], tc x0 x1 h0.1 h1.1 h1.2, rfl, fun i x hx => ?_⟩
 match i, hx with
 | 0, hx => exact ⟨v0, rfl, by cases hx; exact s0⟩
 | 1, hx => exact ⟨v1, rfl, by cases hx; exact s1⟩
 | i + 2, hx => cases hx

set_option maxHeartbeats 8000000 in
theorem kD : joinedFacts Tryz.checked.prog 3 Tryz.f3 Rows.adjustAnswersSpec Rows.adjustAnswersRow = true := by
 unfold joinedFacts
 simp only [Bool.and_eq_true]
 repeat' apply And.intro
 all_goals as_aux_lemma => kernel_rfl
theorem adjustAnswers_holds : Rows.AdjustAnswersSaid :=
 OpenClaim.holds_of_wide 3 Tryz.f3 rfl rfl rfl rfl rfl rfl rfl ⟨rfl, rfl, rfl, rfl, rfl⟩ rfl rfl rfl rfl rfl (by kernel_rfl) Tryz.func3 kD
  (of_decide_eq_true (by kernel_rfl)) (by unfold Func.isWrapper; first | (rw [if_pos (by decide +kernel)]; kernel_rfl) | (rw [if_neg (by decide +kernel)]; exact ⟨rfl, rfl⟩))
  (fun os started H enc _ => kC os started H enc)
end Go.Proofs.YtfichkokppbipaaGreatDoor
