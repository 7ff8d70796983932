/- Part of a proof that a Go function answers true for every input. No condition. -/
import Derived.Test.YtceacleokgoooaaGreatDoorE6
import Derived.Test.YtceacleokgoooaaGreatDoorRows
import Derived.ProofKit
import Derived.Test.YtceacleokgoooaaGreatDoorCards
import Derived.Test.YtceacleokgoooaaGreatDoorTie
import Derived.LaidMore
import Derived.OpenShut
import Derived.Stop.Joined
import Derived.SevenTiedAt
set_option linter.unusedVariables false
set_option linter.unusedSimpArgs false
set_option linter.unusedSectionVars false
/- For every input WholeTrees answers true, and its arguments read behind the call as before. No condition. -/
namespace Go.Proofs.YtceacleokgoooaaGreatDoor
open Go.ChangeShapes Go.WideShapes Go.ChangeAt Go.RowKit
theorem pZ : ownKnob Tryz.prog.godebug = none := by kernel_rfl
theorem px : laidOutB Tryz.prog = true := by kernel_rfl
abbrev ie : List (String × DataW Unit) := [("math/bits.deBruijn32tab", Rows.laid_math_bits_deBruijn32tab), ("math/bits.deBruijn64tab", Rows.laid_math_bits_deBruijn64tab), ("internal/strconv.uint64pow10", Rows.laid_internal_strconv_uint64pow10)]
theorem p3 (os : Os) (args : Array Value) : laidMetH Tryz.prog ie ((World.doorLaid Tryz.prog 400 os).forCall (fun _ _ => 0) ⟨#[], args, []⟩).memory :=
 laidMetH_of_parts3 (fuel := 8) (laidMet_of_run' 8 (by kernel_rfl) (by kernel_rfl)) (by kernel_rfl) (by kernel_rfl)
set_option maxRecDepth 100000 in
theorem mT (os : Os) (started : os.Started) (H : Type) (enc : TypeId × Value -> H) :
  ReturnsInHanded {} Tryz.checked os 5 .any (fun w args => (Rows.wholeTreesSpec.pre enc Tryz.prog Tryz.f5 [] false w args /\ laidMetH Tryz.prog ie w) /\ sizedMet enc Tryz.prog Tryz.f5 (OpenSpec.ofChange Rows.wholeTreesSpec) false w args) (Rows.wholeTreesSpec.post enc Tryz.prog Tryz.f5 false true false false) := by
 refine returnsInHanded_of_change_and (C := Tryz.checked) (X := fun w _ => laidMetH Tryz.prog ie w) (fun _ _ _ hh h => h.of_heap hh) pZ started (by kernel_rfl) Tryz.func5
  (ChangeSpec.witness_shaped (enc := enc) (C := Tryz.checked) (os := os) (X := fun w _ => laidMetH Tryz.prog ie w) false (World.doorLaid Tryz.prog 400 os) #[.agg #[.slice none 0 0, .slice none 0 0]] 8 rfl (World.shaped_of_RefB (by kernel_rfl) (by kernel_rfl)) (by kernel_rfl) (by kernel_rfl) (by kernel_rfl) (p3 os _)) ?_
 intro W base args ds gs before hval0 hW _ _ hLd _
 have hval : ∀ (j : Nat) t v, Tryz.f5.params[j]? = some t -> args[j]? = some v -> Value.okWide Tryz.prog W .any base t v := hval0
 have hW' := hW
 obtain ⟨p, q, hA0, _⟩ := hW'
 have hA : DataW.TrodAll enc Tryz.prog W 0 (fun _ => true) true Tryz.f5.params.toList args.toList ds p := hA0
 rw [Tryz.params5] at hA hval
 obtain ⟨v0, vs0, d0, ds0, p0, q0, hargs, rfl, _, t0, r0⟩ := trodAll_cons hA
 obtain ⟨rfl, rfl, _⟩ := trodAll_nil r0
 obtain rfl : args = #[v0] := by cases args; simp_all
 obtain ⟨x0, h0, s0⟩ := Ih (hval 0 25 v0 rfl rfl) t0
 have hTb : TbW W := by
  unfold TbW nK
  exact List.forall_mem_cons.2 ⟨wI (n := "math/bits.deBruijn64tab") (t := 172) (te := 5) (nums := Go.Lib.deBruijn64tab) hLd (by first | exact .head _ | exact .tail _ (.head _) | exact .tail _ (.tail _ (.head _)) | exact .tail _ (.tail _ (.tail _ (.head _)))) (by kernel_rfl) (by kernel_rfl) (by kernel_rfl) (by kernel_rfl) (by kernel_rfl) rfl (by decide), List.forall_mem_cons.2 ⟨CI (n := "internal/strconv.uint64pow10") (t := 221) (te := 130) hLd (by first | exact .head _ | exact .tail _ (.head _) | exact .tail _ (.tail _ (.head _)) | exact .tail _ (.tail _ (.tail _ (.head _)))) (by kernel_rfl) (by kernel_rfl) (by kernel_rfl) (by kernel_rfl) (by kernel_rfl) (by kernel_rfl) rfl, List.forall_mem_cons.2 ⟨wI (n := "math/bits.deBruijn32tab") (t := 240) (te := 5) (nums := Go.Lib.deBruijn32tab) hLd (by first | exact .head _ | exact .tail _ (.head _) | exact .tail _ (.tail _ (.head _)) | exact .tail _ (.tail _ (.tail _ (.head _)))) (by kernel_rfl) (by kernel_rfl) (by kernel_rfl) (by kernel_rfl) (by kernel_rfl) rfl (by decide), fun _ h => by cases h⟩⟩⟩
 refine Fd (tb := 4) hTb px (by kernel_rfl) (by kernel_rfl) (by kernel_rfl) rfl ⟨rfl, rfl, rfl⟩ hW ⟨[AG x0.cs], CK x0 h0.1.1 h0.2.1, rfl, fun i x hx => ?_⟩
 match i, hx with
 | 0, hx => exact ⟨v0, rfl, by cases hx; exact s0⟩
 | i + 1, hx => cases hx

set_option maxHeartbeats 8000000 in
theorem mU : joinedFacts Tryz.checked.prog 5 Tryz.f5 Rows.wholeTreesSpec Rows.wholeTreesRow = true := by
 unfold joinedFacts
 simp only [Bool.and_eq_true]
 repeat' apply And.intro
 all_goals as_aux_lemma => kernel_rfl
theorem wholeTrees_holds : Rows.WholeTreesSaid :=
 OpenClaim.holds_of_wide 5 Tryz.f5 rfl rfl rfl rfl rfl rfl rfl ⟨rfl, rfl, rfl, rfl, rfl⟩ rfl rfl rfl rfl rfl (by kernel_rfl) Tryz.func5 mU
  (of_decide_eq_true (by kernel_rfl)) (by unfold Func.isWrapper; first | (rw [if_pos (by decide +kernel)]; kernel_rfl) | (rw [if_neg (by decide +kernel)]; exact ⟨rfl, rfl⟩))
  (fun os started H enc _ => mT os started H enc)
end Go.Proofs.YtceacleokgoooaaGreatDoor
