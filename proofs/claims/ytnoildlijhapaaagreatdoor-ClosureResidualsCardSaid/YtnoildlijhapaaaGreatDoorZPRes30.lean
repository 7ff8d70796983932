/- Part of a proof that a Go function answers true for every input. No condition. -/
import Derived.Test.YtnoildlijhapaaaGreatDoorC5
import Derived.Test.YtnoildlijhapaaaGreatDoorRows
import Derived.ProofKit
import Derived.Test.YtnoildlijhapaaaGreatDoorCards
import Derived.Test.YtnoildlijhapaaaGreatDoorTie
import Derived.LaidMore
import Derived.OpenShut
import Derived.Stop.Joined
import Derived.SevenTiedAt
set_option linter.unusedVariables false
set_option linter.unusedSimpArgs false
set_option linter.unusedSectionVars false
/- For every input ClosureResiduals answers true, and its arguments read behind the call as before. No condition. -/
namespace Go.Proofs.YtnoildlijhapaaaGreatDoor
open Go.ChangeShapes Go.WideShapes Go.ChangeAt Go.RowKit
theorem kt : ownKnob Tryz.prog.godebug = none := by kernel_rfl
theorem jS : laidOutB Tryz.prog = true := by kernel_rfl
abbrev df : List (String × DataW Unit) := [("math/bits.deBruijn32tab", Rows.laid_math_bits_deBruijn32tab), ("math/bits.deBruijn64tab", Rows.laid_math_bits_deBruijn64tab), ("internal/strconv.uint64pow10", Rows.laid_internal_strconv_uint64pow10)]
theorem ku (os : Os) (args : Array Value) : laidMetH Tryz.prog df ((World.doorLaid Tryz.prog 400 os).forCall (fun _ _ => 0) ⟨#[], args, []⟩).memory :=
 laidMetH_of_parts3 (fuel := 8) (laidMet_of_run' 8 (by kernel_rfl) (by kernel_rfl)) (by kernel_rfl) (by kernel_rfl)
set_option maxRecDepth 100000 in
theorem jc (os : Os) (started : os.Started) (H : Type) (enc : TypeId × Value -> H) :
  ReturnsInHanded {} Tryz.checked os 11 .any (fun w args => (Rows.closureResidualsSpec.pre enc Tryz.prog Tryz.f11 [] false w args /\ laidMetH Tryz.prog df w) /\ sizedMet enc Tryz.prog Tryz.f11 (OpenSpec.ofChange Rows.closureResidualsSpec) false w args) (Rows.closureResidualsSpec.post enc Tryz.prog Tryz.f11 false true false false) := by
 refine returnsInHanded_of_change_and (C := Tryz.checked) (X := fun w _ => laidMetH Tryz.prog df w) (fun _ _ _ hh h => h.of_heap hh) kt started (by kernel_rfl) Tryz.func11
  (ChangeSpec.witness_shaped (enc := enc) (C := Tryz.checked) (os := os) (X := fun w _ => laidMetH Tryz.prog df w) false (World.doorLaid Tryz.prog 400 os) #[.agg #[.slice none 0 0, .slice none 0 0]] 8 rfl (World.shaped_of_RefB (by kernel_rfl) (by kernel_rfl)) (by kernel_rfl) (by kernel_rfl) (by kernel_rfl) (ku os _)) ?_
 intro W base args ds gs before hval0 hW _ _ hLd _
 have hval : ∀ (j : Nat) t v, Tryz.f11.params[j]? = some t -> args[j]? = some v -> Value.okWide Tryz.prog W .any base t v := hval0
 have hW' := hW
 obtain ⟨p, q, hA0, _⟩ := hW'
 have hA : DataW.TrodAll enc Tryz.prog W 0 (fun _ => true) true Tryz.f11.params.toList args.toList ds p := hA0
 rw [Tryz.params11] at hA hval
 obtain ⟨v0, vs0, d0, ds0, p0, q0, hargs, rfl, _, t0, r0⟩ := trodAll_cons hA
 obtain ⟨rfl, rfl, _⟩ := trodAll_nil r0
 obtain rfl : args = #[v0] := by cases args; simp_all
 obtain ⟨x0, h0, s0⟩ := xG (hval 0 25 v0 rfl rfl) t0
 have hTb : TbW W := by
  unfold TbW ig
  exact List.forall_mem_cons.2 ⟨dm (n := "math/bits.deBruijn32tab") (t := 199) (te := 5) (nums := Go.Lib.deBruijn32tab) hLd (by first | exact .head _ | exact .tail _ (.head _) | exact .tail _ (.tail _ (.head _)) | exact .tail _ (.tail _ (.tail _ (.head _)))) (by kernel_rfl) (by kernel_rfl) (by kernel_rfl) (by kernel_rfl) (by kernel_rfl) rfl (by decide), List.forall_mem_cons.2 ⟨iX (n := "internal/strconv.uint64pow10") (t := 218) (te := 153) hLd (by first | exact .head _ | exact .tail _ (.head _) | exact .tail _ (.tail _ (.head _)) | exact .tail _ (.tail _ (.tail _ (.head _)))) (by kernel_rfl) (by kernel_rfl) (by kernel_rfl) (by kernel_rfl) (by kernel_rfl) (by kernel_rfl) rfl, List.forall_mem_cons.2 ⟨dm (n := "math/bits.deBruijn64tab") (t := 226) (te := 5) (nums := Go.Lib.deBruijn64tab) hLd (by first | exact .head _ | exact .tail _ (.head _) | exact .tail _ (.tail _ (.head _)) | exact .tail _ (.tail _ (.tail _ (.head _)))) (by kernel_rfl) (by kernel_rfl) (by kernel_rfl) (by kernel_rfl) (by kernel_rfl) rfl (by decide), fun _ h => by cases h⟩⟩⟩
 refine kL (tb := 4) hTb jS (by kernel_rfl) (by kernel_rfl) (by kernel_rfl) rfl ⟨rfl, rfl, rfl⟩ hW ⟨[AG x0.cs], Ad x0 h0.1, rfl, fun i x hx => ?_⟩
 match i, hx with
 | 0, hx => exact ⟨v0, rfl, by cases hx; exact s0⟩
 | i + 1, hx => cases hx

set_option maxHeartbeats 8000000 in
theorem jd : joinedFacts Tryz.checked.prog 11 Tryz.f11 Rows.closureResidualsSpec Rows.closureResidualsRow = true := by
 unfold joinedFacts
 simp only [Bool.and_eq_true]
 repeat' apply And.intro
 all_goals as_aux_lemma => kernel_rfl
theorem closureResiduals_holds : Rows.ClosureResidualsSaid :=
 OpenClaim.holds_of_wide 11 Tryz.f11 rfl rfl rfl rfl rfl rfl rfl ⟨rfl, rfl, rfl, rfl, rfl⟩ rfl rfl rfl rfl rfl (by kernel_rfl) Tryz.func11 jd
  (of_decide_eq_true (by kernel_rfl)) (by unfold Func.isWrapper; first | (rw [if_pos (by decide +kernel)]; kernel_rfl) | (rw [if_neg (by decide +kernel)]; exact ⟨rfl, rfl⟩))
  (fun os started H enc _ => jc os started H enc)
end Go.Proofs.YtnoildlijhapaaaGreatDoor
