/- Part of a proof that a Go function answers true for every input. No condition. -/
import Derived.Test.YtceacleokgoooaaGreatDoorB5
import Derived.Test.YtceacleokgoooaaGreatDoorRows
import Derived.ProofKit
import Derived.Test.YtceacleokgoooaaGreatDoorCards
import Derived.Test.YtceacleokgoooaaGreatDoorTie
import Derived.LaidMore
import Derived.OpenShut
import Derived.Stop.Joined
import Derived.SevenTiedAt
set_option linter.unusedVariables false
set_option linter.unusedSimpArgs false
set_option linter.unusedSectionVars false
/- For every input AdjustPlays answers true, and its arguments read behind the call as before. No condition. -/
namespace Go.Proofs.YtceacleokgoooaaGreatDoor
open Go.ChangeShapes Go.WideShapes Go.ChangeAt Go.RowKit
theorem nI : ownKnob Tryz.prog.godebug = none := by kernel_rfl
theorem mT : laidOutB Tryz.prog = true := by kernel_rfl
abbrev gk : List (String × DataW Unit) := [("math/bits.deBruijn32tab", Rows.laid_math_bits_deBruijn32tab), ("math/bits.deBruijn64tab", Rows.laid_math_bits_deBruijn64tab), ("internal/strconv.uint64pow10", Rows.laid_internal_strconv_uint64pow10)]
theorem nJ (os : Os) (args : Array Value) : laidMetH Tryz.prog gk ((World.doorLaid Tryz.prog 400 os).forCall (fun _ _ => 0) ⟨#[], args, []⟩).memory :=
 laidMetH_of_parts3 (fuel := 8) (laidMet_of_run' 8 (by kernel_rfl) (by kernel_rfl)) (by kernel_rfl) (by kernel_rfl)
set_option maxRecDepth 100000 in
theorem kY (os : Os) (started : os.Started) (H : Type) (enc : TypeId × Value -> H) :
  ReturnsInHanded {} Tryz.checked os 4 .any (fun w args => (Rows.adjustPlaysSpec.pre enc Tryz.prog Tryz.f4 [] false w args /\ laidMetH Tryz.prog gk w) /\ sizedMet enc Tryz.prog Tryz.f4 (OpenSpec.ofChange Rows.adjustPlaysSpec) false w args) (Rows.adjustPlaysSpec.post enc Tryz.prog Tryz.f4 false true false false) := by
 refine returnsInHanded_of_change_and (C := Tryz.checked) (X := fun w _ => laidMetH Tryz.prog gk w) (fun _ _ _ hh h => h.of_heap hh) nI started (by kernel_rfl) Tryz.func4
  (ChangeSpec.witness_shaped (enc := enc) (C := Tryz.checked) (os := os) (X := fun w _ => laidMetH Tryz.prog gk w) false (World.doorLaid Tryz.prog 400 os) #[.agg #[.bool false, .slice none 0 0, .bool false, .slice none 0 0], .slice none 0 0] 8 rfl (World.shaped_of_RefB (by kernel_rfl) (by kernel_rfl)) (by kernel_rfl) (by kernel_rfl) (by kernel_rfl) (nJ os _)) ?_
 intro W base args ds gs before hval0 hW _ _ hLd _
 have hval : ∀ (j : Nat) t v, Tryz.f4.params[j]? = some t -> args[j]? = some v -> Value.okWide Tryz.prog W .any base t v := hval0
 have hW' := hW
 obtain ⟨p, q, hA0, _⟩ := hW'
 have hA : DataW.TrodAll enc Tryz.prog W 0 (fun _ => true) true Tryz.f4.params.toList args.toList ds p := hA0
 rw [Tryz.params4] at hA hval
 obtain ⟨v0, vs0, d0, ds0, p0, q0, hargs, rfl, _, t0, r0⟩ := trodAll_cons hA
 obtain ⟨v1, vs1, d1, ds1, p1, q1, rfl, rfl, _, t1, r1⟩ := trodAll_cons r0
 obtain ⟨rfl, rfl, _⟩ := trodAll_nil r1
 obtain rfl : args = #[v0, v1] := by cases args; simp_all
 obtain ⟨x0, h0, s0⟩ := ET (hval 0 38 v0 rfl rfl) t0
 obtain ⟨x1, h1, s1⟩ := AT (hval 1 52 v1 rfl rfl) t1
 have hTb : TbW W := by
  unfold TbW qV
  exact List.forall_mem_cons.2 ⟨tI (n := "math/bits.deBruijn64tab") (t := 172) (te := 5) (nums := Go.Lib.deBruijn64tab) hLd (by first | exact .head _ | exact .tail _ (.head _) | exact .tail _ (.tail _ (.head _)) | exact .tail _ (.tail _ (.tail _ (.head _)))) (by kernel_rfl) (by kernel_rfl) (by kernel_rfl) (by kernel_rfl) (by kernel_rfl) rfl (by decide), List.forall_mem_cons.2 ⟨zQ (n := "internal/strconv.uint64pow10") (t := 221) (te := 130) hLd (by first | exact .head _ | exact .tail _ (.head _) | exact .tail _ (.tail _ (.head _)) | exact .tail _ (.tail _ (.tail _ (.head _)))) (by kernel_rfl) (by kernel_rfl) (by kernel_rfl) (by kernel_rfl) (by kernel_rfl) (by kernel_rfl) rfl, List.forall_mem_cons.2 ⟨tI (n := "math/bits.deBruijn32tab") (t := 240) (te := 5) (nums := Go.Lib.deBruijn32tab) hLd (by first | exact .head _ | exact .tail _ (.head _) | exact .tail _ (.tail _ (.head _)) | exact .tail _ (.tail _ (.tail _ (.head _)))) (by kernel_rfl) (by kernel_rfl) (by kernel_rfl) (by kernel_rfl) (by kernel_rfl) rfl (by decide), fun _ h => by cases h⟩⟩⟩
 refine BR (tb := 4) hTb mT (by kernel_rfl) (by kernel_rfl) (by kernel_rfl) rfl ⟨rfl, rfl, rfl⟩ hW ⟨[AG x0.cs, V1 (dAs x1)], zU x0 x1 h0 h1.1 h1.2, rfl, fun i x hx => ?_⟩
 match i, hx with
 | 0, hx => exact ⟨v0, rfl, by cases hx; exact s0⟩
 | 1, hx => exact ⟨v1, rfl, by cases hx; exact s1⟩
 | i + 2, hx => cases hx

set_option maxHeartbeats 8000000 in
theorem kZ : joinedFacts Tryz.checked.prog 4 Tryz.f4 Rows.adjustPlaysSpec Rows.adjustPlaysRow = true := by
 unfold joinedFacts
 simp only [Bool.and_eq_true]
 repeat' apply And.intro
 all_goals as_aux_lemma => kernel_rfl
theorem adjustPlays_holds : Rows.AdjustPlaysSaid :=
 OpenClaim.holds_of_wide 4 Tryz.f4 rfl rfl rfl rfl rfl rfl rfl ⟨rfl, rfl, rfl, rfl, rfl⟩ rfl rfl rfl rfl rfl (by kernel_rfl) Tryz.func4 kZ
  (of_decide_eq_true (by kernel_rfl)) (by unfold Func.isWrapper; first | (rw [if_pos (by decide +kernel)]; kernel_rfl) | (rw [if_neg (by decide +kernel)]; exact ⟨rfl, rfl⟩))
  (fun os started H enc _ => kY os started H enc)
end Go.Proofs.YtceacleokgoooaaGreatDoor
