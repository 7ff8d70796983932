/- Part of a proof that a Go function answers true for every input. No condition. -/
import Derived.Test.YtlnbkmkkiemcaaaGreatDoorC5
import Derived.Test.YtlnbkmkkiemcaaaGreatDoorRows
import Derived.ProofKit
import Derived.Test.YtlnbkmkkiemcaaaGreatDoorCards
import Derived.Test.YtlnbkmkkiemcaaaGreatDoorTie
import Derived.LaidMore
import Derived.OpenShut
import Derived.Stop.Joined
import Derived.SevenTiedAt
set_option linter.unusedVariables false
set_option linter.unusedSimpArgs false
set_option linter.unusedSectionVars false
/- For every input AdjustMerges answers true, and its arguments read behind the call as before. No condition. -/
namespace Go.Proofs.YtlnbkmkkiemcaaaGreatDoor
open Go.ChangeShapes Go.WideShapes Go.ChangeAt Go.RowKit
theorem adjustMerges_own : ownKnob Tryz.prog.godebug = none := by kernel_rfl
theorem adjustMerges_laid : laidOutB Tryz.prog = true := by kernel_rfl
abbrev adjustMerges_l : List (String × DataW Unit) := [("math/bits.deBruijn32tab", Rows.laid_math_bits_deBruijn32tab), ("math/bits.deBruijn64tab", Rows.laid_math_bits_deBruijn64tab), ("internal/strconv.uint64pow10", Rows.laid_internal_strconv_uint64pow10)]
theorem adjustMerges_met (os : Os) (args : Array Value) : laidMetH Tryz.prog adjustMerges_l ((World.doorLaid Tryz.prog 400 os).forCall (fun _ _ => 0) ⟨#[], args, []⟩).memory :=
  laidMetH_of_parts3 (fuel := 8) (laidMet_of_run' 8 (by kernel_rfl) (by kernel_rfl)) (by kernel_rfl) (by kernel_rfl)
set_option maxRecDepth 100000 in
theorem adjustMerges_lifted (os : Os) (started : os.Started) (H : Type) (enc : TypeId × Value → H) :
    ReturnsInHanded {} Tryz.checked os 6 .any (fun w args => (Rows.adjustMergesSpec.pre enc Tryz.prog Tryz.f6 [] false w args ∧ laidMetH Tryz.prog adjustMerges_l w) ∧ sizedMet enc Tryz.prog Tryz.f6 (OpenSpec.ofChange Rows.adjustMergesSpec) false w args) (Rows.adjustMergesSpec.post enc Tryz.prog Tryz.f6 false true false false) := by
  refine returnsInHanded_of_change_and (C := Tryz.checked) (X := fun w _ => laidMetH Tryz.prog adjustMerges_l w) (fun _ _ _ hh h => h.of_heap hh) adjustMerges_own started (by kernel_rfl) Tryz.func6
    (ChangeSpec.witness_shaped (enc := enc) (C := Tryz.checked) (os := os) (X := fun w _ => laidMetH Tryz.prog adjustMerges_l w) false (World.doorLaid Tryz.prog 400 os) #[.agg #[.slice none 0 0, .slice none 0 0], .int .i64 0, .int .i64 0] 8 rfl (World.shaped_of_RefB (by kernel_rfl) (by kernel_rfl)) (by kernel_rfl) (by kernel_rfl) (by kernel_rfl) (adjustMerges_met os _)) ?_
  intro W base args ds gs before hval0 hW _ _ _ _
  have hval : ∀ (j : Nat) t v, Tryz.f6.params[j]? = some t → args[j]? = some v → Value.okWide Tryz.prog W .any base t v := hval0
  have hW' := hW
  obtain ⟨p, q, hA0, _⟩ := hW'
  have hA : DataW.TrodAll enc Tryz.prog W 0 (fun _ => true) true Tryz.f6.params.toList args.toList ds p := hA0
  rw [Tryz.params6] at hA hval
  obtain ⟨v0, vs0, d0, ds0, p0, q0, hargs, rfl, _, t0, r0⟩ := trodAll_cons hA
  obtain ⟨v1, vs1, d1, ds1, p1, q1, rfl, rfl, _, t1, r1⟩ := trodAll_cons r0
  obtain ⟨v2, vs2, d2, ds2, p2, q2, rfl, rfl, _, t2, r2⟩ := trodAll_cons r1
  obtain ⟨rfl, rfl, _⟩ := trodAll_nil r2
  obtain rfl : args = #[v0, v1, v2] := by cases args; simp_all
  obtain ⟨x0, h0, s0⟩ := arg_G (hval 0 25 v0 rfl rfl) t0
  obtain ⟨x1, h1, s1⟩ := arg_I (hval 1 3 v1 rfl rfl) t1
  obtain ⟨x2, h2, s2⟩ := arg_I (hval 2 3 v2 rfl rfl) t2
  refine law_run (tb := 4) adjustMerges_laid (by kernel_rfl) (by kernel_rfl) (by kernel_rfl) rfl ⟨rfl, rfl, rfl⟩ hW ⟨[AG x0.cs, dI x1, dI x2], lMerges_c x0 x1 x2 h0.1 h1 h2, rfl, fun i x hx => ?_⟩
  match i, hx with
  | 0, hx => exact ⟨v0, rfl, by cases hx; exact s0⟩
  | 1, hx => exact ⟨v1, rfl, by cases hx; exact s1⟩
  | 2, hx => exact ⟨v2, rfl, by cases hx; exact s2⟩
  | i + 3, hx => cases hx

theorem adjustMerges_holds : Rows.AdjustMergesSaid :=
  OpenClaim.holds_of_wide 6 Tryz.f6 rfl rfl rfl rfl rfl rfl rfl ⟨rfl, rfl, rfl, rfl, rfl⟩ rfl rfl rfl rfl rfl (by kernel_rfl) Tryz.func6 (by kernel_rfl)
    (of_decide_eq_true (by kernel_rfl)) (by unfold Func.isWrapper; first | (rw [if_pos (by decide +kernel)]; kernel_rfl) | (rw [if_neg (by decide +kernel)]; exact ⟨rfl, rfl⟩))
    (fun os started H enc _ => adjustMerges_lifted os started H enc)
theorem adjustMerges_card : Rows.AdjustMergesCardSaid :=
  Claim7.holds_tied_plain_at .later [] [.data, .data, .data] true (true, "21ba96489bbe117ae21b2518256a10a960acca6c22139899dac994d95e871329") false
    adjustMerges_holds (fun _ h => by cases h) (by kernel_rfl) (fun _ h => by cases h) adjustMerges_row_tie rfl ⟨rfl, rfl⟩ (by kernel_rfl) rfl
    (fun f fn hf hfn => by
      obtain rfl : f = 6 := Option.some.inj ((show Tryz.prog.funcNamed "wayfinder/wayfinderlaw31.AdjustMerges" = some 6 by kernel_rfl).symm.trans hf) |>.symm
      obtain rfl : fn = Tryz.f6 := (Option.some.inj (Tryz.func6.symm.trans hfn)).symm
      exact ⟨by kernel_rfl, fun j t ht => by
        rw [Tryz.params6] at ht
        match j, ht with
        | 0, ht => cases ht; exact (show Tryz.prog.wantsStandIn 25 = false by kernel_rfl)
        | 1, ht => cases ht; exact (show Tryz.prog.wantsStandIn 3 = false by kernel_rfl)
        | 2, ht => cases ht; exact (show Tryz.prog.wantsStandIn 3 = false by kernel_rfl)
        | j + 3, ht => simp at ht⟩)
    (by kernel_rfl)
#print axioms adjustMerges_card
end Go.Proofs.YtlnbkmkkiemcaaaGreatDoor
