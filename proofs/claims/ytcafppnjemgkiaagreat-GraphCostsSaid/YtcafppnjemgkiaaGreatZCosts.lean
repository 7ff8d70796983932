/- Part of a proof that a Go function answers true for every input. No condition. -/
import Derived.Test.YtcafppnjemgkiaaGreatC6
import Derived.Test.YtcafppnjemgkiaaGreatRows
import Derived.ProofKit
set_option linter.unusedVariables false
set_option linter.unusedSimpArgs false
set_option linter.unusedSectionVars false
/- For every input GraphCosts answers true, and its arguments read behind the call as before. No condition. -/
namespace Go.Proofs.YtcafppnjemgkiaaGreat
open Go.ChangeShapes Go.WideShapes Go.ChangeAt Go.RowKit
theorem graphCosts_own : ownKnob Tryz.prog.godebug = none := by kernel_rfl
theorem graphCosts_laid : laidOutB Tryz.prog = true := by kernel_rfl
set_option maxRecDepth 100000 in
theorem graphCosts_lifted (os : Os) (started : os.Started) (H : Type) (enc : TypeId × Value → H) :
    ReturnsInHanded {} Tryz.checked os 5 .any (Rows.graphCostsSpec.pre6 enc Tryz.prog Tryz.f5 Rows.graphCostsRow.domain false) (Rows.graphCostsSpec.post enc Tryz.prog Tryz.f5 false true false false) := by
  refine returnsInHanded_of_change (C := Tryz.checked) graphCosts_own started (by kernel_rfl) Tryz.func5
    (ChangeSpec.witness6 (enc := enc) (C := Tryz.checked) false ⟨#[], #[.agg #[.slice none 0 0, .slice none 0 0], .slice none 0 0, .int .i64 0], []⟩ 8 (by kernel_rfl) (by kernel_rfl) (by kernel_rfl) (by kernel_rfl)) ?_
  intro W base args ds gs before hval0 hW _ _
  have hval : ∀ (j : Nat) t v, Tryz.f5.params[j]? = some t → args[j]? = some v → Value.okWide Tryz.prog W .any base t v := hval0
  have hW' := hW
  obtain ⟨p, q, hA0, _⟩ := hW'
  have hA : DataW.TrodAll enc Tryz.prog W 0 (fun _ => true) true Tryz.f5.params.toList args.toList ds p := hA0
  rw [Tryz.params5] at hA hval
  obtain ⟨v0, vs0, d0, ds0, p0, q0, hargs, rfl, _, t0, r0⟩ := trodAll_cons hA
  obtain ⟨v1, vs1, d1, ds1, p1, q1, rfl, rfl, _, t1, r1⟩ := trodAll_cons r0
  obtain ⟨v2, vs2, d2, ds2, p2, q2, rfl, rfl, _, t2, r2⟩ := trodAll_cons r1
  obtain ⟨rfl, rfl, _⟩ := trodAll_nil r2
  obtain rfl : args = #[v0, v1, v2] := by cases args; simp_all
  obtain ⟨x0, h0, s0⟩ := arg_G (hval 0 25 v0 rfl rfl) t0
  obtain ⟨x1, h1, s1⟩ := arg_Spots (hval 1 50 v1 rfl rfl) t1
  obtain ⟨x2, h2, s2⟩ := arg_I (hval 2 3 v2 rfl rfl) t2
  refine law_run (tb := 4) graphCosts_laid (by kernel_rfl) (by kernel_rfl) (by kernel_rfl) rfl ⟨rfl, rfl, rfl⟩ hW ⟨[AG x0.cs, V1 (dSs x1), dI x2], lCosts_c x0 x1 x2 h0.1 h1, rfl, fun i x hx => ?_⟩
  match i, hx with
  | 0, hx => exact ⟨v0, rfl, by cases hx; exact s0⟩
  | 1, hx => exact ⟨v1, rfl, by cases hx; exact s1⟩
  | 2, hx => exact ⟨v2, rfl, by cases hx; exact s2⟩
  | i + 3, hx => cases hx

theorem graphCosts_holds : Rows.GraphCostsSaid :=
  OpenClaim.holds_of_wide 5 Tryz.f5 rfl rfl rfl rfl rfl rfl rfl ⟨rfl, rfl, rfl, rfl, rfl⟩ rfl rfl rfl rfl rfl (by kernel_rfl) Tryz.func5 (by kernel_rfl)
    (of_decide_eq_true (by kernel_rfl)) (by unfold Func.isWrapper; first | (rw [if_pos (by decide +kernel)]; kernel_rfl) | (rw [if_neg (by decide +kernel)]; exact ⟨rfl, rfl⟩))
    (fun os started H enc _ => graphCosts_lifted os started H enc)
#print axioms graphCosts_holds
end Go.Proofs.YtcafppnjemgkiaaGreat
