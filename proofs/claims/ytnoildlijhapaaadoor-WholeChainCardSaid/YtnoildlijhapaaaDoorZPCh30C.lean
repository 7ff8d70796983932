/- Part of a proof that a Go function answers true for every input. No condition. -/
import Derived.Test.YtnoildlijhapaaaDoorZPCh30
import Derived.Test.YtnoildlijhapaaaDoorRows
import Derived.ProofKit
import Derived.Test.YtnoildlijhapaaaDoorCards
import Derived.Test.YtnoildlijhapaaaDoorTie
import Derived.LaidMore
import Derived.OpenShut
import Derived.Stop.Joined
import Derived.SevenTiedAt
set_option linter.unusedVariables false
set_option linter.unusedSimpArgs false
set_option linter.unusedSectionVars false
/- For every input WholeChain answers true, and its arguments read behind the call as before. No condition. -/
namespace Go.Proofs.YtnoildlijhapaaaDoor
open Go.ChangeShapes Go.WideShapes Go.ChangeAt Go.RowKit
theorem jX : Tryd.prog.mainIs = some ((true, "d2995c1e8613384c8af22d4c7bad875bd8767e009f9f780fd5af4d072ec273a2").1, (true, "d2995c1e8613384c8af22d4c7bad875bd8767e009f9f780fd5af4d072ec273a2").2.toList) := by kernel_rfl
theorem jc : false = Tryd.prog.looks [] := by kernel_rfl
theorem jZ : false = Rows.wholeChainRow.goesBy Tryd.prog := by kernel_rfl
theorem jW : Tryd.prog.funcNamed "wayfinder/wayfindertop.WholeChain" = some 3 := by kernel_rfl
theorem wholeChain_card : Rows.WholeChainCardSaid :=
 Claim7.holds_tied_plain_at .later [] [.data, .data, .data] true (true, "d2995c1e8613384c8af22d4c7bad875bd8767e009f9f780fd5af4d072ec273a2") false
  wholeChain_holds (fun _ h => by cases h) (by kernel_rfl) (fun _ h => by cases h) wholeChain_row_tie rfl ⟨rfl, rfl⟩ jX rfl
  (fun f fn hf hfn => by
   obtain rfl : f = 3 := Option.some.inj (jW.symm.trans hf) |>.symm
   obtain rfl : fn = Tryd.f3 := (Option.some.inj (Tryd.func3.symm.trans hfn)).symm
   exact ⟨jc, fun j t ht => by
    rw [Tryd.params3] at ht
    match j, ht with
    | 0, ht => cases ht; exact (show Tryd.prog.wantsStandIn 22 = false by kernel_rfl)
    | 1, ht => cases ht; exact (show Tryd.prog.wantsStandIn 23 = false by kernel_rfl)
    | 2, ht => cases ht; exact (show Tryd.prog.wantsStandIn 28 = false by kernel_rfl)
    | j + 3, ht => simp at ht⟩)
  jZ
#print axioms wholeChain_card
end Go.Proofs.YtnoildlijhapaaaDoor
