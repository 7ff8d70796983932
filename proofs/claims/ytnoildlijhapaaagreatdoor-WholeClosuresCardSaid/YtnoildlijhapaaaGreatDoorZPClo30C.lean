/- Part of a proof that a Go function answers true for every input. No condition. -/
import Derived.Test.YtnoildlijhapaaaGreatDoorZPClo30
import Derived.Test.YtnoildlijhapaaaGreatDoorRows
import Derived.ProofKit
import Derived.Test.YtnoildlijhapaaaGreatDoorCards
import Derived.Test.YtnoildlijhapaaaGreatDoorTie
import Derived.LaidMore
import Derived.OpenShut
import Derived.Stop.Joined
import Derived.SevenTiedAt
set_option linter.unusedVariables false
set_option linter.unusedSimpArgs false
set_option linter.unusedSectionVars false
/- For every input WholeClosures answers true, and its arguments read behind the call as before. No condition. -/
namespace Go.Proofs.YtnoildlijhapaaaGreatDoor
open Go.ChangeShapes Go.WideShapes Go.ChangeAt Go.RowKit
theorem lB : Tryz.prog.mainIs = some ((true, "4e77effd13a90b473d051509d7ffbae52b67c8bc8332b471a169635064bf90f9").1, (true, "4e77effd13a90b473d051509d7ffbae52b67c8bc8332b471a169635064bf90f9").2.toList) := by kernel_rfl
theorem kY : false = Tryz.prog.looks [] := by kernel_rfl
theorem lD : false = Rows.wholeClosuresRow.goesBy Tryz.prog := by kernel_rfl
theorem lA : Tryz.prog.funcNamed "wayfinder/wayfindertop.WholeClosures" = some 13 := by kernel_rfl
theorem wholeClosures_card : Rows.WholeClosuresCardSaid :=
 Claim7.holds_tied_plain_at .later [] [.data, .data, .data] true (true, "4e77effd13a90b473d051509d7ffbae52b67c8bc8332b471a169635064bf90f9") false
  wholeClosures_holds (fun _ h => by cases h) (by kernel_rfl) (fun _ h => by cases h) wholeClosures_row_tie rfl ⟨rfl, rfl⟩ lB rfl
  (fun f fn hf hfn => by
   obtain rfl : f = 13 := Option.some.inj (lA.symm.trans hf) |>.symm
   obtain rfl : fn = Tryz.f13 := (Option.some.inj (Tryz.func13.symm.trans hfn)).symm
   exact ⟨kY, fun j t ht => by
    rw [Tryz.params13] at ht
    match j, ht with
    | 0, ht => cases ht; exact (show Tryz.prog.wantsStandIn 91 = false by kernel_rfl)
    | 1, ht => cases ht; exact (show Tryz.prog.wantsStandIn 73 = false by kernel_rfl)
    | 2, ht => cases ht; exact (show Tryz.prog.wantsStandIn 49 = false by kernel_rfl)
    | j + 3, ht => simp at ht⟩)
  lD
#print axioms wholeClosures_card
end Go.Proofs.YtnoildlijhapaaaGreatDoor
