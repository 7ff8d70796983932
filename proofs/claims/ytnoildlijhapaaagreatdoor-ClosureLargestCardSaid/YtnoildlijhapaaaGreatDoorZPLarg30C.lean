/- Part of a proof that a Go function answers true for every input. No condition. -/
import Derived.Test.YtnoildlijhapaaaGreatDoorZPLarg30
import Derived.Test.YtnoildlijhapaaaGreatDoorRows
import Derived.ProofKit
import Derived.Test.YtnoildlijhapaaaGreatDoorCards
import Derived.Test.YtnoildlijhapaaaGreatDoorTie
import Derived.LaidMore
import Derived.OpenShut
import Derived.Stop.Joined
import Derived.SevenTiedAt
set_option linter.unusedVariables false
set_option linter.unusedSimpArgs false
set_option linter.unusedSectionVars false
/- For every input ClosureLargest answers true, and its arguments read behind the call as before. No condition. -/
namespace Go.Proofs.YtnoildlijhapaaaGreatDoor
open Go.ChangeShapes Go.WideShapes Go.ChangeAt Go.RowKit
theorem jW : Tryz.prog.mainIs = some ((true, "4e77effd13a90b473d051509d7ffbae52b67c8bc8332b471a169635064bf90f9").1, (true, "4e77effd13a90b473d051509d7ffbae52b67c8bc8332b471a169635064bf90f9").2.toList) := by kernel_rfl
theorem jy : false = Tryz.prog.looks [] := by kernel_rfl
theorem jY : false = Rows.closureLargestRow.goesBy Tryz.prog := by kernel_rfl
theorem jV : Tryz.prog.funcNamed "wayfinder/wayfinderlaw30.ClosureLargest" = some 8 := by kernel_rfl
theorem closureLargest_card : Rows.ClosureLargestCardSaid :=
 Claim7.holds_tied_plain_at .later [] [.data, .data, .data] true (true, "4e77effd13a90b473d051509d7ffbae52b67c8bc8332b471a169635064bf90f9") false
  closureLargest_holds (fun _ h => by cases h) (by kernel_rfl) (fun _ h => by cases h) closureLargest_row_tie rfl ⟨rfl, rfl⟩ jW rfl
  (fun f fn hf hfn => by
   obtain rfl : f = 8 := Option.some.inj (jV.symm.trans hf) |>.symm
   obtain rfl : fn = Tryz.f8 := (Option.some.inj (Tryz.func8.symm.trans hfn)).symm
   exact ⟨jy, fun j t ht => by
    rw [Tryz.params8] at ht
    match j, ht with
    | 0, ht => cases ht; exact (show Tryz.prog.wantsStandIn 25 = false by kernel_rfl)
    | 1, ht => cases ht; exact (show Tryz.prog.wantsStandIn 48 = false by kernel_rfl)
    | 2, ht => cases ht; exact (show Tryz.prog.wantsStandIn 66 = false by kernel_rfl)
    | j + 3, ht => simp at ht⟩)
  jY
#print axioms closureLargest_card
end Go.Proofs.YtnoildlijhapaaaGreatDoor
