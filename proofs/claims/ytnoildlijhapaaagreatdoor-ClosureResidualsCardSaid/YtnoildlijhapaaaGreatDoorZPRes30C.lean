/- Part of a proof that a Go function answers true for every input. No condition. -/
import Derived.Test.YtnoildlijhapaaaGreatDoorZPRes30
import Derived.Test.YtnoildlijhapaaaGreatDoorRows
import Derived.ProofKit
import Derived.Test.YtnoildlijhapaaaGreatDoorCards
import Derived.Test.YtnoildlijhapaaaGreatDoorTie
import Derived.LaidMore
import Derived.OpenShut
import Derived.Stop.Joined
import Derived.SevenTiedAt
set_option linter.unusedVariables false
set_option linter.unusedSimpArgs false
set_option linter.unusedSectionVars false
/- For every input ClosureResiduals answers true, and its arguments read behind the call as before. No condition. -/
namespace Go.Proofs.YtnoildlijhapaaaGreatDoor
open Go.ChangeShapes Go.WideShapes Go.ChangeAt Go.RowKit
theorem jR : Tryz.prog.mainIs = some ((true, "4e77effd13a90b473d051509d7ffbae52b67c8bc8332b471a169635064bf90f9").1, (true, "4e77effd13a90b473d051509d7ffbae52b67c8bc8332b471a169635064bf90f9").2.toList) := by kernel_rfl
theorem jG : false = Tryz.prog.looks [] := by kernel_rfl
theorem jT : false = Rows.closureResidualsRow.goesBy Tryz.prog := by kernel_rfl
theorem jQ : Tryz.prog.funcNamed "wayfinder/wayfinderlaw30.ClosureResiduals" = some 11 := by kernel_rfl
theorem closureResiduals_card : Rows.ClosureResidualsCardSaid :=
 Claim7.holds_tied_plain_at .later [] [.data, .data, .data] true (true, "4e77effd13a90b473d051509d7ffbae52b67c8bc8332b471a169635064bf90f9") false
  closureResiduals_holds (fun _ h => by cases h) (by kernel_rfl) (fun _ h => by cases h) closureResiduals_row_tie rfl ⟨rfl, rfl⟩ jR rfl
  (fun f fn hf hfn => by
   obtain rfl : f = 11 := Option.some.inj (jQ.symm.trans hf) |>.symm
   obtain rfl : fn = Tryz.f11 := (Option.some.inj (Tryz.func11.symm.trans hfn)).symm
   exact ⟨jG, fun j t ht => by
    rw [Tryz.params11] at ht
    match j, ht with
    | 0, ht => cases ht; exact (show Tryz.prog.wantsStandIn 25 = false by kernel_rfl)
    | j + 1, ht => simp at ht⟩)
  jT
#print axioms closureResiduals_card
end Go.Proofs.YtnoildlijhapaaaGreatDoor
