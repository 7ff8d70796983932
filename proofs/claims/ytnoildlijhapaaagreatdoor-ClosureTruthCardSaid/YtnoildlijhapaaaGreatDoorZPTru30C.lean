/- Part of a proof that a Go function answers true for every input. No condition. -/
import Derived.Test.YtnoildlijhapaaaGreatDoorZPTru30
import Derived.Test.YtnoildlijhapaaaGreatDoorRows
import Derived.ProofKit
import Derived.Test.YtnoildlijhapaaaGreatDoorCards
import Derived.Test.YtnoildlijhapaaaGreatDoorTie
import Derived.LaidMore
import Derived.OpenShut
import Derived.Stop.Joined
import Derived.SevenTiedAt
set_option linter.unusedVariables false
set_option linter.unusedSimpArgs false
set_option linter.unusedSectionVars false
/- For every input ClosureTruth answers true, and its arguments read behind the call as before. No condition. -/
namespace Go.Proofs.YtnoildlijhapaaaGreatDoor
open Go.ChangeShapes Go.WideShapes Go.ChangeAt Go.RowKit
theorem lM : Tryz.prog.mainIs = some ((true, "4e77effd13a90b473d051509d7ffbae52b67c8bc8332b471a169635064bf90f9").1, (true, "4e77effd13a90b473d051509d7ffbae52b67c8bc8332b471a169635064bf90f9").2.toList) := by kernel_rfl
theorem ky : false = Tryz.prog.looks [] := by kernel_rfl
theorem lO : false = Rows.closureTruthRow.goesBy Tryz.prog := by kernel_rfl
theorem lL : Tryz.prog.funcNamed "wayfinder/wayfinderlaw30.ClosureTruth" = some 10 := by kernel_rfl
theorem closureTruth_card : Rows.ClosureTruthCardSaid :=
 Claim7.holds_tied_plain_at .later [] [.data, .data, .data] true (true, "4e77effd13a90b473d051509d7ffbae52b67c8bc8332b471a169635064bf90f9") false
  closureTruth_holds (fun _ h => by cases h) (by kernel_rfl) (fun _ h => by cases h) closureTruth_row_tie rfl ⟨rfl, rfl⟩ lM rfl
  (fun f fn hf hfn => by
   obtain rfl : f = 10 := Option.some.inj (lL.symm.trans hf) |>.symm
   obtain rfl : fn = Tryz.f10 := (Option.some.inj (Tryz.func10.symm.trans hfn)).symm
   exact ⟨ky, fun j t ht => by
    rw [Tryz.params10] at ht
    match j, ht with
    | 0, ht => cases ht; exact (show Tryz.prog.wantsStandIn 73 = false by kernel_rfl)
    | 1, ht => cases ht; exact (show Tryz.prog.wantsStandIn 74 = false by kernel_rfl)
    | 2, ht => cases ht; exact (show Tryz.prog.wantsStandIn 49 = false by kernel_rfl)
    | j + 3, ht => simp at ht⟩)
  lO
#print axioms closureTruth_card
end Go.Proofs.YtnoildlijhapaaaGreatDoor
