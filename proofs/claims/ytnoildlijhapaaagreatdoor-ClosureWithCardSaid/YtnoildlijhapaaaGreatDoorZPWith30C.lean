/- Part of a proof that a Go function answers true for every input. No condition. -/
import Derived.Test.YtnoildlijhapaaaGreatDoorZPWith30
import Derived.Test.YtnoildlijhapaaaGreatDoorRows
import Derived.ProofKit
import Derived.Test.YtnoildlijhapaaaGreatDoorCards
import Derived.Test.YtnoildlijhapaaaGreatDoorTie
import Derived.LaidMore
import Derived.OpenShut
import Derived.Stop.Joined
import Derived.SevenTiedAt
set_option linter.unusedVariables false
set_option linter.unusedSimpArgs false
set_option linter.unusedSectionVars false
/- For every input ClosureWith answers true, and its arguments read behind the call as before. No condition. -/
namespace Go.Proofs.YtnoildlijhapaaaGreatDoor
open Go.ChangeShapes Go.WideShapes Go.ChangeAt Go.RowKit
theorem kB : Tryz.prog.mainIs = some ((true, "4e77effd13a90b473d051509d7ffbae52b67c8bc8332b471a169635064bf90f9").1, (true, "4e77effd13a90b473d051509d7ffbae52b67c8bc8332b471a169635064bf90f9").2.toList) := by kernel_rfl
theorem j5 : false = Tryz.prog.looks [] := by kernel_rfl
theorem kD : false = Rows.closureWithRow.goesBy Tryz.prog := by kernel_rfl
theorem kA : Tryz.prog.funcNamed "wayfinder/wayfinderlaw30.ClosureWith" = some 12 := by kernel_rfl
theorem closureWith_card : Rows.ClosureWithCardSaid :=
 Claim7.holds_tied_plain_at .later [] [.data, .data, .data] true (true, "4e77effd13a90b473d051509d7ffbae52b67c8bc8332b471a169635064bf90f9") false
  closureWith_holds (fun _ h => by cases h) (by kernel_rfl) (fun _ h => by cases h) closureWith_row_tie rfl ⟨rfl, rfl⟩ kB rfl
  (fun f fn hf hfn => by
   obtain rfl : f = 12 := Option.some.inj (kA.symm.trans hf) |>.symm
   obtain rfl : fn = Tryz.f12 := (Option.some.inj (Tryz.func12.symm.trans hfn)).symm
   exact ⟨j5, fun j t ht => by
    rw [Tryz.params12] at ht
    match j, ht with
    | 0, ht => cases ht; exact (show Tryz.prog.wantsStandIn 25 = false by kernel_rfl)
    | 1, ht => cases ht; exact (show Tryz.prog.wantsStandIn 23 = false by kernel_rfl)
    | 2, ht => cases ht; exact (show Tryz.prog.wantsStandIn 52 = false by kernel_rfl)
    | j + 3, ht => simp at ht⟩)
  kD
#print axioms closureWith_card
end Go.Proofs.YtnoildlijhapaaaGreatDoor
