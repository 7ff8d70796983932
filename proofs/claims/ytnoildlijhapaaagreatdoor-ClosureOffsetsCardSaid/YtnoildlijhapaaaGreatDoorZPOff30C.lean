/- Part of a proof that a Go function answers true for every input. No condition. -/
import Derived.Test.YtnoildlijhapaaaGreatDoorZPOff30
import Derived.Test.YtnoildlijhapaaaGreatDoorRows
import Derived.ProofKit
import Derived.Test.YtnoildlijhapaaaGreatDoorCards
import Derived.Test.YtnoildlijhapaaaGreatDoorTie
import Derived.LaidMore
import Derived.OpenShut
import Derived.Stop.Joined
import Derived.SevenTiedAt
set_option linter.unusedVariables false
set_option linter.unusedSimpArgs false
set_option linter.unusedSectionVars false
/- For every input ClosureOffsets answers true, and its arguments read behind the call as before. No condition. -/
namespace Go.Proofs.YtnoildlijhapaaaGreatDoor
open Go.ChangeShapes Go.WideShapes Go.ChangeAt Go.RowKit
theorem lh : Tryz.prog.mainIs = some ((true, "4e77effd13a90b473d051509d7ffbae52b67c8bc8332b471a169635064bf90f9").1, (true, "4e77effd13a90b473d051509d7ffbae52b67c8bc8332b471a169635064bf90f9").2.toList) := by kernel_rfl
theorem kw : false = Tryz.prog.looks [] := by kernel_rfl
theorem ll : false = Rows.closureOffsetsRow.goesBy Tryz.prog := by kernel_rfl
theorem lg : Tryz.prog.funcNamed "wayfinder/wayfinderlaw30.ClosureOffsets" = some 4 := by kernel_rfl
theorem closureOffsets_card : Rows.ClosureOffsetsCardSaid :=
 Claim7.holds_tied_plain_at .later [] [.data, .data, .data] true (true, "4e77effd13a90b473d051509d7ffbae52b67c8bc8332b471a169635064bf90f9") false
  closureOffsets_holds (fun _ h => by cases h) (by kernel_rfl) (fun _ h => by cases h) closureOffsets_row_tie rfl ⟨rfl, rfl⟩ lh rfl
  (fun f fn hf hfn => by
   obtain rfl : f = 4 := Option.some.inj (lg.symm.trans hf) |>.symm
   obtain rfl : fn = Tryz.f4 := (Option.some.inj (Tryz.func4.symm.trans hfn)).symm
   exact ⟨kw, fun j t ht => by
    rw [Tryz.params4] at ht
    match j, ht with
    | 0, ht => cases ht; exact (show Tryz.prog.wantsStandIn 25 = false by kernel_rfl)
    | 1, ht => cases ht; exact (show Tryz.prog.wantsStandIn 28 = false by kernel_rfl)
    | 2, ht => cases ht; exact (show Tryz.prog.wantsStandIn 34 = false by kernel_rfl)
    | j + 3, ht => simp at ht⟩)
  ll
#print axioms closureOffsets_card
end Go.Proofs.YtnoildlijhapaaaGreatDoor
