/- Part of a proof that a Go function answers true for every input. No condition. -/
import Derived.Test.YtnoildlijhapaaaGreatDoorZPMin30
import Derived.Test.YtnoildlijhapaaaGreatDoorRows
import Derived.ProofKit
import Derived.Test.YtnoildlijhapaaaGreatDoorCards
import Derived.Test.YtnoildlijhapaaaGreatDoorTie
import Derived.LaidMore
import Derived.OpenShut
import Derived.Stop.Joined
import Derived.SevenTiedAt
set_option linter.unusedVariables false
set_option linter.unusedSimpArgs false
set_option linter.unusedSectionVars false
/- For every input WholeMinimum answers true, and its arguments read behind the call as before. No condition. -/
namespace Go.Proofs.YtnoildlijhapaaaGreatDoor
open Go.ChangeShapes Go.WideShapes Go.ChangeAt Go.RowKit
theorem ko : Tryz.prog.mainIs = some ((true, "4e77effd13a90b473d051509d7ffbae52b67c8bc8332b471a169635064bf90f9").1, (true, "4e77effd13a90b473d051509d7ffbae52b67c8bc8332b471a169635064bf90f9").2.toList) := by kernel_rfl
theorem jY : false = Tryz.prog.looks [] := by kernel_rfl
theorem kq : false = Rows.wholeMinimumRow.goesBy Tryz.prog := by kernel_rfl
theorem kn : Tryz.prog.funcNamed "wayfinder/wayfindertop.WholeMinimum" = some 14 := by kernel_rfl
theorem wholeMinimum_card : Rows.WholeMinimumCardSaid :=
 Claim7.holds_tied_plain_at .later [] [.data, .data, .data] true (true, "4e77effd13a90b473d051509d7ffbae52b67c8bc8332b471a169635064bf90f9") false
  wholeMinimum_holds (fun _ h => by cases h) (by kernel_rfl) (fun _ h => by cases h) wholeMinimum_row_tie rfl ⟨rfl, rfl⟩ ko rfl
  (fun f fn hf hfn => by
   obtain rfl : f = 14 := Option.some.inj (kn.symm.trans hf) |>.symm
   obtain rfl : fn = Tryz.f14 := (Option.some.inj (Tryz.func14.symm.trans hfn)).symm
   exact ⟨jY, fun j t ht => by
    rw [Tryz.params14] at ht
    match j, ht with
    | 0, ht => cases ht; exact (show Tryz.prog.wantsStandIn 25 = false by kernel_rfl)
    | 1, ht => cases ht; exact (show Tryz.prog.wantsStandIn 3 = false by kernel_rfl)
    | 2, ht => cases ht; exact (show Tryz.prog.wantsStandIn 77 = false by kernel_rfl)
    | j + 3, ht => simp at ht⟩)
  kq
#print axioms wholeMinimum_card
end Go.Proofs.YtnoildlijhapaaaGreatDoor
