/- Part of a proof that a Go function answers true for every input. No condition. -/
import Derived.Test.YtnoildlijhapaaaGreatDoorZPWid30
import Derived.Test.YtnoildlijhapaaaGreatDoorRows
import Derived.ProofKit
import Derived.Test.YtnoildlijhapaaaGreatDoorCards
import Derived.Test.YtnoildlijhapaaaGreatDoorTie
import Derived.LaidMore
import Derived.OpenShut
import Derived.Stop.Joined
import Derived.SevenTiedAt
set_option linter.unusedVariables false
set_option linter.unusedSimpArgs false
set_option linter.unusedSectionVars false
/- For every input ClosureWider answers true, and its arguments read behind the call as before. No condition. -/
namespace Go.Proofs.YtnoildlijhapaaaGreatDoor
open Go.ChangeShapes Go.WideShapes Go.ChangeAt Go.RowKit
theorem lH : Tryz.prog.mainIs = some ((true, "4e77effd13a90b473d051509d7ffbae52b67c8bc8332b471a169635064bf90f9").1, (true, "4e77effd13a90b473d051509d7ffbae52b67c8bc8332b471a169635064bf90f9").2.toList) := by kernel_rfl
theorem kx : false = Tryz.prog.looks [] := by kernel_rfl
theorem lK : false = Rows.closureWiderRow.goesBy Tryz.prog := by kernel_rfl
theorem lG : Tryz.prog.funcNamed "wayfinder/wayfinderlaw30.ClosureWider" = some 9 := by kernel_rfl
theorem closureWider_card : Rows.ClosureWiderCardSaid :=
 Claim7.holds_tied_plain_at .later [] [.data, .data, .data] true (true, "4e77effd13a90b473d051509d7ffbae52b67c8bc8332b471a169635064bf90f9") false
  closureWider_holds (fun _ h => by cases h) (by kernel_rfl) (fun _ h => by cases h) closureWider_row_tie rfl ⟨rfl, rfl⟩ lH rfl
  (fun f fn hf hfn => by
   obtain rfl : f = 9 := Option.some.inj (lG.symm.trans hf) |>.symm
   obtain rfl : fn = Tryz.f9 := (Option.some.inj (Tryz.func9.symm.trans hfn)).symm
   exact ⟨kx, fun j t ht => by
    rw [Tryz.params9] at ht
    match j, ht with
    | 0, ht => cases ht; exact (show Tryz.prog.wantsStandIn 25 = false by kernel_rfl)
    | 1, ht => cases ht; exact (show Tryz.prog.wantsStandIn 48 = false by kernel_rfl)
    | 2, ht => cases ht; exact (show Tryz.prog.wantsStandIn 69 = false by kernel_rfl)
    | j + 3, ht => simp at ht⟩)
  lK
#print axioms closureWider_card
end Go.Proofs.YtnoildlijhapaaaGreatDoor
