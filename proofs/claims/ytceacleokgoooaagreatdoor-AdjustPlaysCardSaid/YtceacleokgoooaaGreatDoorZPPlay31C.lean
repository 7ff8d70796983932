/- Part of a proof that a Go function answers true for every input. No condition. -/
import Derived.Test.YtceacleokgoooaaGreatDoorZPPlay31
import Derived.Test.YtceacleokgoooaaGreatDoorRows
import Derived.ProofKit
import Derived.Test.YtceacleokgoooaaGreatDoorCards
import Derived.Test.YtceacleokgoooaaGreatDoorTie
import Derived.LaidMore
import Derived.OpenShut
import Derived.Stop.Joined
import Derived.SevenTiedAt
set_option linter.unusedVariables false
set_option linter.unusedSimpArgs false
set_option linter.unusedSectionVars false
/- For every input AdjustPlays answers true, and its arguments read behind the call as before. No condition. -/
namespace Go.Proofs.YtceacleokgoooaaGreatDoor
open Go.ChangeShapes Go.WideShapes Go.ChangeAt Go.RowKit
theorem mS : Tryz.prog.mainIs = some ((true, "4146135ce1ab57b7b40d37d552bb0dfc7909aa4b5e69654eeaef85e63a98fcce").1, (true, "4146135ce1ab57b7b40d37d552bb0dfc7909aa4b5e69654eeaef85e63a98fcce").2.toList) := by kernel_rfl
theorem mh : false = Tryz.prog.looks [] := by kernel_rfl
theorem mU : false = Rows.adjustPlaysRow.goesBy Tryz.prog := by kernel_rfl
theorem mR : Tryz.prog.funcNamed "wayfinder/wayfinderlaw31.AdjustPlays" = some 4 := by kernel_rfl
theorem adjustPlays_card : Rows.AdjustPlaysCardSaid :=
 Claim7.holds_tied_plain_at .later [] [.data, .data, .data] true (true, "4146135ce1ab57b7b40d37d552bb0dfc7909aa4b5e69654eeaef85e63a98fcce") false
  adjustPlays_holds (fun _ h => by cases h) (by kernel_rfl) (fun _ h => by cases h) adjustPlays_row_tie rfl ⟨rfl, rfl⟩ mS rfl
  (fun f fn hf hfn => by
   obtain rfl : f = 4 := Option.some.inj (mR.symm.trans hf) |>.symm
   obtain rfl : fn = Tryz.f4 := (Option.some.inj (Tryz.func4.symm.trans hfn)).symm
   exact ⟨mh, fun j t ht => by
    rw [Tryz.params4] at ht
    match j, ht with
    | 0, ht => cases ht; exact (show Tryz.prog.wantsStandIn 38 = false by kernel_rfl)
    | 1, ht => cases ht; exact (show Tryz.prog.wantsStandIn 52 = false by kernel_rfl)
    | j + 2, ht => simp at ht⟩)
  mU
#print axioms adjustPlays_card
end Go.Proofs.YtceacleokgoooaaGreatDoor
