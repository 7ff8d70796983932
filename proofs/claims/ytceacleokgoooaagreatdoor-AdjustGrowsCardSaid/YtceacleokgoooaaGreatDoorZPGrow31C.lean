/- Part of a proof that a Go function answers true for every input. No condition. -/
import Derived.Test.YtceacleokgoooaaGreatDoorZPGrow31
import Derived.Test.YtceacleokgoooaaGreatDoorRows
import Derived.ProofKit
import Derived.Test.YtceacleokgoooaaGreatDoorCards
import Derived.Test.YtceacleokgoooaaGreatDoorTie
import Derived.LaidMore
import Derived.OpenShut
import Derived.Stop.Joined
import Derived.SevenTiedAt
set_option linter.unusedVariables false
set_option linter.unusedSimpArgs false
set_option linter.unusedSectionVars false
/- For every input AdjustGrows answers true, and its arguments read behind the call as before. No condition. -/
namespace Go.Proofs.YtceacleokgoooaaGreatDoor
open Go.ChangeShapes Go.WideShapes Go.ChangeAt Go.RowKit
theorem mH : Tryz.prog.mainIs = some ((true, "4146135ce1ab57b7b40d37d552bb0dfc7909aa4b5e69654eeaef85e63a98fcce").1, (true, "4146135ce1ab57b7b40d37d552bb0dfc7909aa4b5e69654eeaef85e63a98fcce").2.toList) := by kernel_rfl
theorem l5 : false = Tryz.prog.looks [] := by kernel_rfl
theorem mJ : false = Rows.adjustGrowsRow.goesBy Tryz.prog := by kernel_rfl
theorem mG : Tryz.prog.funcNamed "wayfinder/wayfinderlaw31.AdjustGrows" = some 3 := by kernel_rfl
theorem adjustGrows_card : Rows.AdjustGrowsCardSaid :=
 Claim7.holds_tied_plain_at .later [] [.data, .data, .data] true (true, "4146135ce1ab57b7b40d37d552bb0dfc7909aa4b5e69654eeaef85e63a98fcce") false
  adjustGrows_holds (fun _ h => by cases h) (by kernel_rfl) (fun _ h => by cases h) adjustGrows_row_tie rfl ⟨rfl, rfl⟩ mH rfl
  (fun f fn hf hfn => by
   obtain rfl : f = 3 := Option.some.inj (mG.symm.trans hf) |>.symm
   obtain rfl : fn = Tryz.f3 := (Option.some.inj (Tryz.func3.symm.trans hfn)).symm
   exact ⟨l5, fun j t ht => by
    rw [Tryz.params3] at ht
    match j, ht with
    | 0, ht => cases ht; exact (show Tryz.prog.wantsStandIn 25 = false by kernel_rfl)
    | 1, ht => cases ht; exact (show Tryz.prog.wantsStandIn 23 = false by kernel_rfl)
    | j + 2, ht => simp at ht⟩)
  mJ
#print axioms adjustGrows_card
end Go.Proofs.YtceacleokgoooaaGreatDoor
