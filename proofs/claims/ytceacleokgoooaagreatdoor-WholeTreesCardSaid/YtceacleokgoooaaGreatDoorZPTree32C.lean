/- Part of a proof that a Go function answers true for every input. No condition. -/
import Derived.Test.YtceacleokgoooaaGreatDoorZPTree32
import Derived.Test.YtceacleokgoooaaGreatDoorRows
import Derived.ProofKit
import Derived.Test.YtceacleokgoooaaGreatDoorCards
import Derived.Test.YtceacleokgoooaaGreatDoorTie
import Derived.LaidMore
import Derived.OpenShut
import Derived.Stop.Joined
import Derived.SevenTiedAt
set_option linter.unusedVariables false
set_option linter.unusedSimpArgs false
set_option linter.unusedSectionVars false
/- For every input WholeTrees answers true, and its arguments read behind the call as before. No condition. -/
namespace Go.Proofs.YtceacleokgoooaaGreatDoor
open Go.ChangeShapes Go.WideShapes Go.ChangeAt Go.RowKit
theorem pw : Tryz.prog.mainIs = some ((true, "4146135ce1ab57b7b40d37d552bb0dfc7909aa4b5e69654eeaef85e63a98fcce").1, (true, "4146135ce1ab57b7b40d37d552bb0dfc7909aa4b5e69654eeaef85e63a98fcce").2.toList) := by kernel_rfl
theorem n9 : false = Tryz.prog.looks [] := by kernel_rfl
theorem py : false = Rows.wholeTreesRow.goesBy Tryz.prog := by kernel_rfl
theorem pv : Tryz.prog.funcNamed "wayfinder/wayfindertop.WholeTrees" = some 5 := by kernel_rfl
theorem wholeTrees_card : Rows.WholeTreesCardSaid :=
 Claim7.holds_tied_plain_at .later [] [.data, .data, .data] true (true, "4146135ce1ab57b7b40d37d552bb0dfc7909aa4b5e69654eeaef85e63a98fcce") false
  wholeTrees_holds (fun _ h => by cases h) (by kernel_rfl) (fun _ h => by cases h) wholeTrees_row_tie rfl ⟨rfl, rfl⟩ pw rfl
  (fun f fn hf hfn => by
   obtain rfl : f = 5 := Option.some.inj (pv.symm.trans hf) |>.symm
   obtain rfl : fn = Tryz.f5 := (Option.some.inj (Tryz.func5.symm.trans hfn)).symm
   exact ⟨n9, fun j t ht => by
    rw [Tryz.params5] at ht
    match j, ht with
    | 0, ht => cases ht; exact (show Tryz.prog.wantsStandIn 25 = false by kernel_rfl)
    | j + 1, ht => simp at ht⟩)
  py
#print axioms wholeTrees_card
end Go.Proofs.YtceacleokgoooaaGreatDoor
