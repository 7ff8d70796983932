/- Part of a proof that a Go function answers true for every input. No condition. -/
import Derived.Test.YtnoildlijhapaaaGreatDoorZPCom30
import Derived.Test.YtnoildlijhapaaaGreatDoorRows
import Derived.ProofKit
import Derived.Test.YtnoildlijhapaaaGreatDoorCards
import Derived.Test.YtnoildlijhapaaaGreatDoorTie
import Derived.LaidMore
import Derived.OpenShut
import Derived.Stop.Joined
import Derived.SevenTiedAt
set_option linter.unusedVariables false
set_option linter.unusedSimpArgs false
set_option linter.unusedSectionVars false
/- For every input ClosureCommon answers true, and its arguments read behind the call as before. No condition. -/
namespace Go.Proofs.YtnoildlijhapaaaGreatDoor
open Go.ChangeShapes Go.WideShapes Go.ChangeAt Go.RowKit
theorem ml : Tryz.prog.mainIs = some ((true, "4e77effd13a90b473d051509d7ffbae52b67c8bc8332b471a169635064bf90f9").1, (true, "4e77effd13a90b473d051509d7ffbae52b67c8bc8332b471a169635064bf90f9").2.toList) := by kernel_rfl
theorem lB : false = Tryz.prog.looks [] := by kernel_rfl
theorem mn : false = Rows.closureCommonRow.goesBy Tryz.prog := by kernel_rfl
theorem mj : Tryz.prog.funcNamed "wayfinder/wayfinderlaw30.ClosureCommon" = some 6 := by kernel_rfl
theorem closureCommon_card : Rows.ClosureCommonCardSaid :=
 Claim7.holds_tied_plain_at .later [] [.data, .data, .data] true (true, "4e77effd13a90b473d051509d7ffbae52b67c8bc8332b471a169635064bf90f9") false
  closureCommon_holds (fun _ h => by cases h) (by kernel_rfl) (fun _ h => by cases h) closureCommon_row_tie rfl ⟨rfl, rfl⟩ ml rfl
  (fun f fn hf hfn => by
   obtain rfl : f = 6 := Option.some.inj (mj.symm.trans hf) |>.symm
   obtain rfl : fn = Tryz.f6 := (Option.some.inj (Tryz.func6.symm.trans hfn)).symm
   exact ⟨lB, fun j t ht => by
    rw [Tryz.params6] at ht
    match j, ht with
    | 0, ht => cases ht; exact (show Tryz.prog.wantsStandIn 28 = false by kernel_rfl)
    | 1, ht => cases ht; exact (show Tryz.prog.wantsStandIn 3 = false by kernel_rfl)
    | j + 2, ht => simp at ht⟩)
  mn
#print axioms closureCommon_card
end Go.Proofs.YtnoildlijhapaaaGreatDoor
