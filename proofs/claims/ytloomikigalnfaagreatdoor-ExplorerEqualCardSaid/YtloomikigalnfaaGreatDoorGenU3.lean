/-
  Closed facts about the program and the card.
  One of the closed facts about the program: the law's function has this number.
  One of the closed facts about the program: the law's function is no instance and no wrapper.
-/
import Derived.Test.YtloomikigalnfaaGreatDoorRows
import Derived.SevenTiedAt
import Derived.KernelRfl
import Derived.JoinedOf

section
namespace Go.Proofs.YtloomikigalnfaaGreatDoor
open Go
set_option maxRecDepth 100000000 in
set_option maxHeartbeats 0 in
theorem u_stand : Tryz.prog.wantsStandIn 28 = false := by kernel_rfl
set_option maxRecDepth 100000000 in
set_option maxHeartbeats 0 in
theorem noOwnUnsafe : Tryz.pinned.checked.prog.headLifts.contains "ownunsafe" = false := by kernel_rfl
end Go.Proofs.YtloomikigalnfaaGreatDoor
end

section
namespace Go.Proofs.YtloomikigalnfaaGreatDoor
open Go
theorem fact_named : Tryz.prog.funcNamed "trickle/tricklelaw54.ExplorerEqual" = some 3 := by kernel_rfl
end Go.Proofs.YtloomikigalnfaaGreatDoor
end

section
namespace Go.Proofs.YtloomikigalnfaaGreatDoor
open Go
theorem fact_instance : Tryz.f3.isInstance Tryz.prog Rows.explorerEqualRow.origin Rows.explorerEqualRow.targs := of_decide_eq_true (by kernel_rfl)
theorem fact_wrapper : Tryz.f3.isWrapper Tryz.prog Rows.explorerEqualRow.wrapper Rows.explorerEqualRow.mainSum := by
  unfold Func.isWrapper
  first | (rw [if_pos (by decide +kernel)]; kernel_rfl) | (rw [if_neg (by decide +kernel)]; exact ⟨rfl, rfl⟩)
end Go.Proofs.YtloomikigalnfaaGreatDoor
end
