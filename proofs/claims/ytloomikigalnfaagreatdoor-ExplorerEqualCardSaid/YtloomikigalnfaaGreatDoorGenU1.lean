/-
  Closed facts about the program and the card.
  Closed facts about the program and the card.
-/
import Derived.Test.YtloomikigalnfaaGreatDoorRows
import Derived.SevenTiedAt
import Derived.KernelRfl

section
namespace Go.Proofs.YtloomikigalnfaaGreatDoor
open Go
set_option maxRecDepth 100000000 in
set_option maxHeartbeats 0 in
theorem u_wf : Rows.explorerEqualRow.wfByText (OpenSpec.ofChange Rows.explorerEqualSpec) = true := by kernel_rfl
set_option maxRecDepth 100000000 in
set_option maxHeartbeats 0 in
theorem u_main : Tryz.pinned.checked.prog.mainIs = some (true, "8b4c2653ce586879b8060e35309de48a2b924e1d75e2c36ac2881af465f56a4f".toList) := by kernel_rfl
end Go.Proofs.YtloomikigalnfaaGreatDoor
end

section
namespace Go.Proofs.YtloomikigalnfaaGreatDoor
open Go
set_option maxRecDepth 100000000 in
set_option maxHeartbeats 0 in
theorem u_looks : true = Tryz.prog.looks [] := by kernel_rfl
end Go.Proofs.YtloomikigalnfaaGreatDoor
end
