/-
  Closed facts about the program and the row.
-/
import Derived.Test.YtloomikigalnfaaGreatDoorRows
import Derived.JoinedOf
import Derived.KernelRfl
namespace Go.Proofs.YtloomikigalnfaaGreatDoor
open Go
set_option maxRecDepth 100000000 in
set_option maxHeartbeats 0 in
theorem f_wf : Rows.explorerEqualRow.wf (OpenSpec.ofChange Rows.explorerEqualSpec) = true := by kernel_rfl
set_option maxRecDepth 100000000 in
set_option maxHeartbeats 0 in
theorem f_maps : mapsRowed Tryz.prog = true := by kernel_rfl
set_option maxRecDepth 100000000 in
set_option maxHeartbeats 0 in
theorem f_tie : namedTie Tryz.prog Rows.explorerEqualRow.named Rows.explorerEqualSpec.vars = true := by kernel_rfl
end Go.Proofs.YtloomikigalnfaaGreatDoor
