/-
  Closed facts about the program and the row.
  Closed facts about the program and the row.
  Closed facts about the program and the row.
-/
import Derived.Test.YtloomikigalnfaaGreatDoorRows
import Derived.JoinedOf
import Derived.KernelRfl

section
namespace Go.Proofs.YtloomikigalnfaaGreatDoor
open Go
set_option maxRecDepth 100000000 in
set_option maxHeartbeats 0 in
theorem f_params : Tryz.prog.funcs.all (fun f => f.params.all fun t => decide (t < Tryz.prog.types.size)) = true := by kernel_rfl
end Go.Proofs.YtloomikigalnfaaGreatDoor
end

section
namespace Go.Proofs.YtloomikigalnfaaGreatDoor
open Go
set_option maxRecDepth 100000000 in
set_option maxHeartbeats 0 in
theorem f_heard : Tryz.prog.stopsHeard = true := by kernel_rfl
end Go.Proofs.YtloomikigalnfaaGreatDoor
end

section
namespace Go.Proofs.YtloomikigalnfaaGreatDoor
open Go
set_option maxRecDepth 100000000 in
set_option maxHeartbeats 0 in
theorem f_enter : Tryz.prog.mayEnter = true := by kernel_rfl
end Go.Proofs.YtloomikigalnfaaGreatDoor
end
