/-
  No go statement stands in a part of the functions.
  No go statement stands in a part of the functions.
-/
import Derived.Test.YtloomikigalnfaaGreatDoorRows
import GoSem.ClaimGoes
import Derived.KernelRfl

section
namespace Go.Proofs.YtloomikigalnfaaGreatDoor
open Go
theorem u_go0 : ((List.range' 0 349).any fun f => (Tryz.prog.funcs[f]?).any Func.goes) = false := by kernel_rfl
end Go.Proofs.YtloomikigalnfaaGreatDoor
end

section
namespace Go.Proofs.YtloomikigalnfaaGreatDoor
open Go
theorem u_go1 : ((List.range' 349 348).any fun f => (Tryz.prog.funcs[f]?).any Func.goes) = false := by kernel_rfl
end Go.Proofs.YtloomikigalnfaaGreatDoor
end
