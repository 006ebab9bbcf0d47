/-
  One of the facts by which the listed variables are tied to the text of the program: the run that lays them returns.
-/
import Derived.Test.YtloomikigalnfaaGreatDoorTieK
namespace Go.Proofs.YtloomikigalnfaaGreatDoor
open Go
theorem tie_hd : ∀ os tape, varsDone Tryz.prog 400 696 os tape = true := fun _ _ => by kernel_rfl
end Go.Proofs.YtloomikigalnfaaGreatDoor
