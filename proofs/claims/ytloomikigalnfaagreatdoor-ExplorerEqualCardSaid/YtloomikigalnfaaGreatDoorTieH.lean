/-
  One of the facts by which the listed variables are tied to the text of the program: what they read as behind that run.
-/
import Derived.Test.YtloomikigalnfaaGreatDoorTieK
namespace Go.Proofs.YtloomikigalnfaaGreatDoor
open Go
theorem tie_h1 : ∀ os tape, (DataW.laidRun Tryz.prog (varsWorld Tryz.prog 400 696 os tape).memory 8 (laidL.map (·.1))).map (·.1) = some laidL := fun _ _ => by kernel_rfl
end Go.Proofs.YtloomikigalnfaaGreatDoor
