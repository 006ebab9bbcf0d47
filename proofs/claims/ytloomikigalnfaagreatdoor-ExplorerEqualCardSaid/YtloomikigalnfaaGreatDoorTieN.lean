/-
  One of the facts by which the listed variables are tied to the text of the program: the variables are named.
-/
import Derived.Test.YtloomikigalnfaaGreatDoorTieK
namespace Go.Proofs.YtloomikigalnfaaGreatDoor
open Go
theorem tie_hn : varsNamedLaterB Tryz.prog 696 laidL = true := by kernel_rfl
end Go.Proofs.YtloomikigalnfaaGreatDoor
