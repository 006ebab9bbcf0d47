/-
  What a part of the functions name.
  What a part of the functions name.
-/
import Derived.Test.YtloomikigalnfaaGreatDoorGenN

section
namespace Go.Proofs.YtloomikigalnfaaGreatDoor
open Go
theorem ltab_eq0 : (List.range' 0 349).map leads = ltab0 := by kernel_rfl
theorem gtab_eq0 : cl0.map names = gtab0 := by kernel_rfl
theorem plain0 : cl0.all plainFn = true := by kernel_rfl
end Go.Proofs.YtloomikigalnfaaGreatDoor
end

section
namespace Go.Proofs.YtloomikigalnfaaGreatDoor
open Go
theorem ltab_eq1 : (List.range' 349 348).map leads = ltab1 := by kernel_rfl
theorem gtab_eq1 : cl1.map names = gtab1 := by kernel_rfl
theorem plain1 : cl1.all plainFn = true := by kernel_rfl
end Go.Proofs.YtloomikigalnfaaGreatDoor
end
