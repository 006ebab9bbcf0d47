/-
  The functions that the law reaches: the search over the lists of what each names.
-/
import Derived.Test.YtloomikigalnfaaGreatDoorGenN
namespace Go.Proofs.YtloomikigalnfaaGreatDoor
open Go
/-- The search, over a table. -/
def viaT (T : Nat → List Nat) : Nat → List Nat → List Nat → List Nat
  | 0, _, seen => seen.reverse
  | _, [], seen => seen.reverse
  | n + 1, f :: todo, seen => if seen.contains f then viaT T n todo seen else viaT T n (T f ++ todo) (f :: seen)
/-- The table. -/
def ltabs : List (List Nat) := ltab0 ++ ltab1
theorem via_run : viaT (fun f => ltabs.getD f []) 2078 [3] [] = cl0 ++ cl1 := by kernel_rfl
theorem fuel_run : 1 + (ltabs.map fun x => x.length + 1).sum = 2078 := by kernel_rfl
end Go.Proofs.YtloomikigalnfaaGreatDoor
