/-
  The examples' run, some of its calls known.
-/
import Derived.Test.YtloomikigalnfaaGreatDoorExDefs
set_option linter.unusedVariables false
set_option linter.unusedSimpArgs false
set_option linter.unusedSectionVars false
namespace Go.Ev
open Go Go.Proofs
noncomputable section
/-- The calls whose answers are known. -/
def Ks : List Known := [K28, K20, K22, K23, K30, K31]
def vTrue (v : AV) : Bool := AV.rec (motive_1 := fun _ => Bool) (motive_2 := fun _ => Unit) (fun b => b) (fun _ _ => false) (fun _ => false) (fun _ => false) (fun _ _ _ => false) (fun _ => false) (fun _ _ _ _ _ => false) false (fun _ _ _ => false) false (fun _ _ => false) (fun _ _ => false) () (fun _ _ _ _ => ()) v
/-- Whether the examples answer true. -/
def exAll : Bool := orec false (fun H => orec false (fun r => vTrue r.v) (callK E0 20000 Ks 200 (.call 4 [] H))) (heapOf 65 Gl)
end
set_option maxRecDepth 100000000 in
set_option maxHeartbeats 0 in
theorem exAll_true : exAll = true := by kernel_rfl
end Go.Ev
