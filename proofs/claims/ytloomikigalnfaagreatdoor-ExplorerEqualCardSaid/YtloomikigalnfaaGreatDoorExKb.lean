/-
  One of the known calls is what the evaluator answers.
  One of the known calls is what the evaluator answers.
  One of the known calls is what the evaluator answers.
-/
import Derived.Test.YtloomikigalnfaaGreatDoorExDefs
set_option linter.unusedVariables false
set_option linter.unusedSimpArgs false
set_option linter.unusedSectionVars false

section
namespace Go.Ev
open Go Go.Proofs
set_option maxRecDepth 100000000 in
set_option maxHeartbeats 0 in
theorem k188 : K188.check (callF E0 20000 200) = true := by kernel_rfl
theorem kf188 : K188.form = true := by kernel_rfl
end Go.Ev
end

section
namespace Go.Ev
open Go Go.Proofs
set_option maxRecDepth 100000000 in
set_option maxHeartbeats 0 in
theorem k92 : K92.check (callK E0 20000 [K188] 200) = true := by kernel_rfl
theorem kf92 : K92.form = true := by kernel_rfl
end Go.Ev
end

section
namespace Go.Ev
open Go Go.Proofs
set_option maxRecDepth 100000000 in
set_option maxHeartbeats 0 in
theorem k23 : K23.check (callK E0 20000 [K92] 200) = true := by kernel_rfl
theorem kf23 : K23.form = true := by kernel_rfl
end Go.Ev
end
