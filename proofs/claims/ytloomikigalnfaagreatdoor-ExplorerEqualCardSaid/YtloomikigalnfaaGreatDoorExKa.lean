/-
  One of the known calls is what the evaluator answers.
  One of the known calls is what the evaluator answers.
  One of the known calls is what the evaluator answers.
  One of the known calls is what the evaluator answers.
  One of the known calls is what the evaluator answers.
-/
import Derived.Test.YtloomikigalnfaaGreatDoorExDefs
set_option linter.unusedVariables false
set_option linter.unusedSimpArgs false
set_option linter.unusedSectionVars false

section
namespace Go.Ev
open Go Go.Proofs
set_option maxRecDepth 100000000 in
set_option maxHeartbeats 0 in
theorem k28 : K28.check (callF E0 20000 200) = true := by kernel_rfl
theorem kf28 : K28.form = true := by kernel_rfl
end Go.Ev
end

section
namespace Go.Ev
open Go Go.Proofs
set_option maxRecDepth 100000000 in
set_option maxHeartbeats 0 in
theorem k20 : K20.check (callF E0 20000 200) = true := by kernel_rfl
theorem kf20 : K20.form = true := by kernel_rfl
end Go.Ev
end

section
namespace Go.Ev
open Go Go.Proofs
set_option maxRecDepth 100000000 in
set_option maxHeartbeats 0 in
theorem k22 : K22.check (callF E0 20000 200) = true := by kernel_rfl
theorem kf22 : K22.form = true := by kernel_rfl
end Go.Ev
end

section
namespace Go.Ev
open Go Go.Proofs
set_option maxRecDepth 100000000 in
set_option maxHeartbeats 0 in
theorem k30 : K30.check (callF E0 20000 200) = true := by kernel_rfl
theorem kf30 : K30.form = true := by kernel_rfl
end Go.Ev
end

section
namespace Go.Ev
open Go Go.Proofs
set_option maxRecDepth 100000000 in
set_option maxHeartbeats 0 in
theorem k31 : K31.check (callF E0 20000 200) = true := by kernel_rfl
theorem kf31 : K31.form = true := by kernel_rfl
end Go.Ev
end
