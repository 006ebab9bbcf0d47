/-
  Closed facts about the program and the row.
-/
import Derived.Test.YtloomikigalnfaaGreatDoorRows
import Derived.JoinedOf
import Derived.KernelRfl
namespace Go.Proofs.YtloomikigalnfaaGreatDoor
open Go
set_option maxRecDepth 100000000 in
set_option maxHeartbeats 0 in
theorem f_rows : (List.range Tryz.prog.types.size).all (rowFine Tryz.prog) = true := by kernel_rfl
set_option maxRecDepth 100000000 in
set_option maxHeartbeats 0 in
theorem f_globals : Tryz.prog.globals.all (fun g => decide (g.type < Tryz.prog.types.size)) = true := by kernel_rfl
set_option maxRecDepth 100000000 in
set_option maxHeartbeats 0 in
theorem f_stops : (Tryz.prog.stops == []) = true := by kernel_rfl
set_option maxRecDepth 100000000 in
set_option maxHeartbeats 0 in
theorem f_stops2 : (Rows.explorerEqualRow.stops == []) = true := by kernel_rfl
set_option maxRecDepth 100000000 in
set_option maxHeartbeats 0 in
theorem f_knobs : (Rows.explorerEqualRow.knobs == []) = true := by kernel_rfl
set_option maxRecDepth 100000000 in
set_option maxHeartbeats 0 in
theorem f_knobs2 : (Tryz.prog.stopKnobs == []) = true := by kernel_rfl
set_option maxRecDepth 100000000 in
set_option maxHeartbeats 0 in
theorem f_read : Tryz.f3.params.all (Tryz.prog.readableRec ·) = true := by kernel_rfl
set_option maxRecDepth 100000000 in
set_option maxHeartbeats 0 in
theorem f_mapsRec : (Rows.explorerEqualRow.maps == (Tryz.f3.params.toList ++ Rows.explorerEqualSpec.plain.varTypes Tryz.prog).any (Tryz.prog.mapsRec ·)) = true := by kernel_rfl
set_option maxRecDepth 100000000 in
set_option maxHeartbeats 0 in
theorem f_ifaces : (Rows.explorerEqualRow.ifaces == (Tryz.f3.params.toList ++ Rows.explorerEqualSpec.plain.varTypes Tryz.prog).any (Tryz.prog.ifacesRec ·)) = true := by kernel_rfl
set_option maxRecDepth 100000000 in
set_option maxHeartbeats 0 in
theorem f_mapsOut : (Rows.explorerEqualRow.mapsOut == Tryz.prog.mapsAmong Tryz.f3.resultTypes.toList) = true := by kernel_rfl
set_option maxRecDepth 100000000 in
set_option maxHeartbeats 0 in
theorem f_loops : (Rows.explorerEqualRow.loops == (Tryz.f3.params.toList ++ Rows.explorerEqualSpec.plain.varTypes Tryz.prog).any (Tryz.prog.loopsFrom ·)) = true := by kernel_rfl
set_option maxRecDepth 100000000 in
set_option maxHeartbeats 0 in
theorem f_wide : (Rows.explorerEqualRow.wideKeys == (Tryz.f3.params.toList ++ Rows.explorerEqualSpec.plain.varTypes Tryz.prog ++ Tryz.f3.resultTypes.toList).any (Tryz.prog.wideKeysFrom ·)) = true := by kernel_rfl
set_option maxRecDepth 100000000 in
set_option maxHeartbeats 0 in
theorem f_vars : Rows.explorerEqualSpec.vars.all (Tryz.prog.varReadable ·) = true := by kernel_rfl
set_option maxRecDepth 100000000 in
set_option maxHeartbeats 0 in
theorem f_res : Tryz.f3.resultTypes.all (fun t => Tryz.prog.readableRec t && decide (t < Tryz.prog.types.size)) = true := by kernel_rfl
set_option maxRecDepth 100000000 in
set_option maxHeartbeats 0 in
theorem f_ifacesOut : (Rows.explorerEqualRow.ifacesOut == Tryz.f3.resultTypes.toList.any (Tryz.prog.ifacesRec ·)) = true := by kernel_rfl
set_option maxRecDepth 100000000 in
set_option maxHeartbeats 0 in
theorem f_loopsOut : (Rows.explorerEqualRow.loopsOut == Tryz.f3.resultTypes.toList.any (Tryz.prog.loopsFrom ·)) = true := by kernel_rfl
set_option maxRecDepth 100000000 in
set_option maxHeartbeats 0 in
theorem f_keys : (Rows.explorerEqualRow.plainKeys == Tryz.prog.plainKeys) = true := by kernel_rfl
set_option maxRecDepth 100000000 in
set_option maxHeartbeats 0 in
theorem f_short : Rows.explorerEqualRow.shortTexts.isNone = true := by kernel_rfl
set_option maxRecDepth 100000000 in
set_option maxHeartbeats 0 in
theorem f_lifted : (Rows.explorerEqualRow.lifted == Tryz.prog.liftsFinal) = true := by kernel_rfl
set_option maxRecDepth 100000000 in
set_option maxHeartbeats 0 in
theorem f_make : (Tryz.prog.make == some Rows.explorerEqualRow.make) = true := by kernel_rfl
set_option maxRecDepth 100000000 in
set_option maxHeartbeats 0 in
theorem f_kinds : (Rows.explorerEqualRow.kinds == (if Rows.explorerEqualRow.domain.isEmpty then [] else Tryz.f3.params.toList.map fun t => match Tryz.prog.underlying t with | some (.int k) => some k | _ => none)) = true := by kernel_rfl
set_option maxRecDepth 100000000 in
set_option maxHeartbeats 0 in
theorem f_pinned : (Rows.explorerEqualRow.pinned == Rows.explorerEqualRow.pinnedBy) = true := by kernel_rfl
set_option maxRecDepth 100000000 in
set_option maxHeartbeats 0 in
theorem f_veiled : (Rows.explorerEqualRow.veiled == (Tryz.f3.params.toList ++ Rows.explorerEqualSpec.plain.varTypes Tryz.prog ++ Tryz.f3.resultTypes.toList).any (Tryz.prog.veiledRec ·)) = true := by kernel_rfl
set_option maxRecDepth 100000000 in
set_option maxHeartbeats 0 in
theorem f_veils : Rows.explorerEqualRow.veiledFits Tryz.prog Tryz.f3.params.toList (Tryz.f3.params.toList ++ Rows.explorerEqualSpec.plain.varTypes Tryz.prog ++ Tryz.f3.resultTypes.toList) = true := by kernel_rfl
end Go.Proofs.YtloomikigalnfaaGreatDoor
