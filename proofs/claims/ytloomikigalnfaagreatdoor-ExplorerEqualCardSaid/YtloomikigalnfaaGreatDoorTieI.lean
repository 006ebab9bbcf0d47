/-
  One of the facts by which the listed variables are tied to the text of the program: the places that they take, each once, and the blocks that these lie in.
-/
import Derived.Test.YtloomikigalnfaaGreatDoorTieK
namespace Go.Proofs.YtloomikigalnfaaGreatDoor
open Go
theorem tie_h2' : ∀ os tape, (DataW.laidRun Tryz.prog (varsWorld Tryz.prog 400 696 os tape).memory 8 (laidL.map (·.1))).map (fun x => nodupBits 512 x.2 0 && laidRowsB Tryz.prog (varsWorld Tryz.prog 400 696 os tape).memory x.2) = some true := fun _ _ => by kernel_rfl
theorem tie_h2 : ∀ os tape, (DataW.laidRun Tryz.prog (varsWorld Tryz.prog 400 696 os tape).memory 8 (laidL.map (·.1))).map (fun x => decide x.2.Nodup && laidRowsB Tryz.prog (varsWorld Tryz.prog 400 696 os tape).memory x.2) = some true := by
  intro os tape
  have h := tie_h2' os tape
  cases hx : DataW.laidRun Tryz.prog (varsWorld Tryz.prog 400 696 os tape).memory 8 (laidL.map (·.1)) with
  | none => rw [hx] at h; cases h
  | some x =>
    rw [hx] at h
    simp only [Option.map_some, Option.some.injEq, Bool.and_eq_true] at h ⊢
    exact ⟨decide_eq_true (nodupBits_sound h.1).1, h.2⟩
end Go.Proofs.YtloomikigalnfaaGreatDoor
