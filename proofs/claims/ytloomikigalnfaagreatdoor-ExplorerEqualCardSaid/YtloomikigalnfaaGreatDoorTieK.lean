/-
  One of the facts by which the listed variables are tied to the text of the program: the kinds of the variables.
  One of the facts by which the listed variables are tied to the text of the program: the function that lays them has this number.
  One of the facts by which the listed variables are tied to the text of the program: its root.
  One of the facts by which the listed variables are tied to the text of the program: its word.
  One of the facts by which the listed variables are tied to the text of the program: its other word.
-/
import Derived.Test.YtloomikigalnfaaGreatDoorRows
import Derived.LaidOnce
import Derived.SevenTiedAt

section
namespace Go.Proofs.YtloomikigalnfaaGreatDoor
open Go
/-- What the listed variables read as. -/
def laidL : List (String × DataW Unit) := [("strings.asciiSpace", Rows.laid_strings_asciiSpace), ("unicode.White_Space", Rows.laid_unicode_White_Space), ("trickle/ast.statements", Rows.laid_trickle_ast_statements), ("math/bits.deBruijn64tab", Rows.laid_math_bits_deBruijn64tab), ("internal/strconv.uint64pow10", Rows.laid_internal_strconv_uint64pow10), ("math/bits.deBruijn32tab", Rows.laid_math_bits_deBruijn32tab), ("strconv.ErrSyntax", Rows.laid_strconv_ErrSyntax), ("strconv.ErrRange", Rows.laid_strconv_ErrRange), ("trickle/cpu.binary", Rows.laid_trickle_cpu_binary)]
/-- Their kinds. -/
def laidK : List LaidKind := [.data, .listed, .data, .data, .data, .data, .sentinel, .sentinel, .data]
theorem tie_hk : laidL.map (fun x => Tryz.prog.kindOfLater x.1) = laidK.map some := by kernel_rfl
end Go.Proofs.YtloomikigalnfaaGreatDoor
end

section
namespace Go.Proofs.YtloomikigalnfaaGreatDoor
open Go
theorem tie_hg : Tryz.prog.funcNamed "gosem.cut.vars" = some 696 := by kernel_rfl
end Go.Proofs.YtloomikigalnfaaGreatDoor
end

section
namespace Go.Proofs.YtloomikigalnfaaGreatDoor
open Go
theorem tie_hroot : Tryz.prog.worded rootWordLater = true := by kernel_rfl
end Go.Proofs.YtloomikigalnfaaGreatDoor
end

section
namespace Go.Proofs.YtloomikigalnfaaGreatDoor
open Go
theorem tie_hw : Tryz.prog.worded (varsWordLater true) = true := by kernel_rfl
end Go.Proofs.YtloomikigalnfaaGreatDoor
end

section
namespace Go.Proofs.YtloomikigalnfaaGreatDoor
open Go
theorem tie_hwn : Tryz.prog.worded (varsWordLater !true) = false := by kernel_rfl
end Go.Proofs.YtloomikigalnfaaGreatDoor
end
