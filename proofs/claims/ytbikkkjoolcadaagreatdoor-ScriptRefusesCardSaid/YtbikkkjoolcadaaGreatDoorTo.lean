/- The rows' tie, from facts that stand by themselves (together they pass the memory). -/
import Derived.Test.YtbikkkjoolcadaaGreatDoorTa
import Derived.Test.YtbikkkjoolcadaaGreatDoorTk
import Derived.Test.YtbikkkjoolcadaaGreatDoorTb
import Derived.Test.YtbikkkjoolcadaaGreatDoorTc
import Derived.Test.YtbikkkjoolcadaaGreatDoorTn
import Derived.KernelRfl
namespace Go.Proofs.YtbikkkjoolcadaaGreatDoor
open Go
theorem tieIs : Tryz.prog.laidByTextLater [("strconv.ErrSyntax", Rows.laid_strconv_ErrSyntax), ("strconv.ErrRange", Rows.laid_strconv_ErrRange), ("internal/strconv.uint64pow10", Rows.laid_internal_strconv_uint64pow10), ("math/bits.deBruijn32tab", Rows.laid_math_bits_deBruijn32tab), ("math/bits.deBruijn64tab", Rows.laid_math_bits_deBruijn64tab), ("errors.errorType", Rows.laid_errors_errorType), ("unicode/utf8.acceptRanges", Rows.laid_unicode_utf8_acceptRanges)] [.sentinel, .sentinel, .data, .data, .data, .handle, .data] true :=
  Program.laidByTextLater_by_one 71 8 65 ta1 ta2 ta3 ta4 ta5 tb tc
theorem scriptErrors_fits : Tryz.pinned.checked.prog.listedFits Rows.scriptErrorsRow.laid = true := by
  unfold Program.listedFits
  rw [noOwnUnsafe]
  kernel_rfl
theorem scriptErrors_row_tie : Rows.scriptErrorsRow.laidByTextAt .later Tryz.pinned [.sentinel, .sentinel, .data, .data, .data, .handle, .pinned, .data] true :=
  OpenClaim.laidByTextAt_pinned rfl rfl tieIs rfl rfl rfl rfl (fun y hy _e => by
    simp only [Rows.scriptErrorsRow, List.zip_cons_cons, List.zip_nil_right, List.mem_cons, List.mem_nil_iff, or_false] at hy
    rcases hy with rfl | rfl | rfl | rfl | rfl | rfl | rfl | rfl
    · cases _e
    · cases _e
    · cases _e
    · cases _e
    · cases _e
    · cases _e
    · exact ⟨pin0, by kernel_rfl⟩
    · cases _e) scriptErrors_fits
theorem scriptRefuses_fits : Tryz.pinned.checked.prog.listedFits Rows.scriptRefusesRow.laid = true := by
  unfold Program.listedFits
  rw [noOwnUnsafe]
  kernel_rfl
theorem scriptRefuses_row_tie : Rows.scriptRefusesRow.laidByTextAt .later Tryz.pinned [.sentinel, .sentinel, .data, .data, .data, .handle, .pinned, .data] true :=
  OpenClaim.laidByTextAt_pinned rfl rfl tieIs rfl rfl rfl rfl (fun y hy _e => by
    simp only [Rows.scriptRefusesRow, List.zip_cons_cons, List.zip_nil_right, List.mem_cons, List.mem_nil_iff, or_false] at hy
    rcases hy with rfl | rfl | rfl | rfl | rfl | rfl | rfl | rfl
    · cases _e
    · cases _e
    · cases _e
    · cases _e
    · cases _e
    · cases _e
    · exact ⟨pin0, by kernel_rfl⟩
    · cases _e) scriptRefuses_fits
end Go.Proofs.YtbikkkjoolcadaaGreatDoor
