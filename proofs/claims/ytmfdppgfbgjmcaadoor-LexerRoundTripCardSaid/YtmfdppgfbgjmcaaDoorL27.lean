/-
  The table of the powers of ten, out of the listed variables.
-/
import Derived.Test.YtmfdppgfbgjmcaaDoorL14
import Derived.Test.YtmfdppgfbgjmcaaDoorL25
import Derived.Lib.LaidTab
namespace Go.Proofs.YtmfdppgfbgjmcaaDoor
open Go Go.ChangeShapes Go.WideShapes Go.ChangeAt Go.RowKit

theorem gTabType : (Tryd.prog.globals[1]?).map (·.type) = some 74 := by kernel_rfl
theorem tab_of {w : World} (h : laidMetH Tryd.prog Rows.lexerOffsetsRow.laid w) : TabOk w := by
  rw [MakeChecks.laidMetH_plain _ _ _ (by kernel_rfl)] at h
  exact Lib.tabIs_of_head gTab gTabType Tryd.underlying74 Tryd.underlying62 (by kernel_rfl) (by kernel_rfl) h.tail.tail
end Go.Proofs.YtmfdppgfbgjmcaaDoor
