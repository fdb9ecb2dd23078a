/- selvagelaw01.IntsDo returns true at any text of an operation and any two numbers (a text is at most 140737488351232 bytes, as the row's own reach has it). -/
import Derived.Test.YtdbolkckbgacoaaPrint2
import Derived.Test.YtdbolkckbgacoaaIntsA
namespace Go.Proofs.Ytdbolkckbgacoaa.Pure
open Go.RowKit Go.Proofs.Ytdbolkckbgacoaa.Print Go.Proofs.YtdbolkckbgacoaaW.PrintWords Go.Proofs.YtdbolkckbgacoaaW.PrintLast Go.Proofs.Ytdbolkckbgacoaa.Ints
set_option linter.unusedVariables false
set_option linter.unusedSimpArgs false

theorem IntsDo : selvagelaw01_IntsDo.Pure := by
  intro op a b _ _ _
  refine ⟨66, ?_⟩
  unfold selvagelaw01_IntsDo.f
  rw [do_eq 64, refDo_eq 0, lives_eq 64]
  simp

end Go.Proofs.Ytdbolkckbgacoaa.Pure
