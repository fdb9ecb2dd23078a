/- selvagelaw01.IntsShows returns true at any number. -/
import Derived.Test.YtdbolkckbgacoaaPrint7
import Derived.Test.YtdbolkckbgacoaaIntsS
namespace Go.Proofs.Ytdbolkckbgacoaa.Pure
open Go.RowKit Go.Proofs.Ytdbolkckbgacoaa.Print Go.Proofs.YtdbolkckbgacoaaW.PrintWords Go.Proofs.YtdbolkckbgacoaaW.PrintLast Go.Proofs.Ytdbolkckbgacoaa.Ints
set_option linter.unusedVariables false
set_option linter.unusedSimpArgs false

theorem IntsShows : selvagelaw01_IntsShows.Pure := by
  intro a ha
  have h := i64_of_wf ha
  refine ⟨140, ?_⟩
  unfold selvagelaw01_IntsShows.f
  rw [lives_eq 138, Show_eq a, refShow_eq 140 (by omega) h, refWrap_eq h]
  simp only [Option.bind_some]
  rw [read_eq _ (Nat.le_trans (show_len _) (by decide)) 140 (by omega), rd_show (W_in a)]
  simp

end Go.Proofs.Ytdbolkckbgacoaa.Pure
