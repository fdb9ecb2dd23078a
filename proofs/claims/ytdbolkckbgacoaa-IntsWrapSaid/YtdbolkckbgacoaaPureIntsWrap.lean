/- selvagelaw01.IntsWrap returns true at any number. -/
import Derived.Test.YtdbolkckbgacoaaPrint3
import Derived.Test.YtdbolkckbgacoaaIntsA
namespace Go.Proofs.Ytdbolkckbgacoaa.Pure
open Go.RowKit Go.Proofs.Ytdbolkckbgacoaa.Print Go.Proofs.YtdbolkckbgacoaaW.PrintWords Go.Proofs.YtdbolkckbgacoaaW.PrintLast Go.Proofs.Ytdbolkckbgacoaa.Ints
set_option linter.unusedVariables false
set_option linter.unusedSimpArgs false

theorem IntsWrap : selvagelaw01_IntsWrap.Pure := by
  intro a ha
  have h := i64_of_wf ha
  refine ⟨2, ?_⟩
  unfold selvagelaw01_IntsWrap.f
  rw [wrap_eq, refWrap_eq h, lives_eq 0]
  simp only [Option.bind_some, if_true, refIs_eq]
  have h1 : decide (In (W a)) = true := decide_eq_true (W_in a)
  have h2 : (W a == a) = decide (In a) := by
    by_cases hi : In a
    · simp [W_of_in hi, hi]
    · have : ¬ W a = a := fun e => hi (e ▸ W_in a)
      simp [hi, this]
  rw [if_pos h1, if_pos (by rw [h2]; simp)]

end Go.Proofs.Ytdbolkckbgacoaa.Pure
