/- selvagelaw01.IntsKinds returns true at any word. -/
import Derived.Test.YtdbolkckbgacoaaPrint6
import Derived.Test.YtdbolkckbgacoaaIntsB
namespace Go.Proofs.Ytdbolkckbgacoaa.Pure
open Go.RowKit Go.Proofs.Ytdbolkckbgacoaa.Print Go.Proofs.YtdbolkckbgacoaaW.PrintWords Go.Proofs.YtdbolkckbgacoaaW.PrintLast Go.Proofs.Ytdbolkckbgacoaa.Ints
set_option linter.unusedVariables false
set_option linter.unusedSimpArgs false

theorem IntsKinds : selvagelaw01_IntsKinds.Pure := by
  intro w hw
  have h := i64_of_wf hw
  refine ⟨4, ?_⟩
  unfold selvagelaw01_IntsKinds.f
  rw [untag_eq, at_eq]
  simp only [Option.bind_some]
  have hm : w.tmod 2 = 0 ↔ w % 2 = 0 := by
    have h1 : (w.tmod 2).natAbs = w.natAbs % 2 := by rw [Int.natAbs_tmod]; rfl
    omega
  by_cases h0 : w % 2 = 0
  · have hm0 := hm.2 h0
    rw [if_pos h0, hm0]
    by_cases hp : w ≤ 0
    · have hp' : ¬ w > 0 := by omega
      simp [hp, hp', selvagelaw01_IntsKinds.j0, lives_eq]
    · have hp' : w > 0 := by omega
      have e : wrap64 (2 * (w / 2)) = w := by unfold wrap64; unfold I64 at h; omega
      simp [hp, hp', h0, selvagelaw01_IntsKinds.j0, lives_eq, e]
  · have hm0 : ¬ w.tmod 2 = 0 := fun e => h0 (hm.1 e)
    have e : (w.tmod 2 != 0) = true := by simp [hm0]
    have e' : (w.tmod 2 == 0) = false := by simp [hm0]
    have et : 2 * W (w / 2) + 1 = w := by unfold W; unfold I64 at h; omega
    rw [if_neg h0, e, e']
    by_cases hp : w ≤ 0
    · have hp' : ¬ w > 0 := by omega
      simp [hp, hp', selvagelaw01_IntsKinds.j0, lives_eq, tag_eq, et]
    · have hp' : w > 0 := by omega
      simp [hp, hp', h0, selvagelaw01_IntsKinds.j0, lives_eq, tag_eq, et]

end Go.Proofs.Ytdbolkckbgacoaa.Pure
