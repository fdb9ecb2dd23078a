/- selvagelaw01.IntsOrder returns true at any three numbers. -/
import Derived.Test.YtdbolkckbgacoaaPrint4
import Derived.Test.YtdbolkckbgacoaaIntsA
namespace Go.Proofs.Ytdbolkckbgacoaa.Pure
open Go.RowKit Go.Proofs.Ytdbolkckbgacoaa.Print Go.Proofs.YtdbolkckbgacoaaW.PrintWords Go.Proofs.YtdbolkckbgacoaaW.PrintLast Go.Proofs.Ytdbolkckbgacoaa.Ints
set_option linter.unusedVariables false
set_option linter.unusedSimpArgs false

theorem IntsOrder : selvagelaw01_IntsOrder.Pure := by
  intro a b c ha hb hc
  refine ⟨2, ?_⟩
  unfold selvagelaw01_IntsOrder.f
  rw [refWrap_eq (i64_of_wf ha), refWrap_eq (i64_of_wf hb), refWrap_eq (i64_of_wf hc), lives_eq 0]
  simp only [Option.bind_some, do_eq]
  have hA := W_in a
  have hB := W_in b
  have hC := W_in c
  generalize W a = x at *
  generalize W b = y at *
  generalize W c = z at *
  have e6 : ∀ u v, In u → In v → ans (ByteArray.toList ⟨#[60]⟩) u v = if u < v then (1, 0) else (0, 0) := fun u v hu hv => by unfold ans; rw [if_pos ⟨hu, hv⟩, if_neg (by decide +kernel), if_neg (by decide +kernel), if_neg (by decide +kernel), if_neg (by decide +kernel), if_neg (by decide +kernel), if_neg (by decide +kernel), if_pos (by decide +kernel)]
  have e7 : ∀ u v, In u → In v → ans (ByteArray.toList ⟨#[61]⟩) u v = if u = v then (1, 0) else (0, 0) := fun u v hu hv => by unfold ans; rw [if_pos ⟨hu, hv⟩, if_neg (by decide +kernel), if_neg (by decide +kernel), if_neg (by decide +kernel), if_neg (by decide +kernel), if_neg (by decide +kernel), if_pos (by decide +kernel)]
  rw [e6 _ _ hA hB, e6 _ _ hB hA, e7 _ _ hA hB, e6 _ _ hB hC, e6 _ _ hA hC]
  rcases Int.lt_trichotomy x y with h | h | h
  · have h1 : ¬ y < x := by omega
    have h2 : ¬ x = y := by omega
    by_cases h3 : y < z
    · have h4 : x < z := by omega
      simp [h, h1, h2, h3, h4, wrap64]
    · simp [h, h1, h2, h3, wrap64]
  · have h1 : ¬ y < x := by omega
    have h2 : ¬ x < y := by omega
    subst h
    simp [wrap64]
  · have h1 : ¬ x < y := by omega
    have h2 : ¬ x = y := by omega
    simp [h, h1, h2, wrap64]

end Go.Proofs.Ytdbolkckbgacoaa.Pure
