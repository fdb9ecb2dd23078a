/- selvagelaw01.IntsBack returns true at any two numbers. -/
import Derived.Test.YtdbolkckbgacoaaPrint5
import Derived.Test.YtdbolkckbgacoaaIntsA
namespace Go.Proofs.Ytdbolkckbgacoaa.Pure
open Go.RowKit Go.Proofs.Ytdbolkckbgacoaa.Print Go.Proofs.YtdbolkckbgacoaaW.PrintWords Go.Proofs.YtdbolkckbgacoaaW.PrintLast Go.Proofs.Ytdbolkckbgacoaa.Ints
set_option linter.unusedVariables false
set_option linter.unusedSimpArgs false

theorem IntsBack : selvagelaw01_IntsBack.Pure := by
  intro a b ha hb
  refine ⟨2, ?_⟩
  unfold selvagelaw01_IntsBack.f
  rw [refWrap_eq (i64_of_wf ha), refWrap_eq (i64_of_wf hb), lives_eq 0]
  simp only [Option.bind_some, do_eq]
  have hA := W_in a
  have hB := W_in b
  generalize W a = x at *
  generalize W b = y at *
  have e1 : ∀ x y, In x → In y → ans (ByteArray.toList ⟨#[43]⟩) x y = (W (x + y), 0) := fun x y hx hy => by unfold ans; rw [if_pos ⟨hx, hy⟩, if_pos (by decide +kernel)]
  have e2 : ∀ x y, In x → In y → ans (ByteArray.toList ⟨#[42]⟩) x y = (W (x * y), 0) := fun x y hx hy => by unfold ans; rw [if_pos ⟨hx, hy⟩, if_neg (by decide +kernel), if_neg (by decide +kernel), if_pos (by decide +kernel)]
  have e3 : ∀ x y, In x → In y → ans (ByteArray.toList ⟨#[45]⟩) x y = (W (x - y), 0) := fun x y hx hy => by unfold ans; rw [if_pos ⟨hx, hy⟩, if_neg (by decide +kernel), if_pos (by decide +kernel)]
  rw [e3 _ _ hA hB, e3 _ _ hB hA]
  simp only
  rw [e1 _ _ (W_in _) hB, e3 _ _ (by unfold In; omega) (W_in _), e2 _ _ (W_in _) (by unfold In; omega)]
  simp only
  rw [if_pos (by rw [W_add, Int.sub_add_cancel, W_of_in hA]), if_pos (by rw [W_sub']; congr 1; omega), if_pos (by rw [W_mul, W_sub']; congr 1; omega)]

end Go.Proofs.Ytdbolkckbgacoaa.Pure
