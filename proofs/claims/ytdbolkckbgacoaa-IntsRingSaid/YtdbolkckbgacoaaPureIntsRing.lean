/- selvagelaw01.IntsRing returns true at any three numbers. -/
import Derived.Test.YtdbolkckbgacoaaPrint3
import Derived.Test.YtdbolkckbgacoaaIntsA
namespace Go.Proofs.Ytdbolkckbgacoaa.Pure
open Go.RowKit Go.Proofs.Ytdbolkckbgacoaa.Print Go.Proofs.YtdbolkckbgacoaaW.PrintWords Go.Proofs.YtdbolkckbgacoaaW.PrintLast Go.Proofs.Ytdbolkckbgacoaa.Ints
set_option linter.unusedVariables false
set_option linter.unusedSimpArgs false

theorem IntsRing : selvagelaw01_IntsRing.Pure := by
  intro a b c ha hb hc
  refine ⟨2, ?_⟩
  unfold selvagelaw01_IntsRing.f
  rw [refWrap_eq (i64_of_wf ha), refWrap_eq (i64_of_wf hb), refWrap_eq (i64_of_wf hc), lives_eq 0]
  simp only [Option.bind_some, do_eq]
  have e1 : ∀ x y, In x → In y → ans (ByteArray.toList ⟨#[43]⟩) x y = (W (x + y), 0) := fun x y hx hy => by unfold ans; rw [if_pos ⟨hx, hy⟩, if_pos (by decide +kernel)]
  have e2 : ∀ x y, In x → In y → ans (ByteArray.toList ⟨#[42]⟩) x y = (W (x * y), 0) := fun x y hx hy => by unfold ans; rw [if_pos ⟨hx, hy⟩, if_neg (by decide +kernel), if_neg (by decide +kernel), if_pos (by decide +kernel)]
  have e3 : ∀ x y, In x → In y → ans (ByteArray.toList ⟨#[45]⟩) x y = (W (x - y), 0) := fun x y hx hy => by unfold ans; rw [if_pos ⟨hx, hy⟩, if_neg (by decide +kernel), if_pos (by decide +kernel)]
  rw [e1 _ _ (W_in a) (W_in b), e1 _ _ (W_in b) (W_in a), e1 _ _ (W_in b) (W_in c), e2 _ _ (W_in a) (W_in c), e2 _ _ (W_in b) (W_in c), e2 _ _ (W_in a) (W_in b), e2 _ _ (W_in b) (W_in a)]
  simp only
  rw [e1 _ _ (W_in _) (W_in c), e1 _ _ (W_in a) (W_in _), e2 _ _ (W_in _) (W_in c), e1 _ _ (W_in _) (W_in _), e3 _ _ (W_in _) (W_in b)]
  simp only
  have hA := W_in a
  generalize W a = x at hA ⊢
  generalize W b = y
  generalize W c = z
  have f1 : W (W (x + y) + z) = W (x + W (y + z)) := by rw [W_add, W_add', Int.add_assoc]
  have f2 : W (W (x + y) * z) = W (W (x * z) + W (y * z)) := by rw [W_mul, W_add, W_add', Int.add_mul]
  have f3 : W (W (x + y) - y) = x := by rw [W_sub, Int.add_sub_cancel, W_of_in hA]
  rw [if_pos (by rw [Int.add_comm]), if_pos f1, if_pos f2, if_pos (by rw [Int.mul_comm]), if_pos f3]

end Go.Proofs.Ytdbolkckbgacoaa.Pure
