/- selvagelaw01.IntsReads returns true at any text (of at most 140737488351232 bytes, as the row's own reach has it). -/
import Derived.Test.YtdbolkckbgacoaaPrint9
import Derived.Test.YtdbolkckbgacoaaIntsR
namespace Go.Proofs.Ytdbolkckbgacoaa.Pure
open Go.RowKit Go.Proofs.Ytdbolkckbgacoaa.Print Go.Proofs.YtdbolkckbgacoaaW.PrintWords Go.Proofs.YtdbolkckbgacoaaW.PrintLast Go.Proofs.Ytdbolkckbgacoaa.Ints
set_option linter.unusedVariables false
set_option linter.unusedSimpArgs false

theorem IntsReads : selvagelaw01_IntsReads.Pure := by
  intro s _
  refine ⟨140, ?_⟩
  unfold selvagelaw01_IntsReads.f
  rw [lives_eq 138]
  obtain ⟨l, hl⟩ : ∃ l : List UInt8, s = tx l := ⟨s.data.toList, (tx_data s).symm⟩
  subst hl
  rw [tx_size]
  by_cases h : (l.length : Int) > 60
  · rw [if_pos h, if_pos (by decide), if_pos (by omega), tx_take, read_eq _ (by rw [List.length_take]; omega) 140 (by omega), refRead_eq _ (by rw [List.length_take]; omega) 140 (by omega)]
    simp
  · rw [if_neg h, read_eq _ (by omega) 140 (by omega), refRead_eq _ (by omega) 140 (by omega)]
    simp

end Go.Proofs.Ytdbolkckbgacoaa.Pure
