/- selvagelaw01.IntsDivides returns true at any two numbers. -/
import Derived.Test.YtdbolkckbgacoaaPrint4
import Derived.Test.YtdbolkckbgacoaaIntsA
namespace Go.Proofs.Ytdbolkckbgacoaa.Pure
open Go.RowKit Go.Proofs.Ytdbolkckbgacoaa.Print Go.Proofs.YtdbolkckbgacoaaW.PrintWords Go.Proofs.YtdbolkckbgacoaaW.PrintLast Go.Proofs.Ytdbolkckbgacoaa.Ints
set_option linter.unusedVariables false
set_option linter.unusedSimpArgs false

theorem less_of {r b : Int} (h : r.natAbs < b.natAbs) : (r < b ∧ -r < b) ∨ (r > b ∧ -r > b) := by omega
theorem IntsDivides : selvagelaw01_IntsDivides.Pure := by
  intro a b ha hb
  refine ⟨2, ?_⟩
  unfold selvagelaw01_IntsDivides.f
  rw [refWrap_eq (i64_of_wf ha), refWrap_eq (i64_of_wf hb), lives_eq 0]
  simp only [Option.bind_some, do_eq]
  have hA := W_in a
  have hB := W_in b
  generalize W a = x at *
  generalize W b = y at *
  have e4 : ans (ByteArray.toList ⟨#[47]⟩) x y = if y = 0 then (0, 3) else (W (x.tdiv y), 0) := by unfold ans; rw [if_pos ⟨hA, hB⟩, if_neg (by decide +kernel), if_neg (by decide +kernel), if_neg (by decide +kernel), if_pos (by decide +kernel)]
  have e5 : ans (ByteArray.toList ⟨#[37]⟩) x y = if y = 0 then (0, 3) else (x.tmod y, 0) := by unfold ans; rw [if_pos ⟨hA, hB⟩, if_neg (by decide +kernel), if_neg (by decide +kernel), if_neg (by decide +kernel), if_neg (by decide +kernel), if_pos (by decide +kernel)]
  rw [e4, e5]
  by_cases h0 : y = 0
  · simp [h0]
  simp only [if_neg h0]
  have e1 : ∀ u v, In u → In v → ans (ByteArray.toList ⟨#[43]⟩) u v = (W (u + v), 0) := fun x y hx hy => by unfold ans; rw [if_pos ⟨hx, hy⟩, if_pos (by decide +kernel)]
  have e2 : ∀ u v, In u → In v → ans (ByteArray.toList ⟨#[42]⟩) u v = (W (u * v), 0) := fun x y hx hy => by unfold ans; rw [if_pos ⟨hx, hy⟩, if_neg (by decide +kernel), if_neg (by decide +kernel), if_pos (by decide +kernel)]
  have hr : (x.tmod y).natAbs = x.natAbs % y.natAbs := Int.natAbs_tmod x y
  have hlt : (x.tmod y).natAbs < y.natAbs := by rw [hr]; exact Nat.mod_lt _ (by omega)
  have hpos : 0 ≤ x → 0 ≤ x.tmod y := fun h => Int.tmod_nonneg y h
  have hneg : x ≤ 0 → x.tmod y ≤ 0 := fun h => by
    have h1 := Int.tmod_nonneg y (show 0 ≤ -x by omega)
    rw [Int.neg_tmod] at h1
    omega
  have hin : In (x.tmod y) := by unfold In at *; omega
  have hm := Int.mul_tdiv_add_tmod x y
  rw [e2 _ _ (W_in _) hB]
  simp only
  rw [e1 _ _ (W_in _) hin]
  simp only
  have hsum : W (W (W (x.tdiv y) * y) + x.tmod y) = x := by
    rw [W_add, ← W_add, W_mul, W_add, Int.mul_comm, hm, W_of_in hA]
  rw [hsum]
  have hw : wrap64 (-x.tmod y) = -x.tmod y := wrap64_in (by unfold I64; unfold In at *; omega)
  rw [hw]
  generalize x.tmod y = r at *
  have hl := less_of hlt
  have hs : r ≠ 0 → (decide (r > 0) == decide (x > 0)) = true := by
    intro h
    by_cases hx : x > 0
    · have := hpos (by omega)
      have h2 : r > 0 := by omega
      simp [hx, h2]
    · have := hneg (by omega)
      have h2 : ¬ r > 0 := by omega
      simp [hx, h2]
  by_cases c1 : r = 0
  · rw [if_pos c1]
    by_cases c2 : r < y
    · rw [if_pos c2, if_pos (by omega)]; simp
    · rw [if_neg c2, if_pos (by omega)]; simp; omega
  · rw [if_neg c1]
    have hs := hs c1
    by_cases c3 : r > y
    · have c4 : ¬ r < y := by omega
      have c5 : -r > y := by omega
      simp only [if_pos c3, if_neg c4, if_pos c5, if_pos hs, if_true, Option.bind_some, ite_self]
    · have c4 : r < y := by omega
      have c5 : -r < y := by omega
      simp only [if_neg c3, if_pos c4, if_pos c5, if_pos hs, if_true, Option.bind_some, ite_self]

end Go.Proofs.Ytdbolkckbgacoaa.Pure
