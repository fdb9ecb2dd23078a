/- selvagelaw01.IntsWords returns true at any two numbers and any two places. -/
import Derived.Test.YtdbolkckbgacoaaPrint5
import Derived.Test.YtdbolkckbgacoaaIntsB
namespace Go.Proofs.Ytdbolkckbgacoaa.Pure
open Go.RowKit Go.Proofs.Ytdbolkckbgacoaa.Print Go.Proofs.YtdbolkckbgacoaaW.PrintWords Go.Proofs.YtdbolkckbgacoaaW.PrintLast Go.Proofs.Ytdbolkckbgacoaa.Ints
set_option linter.unusedVariables false
set_option linter.unusedSimpArgs false

theorem IntsWords : selvagelaw01_IntsWords.Pure := by
  intro a b p q ha hb _ _
  refine ⟨8, ?_⟩
  unfold selvagelaw01_IntsWords.f
  rw [tag_eq, tag_eq, refWrap_eq (i64_of_wf ha), refWrap_eq (i64_of_wf hb)]
  simp only [Option.bind_some, untag_eq]
  have hA := W_in a
  have hB := W_in b
  generalize W a = x at *
  generalize W b = y at *
  have t1 : ¬ (2 * x + 1) % 2 = 0 := by omega
  have t2 : (2 * x + 1) / 2 = x := by omega
  simp only [if_neg t1, t2, if_true]
  have t3 : ((2 * x + 1 == 2 * y + 1) != (x == y)) = false := by
    by_cases e : x = y
    · simp [e]
    · have : ¬ 2 * x + 1 = 2 * y + 1 := by omega
      rw [beq_eq_false_iff_ne.2 this, beq_eq_false_iff_ne.2 e]; rfl
  rw [t3]
  have hj4 : ∀ u : Int, u % 2 = 0 → selvagelaw01_IntsWords.j4 4 (2 * x + 1) u false = some true := by
    intro u hu
    simp only [selvagelaw01_IntsWords.j4, untag_eq, at_eq, Option.bind_some, if_pos hu, if_neg t1, ite_self, lives_eq]
    simp
  have hj3 : ∀ (u v : Int) (m n : Bool), u % 2 = 0 → (m = true → n = true → ((u == v) != (p == q)) = false) → selvagelaw01_IntsWords.j3 5 p q (2 * x + 1) u v m n false = some true := by
    intro u v m n hu h
    simp only [selvagelaw01_IntsWords.j3]
    cases m <;> cases n <;> simp_all
  have hj2 : ∀ (u v : Int) (m n : Bool), u = (if m = true then 2 * p else 0) → (m = true → 1 ≤ p) → (m = true → n = true → ((u == v) != (p == q)) = false) → selvagelaw01_IntsWords.j2 6 p q (2 * x + 1) u v m n = some true := by
    intro u v m n hu hm h
    simp only [selvagelaw01_IntsWords.j2, at_eq, Option.bind_some]
    cases m with
    | true =>
      have h1 := hm rfl
      simp only [if_true] at hu
      subst hu
      have e1 : ¬ 2 * p ≤ 0 := by omega
      have e2 : 2 * p % 2 = 0 := by omega
      have e3 : 2 * p / 2 = p := by omega
      simp only [if_neg e1, if_pos e2, e3]
      simp [hj3 (2 * p) v true n e2 h]
    | false =>
      simp at hu
      subst hu
      simp [hj3 0 v false n (by decide) (by simp)]
  simp only [selvagelaw01_IntsWords.j0, selvagelaw01_IntsWords.j1, point_eq, Option.bind_some]
  have key : ∀ m n : Bool, m = decide (1 ≤ p ∧ p ≤ 2305843009213693952) → n = decide (1 ≤ q ∧ q ≤ 2305843009213693952) →
      selvagelaw01_IntsWords.j2 6 p q (2 * x + 1) (if 1 ≤ p ∧ p ≤ 2305843009213693952 then 2 * p else 0) (if 1 ≤ q ∧ q ≤ 2305843009213693952 then 2 * q else 0) m n = some true := by
    intro m n hm hn
    refine hj2 _ _ m n ?_ ?_ ?_
    · subst hm; simp
    · subst hm; simp; omega
    · subst hm hn
      intro h1 h2
      rw [decide_eq_true_eq] at h1 h2
      rw [if_pos h1, if_pos h2]
      by_cases e : p = q
      · simp [e]
      · have : ¬ 2 * p = 2 * q := by omega
        rw [beq_eq_false_iff_ne.2 this, beq_eq_false_iff_ne.2 e]; rfl
  by_cases hp : p ≥ 1
  · by_cases hq : q ≥ 1
    · simp only [if_pos hp, if_pos hq]
      simp [key (decide (p ≤ 2305843009213693952)) (decide (q ≤ 2305843009213693952)) (by simp; omega) (by simp; omega)]
    · simp only [if_pos hp, if_neg hq]
      simp [key (decide (p ≤ 2305843009213693952)) false (by simp; omega) (by simp; omega)]
  · by_cases hq : q ≥ 1
    · simp only [if_neg hp, if_pos hq]
      simp [key false (decide (q ≤ 2305843009213693952)) (by simp; omega) (by simp; omega)]
    · simp only [if_neg hp, if_neg hq]
      simp [key false false (by simp; omega) (by simp; omega)]

end Go.Proofs.Ytdbolkckbgacoaa.Pure
