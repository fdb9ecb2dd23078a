/- Plain laws on the reference's sum of words. -/
import Derived.Test.YtkmoneccehbncaaPlaw1
import Derived.Test.YtkmoneccehbncaaHeapS
namespace Go.Proofs.Ytkmoneccehbncaa.Heap
open Go.RowKit Go.Proofs.YtkmoneccehbncaaW.PrintWords Go.Proofs.YtkmoneccehbncaaW.PrintLast Go.Proofs.Ytkmoneccehbncaa.Print Go.Proofs.Ytkmoneccehbncaa.Ints
set_option linter.unusedVariables false
set_option linter.unusedSimpArgs false

theorem tmod2_iff (w : Int) : w.tmod 2 = 0 ↔ w % 2 = 0 := by
  have h1 : (w.tmod 2).natAbs = w.natAbs % 2 := by rw [Int.natAbs_tmod]; rfl
  omega
theorem half_eq {a : Int} (h : I64 a) (ho : ¬ a % 2 = 0) : selvageref16_half.f a = some (a / 2) := by
  unfold selvageref16_half.f
  unfold I64 at h
  by_cases h0 : a < 0
  · rw [if_pos h0]
    have e1 : wrap64 (-(wrap64 (a + 1))) = -(a + 1) := by unfold wrap64; omega
    rw [e1, Int.tdiv_eq_ediv_of_nonneg (by omega)]
    congr 1
    unfold wrap64
    omega
  · rw [if_neg h0, Int.tdiv_eq_ediv_of_nonneg (by omega)]
    congr 1
    unfold wrap64
    omega
theorem W_in' {x : Int} (h : In x) : W x = x := W_of_in h
theorem ans_in (op : List UInt8) (a b : Int) : In (ans op a b).1 := by
  unfold ans
  have z : In 0 := by unfold In; omega
  have o : In 1 := by unfold In; omega
  by_cases h : In a ∧ In b
  · rw [if_pos h]
    have hm : In (a.tmod b) := by
      have h1 : (a.tmod b).natAbs = a.natAbs % b.natAbs := Int.natAbs_tmod a b
      have h2 : a.natAbs % b.natAbs ≤ a.natAbs := Nat.mod_le _ _
      have h3 : a < 0 → a.tmod b ≤ 0 := fun h => by
        have := Int.tmod_nonneg (a := -a) b (by omega)
        rw [Int.neg_tmod] at this
        omega
      have h4 : 0 ≤ a → 0 ≤ a.tmod b := fun h => Int.tmod_nonneg b h
      have h5 := h.1
      unfold In at h5 ⊢
      rcases Int.lt_or_le a 0 with h6 | h6
      · have := h3 h6
        omega
      · have := h4 h6
        omega
    repeat' split
    all_goals first | exact W_in _ | exact z | exact o | exact hm
  · rw [if_neg h]
    exact z
/-- The reference's sum answers as the program's. -/
theorem refSum_eq (k : Nat) {t a b : Int} (ha : I64 a) (hb : I64 b) : selvageref16_Sum.f (k + 68) t a b = some (sumOf t a b) := by
  unfold selvageref16_Sum.f sumOf
  have hj0 : ∀ x, selvageref16_Sum.j0 (k + 68) t a b x = if x = true then (some (0, 1)) else (if (Int.tmod a 2) = 0 then (selvageref16_Sum.j1 (k + 67) t a b true) else (selvageref16_Sum.j1 (k + 67) t a b ((Int.tmod b 2) == 0))) := fun x => by
    rw [selvageref16_Sum.j0]
  have hj1 : selvageref16_Sum.j1 (k + 67) t a b true = some (0, 4) := by rw [selvageref16_Sum.j1, if_pos rfl]
  by_cases h1 : t < 0
  · rw [if_pos h1, if_pos (.inl h1), hj0, if_pos rfl]
  rw [if_neg h1, hj0]
  by_cases h2 : 7 ≤ t
  · rw [decide_eq_true (by omega : t > 6), if_pos rfl, if_pos (.inr h2)]
  rw [decide_eq_false (by omega : ¬ t > 6), if_neg (by decide), if_neg (not_or.2 ⟨h1, h2⟩)]
  have ea := tmod2_iff a
  have eb := tmod2_iff b
  by_cases h3 : a % 2 = 0
  · rw [if_pos (ea.2 h3), if_pos (Or.inl h3), hj1]
  rw [if_neg (fun h => h3 (ea.1 h))]
  by_cases h4 : b % 2 = 0
  · rw [eb.2 h4, if_pos (.inr h4)]
    exact hj1
  rw [if_neg (not_or.2 ⟨h3, h4⟩), show ((b.tmod 2) == 0) = false from beq_eq_false_iff_ne.2 fun h => h4 (eb.1 h), selvageref16_Sum.j1, if_neg (by decide), half_eq ha h3, half_eq hb h4]
  simp only [Option.bind_some]
  rw [if_pos (by omega : 0 ≤ t)]
  simp only [List.length_cons, List.length_nil]
  rw [if_pos (by omega)]
  have hop : (rdOf ByteArray.empty [(⟨#[43]⟩ : ByteArray), (⟨#[45]⟩ : ByteArray), (⟨#[42]⟩ : ByteArray), (⟨#[47]⟩ : ByteArray), (⟨#[37]⟩ : ByteArray), (⟨#[61]⟩ : ByteArray), (⟨#[60]⟩ : ByteArray)] t).toList = signOf t := by
    have : t = 0 ∨ t = 1 ∨ t = 2 ∨ t = 3 ∨ t = 4 ∨ t = 5 ∨ t = 6 := by omega
    rcases this with rfl | rfl | rfl | rfl | rfl | rfl | rfl <;> decide +kernel
  rw [refDo_eq k, hop]
  simp only [Option.bind_some]
  have hin := ans_in (signOf t) (a / 2) (b / 2)
  generalize ans (signOf t) (a / 2) (b / 2) = r at *
  obtain ⟨r1, r2⟩ := r
  simp only at hin ⊢
  rw [W_of_in hin]
  have e : wrap64 (wrap64 (2 * r1) + 1) = 2 * r1 + 1 := by unfold wrap64; unfold In at hin; omega
  rw [e]
  split <;> rfl
end Go.Proofs.Ytkmoneccehbncaa.Heap
