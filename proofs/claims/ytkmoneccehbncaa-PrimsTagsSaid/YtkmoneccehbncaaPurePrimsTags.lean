/- selvagelaw16.PrimsTags returns true at any three words. -/
import Derived.Test.YtkmoneccehbncaaPlaw1
import Derived.Test.YtkmoneccehbncaaHeapN
namespace Go.Proofs.Ytkmoneccehbncaa.Pure
open Go.RowKit Go.Proofs.Ytkmoneccehbncaa.Plaw Go.Proofs.YtkmoneccehbncaaW.PrintWords Go.Proofs.YtkmoneccehbncaaW.PrintLast Go.Proofs.Ytkmoneccehbncaa.Print Go.Proofs.Ytkmoneccehbncaa.Heap Go.Proofs.Ytkmoneccehbncaa.Ints
set_option linter.unusedVariables false

theorem PrimsTags : selvagelaw16_PrimsTags.Pure := by
  intro t a b ht ha hb
  refine ⟨68, ?_⟩
  unfold selvagelaw16_PrimsTags.f
  rw [refWrap_eq (i64_of_wf ha), refWrap_eq (i64_of_wf hb)]
  simp only [Option.bind_some]
  have ia := W_in a
  have ib := W_in b
  generalize W a = x at *
  generalize W b = y at *
  have ex : wrap64 (wrap64 (2 * x) + 1) = 2 * x + 1 := by unfold wrap64; unfold In at ia; omega
  have ey : wrap64 (wrap64 (2 * y) + 1) = 2 * y + 1 := by unfold wrap64; unfold In at ib; omega
  rw [ex, ey]
  simp only [prims_Sum.f, Option.bind_some]
  have hj : ∀ p q l z, selvagelaw16_PrimsTags.j0 68 t x y p q l z = if z = true then (if p = 0 then (if q = 1 then ((selvagelaw16_lives.f).bind fun t148 => (some t148)) else (some false)) else (some false)) else (if 0 ≤ t then (if t < (l.length : Int) then ((selvageref01_Do.f 67 (rdOf ByteArray.empty l t) x y).bind fun bt150 => (if bt150.2 = 0 then (if p = (wrap64 ((wrap64 (2 * bt150.1)) + 1)) then (if q = 0 then ((selvagelaw16_lives.f).bind fun t152 => (some t152)) else (some false)) else (some false)) else (if p = 0 then (if q = bt150.2 then ((selvagelaw16_lives.f).bind fun t153 => (some t153)) else (some false)) else (some false)))) else (none)) else (none)) := fun p q l z => by
    rw [selvagelaw16_PrimsTags.j0]
  rw [hj, hj]
  unfold sumOf
  by_cases h1 : t < 0
  · rw [if_pos h1, if_pos (Or.inl h1 : t < 0 ∨ 7 ≤ t)]
    simp only [selvagelaw16_lives.f, Option.bind_some, if_true]
  by_cases h2 : 7 ≤ t
  · rw [if_neg h1, if_pos (Or.inr h2 : t < 0 ∨ 7 ≤ t), if_pos (decide_eq_true (by omega : t > 6))]
    simp only [selvagelaw16_lives.f, Option.bind_some, if_true]
  rw [if_neg h1, if_neg (not_or.2 ⟨h1, h2⟩), decide_eq_false (by omega : ¬ t > 6), if_neg (by decide), if_neg (by omega : ¬((2 * x + 1) % 2 = 0 ∨ (2 * y + 1) % 2 = 0)), if_pos (by omega)]
  simp only [List.length_cons, List.length_nil]
  rw [if_pos (by omega)]
  have hop : (rdOf ByteArray.empty [(⟨#[43]⟩ : ByteArray), (⟨#[45]⟩ : ByteArray), (⟨#[42]⟩ : ByteArray), (⟨#[47]⟩ : ByteArray), (⟨#[37]⟩ : ByteArray), (⟨#[61]⟩ : ByteArray), (⟨#[60]⟩ : ByteArray)] t).toList = signOf t := by
    have : t = 0 ∨ t = 1 ∨ t = 2 ∨ t = 3 ∨ t = 4 ∨ t = 5 ∨ t = 6 := by omega
    rcases this with rfl | rfl | rfl | rfl | rfl | rfl | rfl <;> decide +kernel
  rw [refDo_eq 1, hop, show (2 * x + 1) / 2 = x by omega, show (2 * y + 1) / 2 = y by omega]
  simp only [Option.bind_some]
  have hin := ans_in (signOf t) x y
  generalize ans (signOf t) x y = r at *
  obtain ⟨r1, r2⟩ := r
  simp only at hin ⊢
  rw [W_of_in hin]
  have e : wrap64 (wrap64 (2 * r1) + 1) = 2 * r1 + 1 := by unfold wrap64; unfold In at hin; omega
  rw [e]
  by_cases h3 : r2 = 0
  · simp only [h3, if_true, selvagelaw16_lives.f, Option.bind_some]
  · simp only [h3, if_false, if_true, selvagelaw16_lives.f, Option.bind_some]

end Go.Proofs.Ytkmoneccehbncaa.Pure
