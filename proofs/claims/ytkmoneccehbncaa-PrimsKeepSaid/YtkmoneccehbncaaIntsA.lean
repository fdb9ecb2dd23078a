/- Integers of 63 bits, plainly: what ints.Do and selvageref01.Do come to at any two numbers and any text of an operation. No condition but what each theorem states. -/
import Derived.Test.YtkmoneccehbncaaPrint2
namespace Go.Proofs.Ytkmoneccehbncaa.Ints
open Go.RowKit Go.Proofs.Ytkmoneccehbncaa.Print Go.Proofs.YtkmoneccehbncaaW.PrintWords Go.Proofs.YtkmoneccehbncaaW.PrintLast
set_option linter.unusedVariables false
set_option linter.unusedSimpArgs false

/-- A number wrapped to 63 bits. -/
def W (x : Int) : Int := (x + 4611686018427387904) % 9223372036854775808 - 4611686018427387904
def In (x : Int) : Prop := -4611686018427387904 ≤ x ∧ x ≤ 4611686018427387903
def I64 (x : Int) : Prop := -9223372036854775808 ≤ x ∧ x ≤ 9223372036854775807

theorem i64_of_wf {x : Int} (h : (Lit.int .i64 x).wf = true) : I64 x := by
  simp only [Lit.wf, IntKind.min, IntKind.max, IntKind.signed, IntKind.bits, Bool.and_eq_true, decide_eq_true_eq, if_true] at h
  unfold I64; omega
theorem W_in (x : Int) : In (W x) := by unfold W In; omega
theorem W_of_in {x : Int} (h : In x) : W x = x := by unfold W In at *; omega
theorem W_W (x : Int) : W (W x) = W x := W_of_in (W_in x)
theorem in_i64 {x : Int} (h : In x) : I64 x := by unfold In I64 at *; omega
theorem W_mod (x : Int) : (W x) % 9223372036854775808 = x % 9223372036854775808 := by unfold W; omega
theorem W_congr {x y : Int} (h : x % 9223372036854775808 = y % 9223372036854775808) : W x = W y := by unfold W; omega
theorem W_wrap64 (x : Int) : W (wrap64 x) = W x := by unfold W wrap64; omega
theorem wrap2 (x : Int) : wrap64 (x * 2) / 2 = W x := by unfold W wrap64; omega
theorem wrap64_in {x : Int} (h : I64 x) : wrap64 x = x := by unfold I64 wrap64 at *; omega
theorem W_add (x y : Int) : W (W x + y) = W (x + y) := W_congr (by have := W_mod x; omega)
theorem W_add' (x y : Int) : W (x + W y) = W (x + y) := W_congr (by have := W_mod y; omega)
theorem W_sub (x y : Int) : W (W x - y) = W (x - y) := W_congr (by have := W_mod x; omega)
theorem W_sub' (x y : Int) : W (x - W y) = W (x - y) := W_congr (by have := W_mod y; omega)
theorem W_mul (x y : Int) : W (W x * y) = W (x * y) := W_congr (by rw [Int.mul_emod, W_mod, ← Int.mul_emod])
theorem W_mul' (x y : Int) : W (x * W y) = W (x * y) := by rw [Int.mul_comm, W_mul, Int.mul_comm]
theorem W_neg (x : Int) : W (-W x) = W (-x) := W_congr (by have := W_mod x; omega)

instance (x : Int) : Decidable (In x) := by unfold In; infer_instance

/-- What a sum, and the like, comes to; the second number is the error. -/
def ans (op : List UInt8) (a b : Int) : Int × Int :=
  if In a ∧ In b then
    if op = [43] then (W (a + b), 0)
    else if op = [45] then (W (a - b), 0)
    else if op = [42] then (W (a * b), 0)
    else if op = [47] then (if b = 0 then (0, 3) else (W (a.tdiv b), 0))
    else if op = [37] then (if b = 0 then (0, 3) else (a.tmod b, 0))
    else if op = [61] then (if a = b then (1, 0) else (0, 0))
    else if op = [60] then (if a < b then (1, 0) else (0, 0))
    else (0, 1)
  else (0, 1)

theorem is_eq (x : Int) : ints_is.f x = some (decide (In x)) := by
  unfold ints_is.f In
  by_cases h : x ≥ -4611686018427387904
  · rw [if_pos h]; simp only [ge_iff_le] at h; simp [h]
  · rw [if_neg h]; simp only [ge_iff_le] at h; simp [h]
theorem wrap_eq (x : Int) : ints_Wrap.f x = some (W x) := by unfold ints_Wrap.f; rw [wrap2]
theorem refWrap_eq {x : Int} (h : I64 x) : selvageref01_Wrap.f x = some (W x) := by
  unfold selvageref01_Wrap.f I64 at *
  split
  · congr 1; unfold W wrap64; omega
  · split
    · congr 1; unfold W wrap64; omega
    · congr 1; unfold W; omega
theorem refWrap_w (x : Int) : selvageref01_Wrap.f (wrap64 x) = some (W x) := by
  rw [refWrap_eq (by unfold I64 wrap64; omega), W_wrap64]
theorem refIs_eq (x : Int) : selvageref01_Is.f x = some (decide (In x)) := by
  unfold selvageref01_Is.f In
  by_cases h : x ≥ -4611686018427387904
  · rw [if_pos h]; simp only [ge_iff_le] at h; simp [h]
  · rw [if_neg h]; simp only [ge_iff_le] at h; simp [h]

theorem do_eq (k : Nat) (op : ByteArray) (a b : Int) : ints_Do.f (k + 2) op a b = some (ans op.toList a b) := by
  unfold ints_Do.f
  rw [is_eq, is_eq]
  simp only [Option.bind_some]
  by_cases ha : In a
  · by_cases hb : In b
    · have e : ints_Do.j0 (k + 2) op a b false = some (ans op.toList a b) := by
        simp only [ints_Do.j0, ints_Do.j1]
        unfold ans
        rw [if_pos (⟨ha, hb⟩ : In a ∧ In b), if_neg (by decide)]
        generalize op.toList = l
        simp only [wrap_eq, Option.bind_some, W_wrap64]
        by_cases h1 : l = [43]
        · rw [if_pos h1, if_pos h1]
        rw [if_neg h1, if_neg h1]
        by_cases h2 : l = [45]
        · rw [if_pos h2, if_pos h2]
        rw [if_neg h2, if_neg h2]
        by_cases h3 : l = [42]
        · rw [if_pos h3, if_pos h3]
        rw [if_neg h3, if_neg h3]
        by_cases h4 : l = [47]
        · rw [if_pos h4, if_pos h4]
          by_cases h0 : b = 0
          · rw [if_pos h0, if_pos h0, if_pos h0]
          · rw [if_neg h0, if_neg h0]
        rw [if_neg h4, if_neg h4]
        by_cases h5 : l = [37]
        · rw [if_pos h5, if_pos h5]
          by_cases h0 : b = 0
          · rw [if_pos h0, if_pos h0]
          · rw [if_neg h0, if_neg h0]
        rw [if_neg h5, if_neg h5]
        by_cases h6 : l = [61]
        · rw [if_pos h6, if_pos h6]
          by_cases h0 : a = b
          · simp [h0, ints_truth.f]
          · simp [h0, ints_truth.f]
        rw [if_neg h6, if_neg h6]
        by_cases h7 : l = [60]
        · rw [if_pos h7, if_pos h7]
          by_cases h0 : a < b
          · simp [h0, ints_truth.f]
          · simp [h0, ints_truth.f]
        rw [if_neg h7, if_neg h7]
      simp [ha, hb, e]
    · have e : ints_Do.j0 (k + 2) op a b true = some (ans op.toList a b) := by
        simp only [ints_Do.j0]
        unfold ans
        rw [if_neg (fun h : In a ∧ In b => hb h.2)]
        simp
      simp [ha, hb, e]
  · have e : ints_Do.j0 (k + 2) op a b true = some (ans op.toList a b) := by
      simp only [ints_Do.j0]
      unfold ans
      rw [if_neg (fun h : In a ∧ In b => ha h.1)]
      simp
    simp [ha, e]

/-! The reference's product, bit by bit. -/
theorem tdiv2_abs (x : Int) : (x.tdiv 2).natAbs = x.natAbs / 2 := by rw [Int.natAbs_tdiv]; rfl
theorem tmod2_zero (x : Int) : x.tmod 2 = 0 ↔ x.natAbs % 2 = 0 := by
  have h : (x.tmod 2).natAbs = x.natAbs % 2 := by rw [Int.natAbs_tmod]; rfl
  omega

theorem mul_loop (s : Bool) (d : Nat) : ∀ (k : Nat) (x0 x1 x6 : Int), In x0 → In x6 → x1.natAbs < 2 ^ d → d ≤ 63 → d < k →
    selvageref01_Mul.l0 k x0 x1 s x6 (63 - (d : Int)) = some (if s = true then W (-(x6 + x0 * x1.natAbs)) else W (x6 + x0 * x1.natAbs)) := by
  induction d with
  | zero =>
    intro k x0 x1 x6 h0 h6 h1 _ hk
    obtain ⟨k, rfl⟩ : ∃ m, k = m + 1 := ⟨k - 1, by omega⟩
    have e : x1.natAbs = 0 := by simpa using h1
    simp only [selvageref01_Mul.l0]
    rw [if_neg (by omega), e]
    simp only [Int.natCast_zero, Int.mul_zero, Int.add_zero]
    cases s
    · simp [W_of_in h6]
    · simp [refWrap_w]
  | succ d ih =>
    intro k x0 x1 x6 h0 h6 h1 hd hk
    obtain ⟨k, rfl⟩ : ∃ m, k = m + 1 := ⟨k - 1, by omega⟩
    have hb : x1.natAbs ≤ 9223372036854775807 := by
      have : (2 : Nat) ^ (d + 1) ≤ 2 ^ 63 := Nat.pow_le_pow_right (by decide) hd
      have : (2 : Nat) ^ 63 = 9223372036854775808 := by decide
      omega
    have hq := tdiv2_abs x1
    have hw : wrap64 (x1.tdiv 2) = x1.tdiv 2 := wrap64_in (by unfold I64; omega)
    have hlt : (x1.tdiv 2).natAbs < 2 ^ d := by rw [hq]; rw [Nat.pow_succ] at h1; omega
    have hi : wrap64 (63 - ((d + 1 : Nat) : Int) + 1) = 63 - (d : Int) := by unfold wrap64; omega
    simp only [selvageref01_Mul.l0]
    rw [if_pos (by omega)]
    simp only [refWrap_w, Option.bind_some, hw, hi]
    by_cases hz : x1.tmod 2 = 0
    · rw [if_pos hz, ih k _ _ _ (W_in _) h6 hlt (by omega) (by omega), hq]
      have hz' := (tmod2_zero x1).1 hz
      have e : x6 + (x0 + x0) * ((x1.natAbs / 2 : Nat) : Int) = x6 + x0 * (x1.natAbs : Int) := by
        have : (x1.natAbs : Int) = 2 * ((x1.natAbs / 2 : Nat) : Int) := by omega
        rw [this, Int.add_mul, ← Int.mul_assoc, Int.mul_comm x0 2, Int.mul_assoc]; omega
      have ew : W (x6 + W (x0 + x0) * ((x1.natAbs / 2 : Nat) : Int)) = W (x6 + x0 * (x1.natAbs : Int)) := by
        rw [← W_add', W_mul, W_add', e]
      have en : W (-(x6 + W (x0 + x0) * ((x1.natAbs / 2 : Nat) : Int))) = W (-(x6 + x0 * (x1.natAbs : Int))) := by
        rw [← W_neg, ew, W_neg]
      rw [ew, en]
    · rw [if_neg hz, ih k _ _ _ (W_in _) (W_in _) hlt (by omega) (by omega), hq]
      have hz' : x1.natAbs % 2 = 1 := by have := mt (tmod2_zero x1).2 hz; omega
      have e : x6 + x0 + (x0 + x0) * ((x1.natAbs / 2 : Nat) : Int) = x6 + x0 * (x1.natAbs : Int) := by
        have : (x1.natAbs : Int) = 2 * ((x1.natAbs / 2 : Nat) : Int) + 1 := by omega
        rw [this, Int.add_mul, Int.mul_add, ← Int.mul_assoc, Int.mul_comm x0 2, Int.mul_assoc]; omega
      have ew : W (W (x6 + x0) + W (x0 + x0) * ((x1.natAbs / 2 : Nat) : Int)) = W (x6 + x0 * (x1.natAbs : Int)) := by
        rw [W_add, ← W_add', W_mul, W_add', e]
      have en : W (-(W (x6 + x0) + W (x0 + x0) * ((x1.natAbs / 2 : Nat) : Int))) = W (-(x6 + x0 * (x1.natAbs : Int))) := by
        rw [← W_neg, ew, W_neg]
      rw [ew, en]

theorem mul_eq (k : Nat) (a b : Int) (ha : In a) (hb : In b) : selvageref01_Mul.f (k + 64) a b = some (W (a * b)) := by
  unfold selvageref01_Mul.f
  have hp : (2 : Nat) ^ 63 = 9223372036854775808 := by decide
  have hbb : b.natAbs < 2 ^ 63 := by unfold In at hb; omega
  have h := mul_loop (decide (b < 0)) 63 (k + 64) a b 0 ha (by unfold In; omega) hbb (by omega) (by omega)
  rw [show (63 : Int) - ((63 : Nat) : Int) = 0 by omega] at h
  rw [h]
  simp only [Int.zero_add]
  by_cases hn : b < 0
  · have : (b.natAbs : Int) = -b := by omega
    rw [this]
    simp [hn, Int.mul_neg]
  · have : (b.natAbs : Int) = b := by omega
    rw [this]
    simp [hn]

theorem refDo_eq (k : Nat) (op : ByteArray) (a b : Int) : selvageref01_Do.f (k + 66) op a b = some (ans op.toList a b) := by
  unfold selvageref01_Do.f
  rw [refIs_eq, refIs_eq]
  simp only [Option.bind_some]
  by_cases ha : In a
  · by_cases hb : In b
    · have e : selvageref01_Do.j0 (k + 66) op a b false = some (ans op.toList a b) := by
        simp only [selvageref01_Do.j0, selvageref01_Do.j1]
        rw [show k + 65 = (k + 1) + 64 by omega, mul_eq (k + 1) a b ha hb]
        unfold ans selvageref01_Add.f
        rw [if_pos (⟨ha, hb⟩ : In a ∧ In b), if_neg (by decide)]
        generalize op.toList = l
        simp only [refWrap_w, Option.bind_some]
        by_cases h1 : l = [43]
        · rw [if_pos h1, if_pos h1]
        rw [if_neg h1, if_neg h1]
        by_cases h2 : l = [45]
        · rw [if_pos h2, if_pos h2]
        rw [if_neg h2, if_neg h2]
        by_cases h3 : l = [42]
        · rw [if_pos h3, if_pos h3]
        rw [if_neg h3, if_neg h3]
        by_cases h4 : l = [47]
        · rw [if_pos h4, if_pos h4, if_pos (by simp [h4])]
          by_cases h0 : b = 0
          · rw [if_pos h0, if_pos h0]
          · rw [if_neg h0, if_neg h0, if_neg (by rw [h4]; decide)]
        rw [if_neg h4, if_neg h4]
        by_cases h5 : l = [37]
        · subst h5
          by_cases h0 : b = 0
          · simp [h0]
          · simp only [beq_self_eq_true, if_true, if_neg h0]
            have hm := Int.mul_tdiv_add_tmod a b
            have hc := Int.mul_comm (a.tdiv b) b
            have : wrap64 (a - wrap64 (wrap64 (a.tdiv b) * b)) = a.tmod b := by
              have hr : I64 (a.tmod b) := by
                have h1 : (a.tmod b).natAbs = a.natAbs % b.natAbs := Int.natAbs_tmod a b
                have h2 := Nat.mod_le a.natAbs b.natAbs
                unfold In at ha; unfold I64; omega
              have h64 : ∀ x y : Int, wrap64 (x - wrap64 y) = wrap64 (x - y) := fun x y => by unfold wrap64; omega
              have hmul : ∀ x y : Int, wrap64 (wrap64 x * y) = wrap64 (x * y) := fun x y => by
                have e1 : (wrap64 x * y) % 18446744073709551616 = (x * y) % 18446744073709551616 := by
                  rw [Int.mul_emod, show wrap64 x % 18446744073709551616 = x % 18446744073709551616 by unfold wrap64; omega, ← Int.mul_emod]
                unfold wrap64 at e1 ⊢
                omega
              rw [h64, ← h64, hmul, h64, ← wrap64_in hr]
              congr 1
              omega
            rw [this]
        by_cases h6 : l = [61]
        · by_cases h0 : a = b
          · simp [h5, h6, h0]
          · simp [h5, h6, h0]
        by_cases h7 : l = [60]
        · by_cases h0 : a < b
          · simp [h5, h6, h7, h0]
          · simp [h5, h6, h7, h0]
        simp [h5, h6, h7]
      simp [ha, hb, e]
    · have e : selvageref01_Do.j0 (k + 66) op a b true = some (ans op.toList a b) := by
        simp only [selvageref01_Do.j0]
        unfold ans
        rw [if_neg (fun h : In a ∧ In b => hb h.2)]
        simp
      simp [ha, hb, e]
  · have e : selvageref01_Do.j0 (k + 66) op a b true = some (ans op.toList a b) := by
      simp only [selvageref01_Do.j0]
      unfold ans
      rw [if_neg (fun h : In a ∧ In b => ha h.1)]
      simp
    simp [ha, e]

end Go.Proofs.Ytkmoneccehbncaa.Ints
