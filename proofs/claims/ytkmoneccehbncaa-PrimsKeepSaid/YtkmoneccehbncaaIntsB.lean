/- Words, plainly: what the bit operations of ints.Tag, Untag, At and Point come to. No condition but what each theorem states. -/
import Derived.Test.YtkmoneccehbncaaIntsA
import Derived.Test.YtkmoneccehbncaaPrint2
namespace Go.Proofs.Ytkmoneccehbncaa.Ints
open Go.RowKit Go.Proofs.Ytkmoneccehbncaa.Print Go.Proofs.YtkmoneccehbncaaW.PrintWords Go.Proofs.YtkmoneccehbncaaW.PrintLast
set_option linter.unusedVariables false
set_option linter.unusedSimpArgs false

theorem and_one (x : Int) : Go.bits .and .i64 x 1 = x % 2 := by
  have h : ((BitVec.ofInt 64 x) &&& (BitVec.ofInt 64 1)).toNat = (x % 2).toNat := by
    rw [BitVec.toNat_and, BitVec.toNat_ofInt, BitVec.toNat_ofInt]
    have e1 : (1 % (((2 : Nat) ^ 64 : Nat) : Int)).toNat = 1 := by decide
    rw [e1, Nat.and_one_is_mod]
    have e2 : (((2 : Nat) ^ 64 : Nat) : Int) = 18446744073709551616 := by decide
    rw [e2]
    omega
  show IntKind.i64.wrap (((BitVec.ofInt 64 x) &&& (BitVec.ofInt 64 1)).toNat : Int) = x % 2
  rw [h, IntKind.wrap_i64]
  omega
theorem or_one {x : Int} (h0 : x % 2 = 0) (hx : I64 x) : Go.bits .or .i64 x 1 = x + 1 := by
  have h : ((BitVec.ofInt 64 x) ||| (BitVec.ofInt 64 1)).toNat = (x % 18446744073709551616).toNat + 1 := by
    rw [BitVec.toNat_or, BitVec.toNat_ofInt, BitVec.toNat_ofInt]
    have e1 : (1 % (((2 : Nat) ^ 64 : Nat) : Int)).toNat = 1 := by decide
    have e2 : (((2 : Nat) ^ 64 : Nat) : Int) = 18446744073709551616 := by decide
    rw [e1, e2]
    generalize hn : (x % 18446744073709551616).toNat = n
    have h2 : n % 2 = 0 := by omega
    have e3 : n = 2 ^ 1 * (n / 2) := by omega
    rw [e3, ← Nat.two_pow_add_eq_or_of_lt (by decide : 1 < 2 ^ 1)]
  show IntKind.i64.wrap (((BitVec.ofInt 64 x) ||| (BitVec.ofInt 64 1)).toNat : Int) = x + 1
  rw [h, IntKind.wrap_i64]
  unfold I64 at hx
  omega

theorem tag_eq (a : Int) : ints_Tag.f a = some (2 * W a + 1) := by
  unfold ints_Tag.f
  have h1 : wrap64 (a * 2) = 2 * W a := by unfold wrap64 W; omega
  rw [h1, or_one (by omega) (by have := W_in a; unfold In at this; unfold I64; omega)]
theorem untag_eq (w : Int) : ints_Untag.f w = some (if w % 2 = 0 then (0, false) else (w / 2, true)) := by
  unfold ints_Untag.f
  rw [and_one]
  split <;> rfl
theorem at_eq (w : Int) : ints_At.f w = some (if w ≤ 0 then (0, false) else if w % 2 = 0 then (w / 2, true) else (0, false)) := by
  unfold ints_At.f
  rw [and_one]
  split
  · rfl
  · split <;> rfl
theorem point_eq (p : Int) : ints_Point.f p = some (if 1 ≤ p ∧ p ≤ 2305843009213693952 then 2 * p else 0) := by
  unfold ints_Point.f
  by_cases h1 : p < 1
  · rw [if_pos h1, if_neg (by omega)]
  · rw [if_neg h1]
    by_cases h2 : p > 2305843009213693952
    · rw [if_pos h2, if_neg (by omega)]
    · rw [if_neg h2, if_pos (by omega), wrap64_in (by unfold I64; omega)]
      congr 1
      omega
end Go.Proofs.Ytkmoneccehbncaa.Ints
