/- Contracts of ints, heap and prims over plain pictures of what lies in memory; no condition but what each theorem states. -/
import Derived.Test.YtkmoneccehbncaaPrint2
import Derived.Test.YtkmoneccehbncaaPrint0
import Derived.Lib.SliceRun
import Derived.Outline
import Derived.Laws.CopyRow
import Derived.Test.YtkmoneccehbncaaPrint3
/- Integers of 63 bits, plainly: what ints.Do and selvageref01.Do come to at any two numbers and any text of an operation. No condition but what each theorem states. -/
namespace Go.Proofs.Ytkmoneccehbncaa.Ints
open Go.RowKit Go.Proofs.Ytkmoneccehbncaa.Print Go.Proofs.YtkmoneccehbncaaW.PrintWords Go.Proofs.YtkmoneccehbncaaW.PrintLast
set_option linter.unusedVariables false
set_option linter.unusedSimpArgs false

/-- A number wrapped to 63 bits. -/
def W (x : Int) : Int := (x + 4611686018427387904) % 9223372036854775808 - 4611686018427387904
def In (x : Int) : Prop := -4611686018427387904 ≤ x ∧ x ≤ 4611686018427387903
def I64 (x : Int) : Prop := -9223372036854775808 ≤ x ∧ x ≤ 9223372036854775807

theorem i64_of_wf {x : Int} (h : (Lit.int .i64 x).wf = true) : I64 x := by
  simp only [Lit.wf, IntKind.min, IntKind.max, IntKind.signed, IntKind.bits, Bool.and_eq_true, decide_eq_true_eq, if_true] at h
  unfold I64; omega
theorem W_in (x : Int) : In (W x) := by unfold W In; omega
theorem W_of_in {x : Int} (h : In x) : W x = x := by unfold W In at *; omega
theorem W_W (x : Int) : W (W x) = W x := W_of_in (W_in x)
theorem in_i64 {x : Int} (h : In x) : I64 x := by unfold In I64 at *; omega
theorem W_mod (x : Int) : (W x) % 9223372036854775808 = x % 9223372036854775808 := by unfold W; omega
theorem W_congr {x y : Int} (h : x % 9223372036854775808 = y % 9223372036854775808) : W x = W y := by unfold W; omega
theorem W_wrap64 (x : Int) : W (wrap64 x) = W x := by unfold W wrap64; omega
theorem wrap2 (x : Int) : wrap64 (x * 2) / 2 = W x := by unfold W wrap64; omega
theorem wrap64_in {x : Int} (h : I64 x) : wrap64 x = x := by unfold I64 wrap64 at *; omega
theorem W_add (x y : Int) : W (W x + y) = W (x + y) := W_congr (by have := W_mod x; omega)
theorem W_add' (x y : Int) : W (x + W y) = W (x + y) := W_congr (by have := W_mod y; omega)
theorem W_sub (x y : Int) : W (W x - y) = W (x - y) := W_congr (by have := W_mod x; omega)
theorem W_sub' (x y : Int) : W (x - W y) = W (x - y) := W_congr (by have := W_mod y; omega)
theorem W_mul (x y : Int) : W (W x * y) = W (x * y) := W_congr (by rw [Int.mul_emod, W_mod, ← Int.mul_emod])
theorem W_mul' (x y : Int) : W (x * W y) = W (x * y) := by rw [Int.mul_comm, W_mul, Int.mul_comm]
theorem W_neg (x : Int) : W (-W x) = W (-x) := W_congr (by have := W_mod x; omega)

instance (x : Int) : Decidable (In x) := by unfold In; infer_instance

/-- What a sum, and the like, comes to; the second number is the error. -/
def ans (op : List UInt8) (a b : Int) : Int × Int :=
  if In a ∧ In b then
    if op = [43] then (W (a + b), 0)
    else if op = [45] then (W (a - b), 0)
    else if op = [42] then (W (a * b), 0)
    else if op = [47] then (if b = 0 then (0, 3) else (W (a.tdiv b), 0))
    else if op = [37] then (if b = 0 then (0, 3) else (a.tmod b, 0))
    else if op = [61] then (if a = b then (1, 0) else (0, 0))
    else if op = [60] then (if a < b then (1, 0) else (0, 0))
    else (0, 1)
  else (0, 1)

theorem is_eq (x : Int) : ints_is.f x = some (decide (In x)) := by
  unfold ints_is.f In
  by_cases h : x ≥ -4611686018427387904
  · rw [if_pos h]; simp only [ge_iff_le] at h; simp [h]
  · rw [if_neg h]; simp only [ge_iff_le] at h; simp [h]
theorem wrap_eq (x : Int) : ints_Wrap.f x = some (W x) := by unfold ints_Wrap.f; rw [wrap2]
theorem refWrap_eq {x : Int} (h : I64 x) : selvageref01_Wrap.f x = some (W x) := by
  unfold selvageref01_Wrap.f I64 at *
  split
  · congr 1; unfold W wrap64; omega
  · split
    · congr 1; unfold W wrap64; omega
    · congr 1; unfold W; omega
theorem refWrap_w (x : Int) : selvageref01_Wrap.f (wrap64 x) = some (W x) := by
  rw [refWrap_eq (by unfold I64 wrap64; omega), W_wrap64]
theorem refIs_eq (x : Int) : selvageref01_Is.f x = some (decide (In x)) := by
  unfold selvageref01_Is.f In
  by_cases h : x ≥ -4611686018427387904
  · rw [if_pos h]; simp only [ge_iff_le] at h; simp [h]
  · rw [if_neg h]; simp only [ge_iff_le] at h; simp [h]

theorem do_eq (k : Nat) (op : ByteArray) (a b : Int) : ints_Do.f (k + 2) op a b = some (ans op.toList a b) := by
  unfold ints_Do.f
  rw [is_eq, is_eq]
  simp only [Option.bind_some]
  by_cases ha : In a
  · by_cases hb : In b
    · have e : ints_Do.j0 (k + 2) op a b false = some (ans op.toList a b) := by
        simp only [ints_Do.j0, ints_Do.j1]
        unfold ans
        rw [if_pos (⟨ha, hb⟩ : In a ∧ In b), if_neg (by decide)]
        generalize op.toList = l
        simp only [wrap_eq, Option.bind_some, W_wrap64]
        by_cases h1 : l = [43]
        · rw [if_pos h1, if_pos h1]
        rw [if_neg h1, if_neg h1]
        by_cases h2 : l = [45]
        · rw [if_pos h2, if_pos h2]
        rw [if_neg h2, if_neg h2]
        by_cases h3 : l = [42]
        · rw [if_pos h3, if_pos h3]
        rw [if_neg h3, if_neg h3]
        by_cases h4 : l = [47]
        · rw [if_pos h4, if_pos h4]
          by_cases h0 : b = 0
          · rw [if_pos h0, if_pos h0, if_pos h0]
          · rw [if_neg h0, if_neg h0]
        rw [if_neg h4, if_neg h4]
        by_cases h5 : l = [37]
        · rw [if_pos h5, if_pos h5]
          by_cases h0 : b = 0
          · rw [if_pos h0, if_pos h0]
          · rw [if_neg h0, if_neg h0]
        rw [if_neg h5, if_neg h5]
        by_cases h6 : l = [61]
        · rw [if_pos h6, if_pos h6]
          by_cases h0 : a = b
          · simp [h0, ints_truth.f]
          · simp [h0, ints_truth.f]
        rw [if_neg h6, if_neg h6]
        by_cases h7 : l = [60]
        · rw [if_pos h7, if_pos h7]
          by_cases h0 : a < b
          · simp [h0, ints_truth.f]
          · simp [h0, ints_truth.f]
        rw [if_neg h7, if_neg h7]
      simp [ha, hb, e]
    · have e : ints_Do.j0 (k + 2) op a b true = some (ans op.toList a b) := by
        simp only [ints_Do.j0]
        unfold ans
        rw [if_neg (fun h : In a ∧ In b => hb h.2)]
        simp
      simp [ha, hb, e]
  · have e : ints_Do.j0 (k + 2) op a b true = some (ans op.toList a b) := by
      simp only [ints_Do.j0]
      unfold ans
      rw [if_neg (fun h : In a ∧ In b => ha h.1)]
      simp
    simp [ha, e]

/-! The reference's product, bit by bit. -/
theorem tdiv2_abs (x : Int) : (x.tdiv 2).natAbs = x.natAbs / 2 := by rw [Int.natAbs_tdiv]; rfl
theorem tmod2_zero (x : Int) : x.tmod 2 = 0 ↔ x.natAbs % 2 = 0 := by
  have h : (x.tmod 2).natAbs = x.natAbs % 2 := by rw [Int.natAbs_tmod]; rfl
  omega

theorem mul_loop (s : Bool) (d : Nat) : ∀ (k : Nat) (x0 x1 x6 : Int), In x0 → In x6 → x1.natAbs < 2 ^ d → d ≤ 63 → d < k →
    selvageref01_Mul.l0 k x0 x1 s x6 (63 - (d : Int)) = some (if s = true then W (-(x6 + x0 * x1.natAbs)) else W (x6 + x0 * x1.natAbs)) := by
  induction d with
  | zero =>
    intro k x0 x1 x6 h0 h6 h1 _ hk
    obtain ⟨k, rfl⟩ : ∃ m, k = m + 1 := ⟨k - 1, by omega⟩
    have e : x1.natAbs = 0 := by simpa using h1
    simp only [selvageref01_Mul.l0]
    rw [if_neg (by omega), e]
    simp only [Int.natCast_zero, Int.mul_zero, Int.add_zero]
    cases s
    · simp [W_of_in h6]
    · simp [refWrap_w]
  | succ d ih =>
    intro k x0 x1 x6 h0 h6 h1 hd hk
    obtain ⟨k, rfl⟩ : ∃ m, k = m + 1 := ⟨k - 1, by omega⟩
    have hb : x1.natAbs ≤ 9223372036854775807 := by
      have : (2 : Nat) ^ (d + 1) ≤ 2 ^ 63 := Nat.pow_le_pow_right (by decide) hd
      have : (2 : Nat) ^ 63 = 9223372036854775808 := by decide
      omega
    have hq := tdiv2_abs x1
    have hw : wrap64 (x1.tdiv 2) = x1.tdiv 2 := wrap64_in (by unfold I64; omega)
    have hlt : (x1.tdiv 2).natAbs < 2 ^ d := by rw [hq]; rw [Nat.pow_succ] at h1; omega
    have hi : wrap64 (63 - ((d + 1 : Nat) : Int) + 1) = 63 - (d : Int) := by unfold wrap64; omega
    simp only [selvageref01_Mul.l0]
    rw [if_pos (by omega)]
    simp only [refWrap_w, Option.bind_some, hw, hi]
    by_cases hz : x1.tmod 2 = 0
    · rw [if_pos hz, ih k _ _ _ (W_in _) h6 hlt (by omega) (by omega), hq]
      have hz' := (tmod2_zero x1).1 hz
      have e : x6 + (x0 + x0) * ((x1.natAbs / 2 : Nat) : Int) = x6 + x0 * (x1.natAbs : Int) := by
        have : (x1.natAbs : Int) = 2 * ((x1.natAbs / 2 : Nat) : Int) := by omega
        rw [this, Int.add_mul, ← Int.mul_assoc, Int.mul_comm x0 2, Int.mul_assoc]; omega
      have ew : W (x6 + W (x0 + x0) * ((x1.natAbs / 2 : Nat) : Int)) = W (x6 + x0 * (x1.natAbs : Int)) := by
        rw [← W_add', W_mul, W_add', e]
      have en : W (-(x6 + W (x0 + x0) * ((x1.natAbs / 2 : Nat) : Int))) = W (-(x6 + x0 * (x1.natAbs : Int))) := by
        rw [← W_neg, ew, W_neg]
      rw [ew, en]
    · rw [if_neg hz, ih k _ _ _ (W_in _) (W_in _) hlt (by omega) (by omega), hq]
      have hz' : x1.natAbs % 2 = 1 := by have := mt (tmod2_zero x1).2 hz; omega
      have e : x6 + x0 + (x0 + x0) * ((x1.natAbs / 2 : Nat) : Int) = x6 + x0 * (x1.natAbs : Int) := by
        have : (x1.natAbs : Int) = 2 * ((x1.natAbs / 2 : Nat) : Int) + 1 := by omega
        rw [this, Int.add_mul, Int.mul_add, ← Int.mul_assoc, Int.mul_comm x0 2, Int.mul_assoc]; omega
      have ew : W (W (x6 + x0) + W (x0 + x0) * ((x1.natAbs / 2 : Nat) : Int)) = W (x6 + x0 * (x1.natAbs : Int)) := by
        rw [W_add, ← W_add', W_mul, W_add', e]
      have en : W (-(W (x6 + x0) + W (x0 + x0) * ((x1.natAbs / 2 : Nat) : Int))) = W (-(x6 + x0 * (x1.natAbs : Int))) := by
        rw [← W_neg, ew, W_neg]
      rw [ew, en]

theorem mul_eq (k : Nat) (a b : Int) (ha : In a) (hb : In b) : selvageref01_Mul.f (k + 64) a b = some (W (a * b)) := by
  unfold selvageref01_Mul.f
  have hp : (2 : Nat) ^ 63 = 9223372036854775808 := by decide
  have hbb : b.natAbs < 2 ^ 63 := by unfold In at hb; omega
  have h := mul_loop (decide (b < 0)) 63 (k + 64) a b 0 ha (by unfold In; omega) hbb (by omega) (by omega)
  rw [show (63 : Int) - ((63 : Nat) : Int) = 0 by omega] at h
  rw [h]
  simp only [Int.zero_add]
  by_cases hn : b < 0
  · have : (b.natAbs : Int) = -b := by omega
    rw [this]
    simp [hn, Int.mul_neg]
  · have : (b.natAbs : Int) = b := by omega
    rw [this]
    simp [hn]

theorem refDo_eq (k : Nat) (op : ByteArray) (a b : Int) : selvageref01_Do.f (k + 66) op a b = some (ans op.toList a b) := by
  unfold selvageref01_Do.f
  rw [refIs_eq, refIs_eq]
  simp only [Option.bind_some]
  by_cases ha : In a
  · by_cases hb : In b
    · have e : selvageref01_Do.j0 (k + 66) op a b false = some (ans op.toList a b) := by
        simp only [selvageref01_Do.j0, selvageref01_Do.j1]
        rw [show k + 65 = (k + 1) + 64 by omega, mul_eq (k + 1) a b ha hb]
        unfold ans selvageref01_Add.f
        rw [if_pos (⟨ha, hb⟩ : In a ∧ In b), if_neg (by decide)]
        generalize op.toList = l
        simp only [refWrap_w, Option.bind_some]
        by_cases h1 : l = [43]
        · rw [if_pos h1, if_pos h1]
        rw [if_neg h1, if_neg h1]
        by_cases h2 : l = [45]
        · rw [if_pos h2, if_pos h2]
        rw [if_neg h2, if_neg h2]
        by_cases h3 : l = [42]
        · rw [if_pos h3, if_pos h3]
        rw [if_neg h3, if_neg h3]
        by_cases h4 : l = [47]
        · rw [if_pos h4, if_pos h4, if_pos (by simp [h4])]
          by_cases h0 : b = 0
          · rw [if_pos h0, if_pos h0]
          · rw [if_neg h0, if_neg h0, if_neg (by rw [h4]; decide)]
        rw [if_neg h4, if_neg h4]
        by_cases h5 : l = [37]
        · subst h5
          by_cases h0 : b = 0
          · simp [h0]
          · simp only [beq_self_eq_true, if_true, if_neg h0]
            have hm := Int.mul_tdiv_add_tmod a b
            have hc := Int.mul_comm (a.tdiv b) b
            have : wrap64 (a - wrap64 (wrap64 (a.tdiv b) * b)) = a.tmod b := by
              have hr : I64 (a.tmod b) := by
                have h1 : (a.tmod b).natAbs = a.natAbs % b.natAbs := Int.natAbs_tmod a b
                have h2 := Nat.mod_le a.natAbs b.natAbs
                unfold In at ha; unfold I64; omega
              have h64 : ∀ x y : Int, wrap64 (x - wrap64 y) = wrap64 (x - y) := fun x y => by unfold wrap64; omega
              have hmul : ∀ x y : Int, wrap64 (wrap64 x * y) = wrap64 (x * y) := fun x y => by
                have e1 : (wrap64 x * y) % 18446744073709551616 = (x * y) % 18446744073709551616 := by
                  rw [Int.mul_emod, show wrap64 x % 18446744073709551616 = x % 18446744073709551616 by unfold wrap64; omega, ← Int.mul_emod]
                unfold wrap64 at e1 ⊢
                omega
              rw [h64, ← h64, hmul, h64, ← wrap64_in hr]
              congr 1
              omega
            rw [this]
        by_cases h6 : l = [61]
        · by_cases h0 : a = b
          · simp [h5, h6, h0]
          · simp [h5, h6, h0]
        by_cases h7 : l = [60]
        · by_cases h0 : a < b
          · simp [h5, h6, h7, h0]
          · simp [h5, h6, h7, h0]
        simp [h5, h6, h7]
      simp [ha, hb, e]
    · have e : selvageref01_Do.j0 (k + 66) op a b true = some (ans op.toList a b) := by
        simp only [selvageref01_Do.j0]
        unfold ans
        rw [if_neg (fun h : In a ∧ In b => hb h.2)]
        simp
      simp [ha, hb, e]
  · have e : selvageref01_Do.j0 (k + 66) op a b true = some (ans op.toList a b) := by
      simp only [selvageref01_Do.j0]
      unfold ans
      rw [if_neg (fun h : In a ∧ In b => ha h.1)]
      simp
    simp [ha, e]

end Go.Proofs.Ytkmoneccehbncaa.Ints
/- Words, plainly: what the bit operations of ints.Tag, Untag, At and Point come to. No condition but what each theorem states. -/
namespace Go.Proofs.Ytkmoneccehbncaa.Ints
open Go.RowKit Go.Proofs.Ytkmoneccehbncaa.Print Go.Proofs.YtkmoneccehbncaaW.PrintWords Go.Proofs.YtkmoneccehbncaaW.PrintLast
set_option linter.unusedVariables false
set_option linter.unusedSimpArgs false

theorem and_one (x : Int) : Go.bits .and .i64 x 1 = x % 2 := by
  have h : ((BitVec.ofInt 64 x) &&& (BitVec.ofInt 64 1)).toNat = (x % 2).toNat := by
    rw [BitVec.toNat_and, BitVec.toNat_ofInt, BitVec.toNat_ofInt]
    have e1 : (1 % (((2 : Nat) ^ 64 : Nat) : Int)).toNat = 1 := by decide
    rw [e1, Nat.and_one_is_mod]
    have e2 : (((2 : Nat) ^ 64 : Nat) : Int) = 18446744073709551616 := by decide
    rw [e2]
    omega
  show IntKind.i64.wrap (((BitVec.ofInt 64 x) &&& (BitVec.ofInt 64 1)).toNat : Int) = x % 2
  rw [h, IntKind.wrap_i64]
  omega
theorem or_one {x : Int} (h0 : x % 2 = 0) (hx : I64 x) : Go.bits .or .i64 x 1 = x + 1 := by
  have h : ((BitVec.ofInt 64 x) ||| (BitVec.ofInt 64 1)).toNat = (x % 18446744073709551616).toNat + 1 := by
    rw [BitVec.toNat_or, BitVec.toNat_ofInt, BitVec.toNat_ofInt]
    have e1 : (1 % (((2 : Nat) ^ 64 : Nat) : Int)).toNat = 1 := by decide
    have e2 : (((2 : Nat) ^ 64 : Nat) : Int) = 18446744073709551616 := by decide
    rw [e1, e2]
    generalize hn : (x % 18446744073709551616).toNat = n
    have h2 : n % 2 = 0 := by omega
    have e3 : n = 2 ^ 1 * (n / 2) := by omega
    rw [e3, ← Nat.two_pow_add_eq_or_of_lt (by decide : 1 < 2 ^ 1)]
  show IntKind.i64.wrap (((BitVec.ofInt 64 x) ||| (BitVec.ofInt 64 1)).toNat : Int) = x + 1
  rw [h, IntKind.wrap_i64]
  unfold I64 at hx
  omega

theorem tag_eq (a : Int) : ints_Tag.f a = some (2 * W a + 1) := by
  unfold ints_Tag.f
  have h1 : wrap64 (a * 2) = 2 * W a := by unfold wrap64 W; omega
  rw [h1, or_one (by omega) (by have := W_in a; unfold In at this; unfold I64; omega)]
theorem untag_eq (w : Int) : ints_Untag.f w = some (if w % 2 = 0 then (0, false) else (w / 2, true)) := by
  unfold ints_Untag.f
  rw [and_one]
  split <;> rfl
theorem at_eq (w : Int) : ints_At.f w = some (if w ≤ 0 then (0, false) else if w % 2 = 0 then (w / 2, true) else (0, false)) := by
  unfold ints_At.f
  rw [and_one]
  split
  · rfl
  · split <;> rfl
theorem point_eq (p : Int) : ints_Point.f p = some (if 1 ≤ p ∧ p ≤ 2305843009213693952 then 2 * p else 0) := by
  unfold ints_Point.f
  by_cases h1 : p < 1
  · rw [if_pos h1, if_neg (by omega)]
  · rw [if_neg h1]
    by_cases h2 : p > 2305843009213693952
    · rw [if_pos h2, if_neg (by omega)]
    · rw [if_neg h2, if_pos (by omega), wrap64_in (by unfold I64; omega)]
      congr 1
      omega
end Go.Proofs.Ytkmoneccehbncaa.Ints
/- Maps from whole numbers to bools, all true: what a look-up and a store of a new key do; no condition but what each theorem states. -/
namespace Go.Proofs.Ytkmoneccehbncaa.Heap
open Go.RowKit Go.Proofs.YtkmoneccehbncaaW.PrintWords Go.Proofs.YtkmoneccehbncaaW.PrintLast Go.Proofs.YtkmoneccehbncaaW.PrintMore
set_option linter.unusedVariables false
set_option linter.unusedSimpArgs false

/-- The entries are of these keys, each with the value v. -/
def Keys (v : Int → Value) (es : Array MapEntry) (ks : List Int) : Prop := es.toList.map (fun e => (e.key, e.val)) = ks.map (fun k => (Value.int .i64 k, v k))

theorem findNow_yes (v : Int → Value) (z : Int) : ∀ (es : List MapEntry) (ks : List Int) (i : Nat), es.map (fun e => (e.key, e.val)) = ks.map (fun k => (Value.int .i64 k, v k)) → z ∈ ks →
    ∃ j, Instr.findNow (.int .i64) (.int .i64 z) es i = some (some (j, v z))
  | [], [], _, _, h => by cases h
  | [], _ :: _, _, h, _ => by simp at h
  | _ :: _, [], _, h, _ => by simp at h
  | e :: es, k :: ks, i, h, hz => by
    simp only [List.map_cons, List.cons.injEq, Prod.mk.injEq] at h
    obtain ⟨⟨h1, h2⟩, h3⟩ := h
    by_cases hk : z = k
    · subst hk
      exact ⟨i, by simp [Instr.findNow, Instr.sameNow, h1, h2]⟩
    · obtain ⟨j, hj⟩ := findNow_yes v z es ks (i + 1) h3 (by simpa [hk] using hz)
      refine ⟨j, ?_⟩
      have hb : (z == k) = false := beq_eq_false_iff_ne.2 hk
      simp [Instr.findNow, Instr.sameNow, h1, hb, hj]
theorem findNow_no (v : Int → Value) (z : Int) : ∀ (es : List MapEntry) (ks : List Int) (i : Nat), es.map (fun e => (e.key, e.val)) = ks.map (fun k => (Value.int .i64 k, v k)) → z ∉ ks →
    Instr.findNow (.int .i64) (.int .i64 z) es i = some none
  | [], _, _, _, _ => rfl
  | _ :: _, [], _, h, _ => by simp at h
  | e :: es, k :: ks, i, h, hz => by
    simp only [List.map_cons, List.cons.injEq, Prod.mk.injEq] at h
    obtain ⟨⟨h1, h2⟩, h3⟩ := h
    have hk : ¬ z = k := fun e => hz (by simp [e])
    have hb : (z == k) = false := beq_eq_false_iff_ne.2 hk
    simp [Instr.findNow, Instr.sameNow, h1, hb, findNow_no v z es ks (i + 1) h3 (fun x => hz (by simp [x]))]

theorem run_look {P : Program} {W : World} (t kt et : TypeId) (ht : P.underlying t = some (.map kt et)) (hk : P.underlying kt = some (.int .i64)) {zv : Value} (hz : (zeroValue et).run P W = .ok zv W) {v : Int → Value} {m cl : Nat} {es : Array MapEntry} {ks : List Int}
    (hb : W.heap[m]? = some (.map es cl)) (hK : Keys v es ks) (z : Int) : (Instr.lookup t (.map (some m)) (.int .i64 z) false).run P W = .ok (if z ∈ ks then v z else zv) W := by
  have hc : (Instr.checkKey es.isEmpty 10000 kt (.int .i64 z)).run P W = .ok () W := MapKept.run_checkKey hk (by simp [MapKept.IsKey]) _ 9999
  by_cases h : z ∈ ks
  · obtain ⟨j, hj⟩ := findNow_yes v z _ _ 0 hK h
    simp [Instr.lookup, run_underlying ht, MapKept.run_getObj_map hb, hc, MapKept.run_findKey hk hj, Result.andThen, h]
  · have hj := findNow_no v z _ _ 0 hK h
    simp [Instr.lookup, run_underlying ht, MapKept.run_getObj_map hb, hc, MapKept.run_findKey hk hj, Result.andThen, h, hz]
theorem run_put {P : Program} {W : World} (t kt et : TypeId) (ht : P.underlying t = some (.map kt et)) (hk : P.underlying kt = some (.int .i64)) {v : Int → Value} {m cl : Nat} {es : Array MapEntry} {ks : List Int}
    (hb : W.heap[m]? = some (.map es cl)) (hK : Keys v es ks) (z : Int) (h : z ∉ ks) (x : Value) : (Instr.mapUpdate t (.map (some m)) (.int .i64 z) x).run P W = .ok () { W with heap := W.heap.setIfInBounds m (.map (es.push { key := .int .i64 z, val := x, born := cl }) (cl + 1)) } := by
  have hc : (Instr.checkKey false 10000 kt (.int .i64 z)).run P W = .ok () W := MapKept.run_checkKey hk (by simp [MapKept.IsKey]) _ 9999
  have hj := findNow_no v z _ _ 0 hK h
  simp [Instr.mapUpdate, run_underlying ht, MapKept.run_getObj_map hb, hc, MapKept.run_findKey hk hj, MapKept.run_setObj_map _ hb, Result.andThen]
end Go.Proofs.Ytkmoneccehbncaa.Heap
/- The heap of layer 2 in memory: what its readers come to; no condition but what each theorem states. -/
namespace Go.Proofs.Ytkmoneccehbncaa.Heap
open Go.RowKit Go.Proofs.YtkmoneccehbncaaW.PrintWords Go.Proofs.YtkmoneccehbncaaW.PrintLast Go.Proofs.YtkmoneccehbncaaW.PrintMore Go.Proofs.Ytkmoneccehbncaa.Print Go.Proofs.Ytkmoneccehbncaa.Ints
set_option linter.unusedVariables false
set_option linter.unusedSimpArgs false

/-- A heap: its words, the first place that is free, the places of blocks. -/
structure PH where
  ws : List Int
  top : Int
  ks : List Int
/-- Block g is a heap, its words in block b, the places of its blocks in the map m. -/
structure At (W : World) (g b m : Nat) (H : PH) : Prop where
  head : W.heap[g]? = some (.cells #[.slice (some ⟨b, 0, none⟩) H.ws.length H.ws.length, .int .i64 H.top, .map (some m)] 71 (0, 0))
  words : W.heap[b]? = some (.cells (nums .i64 H.ws).toArray 3 (0, 0))
  places : ∃ es cl, W.heap[m]? = some (.map es cl) ∧ Keys (fun _ => .bool true) es H.ks
theorem At.below {W W1 : World} {g b m : Nat} {H : PH} (h : At W g b m H) (hb : Below W.heap.size W W1) : At W1 g b m H := by
  obtain ⟨es, cl, h3, h4⟩ := h.places
  exact ⟨(hb.block g (blk_lt h.head)).trans h.head, (hb.block b (blk_lt h.words)).trans h.words, es, cl, (hb.block m (blk_lt h3)).trans h3, h4⟩
theorem At.drewN {W : World} {g b m : Nat} {H : PH} (h : At W g b m H) (n : Nat) : At (W.drewN n) g b m H := ⟨h.head, h.words, h.places⟩

/-- A block's place; 0: the word is no block's. -/
def PH.place (H : PH) (z : Int) : Int := if z ≤ 0 then 0 else if z % 2 = 0 then (if z / 2 ∈ H.ks then z / 2 else 0) else 0

set_option maxHeartbeats 800000 in
set_option maxRecDepth 100000 in
theorem place_calls (g b m : Nat) (H : PH) (z : Int) (W : World) (h : At W g b m H) :
    Calls Try.prog 49 #[.pointer (some ⟨g, 0, none⟩), .int .i64 z] W fun e w' => e = .returned (.int .i64 (H.place z)) ∧ Drawn0 W w' := by
  obtain ⟨es, cl, hm, hk⟩ := h.places
  have hc2 : ∀ n, (W.drewN n).cell? ⟨g, 2, none⟩ = some (.map (some m)) := fun n => (blk_cell (w := W.drewN n) h.head 2).trans rfl
  have hlook : ∀ n, (Instr.lookup 69 (.map (some m)) (.int .i64 (z / 2)) false).run Try.prog (W.drewN n) = .ok (.bool (decide (z / 2 ∈ H.ks))) (W.drewN n) := fun n => by
    rw [run_look (P := Try.prog) (W := W.drewN n) 69 3 4 Try.underlying69 Try.underlying3 (zv := .bool false) (by kernel_rfl) hm hk (z / 2)]
    by_cases hz : z / 2 ∈ H.ks <;> simp [hz]
  have HL := Aside0.mk hlook
  have HC := Aside0.mk hc2
  clear hlook hc2 hm hk
  have ha := at_eq z
  unfold PH.place
  by_cases h1 : z ≤ 0
  · rw [if_pos h1] at ha
    rw [if_pos h1]
    have HA := Aside0.mk ha
    clear ha h h1
    go_enter Try.func49, Try.ntmps49
    go_wp2_with (go_at_call 73; (with_reducible refine (ints_At.calls z 0 false _ HA.out).mono ?_); rintro e w' ⟨rfl, ⟨nd, rfl⟩⟩)
    go_ret
    exact ⟨rfl, by repeat (first | exact Drawn0.refl _ | apply Drawn0.step)⟩
  · rw [if_neg h1] at ha
    rw [if_neg h1]
    by_cases h2 : z % 2 = 0
    · rw [if_pos h2] at ha
      rw [if_pos h2]
      have HA := Aside0.mk ha
      clear ha h h1 h2
      generalize z / 2 = p at *
      by_cases h3 : p ∈ H.ks
      · rw [if_pos h3]
        have h3b : decide (p ∈ H.ks) = true := decide_eq_true h3
        rw [h3b] at HL
        clear h3 h3b
        go_enter Try.func49, Try.ntmps49
        go_wp2_with (go_at_call 73; (with_reducible refine (ints_At.calls z p true _ HA.out).mono ?_); rintro e w' ⟨rfl, ⟨nd, rfl⟩⟩; have hc := HC.out nd; have hl := HL.out nd)
        go_ret
        exact ⟨rfl, by repeat (first | exact Drawn0.refl _ | apply Drawn0.step)⟩
      · rw [if_neg h3]
        have h3b : decide (p ∈ H.ks) = false := decide_eq_false h3
        rw [h3b] at HL
        clear h3 h3b
        go_enter Try.func49, Try.ntmps49
        go_wp2_with (go_at_call 73; (with_reducible refine (ints_At.calls z p true _ HA.out).mono ?_); rintro e w' ⟨rfl, ⟨nd, rfl⟩⟩; have hc := HC.out nd; have hl := HL.out nd)
        go_ret
        exact ⟨rfl, by repeat (first | exact Drawn0.refl _ | apply Drawn0.step)⟩
    · rw [if_neg h2] at ha
      rw [if_neg h2]
      have HA := Aside0.mk ha
      clear ha h h1 h2
      go_enter Try.func49, Try.ntmps49
      go_wp2_with (go_at_call 73; (with_reducible refine (ints_At.calls z 0 false _ HA.out).mono ?_); rintro e w' ⟨rfl, ⟨nd, rfl⟩⟩)
      go_ret
      exact ⟨rfl, by repeat (first | exact Drawn0.refl _ | apply Drawn0.step)⟩
end Go.Proofs.Ytkmoneccehbncaa.Heap
/- The heap of layer 2 in memory: May, Is, Half, Used, Tag, span, Clone and Fields; no condition but what each theorem states. -/
namespace Go.Proofs.Ytkmoneccehbncaa.Heap
open Go.RowKit Go.Proofs.YtkmoneccehbncaaW.PrintWords Go.Proofs.YtkmoneccehbncaaW.PrintLast Go.Proofs.YtkmoneccehbncaaW.PrintMore Go.Proofs.Ytkmoneccehbncaa.Print Go.Proofs.Ytkmoneccehbncaa.Ints
set_option linter.unusedVariables false
set_option linter.unusedSimpArgs false

set_option maxHeartbeats 800000 in
set_option maxRecDepth 100000 in
theorem is_calls (g b m : Nat) (H : PH) (z : Int) (W : World) (h : At W g b m H) :
    Calls Try.prog 76 #[.pointer (some ⟨g, 0, none⟩), .int .i64 z] W fun e w' => e = .returned (.bool (decide (0 < H.place z))) ∧ Drawn0 W w' := by
  go_enter Try.func76, Try.ntmps76
  go_wp2_with (go_at_call 49; (with_reducible refine (place_calls g b m H z _ h).mono ?_); rintro e w' ⟨rfl, ⟨nd, rfl⟩⟩)
  go_ret
  exact ⟨rfl, by repeat (first | exact Drawn0.refl _ | apply Drawn0.step)⟩

/-- May a word stand? -/
def PH.may (H : PH) (z : Int) : Bool := decide (¬ z % 2 = 0) || decide (0 < H.place z)

set_option maxHeartbeats 800000 in
set_option maxRecDepth 100000 in
theorem may_calls (g b m : Nat) (H : PH) (z : Int) (W : World) (h : At W g b m H) :
    Calls Try.prog 62 #[.pointer (some ⟨g, 0, none⟩), .int .i64 z] W fun e w' => e = .returned (.bool (H.may z)) ∧ Drawn0 W w' := by
  have hu := untag_eq z
  unfold PH.may
  by_cases h1 : z % 2 = 0
  · rw [if_pos h1] at hu
    have e1 : decide (¬ z % 2 = 0) = false := by simp [h1]
    rw [e1]
    have HU := Aside0.mk hu
    have HH := Aside0.mk h
    clear hu h1 e1 h
    go_enter Try.func62, Try.ntmps62
    go_wp2_with (first | (go_at_call 35; (with_reducible refine (ints_Untag.calls z 0 false _ HU.out).mono ?_); rintro e w' ⟨rfl, ⟨nd, rfl⟩⟩) | (go_at_call 76; (with_reducible refine (is_calls g b m H z _ (HH.out.drewN _)).mono ?_); rintro e w' ⟨rfl, ⟨nd2, rfl⟩⟩))
    go_ret
    exact ⟨rfl, by repeat (first | exact Drawn0.refl _ | apply Drawn0.step)⟩
  · rw [if_neg h1] at hu
    have e1 : decide (¬ z % 2 = 0) = true := by simp [h1]
    rw [e1]
    have HU := Aside0.mk hu
    have HH := Aside0.mk h
    clear hu h1 e1 h
    go_enter Try.func62, Try.ntmps62
    go_wp2_with (first | (go_at_call 35; (with_reducible refine (ints_Untag.calls z (z / 2) true _ HU.out).mono ?_); rintro e w' ⟨rfl, ⟨nd, rfl⟩⟩))
    go_ret
    exact ⟨rfl, by repeat (first | exact Drawn0.refl _ | apply Drawn0.step)⟩

set_option maxHeartbeats 800000 in
set_option maxRecDepth 100000 in
theorem used_calls (g b m : Nat) (H : PH) (W : World) (h : At W g b m H) (h0 : 0 ≤ H.top) (h1 : H.top ≤ 100000) :
    Calls Try.prog 17 #[.pointer (some ⟨g, 0, none⟩)] W fun e w' => e = .returned (.int .i64 (H.top - 1)) ∧ Drawn0 W w' := by
  have hc := (blk_cell h.head 1).trans (rfl : _ = some (Value.int .i64 H.top))
  clear h
  go_enter Try.func17, Try.ntmps17
  go_wp2
  go_ret
  exact ⟨rfl, by repeat (first | exact Drawn0.refl _ | apply Drawn0.step)⟩

set_option maxHeartbeats 800000 in
set_option maxRecDepth 100000 in
theorem half_calls (g b m : Nat) (H : PH) (W : World) (h : At W g b m H) (h1 : H.ws.length ≤ 100000) :
    Calls Try.prog 63 #[.pointer (some ⟨g, 0, none⟩)] W fun e w' => e = .returned (.int .i64 ((H.ws.length : Int) - 1)) ∧ Drawn0 W w' := by
  have hc := (blk_cell h.head 0).trans (rfl : _ = some (Value.slice (some ⟨b, 0, none⟩) H.ws.length H.ws.length))
  clear h
  go_enter Try.func63, Try.ntmps63
  go_wp2
  go_ret
  exact ⟨rfl, by repeat (first | exact Drawn0.refl _ | apply Drawn0.step)⟩

theorem word_cell {W : World} {g b m : Nat} {H : PH} (h : At W g b m H) (i : Int) (h0 : 0 ≤ i) (h1 : i < H.ws.length) : W.cell? ⟨b, i.toNat, none⟩ = some (.int .i64 (rd H.ws i)) := by
  rw [blk_cell h.words i.toNat]
  have h2 : i.toNat < H.ws.length := by omega
  simp [nums, rd, List.getD, List.getElem?_eq_getElem h2]

set_option maxHeartbeats 800000 in
set_option maxRecDepth 100000 in
theorem tag_calls (g b m : Nat) (H : PH) (z : Int) (W : World) (h : At W g b m H) (hp : H.place z ≠ 0 → 0 ≤ H.place z ∧ H.place z < H.ws.length) :
    Calls Try.prog 55 #[.pointer (some ⟨g, 0, none⟩), .int .i64 z] W fun e w' => e = .returned (.int .i64 (if H.place z = 0 then -1 else (rd H.ws (H.place z)).tmod 256)) ∧ Drawn0 W w' := by
  have HP := Aside0.mk (fun w => place_calls g b m H z w)
  generalize H.place z = p at *
  by_cases h0 : p = 0
  · subst h0
    clear hp
    rw [if_pos rfl]
    go_enter Try.func55, Try.ntmps55
    go_wp2_with (go_at_call 49; (with_reducible refine (HP.out _ h).mono ?_); rintro e w' ⟨rfl, ⟨nd, rfl⟩⟩)
    go_ret
    exact ⟨rfl, by repeat (first | exact Drawn0.refl _ | apply Drawn0.step)⟩
  · obtain ⟨h1, h2⟩ := hp h0
    rw [if_neg h0]
    have hc := fun n => (blk_cell (w := W.drewN n) h.head 0).trans (rfl : _ = some (Value.slice (some ⟨b, 0, none⟩) H.ws.length H.ws.length))
    have hw := fun n => word_cell (h.drewN n) p h1 h2
    have HC := Aside0.mk hc
    have HW := Aside0.mk hw
    have hz : (p == 0) = false := beq_eq_false_iff_ne.2 h0
    clear hc hw h0 hp
    go_enter Try.func55, Try.ntmps55
    go_wp2_with (go_at_call 49; (with_reducible refine (HP.out _ h).mono ?_); rintro e w' ⟨rfl, ⟨nd, rfl⟩⟩; have hc := HC.out nd; have hw := HW.out nd)
    go_ret
    exact ⟨rfl, by repeat (first | exact Drawn0.refl _ | apply Drawn0.step)⟩
end Go.Proofs.Ytkmoneccehbncaa.Heap
/- The heap of layer 2 in memory: a block's fields (span, slices.Clone, Fields); no condition but what each theorem states. -/
namespace Go.Proofs.Ytkmoneccehbncaa.Heap
open Go.RowKit Go.Proofs.YtkmoneccehbncaaW.PrintWords Go.Proofs.YtkmoneccehbncaaW.PrintLast Go.Proofs.YtkmoneccehbncaaW.PrintMore Go.Proofs.Ytkmoneccehbncaa.Print Go.Proofs.Ytkmoneccehbncaa.Ints
set_option linter.unusedVariables false
set_option linter.unusedSimpArgs false

/-- The place of xs[lo:hi:hi], xs from the begin of block b on. -/
def cutAt (b lo n : Nat) : Addr := ⟨b, if n = 0 then 0 else lo, none⟩
theorem cut3 (b L lo n : Nat) (l h : Int) (hl : l = lo) (hh : h = ((lo + n : Nat) : Int)) (hL : lo + n ≤ L) (w : World) :
    (Instr.slice 36 (.slice (some ⟨b, 0, none⟩) L L) (some (.int .i64 l)) (some (.int .i64 h)) (some (.int .i64 h))).run Try.prog w = .ok (.slice (some (cutAt b lo n)) n n) w := by
  have hu : Try.prog.underlying 36 = some (.slice (Try.prog.elem 36)) := by rw [show Try.prog.elem 36 = 3 by kernel_rfl]; exact Try.underlying36
  rw [run_slice_lhm w 36 (some ⟨b, 0, none⟩) L L hu .i64 .i64 .i64 l h h (by omega) (by omega) (Int.le_refl _) (by omega)]
  have hs : (sizeOf (Try.prog.elem 36)).run Try.prog w = .ok 1 w := by kernel_rfl
  rw [hs]
  have e1 : l.toNat = lo := by omega
  have e2 : h.toNat = lo + n := by omega
  simp only [Result.andThen, sliced, e1, e2, Nat.mul_one]
  unfold cutAt
  by_cases h0 : n = 0
  · subst h0
    simp
  · have h1 : ¬ lo + n = lo := by omega
    simp only [if_neg h1, if_neg h0]
    have e3 : (⟨b, 0, none⟩ : Addr).add lo = ⟨b, lo, none⟩ := by unfold Addr.add; split <;> simp_all
    simp [e3]

set_option maxHeartbeats 800000 in
set_option maxRecDepth 100000 in
theorem span_calls (g b m : Nat) (H : PH) (p : Nat) (W : World) (h : At W g b m H) (h1 : p < H.ws.length) (hv : 0 ≤ rd H.ws p) (hf : (p : Int) + 1 + rd H.ws p / 256 ≤ H.ws.length) (hL : H.ws.length ≤ 100000) :
    Calls Try.prog 51 #[.pointer (some ⟨g, 0, none⟩), .int .i64 p] W fun e w' => e = .returned (.slice (some (cutAt b (p + 1) (rd H.ws p / 256).toNat)) (rd H.ws p / 256).toNat (rd H.ws p / 256).toNat) ∧ Drawn0 W w' := by
  have hc := (blk_cell h.head 0).trans (rfl : _ = some (Value.slice (some ⟨b, 0, none⟩) H.ws.length H.ws.length))
  have hw := word_cell h p (by omega) (by omega)
  rw [Int.toNat_natCast] at hw
  clear h
  generalize rd H.ws p = v at *
  generalize H.ws.length = L at *
  have hcut := cut3 b L (p + 1) (v / 256).toNat ((p : Int) + 1) ((p : Int) + 1 + v / 256) (by omega) (by omega) (by omega) W
  go_enter Try.func51, Try.ntmps51
  go_wp2
  go_ret
  exact ⟨rfl, by repeat (first | exact Drawn0.refl _ | apply Drawn0.step)⟩

set_option maxHeartbeats 800000 in
set_option maxRecDepth 100000 in
theorem clone_calls (ad : Addr) (c : Nat) (l : List Int) (W : World) (hr : ReadsInt W .i64 (some ad) l.length l) (hl : l.length ≤ 100000) :
    Calls Try.prog 50 #[.slice (some ad) l.length c] W fun e w' => ∃ v, e = .returned v ∧ w'.ownsRow W.heap.size 3 1 v l.length (nums .i64 l) ∧ Below W.heap.size W w' := by
  have hn := fun W => Lib.run_eql_slice_nil (P := Try.prog) W 36 3 (some ad) l.length c 0 0 Try.underlying36
  have HR := Aside0.mk hr
  clear hr
  go_enter Try.func50, Try.ntmps50
  have HO : Aside0 ((W.alloc (.cells #[] 3)).ownsRow W.heap.size 3 1 (.slice (some ⟨W.heap.size, 0, none⟩) ([] : List Int).length 0) ([] : List Int).length (nums .i64 [])) := ⟨own_lit W W.heap.size 3 .i64 [] (Nat.le_refl _) (by decide)⟩
  go_wp2_with ((with_reducible refine gate_builtin (b := .append) (xs := #[.tmp 5, .tmp 6]) rfl ?_); at_builtin; refine print_append_row (w0 := W) W.heap.size rfl (.tmp 5) (.tmp 6) 36 3 .i64 8 rfl Try.underlying36 info3 (by decide) _ [] l (some ad) l.length c rfl rfl HO.out (HR.out.allocS _) ((Below.refl _ _).alloc (Nat.le_refl _) _) ?aB ?aL ?_; (case aB => simp); (case aL => simp; omega); intro v1 w1 ho hb hg _; have HO1 := Aside0.mk ho; have HB1 := Aside0.mk hb; clear ho hb hg)
  go_ret
  exact ⟨v1, rfl, HO1.out, HB1.out⟩
end Go.Proofs.Ytkmoneccehbncaa.Heap
/- The heap of layer 2 in memory: Fields; slices.IndexFunc and ContainsFunc with a test that only reads; no condition but what each theorem states. -/
namespace Go.Proofs.Ytkmoneccehbncaa.Heap
open Go.RowKit Go.Proofs.YtkmoneccehbncaaW.PrintWords Go.Proofs.YtkmoneccehbncaaW.PrintLast Go.Proofs.YtkmoneccehbncaaW.PrintMore Go.Proofs.Ytkmoneccehbncaa.Print Go.Proofs.Ytkmoneccehbncaa.Ints
set_option linter.unusedVariables false
set_option linter.unusedSimpArgs false

/-- A heap whose blocks lie in its words. -/
structure PH.Wf (H : PH) : Prop where
  len : H.ws.length ≤ 100000
  top1 : 1 ≤ H.top
  top2 : H.top ≤ H.ws.length
  blk' : ∀ k ∈ H.ks, 1 ≤ k ∧ k < H.top ∧ 0 ≤ rd H.ws k ∧ k + 1 + rd H.ws k / 256 ≤ H.top
theorem PH.Wf.blk {H : PH} (h : H.Wf) : ∀ k ∈ H.ks, 1 ≤ k ∧ k < H.ws.length ∧ 0 ≤ rd H.ws k ∧ k + 1 + rd H.ws k / 256 ≤ H.ws.length := fun k hk => by
  obtain ⟨a, b, c, d⟩ := h.blk' k hk
  have := h.top2
  exact ⟨a, by omega, c, by omega⟩
theorem PH.place_mem {H : PH} {z : Int} (h : H.place z ≠ 0) : H.place z ∈ H.ks := by
  unfold PH.place at h ⊢
  split at h
  · exact absurd rfl h
  · rename_i h1
    split at h
    · rename_i h2
      split at h
      · rename_i h3
        rw [if_neg h1, if_pos h2, if_pos h3]
        exact h3
      · exact absurd rfl h
    · exact absurd rfl h
/-- The words behind place p, as many as stands there. -/
def PH.fields (H : PH) (p : Int) : List Int := if p = 0 then [] else (H.ws.drop (p.toNat + 1)).take (rd H.ws p / 256).toNat
theorem span_reads {W : World} {g b m : Nat} {H : PH} (h : At W g b m H) (p n : Nat) (hf : p + 1 + n ≤ H.ws.length) (hL : H.ws.length ≤ 100000) : ReadsInt W .i64 (some (cutAt b (p + 1) n)) n ((H.ws.drop (p + 1)).take n) := by
  refine ⟨by simp; omega, by omega, fun hn => ⟨_, rfl, fun j hj => ?_⟩⟩
  have e : (cutAt b (p + 1) n).add j = ⟨b, p + 1 + j, none⟩ := by
    unfold cutAt
    rw [if_neg (by omega)]
    unfold Addr.add
    split <;> simp_all
  have hw := word_cell h ((p + 1 + j : Nat) : Int) (by omega) (by omega)
  rw [Int.toNat_natCast] at hw
  have e2 : rd H.ws ((p + 1 + j : Nat) : Int) = H.ws.getD (p + 1 + j) 0 := by unfold rd; rw [Int.toNat_natCast]
  rw [e, hw, e2]
  simp [List.getD, List.getElem?_take, hj, List.getElem?_drop]

set_option maxHeartbeats 800000 in
set_option maxRecDepth 100000 in
theorem fields_calls (g b m : Nat) (H : PH) (z : Int) (W : World) (h : At W g b m H) (hw : H.Wf) :
    Calls Try.prog 20 #[.pointer (some ⟨g, 0, none⟩), .int .i64 z] W fun e w' => ∃ v, e = .returned v ∧ w'.ownsRow W.heap.size 3 1 v (H.fields (H.place z)).length (nums .i64 (H.fields (H.place z))) ∧ Below W.heap.size W w' := by
  have HP := Aside0.mk (fun w => place_calls g b m H z w)
  have hmem := fun h => hw.blk _ (PH.place_mem (H := H) (z := z) h)
  generalize H.place z = p at *
  by_cases h0 : p = 0
  · subst h0
    clear hmem
    go_enter Try.func20, Try.ntmps20
    go_wp2_with (go_at_call 49; (with_reducible refine (HP.out _ h).mono ?_); rintro e w' ⟨rfl, ⟨nd, rfl⟩⟩)
    go_ret
    exact ⟨_, rfl, own_nil _ _ _ _, pw_below_drewN (Below.refl _ _) _⟩
  · obtain ⟨h1, h2, h3, h4⟩ := hmem h0
    obtain ⟨q, rfl⟩ := Int.eq_ofNat_of_zero_le (show 0 ≤ p by omega)
    have hz : ((q : Int) == 0) = false := beq_eq_false_iff_ne.2 h0
    have hq : q < H.ws.length := by omega
    have HS := Aside0.mk (fun w h => span_calls g b m H q w h hq h3 h4 hw.len)
    have hn : (rd H.ws q / 256).toNat ≤ 100000 := by have := hw.len; omega
    have hfit : q + 1 + (rd H.ws q / 256).toNat ≤ H.ws.length := by omega
    have HR := Aside0.mk (fun W (h : At W g b m H) => span_reads (W := W) h q (rd H.ws q / 256).toNat hfit hw.len)
    have ef : H.fields (q : Int) = (H.ws.drop (q + 1)).take (rd H.ws q / 256).toNat := by
      unfold PH.fields; rw [if_neg h0, Int.toNat_natCast]
    have hlen : ((H.ws.drop (q + 1)).take (rd H.ws q / 256).toNat).length = (rd H.ws q / 256).toNat := by simp; omega
    have HC := Aside0.mk (fun ad W hr => clone_calls ad (rd H.ws q / 256).toNat ((H.ws.drop (q + 1)).take (rd H.ws q / 256).toNat) W hr (by omega))
    rw [ef]
    rw [hlen] at HC ⊢
    have HH := Aside0.mk h
    generalize hll : (H.ws.drop (q + 1)).take (rd H.ws q / 256).toNat = l at *
    generalize hnn : (rd H.ws q / 256).toNat = n at *
    clear h h0 h1 h2 h3 h4 hq hn hfit ef hw hlen hll hnn
    go_enter Try.func20, Try.ntmps20
    go_wp2_with (first | (go_at_call 49; (with_reducible refine (HP.out _ HH.out).mono ?_); rintro e w' ⟨rfl, ⟨nd, rfl⟩⟩) | (go_at_call 51; (with_reducible refine (HS.out _ (HH.out.drewN _)).mono ?_); rintro e w' ⟨rfl, ⟨nd2, rfl⟩⟩) | (go_at_call 50; (with_reducible refine (HC.out _ _ (HR.out _ (HH.out.drewN _))).mono ?_); rintro e w' ⟨v, rfl, ho, hb⟩; have HO := Aside0.mk ho; have HB := Aside0.mk hb; clear ho hb))
    go_ret
    exact ⟨v, rfl, HO.out, ⟨HB.out.os, HB.out.tape, HB.out.output, HB.out.size, HB.out.block⟩⟩

set_option maxHeartbeats 800000 in
set_option maxRecDepth 100000 in
theorem make1_calls (g b m : Nat) (H : PH) (z : Int) (c : Nat) (W : World) (h : At W g b m H) (hc : W.cell? ⟨c, 0, none⟩ = some (.pointer (some ⟨g, 0, none⟩))) :
    Calls Try.prog 71 #[.int .i64 z, .pointer (some ⟨c, 0, none⟩)] W fun e w' => e = .returned (.bool (!H.may z)) ∧ Drawn0 W w' := by
  go_enter Try.func71, Try.ntmps71
  go_wp2_with (go_at_call 62; (with_reducible refine (may_calls g b m H z _ h).mono ?_); rintro e w' ⟨rfl, ⟨nd, rfl⟩⟩)
  go_ret
  exact ⟨rfl, by repeat (first | exact Drawn0.refl _ | apply Drawn0.step)⟩
end Go.Proofs.Ytkmoneccehbncaa.Heap
/- slices.IndexFunc and slices.ContainsFunc with a test that only reads; no condition but what each theorem states. -/
namespace Go.Proofs.Ytkmoneccehbncaa.Heap
open Go.RowKit Go.Proofs.YtkmoneccehbncaaW.PrintWords Go.Proofs.YtkmoneccehbncaaW.PrintLast Go.Proofs.YtkmoneccehbncaaW.PrintMore Go.Proofs.Ytkmoneccehbncaa.Print Go.Proofs.Ytkmoneccehbncaa.Ints
set_option linter.unusedVariables false
set_option linter.unusedSimpArgs false

/-- The first place from i on at which the test says yes; -1: none. -/
def idxFrom (q : Int → Bool) (i : Int) : List Int → Int
  | [] => -1
  | x :: r => if q x then i else idxFrom q (i + 1) r

theorem idx_any (q : Int → Bool) : ∀ (l : List Int) (i : Int), 0 ≤ i → decide (0 ≤ idxFrom q i l) = l.any q
  | [], _, _ => by simp [idxFrom]
  | x :: r, i, h => by
    rw [List.any_cons]
    by_cases hx : q x = true
    · have e : idxFrom q i (x :: r) = i := by simp only [idxFrom]; rw [if_pos hx]
      rw [e, hx, decide_eq_true h]; rfl
    · have e : idxFrom q i (x :: r) = idxFrom q (i + 1) r := by simp only [idxFrom]; rw [if_neg hx]
      rw [e, Bool.eq_false_iff.mpr hx, idx_any q r (i + 1) (by omega)]; rfl

set_option maxHeartbeats 800000 in
set_option maxRecDepth 100000 in
theorem indexFunc71_calls (cap : Value) (q : Int → Bool) (A : Option Addr) (c : Nat) (l : List Int) (W : World) (hr : ReadsInt W .i64 A l.length l) (hl : l.length ≤ 100000)
    (hf : ∀ n z, Calls Try.prog 71 #[.int .i64 z, cap] (W.drewN n) fun e w' => e = .returned (.bool (q z)) ∧ Drawn0 (W.drewN n) w') :
    Calls Try.prog 75 #[.slice A l.length c, .func (.func 71) #[] #[cap]] W fun e w' => e = .returned (.int .i64 (idxFrom q 0 l)) ∧ Drawn0 W w' := by
  have HF := Aside0.mk hf
  have HR := Aside0.mk hr
  clear hf hr
  go_enter Try.func75, Try.ntmps75
  go_wp2
  go_loopg [8] l.length (fun kq v8 w' => ∃ i : Nat, v8 = .int .i64 (i : Int) ∧ Aside0 (i + kq = l.length) ∧ Aside0 (idxFrom q i (l.drop i) = idxFrom q 0 l) ∧ Drawn0 W w')
  case atStart => exact ⟨0, rfl, ⟨by omega⟩, ⟨rfl⟩, Drawn0.refl _⟩
  case round =>
    obtain ⟨i, rfl, HI, HQ, ⟨m1, rfl⟩⟩ := hrel
    have hi := HI.out
    cases gk with
    | zero =>
      have h2 : l.length ≤ i := by omega
      have e : l.drop i = [] := List.drop_eq_nil_iff.2 (by omega)
      have hq := HQ.out
      rw [e] at hq
      have HQ2 := Aside0.mk hq
      clear hi hq e
      go_wp2
      go_ret
      exact ⟨by rw [← HQ2.out]; rfl, by repeat (first | exact Drawn0.refl _ | apply Drawn0.step)⟩
    | succ k =>
      have hlt : i < l.length := by omega
      obtain ⟨ad, hA, hc⟩ := HR.out.at_ (i : Int) (by omega) (by omega)
      subst hA
      have hc1 : (W.drewN m1).cell? (ad.add i) = some (.int .i64 (l.getD i 0)) := by
        have := hc
        rw [Int.toNat_natCast] at this
        unfold rd at this
        rw [Int.toNat_natCast] at this
        exact this
      have hdrop : l.drop i = l.getD i 0 :: l.drop (i + 1) := by
        rw [List.drop_eq_getElem_cons hlt]; simp [List.getD, List.getElem?_eq_getElem hlt]
      have hq := HQ.out
      rw [hdrop] at hq
      simp only [idxFrom] at hq
      clear hc hdrop HQ
      generalize l.getD i 0 = z at *
      have HC := Aside0.mk (HF.out m1 z)
      clear hi
      by_cases hz : q z = true
      · rw [if_pos hz] at hq
        have hq2 : idxFrom q 0 l = (i : Int) := hq.symm
        have HQ2 := Aside0.mk hq2
        rw [hz] at HC
        clear hq hq2 hz
        go_wp2_with (go_at_call 71; (with_reducible refine HC.out.mono ?_); rintro e w' ⟨rfl, ⟨nd, rfl⟩⟩)
        go_ret
        exact ⟨by rw [HQ2.out]; rfl, by repeat (first | exact Drawn0.refl _ | apply Drawn0.step)⟩
      · rw [if_neg hz] at hq
        have HQ2 := Aside0.mk hq
        have hz' : q z = false := Bool.eq_false_iff.mpr hz
        rw [hz'] at HC
        clear hq hz hz'
        go_wp2_with (go_at_call 71; (with_reducible refine HC.out.mono ?_); rintro e w' ⟨rfl, ⟨nd, rfl⟩⟩)
        go_roundg k
        case measure => omega
        case rel => exact ⟨i + 1, by go_num, ⟨by have := HI.out; omega⟩, ⟨HQ2.out⟩, by repeat (first | exact Drawn0.refl _ | apply Drawn0.step)⟩

set_option maxHeartbeats 800000 in
set_option maxRecDepth 100000 in
theorem containsFunc71_calls (cap : Value) (q : Int → Bool) (A : Option Addr) (c : Nat) (l : List Int) (W : World) (hr : ReadsInt W .i64 A l.length l) (hl : l.length ≤ 100000)
    (hf : ∀ n z, Calls Try.prog 71 #[.int .i64 z, cap] (W.drewN n) fun e w' => e = .returned (.bool (q z)) ∧ Drawn0 (W.drewN n) w') :
    Calls Try.prog 60 #[.slice A l.length c, .func (.func 71) #[] #[cap]] W fun e w' => e = .returned (.bool (l.any q)) ∧ Drawn0 W w' := by
  have HX := Aside0.mk (indexFunc71_calls cap q A c l W hr hl hf)
  clear hf hr
  rw [← idx_any q l 0 (Int.le_refl _)]
  go_enter Try.func60, Try.ntmps60
  go_wp2_with (go_at_call 75; (with_reducible refine HX.out.mono ?_); rintro e w' ⟨rfl, ⟨nd, rfl⟩⟩)
  go_ret
  exact ⟨rfl, by repeat (first | exact Drawn0.refl _ | apply Drawn0.step)⟩

set_option maxHeartbeats 800000 in
set_option maxRecDepth 100000 in
theorem indexFunc61_calls (cap : Value) (q : Int → Bool) (A : Option Addr) (c : Nat) (l : List Int) (W : World) (hr : ReadsInt W .i64 A l.length l) (hl : l.length ≤ 100000)
    (hf : ∀ n z, Calls Try.prog 61 #[.int .i64 z, cap] (W.drewN n) fun e w' => e = .returned (.bool (q z)) ∧ Drawn0 (W.drewN n) w') :
    Calls Try.prog 75 #[.slice A l.length c, .func (.func 61) #[] #[cap]] W fun e w' => e = .returned (.int .i64 (idxFrom q 0 l)) ∧ Drawn0 W w' := by
  have HF := Aside0.mk hf
  have HR := Aside0.mk hr
  clear hf hr
  go_enter Try.func75, Try.ntmps75
  go_wp2
  go_loopg [8] l.length (fun kq v8 w' => ∃ i : Nat, v8 = .int .i64 (i : Int) ∧ Aside0 (i + kq = l.length) ∧ Aside0 (idxFrom q i (l.drop i) = idxFrom q 0 l) ∧ Drawn0 W w')
  case atStart => exact ⟨0, rfl, ⟨by omega⟩, ⟨rfl⟩, Drawn0.refl _⟩
  case round =>
    obtain ⟨i, rfl, HI, HQ, ⟨m1, rfl⟩⟩ := hrel
    have hi := HI.out
    cases gk with
    | zero =>
      have h2 : l.length ≤ i := by omega
      have e : l.drop i = [] := List.drop_eq_nil_iff.2 (by omega)
      have hq := HQ.out
      rw [e] at hq
      have HQ2 := Aside0.mk hq
      clear hi hq e
      go_wp2
      go_ret
      exact ⟨by rw [← HQ2.out]; rfl, by repeat (first | exact Drawn0.refl _ | apply Drawn0.step)⟩
    | succ k =>
      have hlt : i < l.length := by omega
      obtain ⟨ad, hA, hc⟩ := HR.out.at_ (i : Int) (by omega) (by omega)
      subst hA
      have hc1 : (W.drewN m1).cell? (ad.add i) = some (.int .i64 (l.getD i 0)) := by
        have := hc
        rw [Int.toNat_natCast] at this
        unfold rd at this
        rw [Int.toNat_natCast] at this
        exact this
      have hdrop : l.drop i = l.getD i 0 :: l.drop (i + 1) := by
        rw [List.drop_eq_getElem_cons hlt]; simp [List.getD, List.getElem?_eq_getElem hlt]
      have hq := HQ.out
      rw [hdrop] at hq
      simp only [idxFrom] at hq
      clear hc hdrop HQ
      generalize l.getD i 0 = z at *
      have HC := Aside0.mk (HF.out m1 z)
      clear hi
      by_cases hz : q z = true
      · rw [if_pos hz] at hq
        have hq2 : idxFrom q 0 l = (i : Int) := hq.symm
        have HQ2 := Aside0.mk hq2
        rw [hz] at HC
        clear hq hq2 hz
        go_wp2_with (go_at_call 61; (with_reducible refine HC.out.mono ?_); rintro e w' ⟨rfl, ⟨nd, rfl⟩⟩)
        go_ret
        exact ⟨by rw [HQ2.out]; rfl, by repeat (first | exact Drawn0.refl _ | apply Drawn0.step)⟩
      · rw [if_neg hz] at hq
        have HQ2 := Aside0.mk hq
        have hz' : q z = false := Bool.eq_false_iff.mpr hz
        rw [hz'] at HC
        clear hq hz hz'
        go_wp2_with (go_at_call 61; (with_reducible refine HC.out.mono ?_); rintro e w' ⟨rfl, ⟨nd, rfl⟩⟩)
        go_roundg k
        case measure => omega
        case rel => exact ⟨i + 1, by go_num, ⟨by have := HI.out; omega⟩, ⟨HQ2.out⟩, by repeat (first | exact Drawn0.refl _ | apply Drawn0.step)⟩

set_option maxHeartbeats 800000 in
set_option maxRecDepth 100000 in
theorem containsFunc61_calls (cap : Value) (q : Int → Bool) (A : Option Addr) (c : Nat) (l : List Int) (W : World) (hr : ReadsInt W .i64 A l.length l) (hl : l.length ≤ 100000)
    (hf : ∀ n z, Calls Try.prog 61 #[.int .i64 z, cap] (W.drewN n) fun e w' => e = .returned (.bool (q z)) ∧ Drawn0 (W.drewN n) w') :
    Calls Try.prog 60 #[.slice A l.length c, .func (.func 61) #[] #[cap]] W fun e w' => e = .returned (.bool (l.any q)) ∧ Drawn0 W w' := by
  have HX := Aside0.mk (indexFunc61_calls cap q A c l W hr hl hf)
  clear hf hr
  rw [← idx_any q l 0 (Int.le_refl _)]
  go_enter Try.func60, Try.ntmps60
  go_wp2_with (go_at_call 75; (with_reducible refine HX.out.mono ?_); rintro e w' ⟨rfl, ⟨nd, rfl⟩⟩)
  go_ret
  exact ⟨rfl, by repeat (first | exact Drawn0.refl _ | apply Drawn0.step)⟩

end Go.Proofs.Ytkmoneccehbncaa.Heap
/- The heap of layer 2 in memory: a block is laid; no condition but what each theorem states. -/
namespace Go.Proofs.Ytkmoneccehbncaa.Heap
open Go.RowKit Go.Proofs.YtkmoneccehbncaaW.PrintWords Go.Proofs.YtkmoneccehbncaaW.PrintLast Go.Proofs.YtkmoneccehbncaaW.PrintMore Go.Proofs.Ytkmoneccehbncaa.Print Go.Proofs.Ytkmoneccehbncaa.Ints
set_option linter.unusedVariables false
set_option linter.unusedSimpArgs false

/-- Nothing that was there has changed but the blocks of S. -/
structure Chg (S : Nat → Prop) (W W' : World) : Prop where
  os : W'.os = W.os
  tape : W'.tape = W.tape
  output : W'.output = W.output
  size : W.heap.size ≤ W'.heap.size
  block : ∀ k, k < W.heap.size → ¬ S k → W'.heap[k]? = W.heap[k]?
theorem Chg.refl (S : Nat → Prop) (W : World) : Chg S W W := ⟨rfl, rfl, rfl, Nat.le_refl _, fun _ _ _ => rfl⟩
theorem Chg.trans {S : Nat → Prop} {W W1 W2 : World} (h : Chg S W W1) (k : Chg S W1 W2) : Chg S W W2 :=
  ⟨k.os.trans h.os, k.tape.trans h.tape, k.output.trans h.output, Nat.le_trans h.size k.size, fun i hi hs => (k.block i (Nat.lt_of_lt_of_le hi h.size) hs).trans (h.block i hi hs)⟩
theorem Chg.mono {S T : Nat → Prop} {W W1 : World} (h : Chg S W W1) (hs : ∀ k, S k → T k) : Chg T W W1 := ⟨h.os, h.tape, h.output, h.size, fun k hk ht => h.block k hk (fun s => ht (hs k s))⟩
theorem Chg.of_below {W W1 : World} (S : Nat → Prop) (h : Below W.heap.size W W1) : Chg S W W1 := ⟨h.os, h.tape, h.output, h.size, fun k hk _ => h.block k hk⟩
theorem Chg.below {S : Nat → Prop} {B : Nat} {W0 W W1 : World} (h : Chg S W W1) (hb : Below B W0 W) (hB : B ≤ W.heap.size) (hs : ∀ k, S k → B ≤ k) : Below B W0 W1 :=
  ⟨h.os.trans hb.os, h.tape.trans hb.tape, h.output.trans hb.output, Nat.le_trans hb.size h.size, fun k hk => (h.block k (by omega) (fun s => by have := hs k s; omega)).trans (hb.block k hk)⟩
theorem Chg.set {S : Nat → Prop} {W W1 : World} (h : Chg S W W1) {p : Addr} (hp : S p.block) (u : Value) : Chg S W (W1.setCell p u) :=
  ⟨h.os, h.tape, h.output, by simpa [World.setCell] using h.size, fun k hk hs => (Below.heap_setCell W1 p u k (fun e => hs (e ▸ hp))).trans (h.block k hk hs)⟩

/-- The words with a block at place t. -/
def laid (ws : List Int) (t : Nat) (hdr : Int) (l : List Int) : List Int := ws.take t ++ hdr :: l ++ ws.drop (t + 1 + l.length)
/-- The place of xs[lo:], xs of n words from the begin of block b on. -/
def cutTo (b lo n : Nat) : Addr := ⟨b, if n = lo then 0 else lo, none⟩
theorem laid_length (ws : List Int) (t : Nat) (hdr : Int) (l : List Int) (h : t + 1 + l.length ≤ ws.length) : (laid ws t hdr l).length = ws.length := by
  unfold laid; simp; omega

theorem laid_eq (ws : List Int) (t : Nat) (hdr : Int) (l : List Int) (h : t < ws.length) : (ws.set t hdr).take (t + 1) ++ l ++ (ws.set t hdr).drop (t + 1 + l.length) = laid ws t hdr l := by
  have e1 : (ws.set t hdr).take (t + 1) = ws.take t ++ [hdr] := by
    rw [List.take_succ_eq_append_getElem (by simpa using h), List.take_set_of_le (Nat.le_refl t)]
    simp
  have e2 : (ws.set t hdr).drop (t + 1 + l.length) = ws.drop (t + 1 + l.length) := by
    rw [List.drop_set_of_lt (by omega)]
  rw [e1, e2]
  unfold laid
  simp

/-- copy(ws[t+1:], l), ws whole in block b, l elsewhere. -/
theorem copy_at (b t : Nat) (ws l : List Int) (A : Option Addr) (c : Nat) (W : World) (hb : W.heap[b]? = some (.cells (nums .i64 ws).toArray 3 (0, 0))) (hr : ReadsInt W .i64 A l.length l) (hf : t + 1 + l.length ≤ ws.length) :
    ∃ W', (Builtin.copy_ #[36, 36] 3 #[.slice (some (cutTo b (t + 1) ws.length)) (ws.length - (t + 1)) (ws.length - (t + 1)), .slice A l.length c]).run Try.prog W = .ok (goInt l.length) W' ∧
      W'.heap[b]? = some (.cells (nums .i64 (ws.take (t + 1) ++ l ++ ws.drop (t + 1 + l.length))).toArray 3 (0, 0)) ∧ Chg (· = b) W W' := by
  have hs3 : (Try.prog.info? 3).map (·.size) = some 1 := by kernel_rfl
  by_cases h0 : l.length = 0
  · obtain rfl : l = [] := List.eq_nil_of_length_eq_zero h0
    refine ⟨W, run_copy_none (P := Try.prog) W 36 36 3 3 _ _ _ _ _ _ Try.underlying36 hs3 (by simp), ?_, Chg.refl _ _⟩
    simpa using hb
  · obtain ⟨ad, rfl, hc⟩ := hr.2.2 (by omega)
    have hcut : cutTo b (t + 1) ws.length = ⟨b, t + 1, none⟩ := by unfold cutTo; rw [if_neg (by omega)]
    have hsrc : ∀ j v, (nums .i64 l)[j]? = some v → W.cell? (ad.add j) = some v := by
      intro j v hv
      have hj : j < l.length := by
        rcases Nat.lt_or_ge j l.length with h | h
        · exact h
        · simp [nums, List.getElem?_eq_none h] at hv
      rw [hc j hj]
      simp [nums, List.getElem?_eq_getElem hj] at hv
      simp [List.getD, List.getElem?_eq_getElem hj, hv]
    have hrun := run_copy_row (P := Try.prog) W 36 36 3 3 b (t + 1) (ws.length - (t + 1)) (ws.length - (t + 1)) ad l.length c (nums .i64 ws).toArray 3 (nums .i64 l) Try.underlying36 hs3 hb
      (by simp only [nums, List.length_map]; exact (Nat.min_eq_left (by omega)).symm) hsrc (by simp [nums]; omega) (by intro v hv; simp [nums] at hv; obtain ⟨x, _, rfl⟩ := hv; rfl)
    have e : ((nums .i64 ws).toArray.toList.take (t + 1) ++ nums .i64 l ++ (nums .i64 ws).toArray.toList.drop (t + 1 + (nums .i64 l).length)).toArray = (nums .i64 (ws.take (t + 1) ++ l ++ ws.drop (t + 1 + l.length))).toArray := by
      simp [nums, List.map_take, List.map_drop]
    rw [e] at hrun
    rw [hcut]
    refine ⟨_, by rw [hrun]; simp [nums], setRow_heap W b _ _ 3 _ hb, ⟨rfl, rfl, rfl, by simp [World.setRow], fun k hk hs => setRow_other W b k _ hs⟩⟩

theorem cut_to (b L lo : Nat) (l : Int) (hl : l = lo) (hL : lo ≤ L) (w : World) :
    (Instr.slice 36 (.slice (some ⟨b, 0, none⟩) L L) (some (.int .i64 l)) none none).run Try.prog w = .ok (.slice (some (cutTo b lo L)) (L - lo) (L - lo)) w := by
  have hu : Try.prog.underlying 36 = some (.slice (Try.prog.elem 36)) := by rw [show Try.prog.elem 36 = 3 by kernel_rfl]; exact Try.underlying36
  rw [run_slice_l w 36 (some ⟨b, 0, none⟩) L L hu .i64 l (by omega) (by omega)]
  have hs : (sizeOf (Try.prog.elem 36)).run Try.prog w = .ok 1 w := by kernel_rfl
  rw [hs]
  have e1 : l.toNat = lo := by omega
  simp only [Result.andThen, sliced, e1, Nat.mul_one]
  unfold cutTo
  by_cases h0 : L = lo
  · subst h0
    simp
  · simp only [if_neg h0]
    have e3 : (⟨b, 0, none⟩ : Addr).add lo = ⟨b, lo, none⟩ := by unfold Addr.add; split <;> simp_all
    simp [e3]

/-- A new key in a map of a heap's places. -/
theorem put_at (m cl : Nat) (es : Array MapEntry) (ks : List Int) (W : World) (hb : W.heap[m]? = some (.map es cl)) (hk : Keys (fun _ => .bool true) es ks) (z : Int) (hz : z ∉ ks) :
    ∃ W', (Instr.mapUpdate 69 (.map (some m)) (.int .i64 z) (.bool true)).run Try.prog W = .ok () W' ∧ (∃ es cl, W'.heap[m]? = some (.map es cl) ∧ Keys (fun _ => .bool true) es (ks ++ [z])) ∧ Chg (· = m) W W' := by
  have hlt : m < W.heap.size := (Array.getElem?_eq_some_iff.1 hb).1
  have hx : (W.heap.setIfInBounds m (.map (es.push { key := .int .i64 z, val := .bool true, born := cl }) (cl + 1)))[m]? = some (.map (es.push { key := .int .i64 z, val := .bool true, born := cl }) (cl + 1)) := by
    rw [Array.getElem?_setIfInBounds_self_of_lt hlt]
  have hy : Keys (fun _ => .bool true) (es.push { key := .int .i64 z, val := .bool true, born := cl }) (ks ++ [z]) := by
    unfold Keys at *
    simp [hk]
  exact ⟨_, run_put (P := Try.prog) 69 3 4 Try.underlying69 Try.underlying3 hb hk z hz (.bool true), ⟨_, _, hx, hy⟩, ⟨rfl, rfl, rfl, by simp, fun k hk hs => by
    have hs' : m ≠ k := fun e => hs e.symm
    simp [Array.getElem?_setIfInBounds, hs']⟩⟩

set_option maxHeartbeats 1600000 in
set_option maxRecDepth 100000 in
theorem lay_calls (g b m t : Nat) (H : PH) (tag : Int) (A : Option Addr) (c : Nat) (l : List Int) (W : World) (h : At W g b m H) (ht : H.top = (t : Int)) (hf : t + 1 + l.length ≤ H.ws.length) (hL : H.ws.length ≤ 100000)
    (hk : (t : Int) ∉ H.ks) (h0 : 0 ≤ tag) (h1 : tag ≤ 255) (hr : ReadsInt W .i64 A l.length l) (hA : ∀ ad, A = some ad → 0 < l.length → ad.block ≠ b) :
    Calls Try.prog 65 #[.pointer (some ⟨g, 0, none⟩), .int .i64 tag, .slice A l.length c] W fun e w' => e = .returned (.int .i64 t) ∧
      At w' g b m ⟨laid H.ws t (l.length * 256 + tag) l, (t + 1 + l.length : Nat), H.ks ++ [(t : Int)]⟩ ∧ Chg (fun k => k = g ∨ k = b ∨ k = m) W w' := by
  obtain ⟨es, cl, hm, hK⟩ := h.places
  have hgb : g ≠ b := blk_ne h.head h.words (by decide)
  have hgm : g ≠ m := by rintro rfl; rw [h.head] at hm; cases hm
  have hbm : b ≠ m := by rintro rfl; rw [h.words] at hm; cases hm
  -- the head
  have hc0 := (blk_cell h.head 0).trans (rfl : _ = some (Value.slice (some ⟨b, 0, none⟩) H.ws.length H.ws.length))
  have hc1 : W.cell? ⟨g, 1, none⟩ = some (.int .i64 (t : Int)) := by rw [blk_cell h.head 1]; simp [ht]
  have hcb := word_cell h (t : Int) (by omega) (by omega)
  rw [Int.toNat_natCast] at hcb
  have hfb := blk_frozen h.words t
  -- the first world: the block's head word
  obtain ⟨W1, hW1⟩ : ∃ W1, W1 = W.setCell ⟨b, t, none⟩ (.int .i64 (l.length * 256 + tag)) := ⟨_, rfl⟩
  have hb1 : W1.heap[b]? = some (.cells (nums .i64 (H.ws.set t (l.length * 256 + tag))).toArray 3 (0, 0)) := by
    rw [hW1, blk_set h.words t]
    simp [nums, List.map_set]
  have hg1 : W1.heap[g]? = some (.cells #[.slice (some ⟨b, 0, none⟩) H.ws.length H.ws.length, .int .i64 H.top, .map (some m)] 71 (0, 0)) := by
    rw [hW1, Below.heap_setCell _ _ _ g hgb]; exact h.head
  have hm1 : W1.heap[m]? = some (.map es cl) := by rw [hW1, Below.heap_setCell _ _ _ m (fun e => hbm e.symm)]; exact hm
  have hr1 : ReadsInt W1 .i64 A l.length l := by
    refine ⟨hr.1, hr.2.1, fun hn => ?_⟩
    obtain ⟨ad, e, hc⟩ := hr.2.2 hn
    refine ⟨ad, e, fun j hj => ?_⟩
    have hne := hA ad e hn
    have : (ad.add j).block ≠ (⟨b, t, none⟩ : Addr).block := by rw [add_block]; exact hne
    rw [hW1, cell_far this]
    exact hc j hj
  obtain ⟨W2, hrun2, hb2, hch2⟩ := copy_at b t (H.ws.set t (l.length * 256 + tag)) l A c W1 hb1 hr1 (by rw [List.length_set]; exact hf)
  rw [List.length_set] at hrun2
  have hg2 : W2.heap[g]? = _ := (hch2.block g (blk_lt hg1) hgb).trans hg1
  have hm2 : W2.heap[m]? = _ := (hch2.block m (blk_lt hm1) (fun e => hbm e.symm)).trans hm1
  obtain ⟨W3, hrun3, hm3, hch3⟩ := put_at m cl es H.ks W2 hm2 hK (t : Int) hk
  have hg3 : W3.heap[g]? = _ := (hch3.block g (blk_lt hg2) hgm).trans hg2
  have hb3 : W3.heap[b]? = _ := (hch3.block b (blk_lt hb2) hbm).trans hb2
  have hd1 := (blk_cell hg1 0).trans (rfl : _ = some (Value.slice (some ⟨b, 0, none⟩) H.ws.length H.ws.length))
  have hd2 := (blk_cell hg2 2).trans (rfl : _ = some (Value.map (some m)))
  have hd3 : W3.cell? ⟨g, 1, none⟩ = some (.int .i64 (t : Int)) := by rw [blk_cell hg3 1]; simp [ht]
  have hf3 := blk_frozen hg3 1
  have hcut := cut_to b H.ws.length (t + 1) ((t : Int) + 1) (by omega) (by omega) W1
  subst hW1

  have ec2 : Chg (fun k => k = g ∨ k = b ∨ k = m) W W3 := ((Chg.set (Chg.refl _ W) (p := ⟨b, t, none⟩) (.inr (.inl rfl)) _).trans (hch2.mono (fun k hk => .inr (.inl hk)))).trans (hch3.mono (fun k hk => .inr (.inr hk)))
  have hhead : (W3.setCell ⟨g, 1, none⟩ (.int .i64 ((t : Int) + (1 + (l.length : Int))))).heap[g]? = some (.cells #[.slice (some ⟨b, 0, none⟩) (laid H.ws t (l.length * 256 + tag) l).length (laid H.ws t (l.length * 256 + tag) l).length, .int .i64 ((t + 1 + l.length : Nat) : Int), .map (some m)] 71 (0, 0)) := by
    rw [blk_set hg3 1, laid_length _ _ _ _ hf]
    have e : (t : Int) + (1 + (l.length : Int)) = ((t + 1 + l.length : Nat) : Int) := by omega
    rw [e]
    simp
  have hwords : (W3.setCell ⟨g, 1, none⟩ (.int .i64 ((t : Int) + (1 + (l.length : Int))))).heap[b]? = some (.cells (nums .i64 (laid H.ws t (l.length * 256 + tag) l)).toArray 3 (0, 0)) := by
    rw [Below.heap_setCell _ _ _ b (fun e => hgb e.symm), hb3, laid_eq _ _ _ _ (by omega)]
  have hplaces : ∃ es cl, (W3.setCell ⟨g, 1, none⟩ (.int .i64 ((t : Int) + (1 + (l.length : Int))))).heap[m]? = some (.map es cl) ∧ Keys (fun _ => .bool true) es (H.ks ++ [(t : Int)]) := by
    obtain ⟨es3, cl3, q1, q2⟩ := hm3
    exact ⟨es3, cl3, by rw [Below.heap_setCell _ _ _ m (fun e => hgm e.symm)]; exact q1, q2⟩
  have AT : Aside0 (At (W3.setCell ⟨g, 1, none⟩ (.int .i64 ((t : Int) + (1 + (l.length : Int))))) g b m ⟨laid H.ws t (l.length * 256 + tag) l, ((t + 1 + l.length : Nat) : Int), H.ks ++ [(t : Int)]⟩) := ⟨⟨hhead, hwords, hplaces⟩⟩
  have EC := Aside0.mk (ec2.set (p := ⟨g, 1, none⟩) (.inl rfl) (.int .i64 ((t : Int) + (1 + (l.length : Int)))))
  have hl1 : l.length ≤ 100000 := by omega
  have htL : t < H.ws.length := by omega
  clear hhead hwords hplaces ec2 hg3 hb3 hm3 hf h hm hK hgb hgm hbm hk hr hA hb1 hg1 hm1 hr1 hb2 hch2 hg2 hm2 hch3 ht
  go_enter Try.func65, Try.ntmps65
  go_wp2
  go_ret
  exact ⟨rfl, AT.out, EC.out⟩
end Go.Proofs.Ytkmoneccehbncaa.Heap
/- The heap of layer 2 in memory: a block is made, or refused; no condition but what each theorem states. -/
namespace Go.Proofs.Ytkmoneccehbncaa.Heap
open Go.RowKit Go.Proofs.YtkmoneccehbncaaW.PrintWords Go.Proofs.YtkmoneccehbncaaW.PrintLast Go.Proofs.YtkmoneccehbncaaW.PrintMore Go.Proofs.Ytkmoneccehbncaa.Print Go.Proofs.Ytkmoneccehbncaa.Ints
set_option linter.unusedVariables false
set_option linter.unusedSimpArgs false

/-- What is refused whatever room there is. -/
def PH.odd (H : PH) (tag : Int) (l : List Int) : Bool := decide (tag < 0) || decide (201 < tag) || decide (60 < l.length) || (decide (tag ≠ 201) && l.any (fun z => !H.may z))
/-- What making a block hands back, and the heap behind it. -/
def PH.make (H : PH) (tag : Int) (l : List Int) : Int × Int × PH :=
  if H.odd tag l = true then (0, 1, H)
  else if (H.ws.length : Int) - 1 < H.top - 1 + 1 + l.length then (0, 2, H)
  else (2 * H.top, 0, ⟨laid H.ws H.top.toNat (l.length * 256 + tag) l, H.top + 1 + l.length, H.ks ++ [H.top]⟩)

theorem at_drawn {W W1 : World} {g b m : Nat} {H : PH} (h : At W g b m H) (hd : Drawn0 W W1) : At W1 g b m H := by
  obtain ⟨n, rfl⟩ := hd.out
  exact h.drewN n
theorem reads_drawn {W W1 : World} {k : IntKind} {A : Option Addr} {n : Nat} {xs : List Int} (h : ReadsInt W k A n xs) (hd : Drawn0 W W1) : ReadsInt W1 k A n xs := by
  obtain ⟨n, rfl⟩ := hd.out
  exact h.drewN n
theorem below_drawn {B : Nat} {W0 W W1 : World} (h : Below B W0 W) (hd : Drawn0 W W1) : Below B W0 W1 := by
  obtain ⟨n, rfl⟩ := hd.out
  exact pw_below_drewN h n
theorem cell_drawn {W W1 : World} {a : Addr} {v : Value} (h : W.cell? a = some v) (hd : Drawn0 W W1) : W1.cell? a = some v := by
  obtain ⟨n, rfl⟩ := hd.out
  exact h
theorem quiet17 (g b m : Nat) (H : PH) (W : World) (n : Nat) (h : At W g b m H) (h0 : 0 ≤ H.top) (h1 : H.top ≤ 100000) :
    Calls Try.prog 17 #[.pointer (some ⟨g, 0, none⟩)] (W.drewN n) fun e w'' => e = .returned (.int .i64 (H.top - 1)) ∧ ∃ m, w'' = W.drewN m :=
  Calls.quiet_of ((used_calls g b m H (W.drewN n) (h.drewN n) h0 h1).mono (fun e w' h => ⟨h.1, h.2.out⟩))
theorem quiet63 (g b m : Nat) (H : PH) (W : World) (n : Nat) (h : At W g b m H) (h1 : H.ws.length ≤ 100000) :
    Calls Try.prog 63 #[.pointer (some ⟨g, 0, none⟩)] (W.drewN n) fun e w'' => e = .returned (.int .i64 ((H.ws.length : Int) - 1)) ∧ ∃ m, w'' = W.drewN m :=
  Calls.quiet_of ((half_calls g b m H (W.drewN n) (h.drewN n) h1).mono (fun e w' h => ⟨h.1, h.2.out⟩))

set_option maxHeartbeats 4000000 in
set_option maxRecDepth 100000 in
theorem make_calls (g b m : Nat) (H : PH) (tag : Int) (A : Option Addr) (c : Nat) (l : List Int) (W : World) (h : At W g b m H) (hw : H.Wf)
    (hr : ReadsInt W .i64 A l.length l) (hl : l.length ≤ 100000) (hA : ∀ ad, A = some ad → 0 < l.length → ad.block ≠ b) :
    Calls Try.prog 46 #[.pointer (some ⟨g, 0, none⟩), .int .i64 tag, .slice A l.length c] W fun e w' => e = .returned (.tuple #[.int .i64 (H.make tag l).1, .int .i64 (H.make tag l).2.1]) ∧
      At w' g b m (H.make tag l).2.2 ∧ Chg (fun k => k = g ∨ k = b ∨ k = m) W w' := by
  have ht1 := hw.top1
  have ht2 := hw.top2
  have hlen := hw.len
  obtain ⟨t, ht⟩ := Int.eq_ofNat_of_zero_le (show 0 ≤ H.top by omega)
  have htk : (t : Int) ∉ H.ks := fun hk => by have := hw.blk' _ hk; omega
  -- the box of h
  have hb1 : Below W.heap.size W (W.alloc (.cells #[.pointer (some ⟨g, 0, none⟩)] 31)) := (Below.refl _ _).alloc (Nat.le_refl _) _
  have h1 := h.below hb1
  have hcell : (W.alloc (.cells #[.pointer (some ⟨g, 0, none⟩)] 31)).cell? ⟨W.heap.size, 0, none⟩ = some (.pointer (some ⟨g, 0, none⟩)) := by
    rw [World.cell?_alloc_new]; rfl
  have HC := Aside0.mk (containsFunc71_calls (.pointer (some ⟨W.heap.size, 0, none⟩)) (fun z => !H.may z) A c l (W.alloc (.cells #[.pointer (some ⟨g, 0, none⟩)] 31)) (hr.allocS _) hl
    (fun n z => make1_calls g b m H z W.heap.size _ (h1.drewN n) hcell))
  have HQ1 := Aside0.mk (fun W n (h : At W g b m H) => quiet17 g b m H W n h (by omega) (by omega))
  have HQ2 := Aside0.mk (fun W n (h : At W g b m H) => quiet63 g b m H W n h hlen)
  have HL := Aside0.mk (fun W h hf h0 h1 hr hA => lay_calls g b m t H tag A c l W h ht hf hlen htk h0 h1 hr hA)
  have HP : Aside0 (ints_Point.f (t : Int) = some (2 * (t : Int))) := ⟨by rw [point_eq, if_pos ⟨by omega, by omega⟩]⟩
  have HH := Aside0.mk h1
  have HR := Aside0.mk (hr.allocS (.cells #[.pointer (some ⟨g, 0, none⟩)] 31))
  have HA := Aside0.mk hA
  have HB := Aside0.mk hb1
  have HX := Aside0.mk hcell
  clear h hw hr hA hb1 h1 hcell htk
  unfold PH.make
  by_cases e201 : tag = 201
  · subst e201
    have h0 : (0 : Int) ≤ 201 := by decide
    have h255 : (201 : Int) ≤ 255 := by decide
    by_cases c3 : 60 < l.length
    · have eo : H.odd 201 l = true := by simp [PH.odd, c3]
      have c3b : decide ((60 : Int) < (l.length : Int)) = true := by simp; omega
      rw [eo, if_pos rfl]
      clear eo
      go_enter Try.func46, Try.ntmps46
      go_wp2
      go_ret2
      exact ⟨rfl, HH.out, Chg.of_below _ HB.out⟩
    · have eo : H.odd 201 l = false := by simp [PH.odd]; omega
      have c3b : decide ((60 : Int) < (l.length : Int)) = false := by simp; omega
      rw [eo, if_neg (by decide)]
      clear eo
      by_cases c4 : (H.ws.length : Int) - 1 < H.top - 1 + 1 + (l.length : Int)
      · rw [if_pos c4]
        go_enter Try.func46, Try.ntmps46
        go_wp2
        go_quiet ((first | (go_at_call 17; exact HQ1.out _ _ HH.out) | (go_at_call 63; exact HQ2.out _ _ HH.out)))
        go_wp2
        go_ret2
        exact ⟨rfl, HH.out.drewN _, Chg.of_below _ (pw_below_drewN HB.out _)⟩
      · rw [if_neg c4]
        have hf : t + 1 + l.length ≤ H.ws.length := by omega
        have e1 : H.top.toNat = t := by omega
        have e2 : 2 * H.top = 2 * (t : Int) := by rw [ht]
        have e3 : H.top + 1 + (l.length : Int) = ((t + 1 + l.length : Nat) : Int) := by omega
        rw [e1, e2, e3, show H.ks ++ [H.top] = H.ks ++ [(t : Int)] by rw [ht]]
        have HF := Aside0.mk hf
        have HHT := Aside0.mk ht
        clear hf e1 e2 e3 ht
        go_enter Try.func46, Try.ntmps46
        go_wp2
        go_quiet ((first | (go_at_call 17; exact HQ1.out _ _ HH.out) | (go_at_call 63; exact HQ2.out _ _ HH.out)))
        go_wp2_with (first | (go_at_call 65; (with_reducible refine (HL.out _ (HH.out.drewN _) HF.out h0 h255 (HR.out.drewN _) HA.out).mono ?_); rintro e w3 ⟨rfl, ha3, hc3⟩; have HA3 := Aside0.mk ha3; have HC3 := Aside0.mk hc3; clear ha3 hc3) | (go_at_call 66; (with_reducible refine (ints_Point.calls (t : Int) (2 * (t : Int)) _ HP.out).mono ?_); rintro e w' ⟨rfl, ⟨nd2, rfl⟩⟩))
        go_ret2
        exact ⟨rfl, HA3.out.drewN _, ((Chg.of_below _ (pw_below_drewN HB.out _)).trans HC3.out).trans (Chg.of_below _ (pw_below_drewN (Below.refl _ _) _))⟩
  · have n1 : (tag != 201) = true := bne_iff_ne.2 e201
    have n2 : (tag == 201) = false := beq_eq_false_iff_ne.2 e201
    have eo' : H.odd tag l = (decide (tag < 0) || decide (201 < tag) || decide (60 < l.length) || l.any (fun z => !H.may z)) := by simp [PH.odd, e201]
    generalize l.any (fun z => !H.may z) = o at *
    by_cases c1 : tag < 0
    · have eo : H.odd tag l = true := by rw [eo']; simp [c1]
      clear eo' e201
      rw [eo, if_pos rfl]
      clear eo
      go_enter Try.func46, Try.ntmps46
      go_wp2_with (go_at_call 60; (with_reducible refine HC.out.mono ?_); rintro e w' ⟨rfl, ⟨nd, rfl⟩⟩)
      go_ret2
      exact ⟨rfl, HH.out.drewN _, Chg.of_below _ (pw_below_drewN HB.out _)⟩
    by_cases c2 : 201 < tag
    · have eo : H.odd tag l = true := by rw [eo']; simp [c2]
      clear eo' e201
      rw [eo, if_pos rfl]
      clear eo
      go_enter Try.func46, Try.ntmps46
      go_wp2_with (go_at_call 60; (with_reducible refine HC.out.mono ?_); rintro e w' ⟨rfl, ⟨nd, rfl⟩⟩)
      go_ret2
      exact ⟨rfl, HH.out.drewN _, Chg.of_below _ (pw_below_drewN HB.out _)⟩
    by_cases c3 : 60 < l.length
    · have eo : H.odd tag l = true := by rw [eo']; simp [c3]
      have c3b : decide ((60 : Int) < (l.length : Int)) = true := by simp; omega
      clear eo' e201
      rw [eo, if_pos rfl]
      clear eo
      go_enter Try.func46, Try.ntmps46
      go_wp2_with (go_at_call 60; (with_reducible refine HC.out.mono ?_); rintro e w' ⟨rfl, ⟨nd, rfl⟩⟩)
      go_ret2
      exact ⟨rfl, HH.out.drewN _, Chg.of_below _ (pw_below_drewN HB.out _)⟩
    have c3b : decide ((60 : Int) < (l.length : Int)) = false := by simp; omega
    cases o with
    | true =>
      have eo : H.odd tag l = true := by rw [eo']; simp
      clear eo' e201
      rw [eo, if_pos rfl]
      clear eo
      go_enter Try.func46, Try.ntmps46
      go_wp2_with (go_at_call 60; (with_reducible refine HC.out.mono ?_); rintro e w' ⟨rfl, ⟨nd, rfl⟩⟩)
      go_ret2
      exact ⟨rfl, HH.out.drewN _, Chg.of_below _ (pw_below_drewN HB.out _)⟩
    | false =>
      have eo : H.odd tag l = false := by rw [eo']; simp; omega
      have h0 : 0 ≤ tag := by omega
      have h255 : tag ≤ 255 := by omega
      clear eo' e201
      rw [eo, if_neg (by decide)]
      clear eo
      by_cases c4 : (H.ws.length : Int) - 1 < H.top - 1 + 1 + (l.length : Int)
      · rw [if_pos c4]
        go_enter Try.func46, Try.ntmps46
        go_wp2_with (go_at_call 60; (with_reducible refine HC.out.mono ?_); rintro e w1 ⟨rfl, hd⟩; have HN := Aside0.mk (at_drawn HH.out hd); have HR1 := Aside0.mk (reads_drawn HR.out hd); have HB1 := Aside0.mk (below_drawn HB.out hd); have hbx := cell_drawn HX.out hd; clear hd)
        go_quiet ((first | (go_at_call 17; exact HQ1.out _ _ HN.out) | (go_at_call 63; exact HQ2.out _ _ HN.out)))
        go_wp2
        go_ret2
        exact ⟨rfl, HN.out.drewN _, Chg.of_below _ (pw_below_drewN HB1.out _)⟩
      · rw [if_neg c4]
        have hf : t + 1 + l.length ≤ H.ws.length := by omega
        have e1 : H.top.toNat = t := by omega
        have e2 : 2 * H.top = 2 * (t : Int) := by rw [ht]
        have e3 : H.top + 1 + (l.length : Int) = ((t + 1 + l.length : Nat) : Int) := by omega
        rw [e1, e2, e3, show H.ks ++ [H.top] = H.ks ++ [(t : Int)] by rw [ht]]
        have HF := Aside0.mk hf
        have HHT := Aside0.mk ht
        clear hf e1 e2 e3 ht
        go_enter Try.func46, Try.ntmps46
        go_wp2_with (go_at_call 60; (with_reducible refine HC.out.mono ?_); rintro e w1 ⟨rfl, hd⟩; have HN := Aside0.mk (at_drawn HH.out hd); have HR1 := Aside0.mk (reads_drawn HR.out hd); have HB1 := Aside0.mk (below_drawn HB.out hd); have hbx := cell_drawn HX.out hd; clear hd)
        go_quiet ((first | (go_at_call 17; exact HQ1.out _ _ HN.out) | (go_at_call 63; exact HQ2.out _ _ HN.out)))
        go_wp2_with (first | (go_at_call 65; (with_reducible refine (HL.out _ (HN.out.drewN _) HF.out h0 h255 (HR1.out.drewN _) HA.out).mono ?_); rintro e w3 ⟨rfl, ha3, hc3⟩; have HA3 := Aside0.mk ha3; have HC3 := Aside0.mk hc3; clear ha3 hc3) | (go_at_call 66; (with_reducible refine (ints_Point.calls (t : Int) (2 * (t : Int)) _ HP.out).mono ?_); rintro e w' ⟨rfl, ⟨nd2, rfl⟩⟩))
        go_ret2
        exact ⟨rfl, HA3.out.drewN _, ((Chg.of_below _ (pw_below_drewN HB1.out _)).trans HC3.out).trans (Chg.of_below _ (pw_below_drewN (Below.refl _ _) _))⟩
end Go.Proofs.Ytkmoneccehbncaa.Heap
/- The heap of layer 2 in memory: a new heap; prims' Text; no condition but what each theorem states. -/
namespace Go.Proofs.Ytkmoneccehbncaa.Heap
open Go.RowKit Go.Proofs.YtkmoneccehbncaaW.PrintWords Go.Proofs.YtkmoneccehbncaaW.PrintLast Go.Proofs.YtkmoneccehbncaaW.PrintMore Go.Proofs.Ytkmoneccehbncaa.Print Go.Proofs.Ytkmoneccehbncaa.Ints
set_option linter.unusedVariables false
set_option linter.unusedSimpArgs false

/-- A heap without blocks. -/
def PH.new (n : Nat) : PH := ⟨List.replicate (n + 1) 0, 1, []⟩
theorem PH.new_wf (n : Nat) (h : n ≤ 65536) : (PH.new n).Wf := ⟨by simp [PH.new]; omega, by simp [PH.new], by simp [PH.new]; omega, by simp [PH.new]⟩
/-- A heap that is the call's own: all its blocks lie at B or behind. -/
def Mine (B : Nat) (W : World) (g b m : Nat) (H : PH) : Prop := At W g b m H ∧ H.Wf ∧ B ≤ g ∧ B ≤ b ∧ B ≤ m
theorem made_nums (n : Nat) : (madeCells #[Value.int .i64 0] n) = (nums .i64 (List.replicate n 0)).toArray := by
  apply Array.ext
  · simp [madeCells, nums]
  · intro i h1 h2
    simp [madeCells, nums, Nat.mod_one]

set_option maxHeartbeats 800000 in
set_option maxRecDepth 100000 in
theorem new_calls (n : Nat) (W : World) (h1 : 64 ≤ n) (h2 : n ≤ 65536) :
    Calls Try.prog 14 #[.int .i64 n] W fun e w' => ∃ g b m, e = .returned (.pointer (some ⟨g, 0, none⟩)) ∧ Mine W.heap.size w' g b m (PH.new n) ∧ Below W.heap.size W w' := by
  have hmk := print_make (P := Try.prog) 36 3 .i64 8 Try.underlying36 info3 (by decide) (n + 1) (by omega) W
  rw [made_nums] at hmk
  have em : ((n + 1 : Nat) : Int) = (n : Int) + 1 := by omega
  rw [em] at hmk
  have hmm := @run_makeMap Try.prog 69
  have hz : (PH.new n).ws = List.replicate (n + 1) (0 : Int) := rfl
  have hlen : (PH.new n).ws.length = n + 1 := by rw [hz]; simp
  rw [← hz] at hmk
  have AT : Aside0 (At (((W.alloc (.cells (nums .i64 (PH.new n).ws).toArray 3)).alloc (.map #[] 0)).alloc (.cells #[.slice (some ⟨W.heap.size, 0, none⟩) (n + 1) (n + 1), .int .i64 1, .map (some (W.heap.size + 1))] 71)) (W.heap.size + 1 + 1) W.heap.size (W.heap.size + 1) (PH.new n)) := by
    refine ⟨⟨?_, ?_, ?_⟩⟩
    · rw [hlen]
      have h := heap_alloc_new ((W.alloc (.cells (nums .i64 (PH.new n).ws).toArray 3)).alloc (.map #[] 0)) (.cells #[.slice (some ⟨W.heap.size, 0, none⟩) (n + 1) (n + 1), .int .i64 1, .map (some (W.heap.size + 1))] 71)
      simpa [PH.new] using h
    · rw [Below.heap_alloc _ _ _ (by simp; omega), Below.heap_alloc _ _ _ (by simp)]
      exact heap_alloc_new W _
    · refine ⟨#[], 0, ?_, rfl⟩
      rw [Below.heap_alloc _ _ _ (by simp)]
      have h := heap_alloc_new (W.alloc (.cells (nums .i64 (PH.new n).ws).toArray 3)) (.map #[] 0)
      simpa using h
  have hwf := PH.new_wf n h2
  clear em hz hlen
  generalize hzz : (PH.new n).ws = zs at *
  have HZ := Aside0.mk hzz
  clear hzz
  go_enter Try.func14, Try.ntmps14
  go_wp2
  go_ret
  exact ⟨_, _, _, rfl, ⟨AT.out, hwf, by omega, Nat.le_refl _, by omega⟩, below_alloc (below_alloc (below_alloc (Below.refl _ _) _) _) _⟩
end Go.Proofs.Ytkmoneccehbncaa.Heap
/- prims over the heap of layer 2 in memory: Text, Close, Open, Clip; no condition but what each theorem states. -/
namespace Go.Proofs.Ytkmoneccehbncaa.Heap
open Go.RowKit Go.Proofs.YtkmoneccehbncaaW.PrintWords Go.Proofs.YtkmoneccehbncaaW.PrintLast Go.Proofs.YtkmoneccehbncaaW.PrintMore Go.Proofs.Ytkmoneccehbncaa.Print Go.Proofs.Ytkmoneccehbncaa.Ints
set_option linter.unusedVariables false
set_option linter.unusedSimpArgs false

/-- What a row of the call's own is good for. -/
theorem own_facts {w : World} {B n : Nat} {v : Value} {l : List Int} (h : w.ownsRow B 3 1 v n (nums .i64 l)) : ∃ A c, v = .slice A l.length c ∧ n = l.length ∧ l.length ≤ c ∧ ReadsInt w .i64 A l.length l ∧ ∀ ad, A = some ad → B ≤ ad.block := by
  have hn : n = l.length := by have := h.1; simp [nums] at this; omega
  subst hn
  obtain ⟨A, c, rfl, hr⟩ := own_reads h
  exact ⟨A, c, rfl, rfl, own_cap h, hr, fun ad e => own_base h ad.block (by subst e; rfl)⟩
theorem R_facts {w : World} {B : Nat} {ok : Nat → Prop} {v : Value} {l : List Int} (h : (Kd.int .i64).R 3 w B ok v l) : ∃ A c, v = .slice A l.length c ∧ l.length ≤ c ∧ ReadsInt w .i64 A l.length l ∧ ∀ ad, A = some ad → B ≤ ad.block := by
  have ho := Kd.own_of_R h
  obtain ⟨A, c, e, _, hc, hr, hb⟩ := own_facts (l := l) ho
  exact ⟨A, c, e, hc, hr, hb⟩

/-- What Text hands back, and the heap behind it: l and e: what Pack told. -/
def PH.text (H : PH) (l : List Int) (e : Int) : Int × Int × PH := if e = 0 then H.make 201 l else (0, e, H)

set_option maxHeartbeats 1600000 in
set_option maxRecDepth 100000 in
theorem text_calls (g b m : Nat) (H : PH) (s : ByteArray) (k : Nat) (l : List Int) (e : Int) (W : World) (h : At W g b m H) (hw : H.Wf) (hl : l.length ≤ 100000) (hp : strs_Pack.f k s = some (l, e)) :
    Calls Try.prog 23 #[.pointer (some ⟨g, 0, none⟩), .string s] W fun e' w' => e' = .returned (.tuple #[.int .i64 (H.text l e).1, .int .i64 (H.text l e).2.1]) ∧
      At w' g b m (H.text l e).2.2 ∧ Chg (fun k => k = g ∨ k = b ∨ k = m) W w' := by
  have HP := Aside0.mk hp
  have HM := Aside0.mk (fun A c W h hr hA => make_calls g b m H 201 A c l W h hw hr hl hA)
  have hb := blk_lt h.words
  have HH := Aside0.mk h
  have HB := Aside0.mk hb
  clear hp h hb hw
  unfold PH.text
  by_cases h0 : e = 0
  · subst h0
    rw [if_pos rfl]
    go_enter Try.func23, Try.ntmps23
    go_wp2_with (first | (go_at_call 53; (with_reducible refine (strs_Pack.calls k s l 0 W HP.out).mono ?_); rintro e1 w1 ⟨v0, rfl, ho, hb⟩; obtain ⟨A, c, rfl, hc, hr, hA⟩ := R_facts ho; have HR := Aside0.mk hr; have HA := Aside0.mk hA; have HB1 := Aside0.mk hb; clear ho hb hc hr hA) | (go_at_call 46; (with_reducible refine (HM.out A c _ (HH.out.below HB1.out) HR.out (fun ad e _ => by have := HA.out ad e; have := HB.out; omega)).mono ?_); rintro e2 w2 ⟨rfl, ha, hc⟩; have HA2 := Aside0.mk ha; have HC2 := Aside0.mk hc; clear ha hc))
    go_ret2
    exact ⟨rfl, HA2.out, (Chg.of_below _ HB1.out).trans HC2.out⟩
  · rw [if_neg h0]
    have n1 : (e != 0) = true := bne_iff_ne.2 h0
    have n2 : (e == 0) = false := beq_eq_false_iff_ne.2 h0
    clear h0
    go_enter Try.func23, Try.ntmps23
    go_wp2_with (go_at_call 53; (with_reducible refine (strs_Pack.calls k s l e W HP.out).mono ?_); rintro e1 w1 ⟨v0, rfl, ho, hb⟩; have HB1 := Aside0.mk hb; clear ho hb)
    go_ret2
    exact ⟨rfl, HH.out.below HB1.out, Chg.of_below _ HB1.out⟩

set_option maxHeartbeats 800000 in
set_option maxRecDepth 100000 in
theorem clip_calls (A : Option Addr) (n c : Nat) (hn : n ≤ c) (W : World) (h1 : n ≤ 100000) :
    Calls Try.prog 59 #[.slice A n c] W fun e w' => e = .returned (.slice A n n) ∧ w' = W := by
  go_enter Try.func59, Try.ntmps59
  go_wp2
  go_ret
  exact ⟨rfl, rfl⟩

/-- A row of the call's own that is not empty. -/
theorem own_form {w : World} {B n : Nat} {v : Value} {l : List Int} (h : w.ownsRow B 3 1 v n (nums .i64 l)) (h0 : 0 < l.length) : ∃ g c, v = .slice (some ⟨g, 0, none⟩) l.length c ∧ n = l.length ∧ l.length ≤ c ∧ B ≤ g ∧ ReadsInt w .i64 (some ⟨g, 0, none⟩) l.length l := by
  obtain ⟨A, c, e, hn, hc, hr, hb⟩ := own_facts h
  subst hn
  rcases h.2 with ⟨_, h2⟩ | ⟨g, cap, cur, e2, _⟩
  · omega
  · rw [e] at e2
    injection e2 with e3 e4 e5
    subst e3
    exact ⟨g, c, e, rfl, hc, hb _ rfl, hr⟩

theorem head_cell {w : World} {q : Nat} {x : Int} {r : List Int} (h : ReadsInt w .i64 (some ⟨q, 0, none⟩) (x :: r).length (x :: r)) : w.cell? ⟨q, 0, none⟩ = some (.int .i64 x) := by
  obtain ⟨ad, e, hc⟩ := h.at_ 0 (Int.le_refl _) (by rw [List.length_cons]; omega)
  cases e
  exact hc
/-- A word's tag; -1: it is no block's. -/
def PH.tag (H : PH) (z : Int) : Int := if H.place z = 0 then -1 else (rd H.ws (H.place z)).tmod 256
/-- What Open tells of a closure's fields. -/
def openOf : List Int → Int × List Int × Int
  | [] => (0, [], 4)
  | x :: r => if x % 2 = 0 then (0, [], 4) else if x / 2 < 0 ∨ 2147483647 < x / 2 then (0, [], 4) else (x / 2, r, 0)
def PH.open_ (H : PH) (z : Int) : Int × List Int × Int := if H.tag z = 200 then openOf (H.fields (H.place z)) else (0, [], 4)
theorem PH.fields_len (H : PH) (p : Int) (h : H.ws.length ≤ 100000) : (H.fields p).length ≤ 100000 := by
  unfold PH.fields
  split
  · simp
  · simp; omega

/-- The place of xs[1:], xs from the begin of block q on, with room for c. -/
def cutB (q c : Nat) : Addr := ⟨q, if c = 1 then 0 else 1, none⟩
theorem cut1 (q n c : Nat) (w : World) :
    (Instr.slice 36 (.slice (some ⟨q, 0, none⟩) (n + 1) c) (some (.int .i64 1)) none none).run Try.prog w = .ok (.slice (some (cutB q c)) n (c - 1)) w := by
  have hu : Try.prog.underlying 36 = some (.slice (Try.prog.elem 36)) := by rw [show Try.prog.elem 36 = 3 by kernel_rfl]; exact Try.underlying36
  rw [run_slice_l w 36 (some ⟨q, 0, none⟩) (n + 1) c hu .i64 1 (by omega) (by omega)]
  have hs : (sizeOf (Try.prog.elem 36)).run Try.prog w = .ok 1 w := by kernel_rfl
  rw [hs]
  have e1 : (1 : Int).toNat = 1 := rfl
  simp only [Result.andThen, sliced, e1, Nat.mul_one]
  unfold cutB
  by_cases h0 : c = 1
  · subst h0
    simp
  · simp only [if_neg h0]
    rfl
theorem cut_reads {w : World} {q c : Nat} {x : Int} {r : List Int} (h : ReadsInt w .i64 (some ⟨q, 0, none⟩) (x :: r).length (x :: r)) (hc : (x :: r).length ≤ c) : ReadsInt w .i64 (some (cutB q c)) r.length r := by
  have h1 := h.drop_ 1 (by simp) hc
  have e1 : (x :: r).drop 1 = r := rfl
  have e2 : (x :: r).length - 1 = r.length := by simp
  rw [e1, e2] at h1
  have e3 : (if c = 1 then some (⟨q, 0, none⟩ : Addr) else (some (⟨q, 0, none⟩ : Addr)).map (·.add 1)) = some (cutB q c) := by
    unfold cutB
    by_cases h0 : c = 1
    · rw [if_pos h0, if_pos h0]
    · rw [if_neg h0, if_neg h0]; rfl
  rwa [e3] at h1

/-- What a call hands back besides numbers: a row that is read. -/
def Row (w : World) (B : Nat) (v : Value) (l : List Int) : Prop := ∃ A c, v = .slice A l.length c ∧ l.length ≤ c ∧ ReadsInt w .i64 A l.length l ∧ ∀ ad, A = some ad → B ≤ ad.block
theorem Row.nil (w : World) (B : Nat) : Row w B (.slice none 0 0) [] := ⟨none, 0, rfl, Nat.le_refl _, ReadsInt.nil w .i64, fun _ h => by cases h⟩

set_option maxHeartbeats 4000000 in
set_option maxRecDepth 100000 in
theorem open_calls (g b m : Nat) (H : PH) (z : Int) (W : World) (h : At W g b m H) (hw : H.Wf) :
    Calls Try.prog 28 #[.pointer (some ⟨g, 0, none⟩), .int .i64 z] W fun e w' => ∃ v, e = .returned (.tuple #[.int .i64 (H.open_ z).1, v, .int .i64 (H.open_ z).2.2]) ∧ Row w' W.heap.size v (H.open_ z).2.1 ∧ Below W.heap.size W w' := by
  have HF := Aside0.mk (fields_calls g b m H z W h hw)
  have HT := Aside0.mk (fun W h => tag_calls g b m H z W h (fun hp => by have := hw.blk _ (PH.place_mem (H := H) (z := z) hp); omega))
  have HH := Aside0.mk h
  have hlen := H.fields_len (H.place z) hw.len
  unfold PH.open_
  have et : (if H.place z = 0 then -1 else (rd H.ws (H.place z)).tmod 256) = H.tag z := rfl
  rw [et] at HT
  clear et h hw
  generalize H.tag z = t at *
  generalize H.fields (H.place z) = f at *
  by_cases ht : t = 200
  · subst ht
    rw [if_pos rfl]
    cases f with
    | nil =>
      simp only [openOf]
      go_enter Try.func28, Try.ntmps28
      go_wp2_with (first | (go_at_call 20; (with_reducible refine HF.out.mono ?_); rintro e w1 ⟨v, rfl, ho, hb⟩; obtain ⟨A, c, rfl, _, hc, _, _⟩ := own_facts ho; have HB := Aside0.mk hb; clear ho hb hc) | (go_at_call 55; (with_reducible refine (HT.out _ (HH.out.below HB.out)).mono ?_); rintro e w' ⟨rfl, ⟨nd, rfl⟩⟩))
      go_ret3
      exact ⟨_, rfl, Row.nil _ _, pw_below_drewN HB.out _⟩
    | cons x r =>
      have hu := untag_eq x
      simp only [openOf]
      by_cases hx : x % 2 = 0
      · rw [if_pos hx] at hu ⊢
        have HU := Aside0.mk hu
        have hl0 : ((r.length : Int) + 1 == 0) = false := beq_eq_false_iff_ne.2 (by omega)
        clear hu hx
        go_enter Try.func28, Try.ntmps28
        go_wp2_with (first | (go_at_call 20; (with_reducible refine HF.out.mono ?_); rintro e w1 ⟨v, rfl, ho, hb⟩; obtain ⟨q, c, rfl, _, hc, hB, hr⟩ := own_form ho (by simp); have hx0 := head_cell hr; have HCC := Aside0.mk hc; have HB := Aside0.mk hb; have HBB := Aside0.mk hB; have HR := Aside0.mk hr; clear ho hb hc hr hB) | (go_at_call 55; (with_reducible refine (HT.out _ (HH.out.below HB.out)).mono ?_); rintro e w' ⟨rfl, ⟨nd, rfl⟩⟩) | (go_at_call 35; (with_reducible refine (ints_Untag.calls x 0 false _ HU.out).mono ?_); rintro e w' ⟨rfl, ⟨nd2, rfl⟩⟩))
        go_ret3
        exact ⟨_, rfl, Row.nil _ _, pw_below_drewN HB.out _⟩
      · rw [if_neg hx] at hu ⊢
        have HU := Aside0.mk hu
        have hl0 : ((r.length : Int) + 1 == 0) = false := beq_eq_false_iff_ne.2 (by omega)
        clear hu hx
        generalize x / 2 = n at *
        by_cases hn : n < 0 ∨ 2147483647 < n
        · rw [if_pos hn]
          rcases hn with hn | hn
          · skip
            go_enter Try.func28, Try.ntmps28
            go_wp2_with (first | (go_at_call 20; (with_reducible refine HF.out.mono ?_); rintro e w1 ⟨v, rfl, ho, hb⟩; obtain ⟨q, c, rfl, _, hc, hB, hr⟩ := own_form ho (by simp); have hx0 := head_cell hr; have HCC := Aside0.mk hc; have HB := Aside0.mk hb; have HBB := Aside0.mk hB; have HR := Aside0.mk hr; clear ho hb hc hr hB) | (go_at_call 55; (with_reducible refine (HT.out _ (HH.out.below HB.out)).mono ?_); rintro e w' ⟨rfl, ⟨nd, rfl⟩⟩) | (go_at_call 35; (with_reducible refine (ints_Untag.calls x n true _ HU.out).mono ?_); rintro e w' ⟨rfl, ⟨nd2, rfl⟩⟩))
            go_ret3
            exact ⟨_, rfl, Row.nil _ _, pw_below_drewN HB.out _⟩
          · have hn0 : ¬ n < 0 := by omega
            go_enter Try.func28, Try.ntmps28
            go_wp2_with (first | (go_at_call 20; (with_reducible refine HF.out.mono ?_); rintro e w1 ⟨v, rfl, ho, hb⟩; obtain ⟨q, c, rfl, _, hc, hB, hr⟩ := own_form ho (by simp); have hx0 := head_cell hr; have HCC := Aside0.mk hc; have HB := Aside0.mk hb; have HBB := Aside0.mk hB; have HR := Aside0.mk hr; clear ho hb hc hr hB) | (go_at_call 55; (with_reducible refine (HT.out _ (HH.out.below HB.out)).mono ?_); rintro e w' ⟨rfl, ⟨nd, rfl⟩⟩) | (go_at_call 35; (with_reducible refine (ints_Untag.calls x n true _ HU.out).mono ?_); rintro e w' ⟨rfl, ⟨nd2, rfl⟩⟩))
            go_ret3
            exact ⟨_, rfl, Row.nil _ _, pw_below_drewN HB.out _⟩
        · rw [if_neg hn]
          have hn0 : ¬ n < 0 := fun h => hn (.inl h)
          have hn1 : ¬ 2147483647 < n := fun h => hn (.inr h)
          have hlr : r.length ≤ 100000 := by simp at hlen; omega
          clear hn
          go_enter Try.func28, Try.ntmps28
          go_wp2_with (first | (go_at_call 20; (with_reducible refine HF.out.mono ?_); rintro e w1 ⟨v, rfl, ho, hb⟩; obtain ⟨q, c, rfl, _, hc, hB, hr⟩ := own_form ho (by simp); have hx0 := head_cell hr; have HCC := Aside0.mk hc; have HB := Aside0.mk hb; have HBB := Aside0.mk hB; have HR := Aside0.mk hr; clear ho hb hc hr hB; have hcut := fun W => cut1 q r.length c W) | (go_at_call 55; (with_reducible refine (HT.out _ (HH.out.below HB.out)).mono ?_); rintro e w' ⟨rfl, ⟨nd, rfl⟩⟩) | (go_at_call 35; (with_reducible refine (ints_Untag.calls x n true _ HU.out).mono ?_); rintro e w' ⟨rfl, ⟨nd2, rfl⟩⟩) | (go_at_call 59; (with_reducible refine (clip_calls (some (cutB q c)) r.length (c - 1) (by have := HCC.out; simp at this; omega) _ hlr).mono ?_); rintro e w' ⟨rfl, rfl⟩))
          go_ret3
          exact ⟨_, rfl, ⟨some (cutB q c), r.length, rfl, Nat.le_refl _, reads_drawn (cut_reads HR.out HCC.out) ⟨⟨_, rfl⟩⟩, fun ad e => by cases e; exact HBB.out⟩, pw_below_drewN HB.out _⟩
  · rw [if_neg ht]
    have n1 : (t != 200) = true := bne_iff_ne.2 ht
    have n2 : (t == 200) = false := beq_eq_false_iff_ne.2 ht
    clear ht
    go_enter Try.func28, Try.ntmps28
    go_wp2_with (first | (go_at_call 20; (with_reducible refine HF.out.mono ?_); rintro e w1 ⟨v, rfl, ho, hb⟩; obtain ⟨A, c, rfl, _, hc, _, _⟩ := own_facts ho; have HB := Aside0.mk hb; clear ho hb hc) | (go_at_call 55; (with_reducible refine (HT.out _ (HH.out.below HB.out)).mono ?_); rintro e w' ⟨rfl, ⟨nd, rfl⟩⟩))
    go_ret3
    exact ⟨_, rfl, Row.nil _ _, pw_below_drewN HB.out _⟩
end Go.Proofs.Ytkmoneccehbncaa.Heap
/- prims over the heap of layer 2 in memory: Close; no condition but what each theorem states. -/
namespace Go.Proofs.Ytkmoneccehbncaa.Heap
open Go.RowKit Go.Proofs.YtkmoneccehbncaaW.PrintWords Go.Proofs.YtkmoneccehbncaaW.PrintLast Go.Proofs.YtkmoneccehbncaaW.PrintMore Go.Proofs.Ytkmoneccehbncaa.Print Go.Proofs.Ytkmoneccehbncaa.Ints
set_option linter.unusedVariables false
set_option linter.unusedSimpArgs false

theorem blk_reads {w : World} {q : Nat} {xs : List Int} (h : w.heap[q]? = some (.cells (nums .i64 xs).toArray 3 (0, 0))) (hl : xs.length ≤ 100000) : ReadsInt w .i64 (some ⟨q, 0, none⟩) xs.length xs := by
  refine ⟨rfl, by omega, fun _ => ⟨_, rfl, fun j hj => ?_⟩⟩
  rw [add_plain, blk_cell h j]
  simp [nums, List.getElem?_eq_getElem hj, List.getD]
theorem blk_drawn {W W1 : World} {q : Nat} {o : Obj} (h : W.heap[q]? = some o) (hd : Drawn0 W W1) : W1.heap[q]? = some o := by
  obtain ⟨n, rfl⟩ := hd.out
  exact h

theorem copy_tail (q : Nat) (x : Int) (zs l : List Int) (hz : zs.length = l.length) (hl : l.length ≤ 10000) (A : Option Addr) (c : Nat) (W : World) (hb : W.heap[q]? = some (.cells (nums .i64 (x :: zs)).toArray 3 (0, 0))) (hr : ReadsInt W .i64 A l.length l) :
    ∃ W', (Builtin.copy_ #[36, 36] 3 #[.slice (some (cutB q (l.length + 1))) l.length l.length, .slice A l.length c]).run Try.prog W = .ok (goInt l.length) W' ∧
      W'.heap[q]? = some (.cells (nums .i64 (x :: l)).toArray 3 (0, 0)) ∧ Chg (· = q) W W' := by
  obtain ⟨W', h1, h2, h3⟩ := copy_at q 0 (x :: zs) l A c W hb hr (by rw [List.length_cons, hz]; omega)
  have e0 : (x :: zs).length = l.length + 1 := by rw [List.length_cons, hz]
  have e1 : cutTo q (0 + 1) (l.length + 1) = cutB q (l.length + 1) := rfl
  have e2 : l.length + 1 - (0 + 1) = l.length := by omega
  rw [e0, e1, e2] at h1
  have e3 : (x :: zs).take (0 + 1) ++ l ++ (x :: zs).drop (0 + 1 + l.length) = x :: l := by
    have : (x :: zs).drop (0 + 1 + l.length) = [] := List.drop_eq_nil_iff.2 (by rw [e0]; omega)
    rw [this]
    simp
  rw [e3] at h2
  exact ⟨W', h1, h2, h3⟩

/-- What Close hands back, and the heap behind it. -/
def PH.close (H : PH) (fn : Int) (l : List Int) : Int × Int × PH := if fn < 0 ∨ 2147483647 < fn then (0, 1, H) else H.make 200 ((2 * fn + 1) :: l)

set_option maxHeartbeats 4000000 in
set_option maxRecDepth 100000 in
theorem close_calls (g b m : Nat) (H : PH) (fn : Int) (A : Option Addr) (c : Nat) (l : List Int) (W : World) (h : At W g b m H) (hw : H.Wf)
    (hr : ReadsInt W .i64 A l.length l) (hl : l.length ≤ 10000) :
    Calls Try.prog 32 #[.pointer (some ⟨g, 0, none⟩), .int .i64 fn, .slice A l.length c] W fun e w' => e = .returned (.tuple #[.int .i64 (H.close fn l).1, .int .i64 (H.close fn l).2.1]) ∧
      At w' g b m (H.close fn l).2.2 ∧ Chg (fun k => k = g ∨ k = b ∨ k = m) W w' := by
  have HH := Aside0.mk h
  have HR := Aside0.mk hr
  have HBL := Aside0.mk (blk_lt h.words)
  unfold PH.close
  by_cases h0 : fn < 0 ∨ 2147483647 < fn
  · rw [if_pos h0]
    clear h hr hw
    rcases h0 with h0 | h0
    · go_enter Try.func32, Try.ntmps32
      go_wp2
      go_ret2
      exact ⟨rfl, HH.out, Chg.refl _ _⟩
    · have h1 : ¬ fn < 0 := by omega
      go_enter Try.func32, Try.ntmps32
      go_wp2
      go_ret2
      exact ⟨rfl, HH.out, Chg.refl _ _⟩
  · rw [if_neg h0]
    have h1 : ¬ fn < 0 := fun x => h0 (.inl x)
    have h2 : ¬ 2147483647 < fn := fun x => h0 (.inr x)
    have HT : Aside0 (ints_Tag.f fn = some (2 * fn + 1)) := ⟨by rw [tag_eq, W_of_in (by unfold In; omega)]⟩
    have hmk := print_make (P := Try.prog) 36 3 .i64 8 Try.underlying36 info3 (by decide) (l.length + 1) (by omega) W
    rw [made_nums] at hmk
    have em : ((l.length + 1 : Nat) : Int) = 1 + (l.length : Int) := by omega
    rw [em] at hmk
    have hb0 : Below W.heap.size W (W.alloc (.cells (nums .i64 (List.replicate (l.length + 1) 0)).toArray 3)) := (Below.refl _ _).alloc (Nat.le_refl _) _
    have HB0 := Aside0.mk hb0
    have HQ0 := Aside0.mk (heap_alloc_new W (.cells (nums .i64 (List.replicate (l.length + 1) 0)).toArray 3))
    have HM := Aside0.mk (fun A c W h hr hA => make_calls g b m H 200 A c ((2 * fn + 1) :: l) W h hw hr (by simp; omega) hA)
    have hzs : (List.replicate (l.length + 1) (0 : Int)) = 0 :: List.replicate l.length 0 := List.replicate_succ
    rw [hzs] at hmk HB0 HQ0
    generalize hz : List.replicate l.length (0 : Int) = zs at *
    have hzl : zs.length = l.length := by rw [← hz]; simp
    have HZ := Aside0.mk hzl
    generalize hW1 : W.alloc (.cells (nums .i64 (0 :: zs)).toArray 3) = W1 at *
    clear h hr hw h0 em hb0 hzs hz hzl
    go_enter Try.func32, Try.ntmps32
    go_wp2_with (first | (go_at_call 37; (with_reducible refine (ints_Tag.calls fn (2 * fn + 1) _ HT.out).mono ?_); rintro e w1 ⟨rfl, hd⟩; have hq1 := blk_drawn HQ0.out hd; have hc1 := (blk_cell hq1 0).trans (rfl : _ = some (Value.int .i64 0)); have hf1 := blk_frozen hq1 0; have hb1 := below_drawn HB0.out hd; have hq2 := (blk_set hq1 0 (.int .i64 (2 * fn + 1))).trans (rfl : _ = some (Obj.cells (nums .i64 ((2 * fn + 1) :: zs)).toArray 3 (0, 0))); have hb2 := hb1.setCell (p := ⟨W.heap.size, 0, none⟩) (Nat.le_refl _) (.int .i64 (2 * fn + 1)); obtain ⟨W2, hrun, hq3, hch⟩ := copy_tail W.heap.size (2 * fn + 1) zs l HZ.out hl A c _ hq2 (HR.out.below hb2); have hcut := cut1 W.heap.size l.length (l.length + 1) (w1.setCell ⟨W.heap.size, 0, none⟩ (.int .i64 (2 * fn + 1))); have HQ3 := Aside0.mk hq3; have HB3 := Aside0.mk (hch.below hb2 hb2.size (fun k hk => by omega)); clear hq1 hd hb1 hq2 hb2 hq3 hch) | (go_at_call 46; (refine (HM.out (some ⟨W.heap.size, 0, none⟩) (l.length + 1) W2 (HH.out.below HB3.out) (blk_reads HQ3.out (by simp; omega)) (fun ad e _ => by cases e; have := HBL.out; show W.heap.size ≠ b; omega)).mono ?_); rintro e w5 ⟨rfl, ha, hc⟩; have HA5 := Aside0.mk ha; have HC5 := Aside0.mk hc; clear ha hc))
    go_ret2
    exact ⟨rfl, HA5.out, (Chg.of_below _ HB3.out).trans HC5.out⟩
end Go.Proofs.Ytkmoneccehbncaa.Heap
/- prims: Sum, with its table of signs; no condition but what each theorem states. -/
namespace Go.Proofs.Ytkmoneccehbncaa.Heap
open Go.RowKit Go.Proofs.YtkmoneccehbncaaW.PrintWords Go.Proofs.YtkmoneccehbncaaW.PrintLast Go.Proofs.YtkmoneccehbncaaW.PrintMore Go.Proofs.Ytkmoneccehbncaa.Print Go.Proofs.Ytkmoneccehbncaa.Ints
set_option linter.unusedVariables false
set_option linter.unusedSimpArgs false

/-- The bytes of sum number k. -/
def signOf (k : Int) : List UInt8 := if k = 0 then [43] else if k = 1 then [45] else if k = 2 then [42] else if k = 3 then [47] else if k = 4 then [37] else if k = 5 then [61] else [60]
/-- What a sum of words comes to; the second number is the error. -/
def sumOf (k a b : Int) : Int × Int :=
  if k < 0 ∨ 7 ≤ k then (0, 1)
  else if a % 2 = 0 ∨ b % 2 = 0 then (0, 4)
  else if (ans (signOf k) (a / 2) (b / 2)).2 = 0 then (2 * W (ans (signOf k) (a / 2) (b / 2)).1 + 1, 0) else (0, (ans (signOf k) (a / 2) (b / 2)).2)

set_option maxHeartbeats 800000 in
set_option maxRecDepth 100000 in
theorem signs_calls (W : World) :
    Calls Try.prog 34 #[] W fun e w' => e = .returned (.agg #[.string ⟨#[43]⟩, .string ⟨#[45]⟩, .string ⟨#[42]⟩, .string ⟨#[47]⟩, .string ⟨#[37]⟩, .string ⟨#[61]⟩, .string ⟨#[60]⟩]) ∧ Below W.heap.size W w' := by
  go_enter Try.func34, Try.ntmps34
  go_wp2
  exact bodyPost_ret (v := .agg #[.string ⟨#[43]⟩, .string ⟨#[45]⟩, .string ⟨#[42]⟩, .string ⟨#[47]⟩, .string ⟨#[37]⟩, .string ⟨#[61]⟩, .string ⟨#[60]⟩]) (by simp [results, Try.results34, go_sem]) rfl ⟨rfl, below_alloc (Below.refl _ _) _⟩

set_option maxHeartbeats 8000000 in
set_option maxRecDepth 100000 in
theorem sum_calls (k a b : Int) (W : World) :
    Calls Try.prog 9 #[.int .i64 k, .int .i64 a, .int .i64 b] W fun e w' => e = .returned (.tuple #[.int .i64 (sumOf k a b).1, .int .i64 (sumOf k a b).2]) ∧ Below W.heap.size W w' := by
  have HS := Aside0.mk (signs_calls W)
  have hua := untag_eq a
  have hub := untag_eq b
  unfold sumOf
  by_cases h1 : k < 0
  · rw [if_pos (.inl h1)]
    clear hua hub
    go_enter Try.func9, Try.ntmps9
    go_wp2_with (go_at_call 34; (with_reducible refine HS.out.mono ?_); rintro e w1 ⟨rfl, hb⟩; have HB := Aside0.mk hb; clear hb)
    go_ret2
    exact ⟨rfl, (by repeat (first | exact HB.out | apply below_alloc | apply pw_below_drewN | apply below_drew1))⟩
  by_cases h2 : 7 ≤ k
  · rw [if_pos (.inr h2)]
    clear hua hub
    go_enter Try.func9, Try.ntmps9
    go_wp2_with (go_at_call 34; (with_reducible refine HS.out.mono ?_); rintro e w1 ⟨rfl, hb⟩; have HB := Aside0.mk hb; clear hb)
    go_ret2
    exact ⟨rfl, (by repeat (first | exact HB.out | apply below_alloc | apply pw_below_drewN | apply below_drew1))⟩
  rw [if_neg (fun h => h.elim h1 h2)]
  by_cases ha : a % 2 = 0
  · rw [if_pos ha] at hua
    have HA := Aside0.mk hua
    clear hua
    rw [if_pos (.inl ha)]
    clear ha
    by_cases hb : b % 2 = 0
    · rw [if_pos hb] at hub
      have HBU := Aside0.mk hub
      clear hub
      clear hb
      go_enter Try.func9, Try.ntmps9
      go_wp2_with (first | (go_at_call 34; (with_reducible refine HS.out.mono ?_); rintro e w1 ⟨rfl, hb⟩; have HB := Aside0.mk hb; clear hb) | (go_at_call 35; (with_reducible refine (ints_Untag.calls a 0 false _ HA.out).mono ?_); rintro e w' ⟨rfl, ⟨nd, rfl⟩⟩) | (go_at_call 35; (with_reducible refine (ints_Untag.calls b 0 false _ HBU.out).mono ?_); rintro e w' ⟨rfl, ⟨nd, rfl⟩⟩))
      go_ret2
      exact ⟨rfl, (by repeat (first | exact HB.out | apply below_alloc | apply pw_below_drewN | apply below_drew1))⟩
    · rw [if_neg hb] at hub
      have HBU := Aside0.mk hub
      clear hub
      clear hb
      go_enter Try.func9, Try.ntmps9
      go_wp2_with (first | (go_at_call 34; (with_reducible refine HS.out.mono ?_); rintro e w1 ⟨rfl, hb⟩; have HB := Aside0.mk hb; clear hb) | (go_at_call 35; (with_reducible refine (ints_Untag.calls a 0 false _ HA.out).mono ?_); rintro e w' ⟨rfl, ⟨nd, rfl⟩⟩) | (go_at_call 35; (with_reducible refine (ints_Untag.calls b (b / 2) true _ HBU.out).mono ?_); rintro e w' ⟨rfl, ⟨nd, rfl⟩⟩))
      go_ret2
      exact ⟨rfl, (by repeat (first | exact HB.out | apply below_alloc | apply pw_below_drewN | apply below_drew1))⟩
  · rw [if_neg ha] at hua
    have HA := Aside0.mk hua
    clear hua
    by_cases hb : b % 2 = 0
    · rw [if_pos hb] at hub
      have HBU := Aside0.mk hub
      clear hub
      rw [if_pos (.inr hb)]
      clear hb
      clear ha
      go_enter Try.func9, Try.ntmps9
      go_wp2_with (first | (go_at_call 34; (with_reducible refine HS.out.mono ?_); rintro e w1 ⟨rfl, hb⟩; have HB := Aside0.mk hb; clear hb) | (go_at_call 35; (with_reducible refine (ints_Untag.calls a (a / 2) true _ HA.out).mono ?_); rintro e w' ⟨rfl, ⟨nd, rfl⟩⟩) | (go_at_call 35; (with_reducible refine (ints_Untag.calls b 0 false _ HBU.out).mono ?_); rintro e w' ⟨rfl, ⟨nd, rfl⟩⟩))
      go_ret2
      exact ⟨rfl, (by repeat (first | exact HB.out | apply below_alloc | apply pw_below_drewN | apply below_drew1))⟩
    · rw [if_neg hb] at hub
      have HBU := Aside0.mk hub
      clear hub
      rw [if_neg (fun h => h.elim ha hb)]
      clear ha hb
      generalize a / 2 = x at *
      generalize b / 2 = y at *
      have hk : k = 0 ∨ k = 1 ∨ k = 2 ∨ k = 3 ∨ k = 4 ∨ k = 5 ∨ k = 6 := by omega
      clear h1 h2
      rcases hk with rfl | rfl | rfl | rfl | rfl | rfl | rfl
      · have hd : ints_Do.f 2 ⟨#[43]⟩ x y = some (ans (signOf 0) x y) := by rw [show signOf 0 = (⟨#[43]⟩ : ByteArray).toList from (by decide +kernel)]; exact do_eq 0 _ x y
        generalize ans (signOf 0) x y = r at *
        obtain ⟨r1, r2⟩ := r
        have ht := tag_eq r1
        simp only
        have HD := Aside0.mk hd
        have HT := Aside0.mk ht
        clear hd ht
        by_cases hr : r2 = 0
        · subst hr
          rw [if_pos rfl]
          go_enter Try.func9, Try.ntmps9
          go_wp2_with (first | (go_at_call 34; (with_reducible refine HS.out.mono ?_); rintro e w1 ⟨rfl, hb⟩; have HB := Aside0.mk hb; clear hb) | (go_at_call 35; (with_reducible refine (ints_Untag.calls a x true _ HA.out).mono ?_); rintro e w' ⟨rfl, ⟨nd, rfl⟩⟩) | (go_at_call 35; (with_reducible refine (ints_Untag.calls b y true _ HBU.out).mono ?_); rintro e w' ⟨rfl, ⟨nd, rfl⟩⟩) | (go_at_call 36; (with_reducible refine (ints_Do.calls 2 ⟨#[43]⟩ x y r1 0 _ HD.out).mono ?_); rintro e w' ⟨rfl, ⟨nd, rfl⟩⟩) | (go_at_call 37; (with_reducible refine (ints_Tag.calls r1 (2 * Ints.W r1 + 1) _ HT.out).mono ?_); rintro e w' ⟨rfl, ⟨nd, rfl⟩⟩))
          go_ret2
          exact ⟨rfl, (by repeat (first | exact HB.out | apply below_alloc | apply pw_below_drewN | apply below_drew1))⟩
        · rw [if_neg hr]
          have n1 : (r2 != 0) = true := bne_iff_ne.2 hr
          have n2 : (r2 == 0) = false := beq_eq_false_iff_ne.2 hr
          clear hr
          go_enter Try.func9, Try.ntmps9
          go_wp2_with (first | (go_at_call 34; (with_reducible refine HS.out.mono ?_); rintro e w1 ⟨rfl, hb⟩; have HB := Aside0.mk hb; clear hb) | (go_at_call 35; (with_reducible refine (ints_Untag.calls a x true _ HA.out).mono ?_); rintro e w' ⟨rfl, ⟨nd, rfl⟩⟩) | (go_at_call 35; (with_reducible refine (ints_Untag.calls b y true _ HBU.out).mono ?_); rintro e w' ⟨rfl, ⟨nd, rfl⟩⟩) | (go_at_call 36; (with_reducible refine (ints_Do.calls 2 ⟨#[43]⟩ x y r1 r2 _ HD.out).mono ?_); rintro e w' ⟨rfl, ⟨nd, rfl⟩⟩))
          go_ret2
          exact ⟨rfl, (by repeat (first | exact HB.out | apply below_alloc | apply pw_below_drewN | apply below_drew1))⟩
      · have hd : ints_Do.f 2 ⟨#[45]⟩ x y = some (ans (signOf 1) x y) := by rw [show signOf 1 = (⟨#[45]⟩ : ByteArray).toList from (by decide +kernel)]; exact do_eq 0 _ x y
        generalize ans (signOf 1) x y = r at *
        obtain ⟨r1, r2⟩ := r
        have ht := tag_eq r1
        simp only
        have HD := Aside0.mk hd
        have HT := Aside0.mk ht
        clear hd ht
        by_cases hr : r2 = 0
        · subst hr
          rw [if_pos rfl]
          go_enter Try.func9, Try.ntmps9
          go_wp2_with (first | (go_at_call 34; (with_reducible refine HS.out.mono ?_); rintro e w1 ⟨rfl, hb⟩; have HB := Aside0.mk hb; clear hb) | (go_at_call 35; (with_reducible refine (ints_Untag.calls a x true _ HA.out).mono ?_); rintro e w' ⟨rfl, ⟨nd, rfl⟩⟩) | (go_at_call 35; (with_reducible refine (ints_Untag.calls b y true _ HBU.out).mono ?_); rintro e w' ⟨rfl, ⟨nd, rfl⟩⟩) | (go_at_call 36; (with_reducible refine (ints_Do.calls 2 ⟨#[45]⟩ x y r1 0 _ HD.out).mono ?_); rintro e w' ⟨rfl, ⟨nd, rfl⟩⟩) | (go_at_call 37; (with_reducible refine (ints_Tag.calls r1 (2 * Ints.W r1 + 1) _ HT.out).mono ?_); rintro e w' ⟨rfl, ⟨nd, rfl⟩⟩))
          go_ret2
          exact ⟨rfl, (by repeat (first | exact HB.out | apply below_alloc | apply pw_below_drewN | apply below_drew1))⟩
        · rw [if_neg hr]
          have n1 : (r2 != 0) = true := bne_iff_ne.2 hr
          have n2 : (r2 == 0) = false := beq_eq_false_iff_ne.2 hr
          clear hr
          go_enter Try.func9, Try.ntmps9
          go_wp2_with (first | (go_at_call 34; (with_reducible refine HS.out.mono ?_); rintro e w1 ⟨rfl, hb⟩; have HB := Aside0.mk hb; clear hb) | (go_at_call 35; (with_reducible refine (ints_Untag.calls a x true _ HA.out).mono ?_); rintro e w' ⟨rfl, ⟨nd, rfl⟩⟩) | (go_at_call 35; (with_reducible refine (ints_Untag.calls b y true _ HBU.out).mono ?_); rintro e w' ⟨rfl, ⟨nd, rfl⟩⟩) | (go_at_call 36; (with_reducible refine (ints_Do.calls 2 ⟨#[45]⟩ x y r1 r2 _ HD.out).mono ?_); rintro e w' ⟨rfl, ⟨nd, rfl⟩⟩))
          go_ret2
          exact ⟨rfl, (by repeat (first | exact HB.out | apply below_alloc | apply pw_below_drewN | apply below_drew1))⟩
      · have hd : ints_Do.f 2 ⟨#[42]⟩ x y = some (ans (signOf 2) x y) := by rw [show signOf 2 = (⟨#[42]⟩ : ByteArray).toList from (by decide +kernel)]; exact do_eq 0 _ x y
        generalize ans (signOf 2) x y = r at *
        obtain ⟨r1, r2⟩ := r
        have ht := tag_eq r1
        simp only
        have HD := Aside0.mk hd
        have HT := Aside0.mk ht
        clear hd ht
        by_cases hr : r2 = 0
        · subst hr
          rw [if_pos rfl]
          go_enter Try.func9, Try.ntmps9
          go_wp2_with (first | (go_at_call 34; (with_reducible refine HS.out.mono ?_); rintro e w1 ⟨rfl, hb⟩; have HB := Aside0.mk hb; clear hb) | (go_at_call 35; (with_reducible refine (ints_Untag.calls a x true _ HA.out).mono ?_); rintro e w' ⟨rfl, ⟨nd, rfl⟩⟩) | (go_at_call 35; (with_reducible refine (ints_Untag.calls b y true _ HBU.out).mono ?_); rintro e w' ⟨rfl, ⟨nd, rfl⟩⟩) | (go_at_call 36; (with_reducible refine (ints_Do.calls 2 ⟨#[42]⟩ x y r1 0 _ HD.out).mono ?_); rintro e w' ⟨rfl, ⟨nd, rfl⟩⟩) | (go_at_call 37; (with_reducible refine (ints_Tag.calls r1 (2 * Ints.W r1 + 1) _ HT.out).mono ?_); rintro e w' ⟨rfl, ⟨nd, rfl⟩⟩))
          go_ret2
          exact ⟨rfl, (by repeat (first | exact HB.out | apply below_alloc | apply pw_below_drewN | apply below_drew1))⟩
        · rw [if_neg hr]
          have n1 : (r2 != 0) = true := bne_iff_ne.2 hr
          have n2 : (r2 == 0) = false := beq_eq_false_iff_ne.2 hr
          clear hr
          go_enter Try.func9, Try.ntmps9
          go_wp2_with (first | (go_at_call 34; (with_reducible refine HS.out.mono ?_); rintro e w1 ⟨rfl, hb⟩; have HB := Aside0.mk hb; clear hb) | (go_at_call 35; (with_reducible refine (ints_Untag.calls a x true _ HA.out).mono ?_); rintro e w' ⟨rfl, ⟨nd, rfl⟩⟩) | (go_at_call 35; (with_reducible refine (ints_Untag.calls b y true _ HBU.out).mono ?_); rintro e w' ⟨rfl, ⟨nd, rfl⟩⟩) | (go_at_call 36; (with_reducible refine (ints_Do.calls 2 ⟨#[42]⟩ x y r1 r2 _ HD.out).mono ?_); rintro e w' ⟨rfl, ⟨nd, rfl⟩⟩))
          go_ret2
          exact ⟨rfl, (by repeat (first | exact HB.out | apply below_alloc | apply pw_below_drewN | apply below_drew1))⟩
      · have hd : ints_Do.f 2 ⟨#[47]⟩ x y = some (ans (signOf 3) x y) := by rw [show signOf 3 = (⟨#[47]⟩ : ByteArray).toList from (by decide +kernel)]; exact do_eq 0 _ x y
        generalize ans (signOf 3) x y = r at *
        obtain ⟨r1, r2⟩ := r
        have ht := tag_eq r1
        simp only
        have HD := Aside0.mk hd
        have HT := Aside0.mk ht
        clear hd ht
        by_cases hr : r2 = 0
        · subst hr
          rw [if_pos rfl]
          go_enter Try.func9, Try.ntmps9
          go_wp2_with (first | (go_at_call 34; (with_reducible refine HS.out.mono ?_); rintro e w1 ⟨rfl, hb⟩; have HB := Aside0.mk hb; clear hb) | (go_at_call 35; (with_reducible refine (ints_Untag.calls a x true _ HA.out).mono ?_); rintro e w' ⟨rfl, ⟨nd, rfl⟩⟩) | (go_at_call 35; (with_reducible refine (ints_Untag.calls b y true _ HBU.out).mono ?_); rintro e w' ⟨rfl, ⟨nd, rfl⟩⟩) | (go_at_call 36; (with_reducible refine (ints_Do.calls 2 ⟨#[47]⟩ x y r1 0 _ HD.out).mono ?_); rintro e w' ⟨rfl, ⟨nd, rfl⟩⟩) | (go_at_call 37; (with_reducible refine (ints_Tag.calls r1 (2 * Ints.W r1 + 1) _ HT.out).mono ?_); rintro e w' ⟨rfl, ⟨nd, rfl⟩⟩))
          go_ret2
          exact ⟨rfl, (by repeat (first | exact HB.out | apply below_alloc | apply pw_below_drewN | apply below_drew1))⟩
        · rw [if_neg hr]
          have n1 : (r2 != 0) = true := bne_iff_ne.2 hr
          have n2 : (r2 == 0) = false := beq_eq_false_iff_ne.2 hr
          clear hr
          go_enter Try.func9, Try.ntmps9
          go_wp2_with (first | (go_at_call 34; (with_reducible refine HS.out.mono ?_); rintro e w1 ⟨rfl, hb⟩; have HB := Aside0.mk hb; clear hb) | (go_at_call 35; (with_reducible refine (ints_Untag.calls a x true _ HA.out).mono ?_); rintro e w' ⟨rfl, ⟨nd, rfl⟩⟩) | (go_at_call 35; (with_reducible refine (ints_Untag.calls b y true _ HBU.out).mono ?_); rintro e w' ⟨rfl, ⟨nd, rfl⟩⟩) | (go_at_call 36; (with_reducible refine (ints_Do.calls 2 ⟨#[47]⟩ x y r1 r2 _ HD.out).mono ?_); rintro e w' ⟨rfl, ⟨nd, rfl⟩⟩))
          go_ret2
          exact ⟨rfl, (by repeat (first | exact HB.out | apply below_alloc | apply pw_below_drewN | apply below_drew1))⟩
      · have hd : ints_Do.f 2 ⟨#[37]⟩ x y = some (ans (signOf 4) x y) := by rw [show signOf 4 = (⟨#[37]⟩ : ByteArray).toList from (by decide +kernel)]; exact do_eq 0 _ x y
        generalize ans (signOf 4) x y = r at *
        obtain ⟨r1, r2⟩ := r
        have ht := tag_eq r1
        simp only
        have HD := Aside0.mk hd
        have HT := Aside0.mk ht
        clear hd ht
        by_cases hr : r2 = 0
        · subst hr
          rw [if_pos rfl]
          go_enter Try.func9, Try.ntmps9
          go_wp2_with (first | (go_at_call 34; (with_reducible refine HS.out.mono ?_); rintro e w1 ⟨rfl, hb⟩; have HB := Aside0.mk hb; clear hb) | (go_at_call 35; (with_reducible refine (ints_Untag.calls a x true _ HA.out).mono ?_); rintro e w' ⟨rfl, ⟨nd, rfl⟩⟩) | (go_at_call 35; (with_reducible refine (ints_Untag.calls b y true _ HBU.out).mono ?_); rintro e w' ⟨rfl, ⟨nd, rfl⟩⟩) | (go_at_call 36; (with_reducible refine (ints_Do.calls 2 ⟨#[37]⟩ x y r1 0 _ HD.out).mono ?_); rintro e w' ⟨rfl, ⟨nd, rfl⟩⟩) | (go_at_call 37; (with_reducible refine (ints_Tag.calls r1 (2 * Ints.W r1 + 1) _ HT.out).mono ?_); rintro e w' ⟨rfl, ⟨nd, rfl⟩⟩))
          go_ret2
          exact ⟨rfl, (by repeat (first | exact HB.out | apply below_alloc | apply pw_below_drewN | apply below_drew1))⟩
        · rw [if_neg hr]
          have n1 : (r2 != 0) = true := bne_iff_ne.2 hr
          have n2 : (r2 == 0) = false := beq_eq_false_iff_ne.2 hr
          clear hr
          go_enter Try.func9, Try.ntmps9
          go_wp2_with (first | (go_at_call 34; (with_reducible refine HS.out.mono ?_); rintro e w1 ⟨rfl, hb⟩; have HB := Aside0.mk hb; clear hb) | (go_at_call 35; (with_reducible refine (ints_Untag.calls a x true _ HA.out).mono ?_); rintro e w' ⟨rfl, ⟨nd, rfl⟩⟩) | (go_at_call 35; (with_reducible refine (ints_Untag.calls b y true _ HBU.out).mono ?_); rintro e w' ⟨rfl, ⟨nd, rfl⟩⟩) | (go_at_call 36; (with_reducible refine (ints_Do.calls 2 ⟨#[37]⟩ x y r1 r2 _ HD.out).mono ?_); rintro e w' ⟨rfl, ⟨nd, rfl⟩⟩))
          go_ret2
          exact ⟨rfl, (by repeat (first | exact HB.out | apply below_alloc | apply pw_below_drewN | apply below_drew1))⟩
      · have hd : ints_Do.f 2 ⟨#[61]⟩ x y = some (ans (signOf 5) x y) := by rw [show signOf 5 = (⟨#[61]⟩ : ByteArray).toList from (by decide +kernel)]; exact do_eq 0 _ x y
        generalize ans (signOf 5) x y = r at *
        obtain ⟨r1, r2⟩ := r
        have ht := tag_eq r1
        simp only
        have HD := Aside0.mk hd
        have HT := Aside0.mk ht
        clear hd ht
        by_cases hr : r2 = 0
        · subst hr
          rw [if_pos rfl]
          go_enter Try.func9, Try.ntmps9
          go_wp2_with (first | (go_at_call 34; (with_reducible refine HS.out.mono ?_); rintro e w1 ⟨rfl, hb⟩; have HB := Aside0.mk hb; clear hb) | (go_at_call 35; (with_reducible refine (ints_Untag.calls a x true _ HA.out).mono ?_); rintro e w' ⟨rfl, ⟨nd, rfl⟩⟩) | (go_at_call 35; (with_reducible refine (ints_Untag.calls b y true _ HBU.out).mono ?_); rintro e w' ⟨rfl, ⟨nd, rfl⟩⟩) | (go_at_call 36; (with_reducible refine (ints_Do.calls 2 ⟨#[61]⟩ x y r1 0 _ HD.out).mono ?_); rintro e w' ⟨rfl, ⟨nd, rfl⟩⟩) | (go_at_call 37; (with_reducible refine (ints_Tag.calls r1 (2 * Ints.W r1 + 1) _ HT.out).mono ?_); rintro e w' ⟨rfl, ⟨nd, rfl⟩⟩))
          go_ret2
          exact ⟨rfl, (by repeat (first | exact HB.out | apply below_alloc | apply pw_below_drewN | apply below_drew1))⟩
        · rw [if_neg hr]
          have n1 : (r2 != 0) = true := bne_iff_ne.2 hr
          have n2 : (r2 == 0) = false := beq_eq_false_iff_ne.2 hr
          clear hr
          go_enter Try.func9, Try.ntmps9
          go_wp2_with (first | (go_at_call 34; (with_reducible refine HS.out.mono ?_); rintro e w1 ⟨rfl, hb⟩; have HB := Aside0.mk hb; clear hb) | (go_at_call 35; (with_reducible refine (ints_Untag.calls a x true _ HA.out).mono ?_); rintro e w' ⟨rfl, ⟨nd, rfl⟩⟩) | (go_at_call 35; (with_reducible refine (ints_Untag.calls b y true _ HBU.out).mono ?_); rintro e w' ⟨rfl, ⟨nd, rfl⟩⟩) | (go_at_call 36; (with_reducible refine (ints_Do.calls 2 ⟨#[61]⟩ x y r1 r2 _ HD.out).mono ?_); rintro e w' ⟨rfl, ⟨nd, rfl⟩⟩))
          go_ret2
          exact ⟨rfl, (by repeat (first | exact HB.out | apply below_alloc | apply pw_below_drewN | apply below_drew1))⟩
      · have hd : ints_Do.f 2 ⟨#[60]⟩ x y = some (ans (signOf 6) x y) := by rw [show signOf 6 = (⟨#[60]⟩ : ByteArray).toList from (by decide +kernel)]; exact do_eq 0 _ x y
        generalize ans (signOf 6) x y = r at *
        obtain ⟨r1, r2⟩ := r
        have ht := tag_eq r1
        simp only
        have HD := Aside0.mk hd
        have HT := Aside0.mk ht
        clear hd ht
        by_cases hr : r2 = 0
        · subst hr
          rw [if_pos rfl]
          go_enter Try.func9, Try.ntmps9
          go_wp2_with (first | (go_at_call 34; (with_reducible refine HS.out.mono ?_); rintro e w1 ⟨rfl, hb⟩; have HB := Aside0.mk hb; clear hb) | (go_at_call 35; (with_reducible refine (ints_Untag.calls a x true _ HA.out).mono ?_); rintro e w' ⟨rfl, ⟨nd, rfl⟩⟩) | (go_at_call 35; (with_reducible refine (ints_Untag.calls b y true _ HBU.out).mono ?_); rintro e w' ⟨rfl, ⟨nd, rfl⟩⟩) | (go_at_call 36; (with_reducible refine (ints_Do.calls 2 ⟨#[60]⟩ x y r1 0 _ HD.out).mono ?_); rintro e w' ⟨rfl, ⟨nd, rfl⟩⟩) | (go_at_call 37; (with_reducible refine (ints_Tag.calls r1 (2 * Ints.W r1 + 1) _ HT.out).mono ?_); rintro e w' ⟨rfl, ⟨nd, rfl⟩⟩))
          go_ret2
          exact ⟨rfl, (by repeat (first | exact HB.out | apply below_alloc | apply pw_below_drewN | apply below_drew1))⟩
        · rw [if_neg hr]
          have n1 : (r2 != 0) = true := bne_iff_ne.2 hr
          have n2 : (r2 == 0) = false := beq_eq_false_iff_ne.2 hr
          clear hr
          go_enter Try.func9, Try.ntmps9
          go_wp2_with (first | (go_at_call 34; (with_reducible refine HS.out.mono ?_); rintro e w1 ⟨rfl, hb⟩; have HB := Aside0.mk hb; clear hb) | (go_at_call 35; (with_reducible refine (ints_Untag.calls a x true _ HA.out).mono ?_); rintro e w' ⟨rfl, ⟨nd, rfl⟩⟩) | (go_at_call 35; (with_reducible refine (ints_Untag.calls b y true _ HBU.out).mono ?_); rintro e w' ⟨rfl, ⟨nd, rfl⟩⟩) | (go_at_call 36; (with_reducible refine (ints_Do.calls 2 ⟨#[60]⟩ x y r1 r2 _ HD.out).mono ?_); rintro e w' ⟨rfl, ⟨nd, rfl⟩⟩))
          go_ret2
          exact ⟨rfl, (by repeat (first | exact HB.out | apply below_alloc | apply pw_below_drewN | apply below_drew1))⟩
end Go.Proofs.Ytkmoneccehbncaa.Heap
/- The heap of layer 2: what is made keeps the heap well laid; lives of selvagelaw16 answers true; no condition but what each theorem states. -/
namespace Go.Proofs.Ytkmoneccehbncaa.Heap
open Go.RowKit Go.Proofs.YtkmoneccehbncaaW.PrintWords Go.Proofs.YtkmoneccehbncaaW.PrintLast Go.Proofs.YtkmoneccehbncaaW.PrintMore Go.Proofs.Ytkmoneccehbncaa.Print Go.Proofs.Ytkmoneccehbncaa.Ints
set_option linter.unusedVariables false
set_option linter.unusedSimpArgs false

theorem rd_laid_lt (ws : List Int) (t : Nat) (hdr : Int) (l : List Int) (k : Nat) (hk : k < t) (ht : t ≤ ws.length) : rd (laid ws t hdr l) k = rd ws k := by
  unfold rd laid
  rw [Int.toNat_natCast]
  simp only [List.getD, List.append_assoc]
  rw [List.getElem?_append_left (by simp; omega), List.getElem?_take_of_lt hk]
theorem rd_laid_at (ws : List Int) (t : Nat) (hdr : Int) (l : List Int) (ht : t ≤ ws.length) : rd (laid ws t hdr l) t = hdr := by
  unfold rd laid
  rw [Int.toNat_natCast]
  simp only [List.getD, List.append_assoc]
  rw [List.getElem?_append_right (by simp; omega)]
  have : t - (List.take t ws).length = 0 := by simp; omega
  rw [this]
  rfl
theorem PH.odd_not {H : PH} {tag : Int} {l : List Int} (h : ¬ H.odd tag l = true) : 0 ≤ tag ∧ tag ≤ 201 ∧ l.length ≤ 60 := by
  unfold PH.odd at h
  simp only [Bool.or_eq_true, decide_eq_true_eq, not_or] at h
  omega
theorem PH.make_wf {H : PH} (h : H.Wf) (tag : Int) (l : List Int) : (H.make tag l).2.2.Wf := by
  unfold PH.make
  by_cases h1 : H.odd tag l = true
  · rw [if_pos h1]; exact h
  · rw [if_neg h1]
    obtain ⟨a1, a2, a3⟩ := PH.odd_not h1
    by_cases h2 : (H.ws.length : Int) - 1 < H.top - 1 + 1 + l.length
    · rw [if_pos h2]; exact h
    · rw [if_neg h2]
      have t1 := h.top1
      have t2 := h.top2
      obtain ⟨t, ht⟩ := Int.eq_ofNat_of_zero_le (show 0 ≤ H.top by omega)
      have e1 : H.top.toNat = t := by omega
      have hf : t + 1 + l.length ≤ H.ws.length := by omega
      refine ⟨?_, ?_, ?_, ?_⟩
      · show (laid H.ws H.top.toNat (l.length * 256 + tag) l).length ≤ 100000
        rw [e1, laid_length _ _ _ _ hf]; exact h.len
      · show 1 ≤ H.top + 1 + l.length
        omega
      · show H.top + 1 + l.length ≤ ((laid H.ws H.top.toNat (l.length * 256 + tag) l).length : Int)
        rw [e1, laid_length _ _ _ _ hf]; omega
      · intro k hk
        show 1 ≤ k ∧ k < H.top + 1 + l.length ∧ 0 ≤ rd (laid H.ws H.top.toNat (l.length * 256 + tag) l) k ∧ k + 1 + rd (laid H.ws H.top.toNat (l.length * 256 + tag) l) k / 256 ≤ H.top + 1 + l.length
        have hk' : k ∈ H.ks ∨ k = H.top := by
          have := hk
          simp only [List.mem_append, List.mem_singleton] at this
          exact this
        rw [e1]
        rcases hk' with hk' | hk'
        · obtain ⟨b1, b2, b3, b4⟩ := h.blk' k hk'
          obtain ⟨q, rfl⟩ := Int.eq_ofNat_of_zero_le (show 0 ≤ k by omega)
          rw [rd_laid_lt _ _ _ _ _ (by omega) (by omega)]
          omega
        · subst hk'
          rw [ht, rd_laid_at _ _ _ _ (by omega)]
          omega
theorem PH.text_wf {H : PH} (h : H.Wf) (l : List Int) (e : Int) : (H.text l e).2.2.Wf := by
  unfold PH.text
  split
  · exact PH.make_wf h _ _
  · exact h
theorem PH.close_wf {H : PH} (h : H.Wf) (f : Int) (l : List Int) : (H.close f l).2.2.Wf := by
  unfold PH.close
  split
  · exact h
  · exact PH.make_wf h _ _

/-- The heap of the document's example, with its text; and with its closure. -/
def exA : PH := ((PH.new 64).text [2, 25185] 0).2.2
def exB : PH := (exA.close 2 [7]).2.2
theorem exA_told : ((PH.new 64).text [2, 25185] 0).1 = 2 ∧ ((PH.new 64).text [2, 25185] 0).2.1 = 0 := by decide +kernel
theorem exA_fields : exA.fields (exA.place 2) = [2, 25185] := by decide +kernel
theorem exB_told : (exA.close 2 [7]).1 = 8 ∧ (exA.close 2 [7]).2.1 = 0 := by decide +kernel
theorem exB_open : exB.open_ 8 = (2, [7], 0) := by decide +kernel
theorem ex_pack : strs_Pack.f 20 ⟨#[97, 98]⟩ = some ([2, 25185], 0) := by decide +kernel
theorem ex_same : selvageref02_SameInts.f 20 [2, 25185] [2, 25185] = some true := by decide +kernel
theorem ex_sum : sumOf 0 3 5 = (7, 0) := by decide +kernel
theorem C_of {w : World} {A : Option Addr} {n : Nat} {l : List Int} (h : ReadsInt w .i64 A n l) : (Kd.int .i64).C w A n l := Kd.C_of_reads (d := (0 : Int)) (h1 := fun _ => rfl) h
theorem text_ex (g b m : Nat) (W : World) (h : At W g b m (PH.new 64)) : Calls Try.prog 23 #[.pointer (some ⟨g, 0, none⟩), .string ⟨#[97, 98]⟩] W fun e w' => e = .returned (.tuple #[.int .i64 2, .int .i64 0]) ∧ At w' g b m exA ∧ Chg (fun k => k = g ∨ k = b ∨ k = m) W w' := by
  have := text_calls g b m (PH.new 64) ⟨#[97, 98]⟩ 20 [2, 25185] 0 W h (PH.new_wf 64 (by decide)) (by decide) ex_pack
  rw [exA_told.1, exA_told.2] at this
  exact this
theorem exA_wf : exA.Wf := PH.text_wf (PH.new_wf 64 (by decide)) _ _
theorem exB_wf : exB.Wf := PH.close_wf exA_wf _ _
theorem fields_ex (g b m : Nat) (W : World) (h : At W g b m exA) : Calls Try.prog 20 #[.pointer (some ⟨g, 0, none⟩), .int .i64 2] W fun e w' => ∃ v, e = .returned v ∧ Row w' W.heap.size v [2, 25185] ∧ Below W.heap.size W w' := by
  have := fields_calls g b m exA 2 W h exA_wf
  rw [exA_fields] at this
  refine this.mono ?_
  rintro e w' ⟨v, he, ho, hb⟩
  obtain ⟨A, c, e1, _, e3, e4, e5⟩ := own_facts ho
  exact ⟨v, he, ⟨A, c, e1, e3, e4, e5⟩, hb⟩
theorem close_ex (g b m : Nat) (A : Option Addr) (c : Nat) (W : World) (h : At W g b m exA) (hr : ReadsInt W .i64 A 1 [7]) : Calls Try.prog 32 #[.pointer (some ⟨g, 0, none⟩), .int .i64 2, .slice A 1 c] W fun e w' => e = .returned (.tuple #[.int .i64 8, .int .i64 0]) ∧ At w' g b m exB ∧ Chg (fun k => k = g ∨ k = b ∨ k = m) W w' := by
  have := close_calls g b m exA 2 A c [7] W h exA_wf hr (by decide)
  rw [exB_told.1, exB_told.2] at this
  exact this
theorem open_ex (g b m : Nat) (W : World) (h : At W g b m exB) : Calls Try.prog 28 #[.pointer (some ⟨g, 0, none⟩), .int .i64 8] W fun e w' => ∃ v, e = .returned (.tuple #[.int .i64 2, v, .int .i64 0]) ∧ Row w' W.heap.size v [7] ∧ Below W.heap.size W w' := by
  have := open_calls g b m exB 8 W h exB_wf
  rw [exB_open] at this
  exact this
theorem sum_ex (W : World) : Calls Try.prog 9 #[.int .i64 0, .int .i64 3, .int .i64 5] W fun e w' => e = .returned (.tuple #[.int .i64 7, .int .i64 0]) ∧ Below W.heap.size W w' := by
  have := sum_calls 0 3 5 W
  rw [ex_sum] at this
  exact this
theorem same_ex (A0 A1 : Option Addr) (c0 c1 : Nat) (W : World) (h0 : ReadsInt W .i64 A0 2 [2, 25185]) (h1 : ReadsInt W .i64 A1 2 [2, 25185]) (k0 : 2 ≤ c0) (k1 : 2 ≤ c1) :
    Calls Try.prog 19 #[.slice A0 2 c0, .slice A1 2 c1] W fun e w' => e = .returned (.bool true) ∧ Drawn0 W w' :=
  selvageref02_SameInts.calls 20 A0 c0 [2, 25185] A1 c1 [2, 25185] true W (C_of h0) k0 (C_of h1) k1 ex_same
theorem lit_reads (W : World) (xs : List Int) (hl : xs.length ≤ 100000) : ReadsInt (W.alloc (.cells (nums .i64 xs).toArray 3)) .i64 (some ⟨W.heap.size, 0, none⟩) xs.length xs := blk_reads (heap_alloc_new W _) hl

theorem first_cell {w : World} {ad : Addr} {x : Int} {r : List Int} (h : w.cell? (ad.add (0 : Int).toNat) = some (.int .i64 (rd (x :: r) 0))) : w.cell? ad = some (.int .i64 x) := by
  have e : ad.add (0 : Int).toNat = ad := rfl
  rw [e] at h
  exact h

set_option maxHeartbeats 4000000 in
set_option maxRecDepth 100000 in
theorem lives_calls (W : World) : Calls Try.prog 11 #[] W fun e w' => e = .returned (.bool true) ∧ Below W.heap.size W w' := by
  have HN := Aside0.mk (new_calls 64 W (by decide) (by decide))
  go_enter Try.func11, Try.ntmps11
  go_wp2_with (first
    | (go_at_call 14; (refine HN.out.mono ?_); rintro e w1 ⟨g, b, m, rfl, ⟨hat, hwf, hg, hbb, hm⟩, hb⟩; have HA := Aside0.mk hat; have HG := Aside0.mk hg; have HBB := Aside0.mk hbb; have HM := Aside0.mk hm; have HB := Aside0.mk hb; clear hat hwf hg hbb hm hb)
    | (go_at_call 23; (refine (text_ex g b m _ HA.out).mono ?_); rintro e w2 ⟨rfl, hat, hc⟩; have HA2 := Aside0.mk hat; have HB2 := Aside0.mk (hc.below HB.out HB.out.size (fun k hk => by have := HG.out; have := HBB.out; have := HM.out; omega)); clear hat hc)
    | (go_at_call 20; (refine (fields_ex g b m _ HA2.out).mono ?_); rintro e w3 ⟨v, rfl, ⟨A, c, rfl, hc, hr, _⟩, hb⟩; have HR3 := Aside0.mk hr; have HC3 := Aside0.mk hc; have HA3 := Aside0.mk (HA2.out.below hb); have HB3 := Aside0.mk (below_then HB2.out HB2.out.size hb); clear hb hr hc)
    | (go_at_call 19; (refine (same_ex A _ c 2 _ (HR3.out.allocS _) (lit_reads w3 [2, 25185] (by decide)) HC3.out (Nat.le_refl _)).mono ?_); rintro e w4 ⟨rfl, hd⟩; have HA4 := Aside0.mk (at_drawn (HA3.out.below (below_alloc (Below.refl _ _) _)) hd); have HB4 := Aside0.mk (below_drawn (below_alloc HB3.out _) hd); clear hd)
    | (go_at_call 9; (refine (sum_ex _).mono ?_); rintro e w5 ⟨rfl, hb⟩; have HA5 := Aside0.mk (HA4.out.below hb); have HB5 := Aside0.mk (below_then HB4.out HB4.out.size hb); clear hb)
    | (go_at_call 32; (refine (close_ex g b m _ 1 _ (HA5.out.below (below_alloc (Below.refl _ _) _)) (lit_reads w5 [7] (by decide))).mono ?_); rintro e w6 ⟨rfl, hat, hc⟩; have HA6 := Aside0.mk hat; have HB6 := Aside0.mk (hc.below (below_alloc HB5.out _) (below_alloc HB5.out _).size (fun k hk => by have := HG.out; have := HBB.out; have := HM.out; omega)); clear hat hc)
    | (go_at_call 28; (refine (open_ex g b m _ HA6.out).mono ?_); rintro e w7 ⟨v7, rfl, ⟨A7, c7, rfl, hc, hr, _⟩, hb⟩; obtain ⟨ad7, rfl, hx⟩ := hr.at_ 0 (Int.le_refl _) (by decide); have hx2 := first_cell hx; have HB7 := Aside0.mk (below_then HB6.out HB6.out.size hb); clear hb hr hc hx))
  go_ret
  exact ⟨rfl, HB7.out⟩
end Go.Proofs.Ytkmoneccehbncaa.Heap
/- Contracts of prims.Sum and of selvagelaw16.lives, each with a plain function of the same answers; no condition. -/
namespace Go.Proofs.Ytkmoneccehbncaa.Print
open Go.RowKit Go.Proofs.YtkmoneccehbncaaW.PrintWords Go.Proofs.YtkmoneccehbncaaW.PrintLast Go.Proofs.YtkmoneccehbncaaW.PrintMore Go.Proofs.Ytkmoneccehbncaa.Heap
def prims_Sum.f (a0 a1 a2 : Int) : Option (Int × Int) := some (sumOf a0 a1 a2)
theorem prims_Sum.calls (a0 : Int) (a1 : Int) (a2 : Int) (r1 : Int) (r2 : Int) (w : World) (h : prims_Sum.f a0 a1 a2 = some (r1, r2)) :
    Calls Try.prog 9 #[.int .i64 a0, .int .i64 a1, .int .i64 a2] w fun e w' => e = .returned (.tuple #[.int .i64 r1, .int .i64 r2]) ∧ Below w.heap.size w w' := by
  have h1 := Option.some.inj h
  have := sum_calls a0 a1 a2 w
  rw [h1] at this
  exact this
def selvagelaw16_lives.f : Option Bool := some true
theorem selvagelaw16_lives.calls (r : Bool) (w : World) (h : selvagelaw16_lives.f = some r) :
    Calls Try.prog 11 #[] w fun e w' => e = .returned (.bool r) ∧ Below w.heap.size w w' := by
  have h1 := Option.some.inj h
  subst h1
  exact lives_calls w
end Go.Proofs.Ytkmoneccehbncaa.Print
