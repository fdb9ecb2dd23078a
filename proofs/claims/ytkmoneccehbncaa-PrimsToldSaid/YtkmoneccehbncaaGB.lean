/- The heap of layer 2 as a list of blocks, and prims over it; no condition but what each theorem states. -/
import Derived.Test.YtkmoneccehbncaaPA1
import Derived.Test.YtkmoneccehbncaaGA
import Derived.Outline
import Derived.Deep.RegionHeld3
/- Plain laws on the reference's sum of words. -/
namespace Go.Proofs.Ytkmoneccehbncaa.Heap
open Go.RowKit Go.Proofs.YtkmoneccehbncaaW.PrintWords Go.Proofs.YtkmoneccehbncaaW.PrintLast Go.Proofs.Ytkmoneccehbncaa.Print Go.Proofs.Ytkmoneccehbncaa.Ints
set_option linter.unusedVariables false
set_option linter.unusedSimpArgs false

theorem tmod2_iff (w : Int) : w.tmod 2 = 0 ↔ w % 2 = 0 := by
  have h1 : (w.tmod 2).natAbs = w.natAbs % 2 := by rw [Int.natAbs_tmod]; rfl
  omega
theorem half_eq {a : Int} (h : I64 a) (ho : ¬ a % 2 = 0) : selvageref16_half.f a = some (a / 2) := by
  unfold selvageref16_half.f
  unfold I64 at h
  by_cases h0 : a < 0
  · rw [if_pos h0]
    have e1 : wrap64 (-(wrap64 (a + 1))) = -(a + 1) := by unfold wrap64; omega
    rw [e1, Int.tdiv_eq_ediv_of_nonneg (by omega)]
    congr 1
    unfold wrap64
    omega
  · rw [if_neg h0, Int.tdiv_eq_ediv_of_nonneg (by omega)]
    congr 1
    unfold wrap64
    omega
theorem W_in' {x : Int} (h : In x) : W x = x := W_of_in h
theorem ans_in (op : List UInt8) (a b : Int) : In (ans op a b).1 := by
  unfold ans
  have z : In 0 := by unfold In; omega
  have o : In 1 := by unfold In; omega
  by_cases h : In a ∧ In b
  · rw [if_pos h]
    have hm : In (a.tmod b) := by
      have h1 : (a.tmod b).natAbs = a.natAbs % b.natAbs := Int.natAbs_tmod a b
      have h2 : a.natAbs % b.natAbs ≤ a.natAbs := Nat.mod_le _ _
      have h3 : a < 0 → a.tmod b ≤ 0 := fun h => by
        have := Int.tmod_nonneg (a := -a) b (by omega)
        rw [Int.neg_tmod] at this
        omega
      have h4 : 0 ≤ a → 0 ≤ a.tmod b := fun h => Int.tmod_nonneg b h
      have h5 := h.1
      unfold In at h5 ⊢
      rcases Int.lt_or_le a 0 with h6 | h6
      · have := h3 h6
        omega
      · have := h4 h6
        omega
    repeat' split
    all_goals first | exact W_in _ | exact z | exact o | exact hm
  · rw [if_neg h]
    exact z
/-- The reference's sum answers as the program's. -/
theorem refSum_eq (k : Nat) {t a b : Int} (ha : I64 a) (hb : I64 b) : selvageref16_Sum.f (k + 68) t a b = some (sumOf t a b) := by
  unfold selvageref16_Sum.f sumOf
  have hj0 : ∀ x, selvageref16_Sum.j0 (k + 68) t a b x = if x = true then (some (0, 1)) else (if (Int.tmod a 2) = 0 then (selvageref16_Sum.j1 (k + 67) t a b true) else (selvageref16_Sum.j1 (k + 67) t a b ((Int.tmod b 2) == 0))) := fun x => by
    rw [selvageref16_Sum.j0]
  have hj1 : selvageref16_Sum.j1 (k + 67) t a b true = some (0, 4) := by rw [selvageref16_Sum.j1, if_pos rfl]
  by_cases h1 : t < 0
  · rw [if_pos h1, if_pos (.inl h1), hj0, if_pos rfl]
  rw [if_neg h1, hj0]
  by_cases h2 : 7 ≤ t
  · rw [decide_eq_true (by omega : t > 6), if_pos rfl, if_pos (.inr h2)]
  rw [decide_eq_false (by omega : ¬ t > 6), if_neg (by decide), if_neg (not_or.2 ⟨h1, h2⟩)]
  have ea := tmod2_iff a
  have eb := tmod2_iff b
  by_cases h3 : a % 2 = 0
  · rw [if_pos (ea.2 h3), if_pos (Or.inl h3), hj1]
  rw [if_neg (fun h => h3 (ea.1 h))]
  by_cases h4 : b % 2 = 0
  · rw [eb.2 h4, if_pos (.inr h4)]
    exact hj1
  rw [if_neg (not_or.2 ⟨h3, h4⟩), show ((b.tmod 2) == 0) = false from beq_eq_false_iff_ne.2 fun h => h4 (eb.1 h), selvageref16_Sum.j1, if_neg (by decide), half_eq ha h3, half_eq hb h4]
  simp only [Option.bind_some]
  rw [if_pos (by omega : 0 ≤ t)]
  simp only [List.length_cons, List.length_nil]
  rw [if_pos (by omega)]
  have hop : (rdOf ByteArray.empty [(⟨#[43]⟩ : ByteArray), (⟨#[45]⟩ : ByteArray), (⟨#[42]⟩ : ByteArray), (⟨#[47]⟩ : ByteArray), (⟨#[37]⟩ : ByteArray), (⟨#[61]⟩ : ByteArray), (⟨#[60]⟩ : ByteArray)] t).toList = signOf t := by
    have : t = 0 ∨ t = 1 ∨ t = 2 ∨ t = 3 ∨ t = 4 ∨ t = 5 ∨ t = 6 := by omega
    rcases this with rfl | rfl | rfl | rfl | rfl | rfl | rfl <;> decide +kernel
  rw [refDo_eq k, hop]
  simp only [Option.bind_some]
  have hin := ans_in (signOf t) (a / 2) (b / 2)
  generalize ans (signOf t) (a / 2) (b / 2) = r at *
  obtain ⟨r1, r2⟩ := r
  simp only at hin ⊢
  rw [W_of_in hin]
  have e : wrap64 (wrap64 (2 * r1) + 1) = 2 * r1 + 1 := by unfold wrap64; unfold In at hin; omega
  rw [e]
  split <;> rfl
end Go.Proofs.Ytkmoneccehbncaa.Heap
/- Texts as numbers, plainly: what strs.Pack and strs.Unpack come to. -/
namespace Go.Proofs.Ytkmoneccehbncaa.Heap
open Go.RowKit Go.Proofs.YtkmoneccehbncaaW.PrintWords Go.Proofs.YtkmoneccehbncaaW.PrintLast Go.Proofs.YtkmoneccehbncaaW.PrintMore Go.Proofs.Ytkmoneccehbncaa.Print Go.Proofs.Ytkmoneccehbncaa.Ints
set_option linter.unusedVariables false
set_option linter.unusedSimpArgs false

/-- The number of k bytes from place at on. -/
def low (s : ByteArray) (at_ : Nat) : Nat → Int
  | 0 => 0
  | k + 1 => low s at_ k + bt s ((at_ + k : Nat) : Int) * ((256 ^ k : Nat) : Int)
theorem low_range (s : ByteArray) (a : Nat) : ∀ k, 0 ≤ low s a k ∧ low s a k < ((256 ^ k : Nat) : Int)
  | 0 => by simp [low]
  | k + 1 => by
    have h := low_range s a k
    have hb := bt_range s ((a + k : Nat) : Int)
    rw [low, Nat.pow_succ]
    generalize (256 ^ k : Nat) = P at *
    generalize bt s ((a + k : Nat) : Int) = b at *
    generalize low s a k = n at *
    have h1 : 0 ≤ b * (P : Int) := Int.mul_nonneg hb.1 (by omega)
    have h2 : b * (P : Int) ≤ 255 * P := Int.mul_le_mul_of_nonneg_right hb.2 (by omega)
    constructor <;> omega
/-- The number of words that n bytes take. -/
def chunks (s : ByteArray) (j : Nat) : Nat → List Int
  | 0 => []
  | r + 1 => low s (7 * j) (min 7 (s.size - 7 * j)) :: chunks s (j + 1) r
/-- A text's numbers. -/
def pack (s : ByteArray) : List Int := (s.size : Int) :: chunks s 0 ((s.size + 6) / 7)
theorem chunks_length (s : ByteArray) : ∀ r j, (chunks s j r).length = r
  | 0, _ => rfl
  | r + 1, j => by rw [chunks, List.length_cons, chunks_length s r (j + 1)]
theorem pack_length (s : ByteArray) : (pack s).length = 1 + (s.size + 6) / 7 := by rw [pack, List.length_cons, chunks_length]; omega

theorem or_shl (n b : Int) (k : Nat) (hk : k < 7) (h0 : 0 ≤ n) (h1 : n < ((256 ^ k : Nat) : Int)) (hb : 0 ≤ b ∧ b ≤ 255) : Go.bits .or .i64 n (shl .i64 b (8 * (k : Int))) = n + b * ((256 ^ k : Nat) : Int) := by
  obtain ⟨a, rfl⟩ := Int.eq_ofNat_of_zero_le h0
  obtain ⟨c, rfl⟩ := Int.eq_ofNat_of_zero_le hb.1
  have ha : a < 256 ^ k := by omega
  have hc : c ≤ 255 := by omega
  have hp : (256 ^ k : Nat) = 2 ^ (8 * k) := by rw [Nat.pow_mul]
  have hp7 : 256 ^ k ≤ 256 ^ 6 := Nat.pow_le_pow_right (by decide) (by omega)
  have hcp : c * 256 ^ k ≤ 255 * 256 ^ 6 := Nat.mul_le_mul hc hp7
  have e1 : shl .i64 (c : Int) (8 * (k : Int)) = ((c * 256 ^ k : Nat) : Int) := by
    unfold shl
    have e : (8 * (k : Int)).toNat = 8 * k := by omega
    rw [e, show min (8 * k) (IntKind.bits .i64) = 8 * k from Nat.min_eq_left (by show 8 * k ≤ 64; omega)]
    have e2 : (c : Int) * 2 ^ (8 * k) = ((c * 256 ^ k : Nat) : Int) := by rw [hp]; push_cast; rfl
    rw [e2, IntKind.wrap_i64]
    have h6 : (256 : Nat) ^ 6 = 281474976710656 := by decide
    rw [h6] at hcp
    generalize c * 256 ^ k = q at *
    omega
  rw [e1]
  have h6 : (256 : Nat) ^ 6 = 281474976710656 := by decide
  have e64 : (((2 : Nat) ^ 64 : Nat) : Int) = 18446744073709551616 := by decide
  have hs : ((BitVec.ofInt 64 (a : Int)) ||| (BitVec.ofInt 64 ((c * 256 ^ k : Nat) : Int))).toNat = a + c * 256 ^ k := by
    rw [BitVec.toNat_or, BitVec.toNat_ofInt, BitVec.toNat_ofInt, e64]
    have f1 : ((a : Int) % 18446744073709551616).toNat = a := by rw [h6] at hp7; omega
    have f2 : (((c * 256 ^ k : Nat) : Int) % 18446744073709551616).toNat = c * 256 ^ k := by
      rw [h6] at hcp
      generalize c * 256 ^ k = q at *
      omega
    rw [f1, f2, Nat.or_comm, Nat.mul_comm c, hp, ← Nat.two_pow_add_eq_or_of_lt (by rw [← hp]; exact ha)]
    omega
  show IntKind.i64.wrap (((BitVec.ofInt 64 (a : Int)) ||| (BitVec.ofInt 64 ((c * 256 ^ k : Nat) : Int))).toNat : Int) = _
  rw [hs, IntKind.wrap_i64]
  rw [h6] at hp7 hcp
  have e3 : (c : Int) * ((256 ^ k : Nat) : Int) = ((c * 256 ^ k : Nat) : Int) := (Int.natCast_mul c (256 ^ k)).symm
  rw [e3]
  generalize c * 256 ^ k = q at *
  omega

theorem pack_l1 (s : ByteArray) (x4 : List Int) (j : Nat) (hs : s.size ≤ 60) (e : Nat) (he : e ≤ 7) (hj : 7 * j + e ≤ s.size) (hx : x4.length < 100000) : ∀ (m k i : Nat), e = i + m →
    strs_Pack.l1 (k + m + 1) s x4 ((7 * j : Nat) : Int) (low s (7 * j) i) (e : Int) (i : Int) = strs_Pack.l0 k s (x4 ++ [low s (7 * j) e]) (((7 * (j + 1) : Nat)) : Int)
  | 0, k, i, h => by
    obtain rfl : i = e := by omega
    rw [strs_Pack.l1, if_neg (by omega), if_pos (by omega)]
    have e1 : wrap64 (((7 * j : Nat) : Int) + 7) = ((7 * (j + 1) : Nat) : Int) := by unfold wrap64; omega
    rw [e1]
  | m + 1, k, i, h => by
    have e1 : wrap64 (((7 * j : Nat) : Int) + (i : Int)) = ((7 * j + i : Nat) : Int) := by unfold wrap64; omega
    have e2 : wrap64 (8 * (i : Int)) = 8 * (i : Int) := by unfold wrap64; omega
    have e3 : wrap64 ((i : Int) + 1) = ((i + 1 : Nat) : Int) := by unfold wrap64; omega
    have hb := bt_range s ((7 * j + i : Nat) : Int)
    have e4 : wrap64 (bt s ((7 * j + i : Nat) : Int)) = bt s ((7 * j + i : Nat) : Int) := by
      generalize bt s ((7 * j + i : Nat) : Int) = q at *
      unfold wrap64
      omega
    rw [strs_Pack.l1, if_pos (by omega), e1, if_pos (by omega), if_pos (by omega), e2, if_pos (by omega), e3, e4, or_shl _ _ i (by omega) (low_range s (7 * j) i).1 (low_range s (7 * j) i).2 hb]
    exact pack_l1 s x4 j hs e he hj hx m k (i + 1) (by omega)
theorem pack_l0 (s : ByteArray) (hs : s.size ≤ 60) : ∀ (r k j : Nat) (x4 : List Int), r = (s.size + 6) / 7 - j → x4.length + r ≤ 1000 →
    strs_Pack.l0 (k + 9 * r + 1) s x4 ((7 * j : Nat) : Int) = some (x4 ++ chunks s j r, 0)
  | 0, k, j, x4, h, hx => by
    rw [strs_Pack.l0, if_neg (by omega), chunks, List.append_nil]
  | r + 1, k, j, x4, h, hx => by
    rw [show k + 9 * (r + 1) + 1 = (k + 9 * r + 9) + 1 by omega, strs_Pack.l0, if_pos (by omega)]
    have e0 : wrap64 ((s.size : Int) - ((7 * j : Nat) : Int)) = ((s.size - 7 * j : Nat) : Int) := by unfold wrap64; omega
    have e1 : mn 7 (wrap64 ((s.size : Int) - ((7 * j : Nat) : Int))) = ((min 7 (s.size - 7 * j) : Nat) : Int) := by
      rw [e0]
      unfold mn
      split <;> omega
    rw [e1]
    have h1 := pack_l1 s x4 j hs (min 7 (s.size - 7 * j)) (by omega) (by omega) (by omega) (min 7 (s.size - 7 * j)) (k + 9 * r + 8 - min 7 (s.size - 7 * j)) 0 (by omega)
    rw [show k + 9 * r + 8 - min 7 (s.size - 7 * j) + min 7 (s.size - 7 * j) + 1 = k + 9 * r + 9 by omega] at h1
    have h2 : low s (7 * j) 0 = 0 := rfl
    rw [h2] at h1
    have h3 : ((0 : Nat) : Int) = 0 := rfl
    rw [h3] at h1
    rw [h1]
    rw [show k + 9 * r + 8 - min 7 (s.size - 7 * j) = (k + 7 - min 7 (s.size - 7 * j)) + 9 * r + 1 by omega]
    rw [pack_l0 s hs r _ (j + 1) _ (by omega) (by simp; omega), chunks, List.append_assoc]
    rfl
theorem pack_eq (k : Nat) (s : ByteArray) : strs_Pack.f (k + 90) s = some (if s.size ≤ 60 then (pack s, 0) else ([], 12)) := by
  unfold strs_Pack.f
  by_cases h : s.size ≤ 60
  · rw [if_neg (by omega), if_pos h]
    have h1 := pack_l0 s h ((s.size + 6) / 7) (k + 89 - 9 * ((s.size + 6) / 7)) 0 [(s.size : Int)] (by omega) (by simp; omega)
    rw [show k + 89 - 9 * ((s.size + 6) / 7) + 9 * ((s.size + 6) / 7) + 1 = k + 90 by omega] at h1
    exact h1
  · rw [if_pos (by omega), if_neg h]

/-- The bytes that numbers tell: n of them from place i on. -/
def unb (l : List Int) (i : Nat) : Nat → List Int
  | 0 => []
  | n + 1 => (rd l ((1 + i / 7 : Nat) : Int) / ((256 ^ (i % 7) : Nat) : Int)) % 256 :: unb l (i + 1) n
theorem unb_length (l : List Int) : ∀ n i, (unb l i n).length = n
  | 0, _ => rfl
  | n + 1, i => by rw [unb, List.length_cons, unb_length l n (i + 1)]
/-- Do the numbers have a count that fits? -/
def fits (l : List Int) : Prop := l ≠ [] ∧ 0 ≤ rd l 0 ∧ rd l 0 ≤ 60 ∧ ((rd l 0).toNat + 6) / 7 + 1 = l.length
instance (l : List Int) : Decidable (fits l) := by unfold fits; infer_instance
/-- The text that numbers tell. -/
def textOf (l : List Int) : ByteArray := strOfNums (unb l 0 (rd l 0).toNat)
def unp (l : List Int) : ByteArray × Int := if fits l ∧ pack (textOf l) = l then (textOf l, 0) else (⟨#[]⟩, 1)

theorem equal_l0 (a b : List Int) (hl : a.length = b.length) (hb : a.length ≤ 100000) : ∀ (m k i : Nat), a.length = i + m → (∀ q, q < i → rd a (q : Int) = rd b (q : Int)) →
    slices_Equal_int_int.l0 (k + m + 1) a b (a.length : Int) (i : Int) = some (decide (a = b))
  | 0, k, i, h, hq => by
    rw [slices_Equal_int_int.l0, if_neg (by omega)]
    have : a = b := by
      apply List.ext_getElem hl
      intro q h1 h2
      have := hq q (by omega)
      unfold rd at this
      simp only [Int.toNat_natCast, List.getD_eq_getElem?_getD, List.getElem?_eq_getElem h1, List.getElem?_eq_getElem h2, Option.getD_some] at this
      exact this
    rw [decide_eq_true this]
  | m + 1, k, i, h, hq => by
    rw [slices_Equal_int_int.l0, if_pos (by omega), if_pos (by omega), if_pos (by omega), if_pos (by omega)]
    by_cases he : rd a (i : Int) = rd b (i : Int)
    · rw [if_pos he]
      have e3 : wrap64 ((i : Int) + 1) = ((i + 1 : Nat) : Int) := by unfold wrap64; omega
      rw [e3]
      exact equal_l0 a b hl hb m k (i + 1) (by omega) (fun q hq' => by
        rcases Nat.lt_or_ge q i with h1 | h1
        · exact hq q h1
        · obtain rfl : q = i := by omega
          exact he)
    · rw [if_neg he]
      have : a ≠ b := fun e => he (by rw [e])
      rw [decide_eq_false this]
theorem equal_eq (k : Nat) (a b : List Int) (hb : a.length ≤ 100000) : slices_Equal_int_int.f (k + a.length + 1) a b = some (decide (a = b)) := by
  unfold slices_Equal_int_int.f
  by_cases h : a.length = b.length
  · rw [if_pos (by omega)]
    exact equal_l0 a b h hb a.length k 0 (by omega) (fun q hq => by omega)
  · rw [if_neg (by omega)]
    have : a ≠ b := fun e => h (by rw [e])
    rw [decide_eq_false this]

theorem shr_eq (x : Int) (k : Nat) (hk : k < 7) : shr .i64 x (8 * (k : Int)) = x / ((256 ^ k : Nat) : Int) := by
  unfold shr
  have e : (8 * (k : Int)).toNat = 8 * k := by omega
  rw [e, show min (8 * k) (IntKind.bits .i64) = 8 * k from Nat.min_eq_left (by show 8 * k ≤ 64; omega)]
  have e2 : (256 ^ k : Nat) = 2 ^ (8 * k) := by rw [Nat.pow_mul]
  rw [e2]
  push_cast
  rfl
theorem wr (x : Int) (h0 : 0 ≤ x) (h1 : x ≤ 100000) : wrap64 x = x := by unfold wrap64; omega
theorem td7 (i : Nat) : Int.tdiv (i : Int) 7 = ((i / 7 : Nat) : Int) := rfl
theorem tm7 (i : Nat) : Int.tmod (i : Int) 7 = ((i % 7 : Nat) : Int) := rfl
theorem unp_l0 (l : List Int) (n : Nat) (h3 : n ≤ 60) (h4 : (n + 6) / 7 + 1 = l.length) (m : Nat) : ∀ (q i : Nat) (x4 : List Int), m + 101 ≤ q → n = i + m → x4.length = i →
    strs_Unpack.l0 q l x4 (n : Int) (i : Int) = some (if pack (strOfNums (x4 ++ unb l i m)) = l then (strOfNums (x4 ++ unb l i m), 0) else (⟨#[]⟩, 1)) := by
  induction m with
  | zero =>
    intro q i x4 hq h hx
    obtain ⟨q, rfl⟩ : ∃ p, q = p + 1 := ⟨q - 1, by omega⟩
    have hsz : (strOfNums x4).size ≤ 60 := by rw [strOfNums_size]; omega
    have hp : strs_Pack.f q (strOfNums x4) = some (pack (strOfNums x4), 0) := by
      have := pack_eq (q - 90) (strOfNums x4)
      rw [show q - 90 + 90 = q by omega, if_pos hsz] at this
      exact this
    have hle := pack_length (strOfNums x4)
    have he : slices_Equal_int_int.f q (pack (strOfNums x4)) l = some (decide (pack (strOfNums x4) = l)) := by
      have := equal_eq (q - 1 - (pack (strOfNums x4)).length) (pack (strOfNums x4)) l (by omega)
      rw [show q - 1 - (pack (strOfNums x4)).length + (pack (strOfNums x4)).length + 1 = q by omega] at this
      exact this
    rw [strs_Unpack.l0, if_neg (by omega), unb, List.append_nil, hp]
    simp only [Option.bind_some]
    rw [he]
    simp only [Option.bind_some, decide_eq_true_eq]
    split <;> rfl
  | succ m ih =>
    intro q i x4 hq h hx
    obtain ⟨q, rfl⟩ : ∃ p, q = p + 1 := ⟨q - 1, by omega⟩
    have hi : i < 60 := by omega
    have h7 : i / 7 < 10 := by omega
    have h8 : i % 7 < 7 := by omega
    have e1 : wrap64 (1 + wrap64 (((i / 7 : Nat) : Int))) = ((1 + i / 7 : Nat) : Int) := by
      generalize i / 7 = z at *
      rw [wr (z : Int) (by omega) (by omega), wr _ (by omega) (by omega)]
      omega
    have e2 : wrap64 (8 * ((i % 7 : Nat) : Int)) = 8 * ((i % 7 : Nat) : Int) := by
      generalize i % 7 = z at *
      exact wr _ (by omega) (by omega)
    have e3 : wrap64 ((i : Int) + 1) = ((i + 1 : Nat) : Int) := by
      rw [wr _ (by omega) (by omega)]
      omega
    have g1 : 1 + i / 7 < l.length := by
      rw [← h4]
      clear h4 e1 e2 e3
      omega
    have e0 := td7 i
    have e0' := tm7 i
    rw [strs_Unpack.l0, if_pos (by omega), e0, e0', e1, e2, e3, if_pos (Int.natCast_nonneg _), if_pos (Int.ofNat_lt.2 g1), if_pos (by generalize i % 7 = z; omega), if_pos (by rw [hx]; exact Nat.lt_trans hi (by decide)), shr_eq _ _ h8]
    rw [ih q (i + 1) _ (by omega) (by omega) (by simp; omega), unb, List.append_assoc]
    rfl
theorem unp_eq (k : Nat) (l : List Int) (hl : l.length ≤ 100000) : strs_Unpack.f (k + 163) l = some (unp l) := by
  unfold strs_Unpack.f unp
  have hj : ∀ c, strs_Unpack.j0 (k + 163) l c = if c = true then (some ((⟨#[]⟩ : ByteArray), 1)) else (if 0 < (l.length : Int) then (strs_Unpack.l0 (k + 162) l ([] : List Int) (rd l 0) 0) else (none)) := fun c => by rw [strs_Unpack.j0]
  rw [hj, hj, if_pos rfl]
  by_cases h0 : l.length = 0
  · have : ¬ fits l := fun h => h.1 (List.length_eq_zero_iff.1 h0)
    rw [if_pos (by omega), if_neg (fun h => this h.1)]
  rw [if_neg (by omega), if_pos (by omega)]
  by_cases h1 : rd l 0 < 0
  · have : ¬ fits l := fun h => by have := h.2.1; omega
    rw [if_pos h1, if_neg (fun h => this h.1)]
  rw [if_neg h1]
  by_cases h2 : rd l 0 > 60
  · have : ¬ fits l := fun h => by have := h.2.2.1; omega
    rw [if_pos h2, if_neg (fun h => this h.1)]
  rw [if_neg h2]
  have e1 : wrap64 (wrap64 (rd l 0 + 7) - 1) = rd l 0 + 6 := by unfold wrap64; omega
  have e2 : wrap64 ((l.length : Int) - 1) = (l.length : Int) - 1 := by unfold wrap64; omega
  have e3 : wrap64 ((rd l 0 + 6).tdiv 7) = (((rd l 0).toNat + 6) / 7 : Nat) := by
    rw [Int.tdiv_eq_ediv_of_nonneg (by omega)]
    unfold wrap64
    omega
  rw [e1, e2, e3]
  by_cases h3 : ((((rd l 0).toNat + 6) / 7 : Nat) : Int) = (l.length : Int) - 1
  · have hf : fits l := ⟨fun h => h0 (by rw [h]; rfl), by omega, by omega, by omega⟩
    rw [bne_eq_false_iff_eq.2 h3, if_neg (by decide), if_pos (by omega)]
    have h4 := unp_l0 l (rd l 0).toNat (by omega) (by omega) (rd l 0).toNat (k + 162) 0 [] (by omega) (by omega) rfl
    rw [show (((rd l 0).toNat : Nat) : Int) = rd l 0 by omega] at h4
    have h5 : ((0 : Nat) : Int) = 0 := rfl
    rw [h5] at h4
    rw [h4, List.nil_append]
    show some (if pack (textOf l) = l then (textOf l, 0) else _) = _
    by_cases h6 : pack (textOf l) = l
    · rw [if_pos h6, if_pos ⟨hf, h6⟩]
    · rw [if_neg h6, if_neg (fun h => h6 h.2)]
  · have : ¬ fits l := fun h => h3 (by have := h.2.2.2; omega)
    rw [bne_iff_ne.2 h3, if_pos rfl, if_neg (fun h => this h.1)]
end Go.Proofs.Ytkmoneccehbncaa.Heap
/- prims over the heap of layer 2 in memory: Str, Join, Case; no condition but what each theorem states. -/
namespace Go.Proofs.Ytkmoneccehbncaa.Heap
open Go.RowKit Go.Proofs.YtkmoneccehbncaaW.PrintWords Go.Proofs.YtkmoneccehbncaaW.PrintLast Go.Proofs.YtkmoneccehbncaaW.PrintMore Go.Proofs.Ytkmoneccehbncaa.Print Go.Proofs.Ytkmoneccehbncaa.Ints
set_option linter.unusedVariables false
set_option linter.unusedSimpArgs false

/-- What Str tells of a word. -/
def PH.str (H : PH) (z : Int) : ByteArray × Int := if H.tag z = 201 then (if (unp (H.fields (H.place z))).2 = 0 then ((unp (H.fields (H.place z))).1, 0) else (⟨#[]⟩, 4)) else (⟨#[]⟩, 4)
theorem unp_two (l : List Int) : (unp l).2 = 0 ∨ (unp l).2 = 1 := by
  unfold unp
  split
  · exact .inl rfl
  · exact .inr rfl

set_option maxHeartbeats 4000000 in
set_option maxRecDepth 100000 in
theorem str_calls (g b m : Nat) (H : PH) (z : Int) (W : World) (h : At W g b m H) (hw : H.Wf) :
    Calls Try.prog 25 #[.pointer (some ⟨g, 0, none⟩), .int .i64 z] W fun e w' => e = .returned (.tuple #[.string (H.str z).1, .int .i64 (H.str z).2]) ∧ Below W.heap.size W w' := by
  have HF := Aside0.mk (fun W h => fields_calls g b m H z W h hw)
  have HT := Aside0.mk (tag_calls g b m H z W h (fun hp => by have := hw.blk _ (PH.place_mem (H := H) (z := z) hp); omega))
  have HH := Aside0.mk h
  have hlen := H.fields_len (H.place z) hw.len
  unfold PH.str
  have et : (if H.place z = 0 then -1 else (rd H.ws (H.place z)).tmod 256) = H.tag z := rfl
  rw [et] at HT
  clear et h hw
  generalize H.tag z = t at *
  generalize H.fields (H.place z) = f at *
  by_cases ht : t = 201
  · subst ht
    rw [if_pos rfl]
    have hu := unp_eq 0 f hlen
    have h2 := unp_two f
    clear hlen
    generalize unp f = r at *
    obtain ⟨r1, r2⟩ := r
    have HU := Aside0.mk hu
    clear hu
    rcases h2 with h2 | h2
    · simp only at h2
      subst h2
      rw [if_pos rfl]
      go_enter Try.func25, Try.ntmps25
      go_wp2_with (first | (go_at_call 55; (with_reducible refine HT.out.mono ?_); rintro e w1 ⟨rfl, hd⟩; have HA := Aside0.mk (at_drawn HH.out hd); have HD := Aside0.mk (below_drawn (Below.refl W.heap.size W) hd); clear hd) | (go_at_call 20; (with_reducible refine (HF.out _ HA.out).mono ?_); rintro e w2 ⟨v, rfl, ho, hb⟩; obtain ⟨A, c, rfl, _, hc, hr, _⟩ := own_facts ho; have HB := Aside0.mk (below_then HD.out HD.out.size hb); have HR := Aside0.mk hr; have HC := Aside0.mk hc; clear ho hb hc hr) | (go_at_call 56; (refine (strs_Unpack.calls _ A c f r1 0 _ (C_of HR.out) HC.out HU.out).mono ?_); rintro e w3 ⟨rfl, hb⟩; have HB2 := Aside0.mk (below_then HB.out HB.out.size hb); clear hb))
      go_ret2
      exact ⟨rfl, HB2.out⟩
    · simp only at h2
      subst h2
      rw [if_neg (show ¬ (1 : Int) = 0 by decide)]
      go_enter Try.func25, Try.ntmps25
      go_wp2_with (first | (go_at_call 55; (with_reducible refine HT.out.mono ?_); rintro e w1 ⟨rfl, hd⟩; have HA := Aside0.mk (at_drawn HH.out hd); have HD := Aside0.mk (below_drawn (Below.refl W.heap.size W) hd); clear hd) | (go_at_call 20; (with_reducible refine (HF.out _ HA.out).mono ?_); rintro e w2 ⟨v, rfl, ho, hb⟩; obtain ⟨A, c, rfl, _, hc, hr, _⟩ := own_facts ho; have HB := Aside0.mk (below_then HD.out HD.out.size hb); have HR := Aside0.mk hr; have HC := Aside0.mk hc; clear ho hb hc hr) | (go_at_call 56; (refine (strs_Unpack.calls _ A c f r1 1 _ (C_of HR.out) HC.out HU.out).mono ?_); rintro e w3 ⟨rfl, hb⟩; have HB2 := Aside0.mk (below_then HB.out HB.out.size hb); clear hb))
      go_ret2
      exact ⟨rfl, HB2.out⟩
  · rw [if_neg ht]
    have n1 : (t != 201) = true := bne_iff_ne.2 ht
    have n2 : (t == 201) = false := beq_eq_false_iff_ne.2 ht
    clear ht
    go_enter Try.func25, Try.ntmps25
    go_wp2_with (go_at_call 55; (with_reducible refine HT.out.mono ?_); rintro e w1 ⟨rfl, hd⟩; have HD := Aside0.mk (below_drawn (Below.refl W.heap.size W) hd); clear hd)
    go_ret2
    exact ⟨rfl, HD.out⟩

/-- What Join hands back, and the heap behind it. -/
def PH.textS (H : PH) (s : ByteArray) : Int × Int × PH := if s.size ≤ 60 then H.text (pack s) 0 else H.text [] 12
theorem textS_calls (g b m : Nat) (H : PH) (s : ByteArray) (W : World) (h : At W g b m H) (hw : H.Wf) :
    Calls Try.prog 23 #[.pointer (some ⟨g, 0, none⟩), .string s] W fun e' w' => e' = .returned (.tuple #[.int .i64 (H.textS s).1, .int .i64 (H.textS s).2.1]) ∧
      At w' g b m (H.textS s).2.2 ∧ Chg (fun k => k = g ∨ k = b ∨ k = m) W w' := by
  have hp := pack_eq 0 s
  unfold PH.textS
  by_cases h0 : s.size ≤ 60
  · rw [if_pos h0] at hp ⊢
    exact text_calls g b m H s _ (pack s) 0 W h hw (by rw [pack_length]; omega) hp
  · rw [if_neg h0] at hp ⊢
    exact text_calls g b m H s _ [] 12 W h hw (by decide) hp
theorem PH.textS_wf {H : PH} (h : H.Wf) (s : ByteArray) : (H.textS s).2.2.Wf := by
  unfold PH.textS
  split <;> exact PH.text_wf h _ _
def PH.join (H : PH) (x y : Int) : Int × Int × PH :=
  if (H.str x).2 = 0 then (if (H.str y).2 = 0 then (if (H.str x).1.size + (H.str y).1.size ≤ 60 then H.textS ((H.str x).1 ++ (H.str y).1) else (0, 12, H)) else (0, (H.str y).2, H)) else (0, (H.str x).2, H)
theorem PH.join_wf {H : PH} (h : H.Wf) (x y : Int) : (H.join x y).2.2.Wf := by
  unfold PH.join
  repeat' split
  all_goals first | exact h | exact PH.textS_wf h _
theorem join_eq (a b : ByteArray) : strs_Join.f a b = some (if a.size + b.size ≤ 60 then (a ++ b, 0) else (⟨#[]⟩, 12)) := by
  unfold strs_Join.f
  by_cases h1 : (a.size : Int) > 60
  · rw [if_pos h1, if_neg (by omega)]
  · rw [if_neg h1]
    have e : wrap64 (60 - (a.size : Int)) = 60 - (a.size : Int) := by unfold wrap64; omega
    rw [e]
    by_cases h2 : (b.size : Int) > 60 - (a.size : Int)
    · rw [if_pos h2, if_neg (by omega)]
    · rw [if_neg h2, if_pos (by omega), if_pos (by omega)]

set_option maxHeartbeats 4000000 in
set_option maxRecDepth 100000 in
theorem join_calls (g b m : Nat) (H : PH) (x y : Int) (W : World) (h : At W g b m H) (hw : H.Wf) :
    Calls Try.prog 24 #[.pointer (some ⟨g, 0, none⟩), .int .i64 x, .int .i64 y] W fun e' w' => e' = .returned (.tuple #[.int .i64 (H.join x y).1, .int .i64 (H.join x y).2.1]) ∧
      At w' g b m (H.join x y).2.2 ∧ Chg (fun k => k = g ∨ k = b ∨ k = m) W w' := by
  have HX := Aside0.mk (fun W h => str_calls g b m H x W h hw)
  have HY := Aside0.mk (fun W h => str_calls g b m H y W h hw)
  have HT := Aside0.mk (fun s W h => textS_calls g b m H s W h hw)
  have HH := Aside0.mk h
  clear h
  unfold PH.join
  generalize H.str x = r at *
  generalize H.str y = q at *
  obtain ⟨s, e⟩ := r
  obtain ⟨t, f⟩ := q
  simp only at HX HY ⊢
  by_cases h0 : e = 0
  · subst h0
    rw [if_pos rfl]
    by_cases h1 : f = 0
    · subst h1
      rw [if_pos rfl]
      have hj := join_eq s t
      by_cases h2 : s.size + t.size ≤ 60
      · rw [if_pos h2] at hj ⊢
        have HJ := Aside0.mk hj
        clear hj h2
        go_enter Try.func24, Try.ntmps24
        go_wp2_with (first | (go_at_call 25; (with_reducible refine (HX.out _ HH.out).mono ?_); rintro e w1 ⟨rfl, hb⟩; have HA := Aside0.mk (HH.out.below hb); have HB := Aside0.mk hb; clear hb; clear HX) | (go_at_call 25; (with_reducible refine (HY.out _ HA.out).mono ?_); rintro e w2 ⟨rfl, hb⟩; have HA2 := Aside0.mk (HA.out.below hb); have HB2 := Aside0.mk (below_then HB.out HB.out.size hb); clear hb HY) | (go_at_call 54; (with_reducible refine (strs_Join.calls s t (s ++ t) 0 _ HJ.out).mono ?_); rintro e w3 ⟨rfl, hd⟩; have HA3 := Aside0.mk (at_drawn HA2.out hd); have HB3 := Aside0.mk (below_drawn HB2.out hd); clear hd) | (go_at_call 23; (with_reducible refine (HT.out (s ++ t) _ HA3.out).mono ?_); rintro e w4 ⟨rfl, ha, hc⟩; have HA4 := Aside0.mk ha; have HC4 := Aside0.mk hc; clear ha hc))
        go_ret2
        exact ⟨rfl, HA4.out, (Chg.of_below _ HB3.out).trans HC4.out⟩
      · rw [if_neg h2] at hj ⊢
        have HJ := Aside0.mk hj
        clear hj h2
        go_enter Try.func24, Try.ntmps24
        go_wp2_with (first | (go_at_call 25; (with_reducible refine (HX.out _ HH.out).mono ?_); rintro e w1 ⟨rfl, hb⟩; have HA := Aside0.mk (HH.out.below hb); have HB := Aside0.mk hb; clear hb; clear HX) | (go_at_call 25; (with_reducible refine (HY.out _ HA.out).mono ?_); rintro e w2 ⟨rfl, hb⟩; have HA2 := Aside0.mk (HA.out.below hb); have HB2 := Aside0.mk (below_then HB.out HB.out.size hb); clear hb HY) | (go_at_call 54; (with_reducible refine (strs_Join.calls s t ⟨#[]⟩ 12 _ HJ.out).mono ?_); rintro e w3 ⟨rfl, hd⟩; have HA3 := Aside0.mk (at_drawn HA2.out hd); have HB3 := Aside0.mk (below_drawn HB2.out hd); clear hd))
        go_ret2
        exact ⟨rfl, HA3.out, Chg.of_below _ HB3.out⟩
    · rw [if_neg h1]
      have n1 : (f != 0) = true := bne_iff_ne.2 h1
      have n2 : (f == 0) = false := beq_eq_false_iff_ne.2 h1
      clear h1
      go_enter Try.func24, Try.ntmps24
      go_wp2_with (first | (go_at_call 25; (with_reducible refine (HX.out _ HH.out).mono ?_); rintro e w1 ⟨rfl, hb⟩; have HA := Aside0.mk (HH.out.below hb); have HB := Aside0.mk hb; clear hb; clear HX) | (go_at_call 25; (with_reducible refine (HY.out _ HA.out).mono ?_); rintro e w2 ⟨rfl, hb⟩; have HA2 := Aside0.mk (HA.out.below hb); have HB2 := Aside0.mk (below_then HB.out HB.out.size hb); clear hb HY))
      go_ret2
      exact ⟨rfl, HA2.out, Chg.of_below _ HB2.out⟩
  · rw [if_neg h0]
    have n1 : (e != 0) = true := bne_iff_ne.2 h0
    have n2 : (e == 0) = false := beq_eq_false_iff_ne.2 h0
    clear h0
    go_enter Try.func24, Try.ntmps24
    go_wp2_with (go_at_call 25; (with_reducible refine (HX.out _ HH.out).mono ?_); rintro e w1 ⟨rfl, hb⟩; have HA := Aside0.mk (HH.out.below hb); have HB := Aside0.mk hb; clear hb; clear HX)
    go_ret2
    exact ⟨rfl, HA.out, Chg.of_below _ HB.out⟩
end Go.Proofs.Ytkmoneccehbncaa.Heap
/- The heap of layer 2, plainly: a list of blocks, each a tag and its fields; what is made, and what is told of it. -/
namespace Go.Proofs.Ytkmoneccehbncaa.Heap
open Go.RowKit Go.Proofs.YtkmoneccehbncaaW.PrintWords Go.Proofs.YtkmoneccehbncaaW.PrintLast Go.Proofs.YtkmoneccehbncaaW.PrintMore Go.Proofs.Ytkmoneccehbncaa.Print Go.Proofs.Ytkmoneccehbncaa.Ints
set_option linter.unusedVariables false
set_option linter.unusedSimpArgs false

/-- Blocks, from place a on: the block that word z points to. -/
def findB : Int → List (Int × List Int) → Int → Option (Int × List Int)
  | _, [], _ => none
  | a, x :: r, z => if z = 2 * a then some x else findB (a + 1 + x.2.length) r z
/-- The place behind the blocks. -/
def topB : Int → List (Int × List Int) → Int
  | a, [] => a
  | a, x :: r => topB (a + 1 + x.2.length) r
theorem topB_le : ∀ (bl : List (Int × List Int)) (a : Int), a ≤ topB a bl
  | [], a => Int.le_refl a
  | x :: r, a => by have := topB_le r (a + 1 + x.2.length); rw [topB]; omega
theorem topB_append (x : Int × List Int) : ∀ (bl : List (Int × List Int)) (a : Int), topB a (bl ++ [x]) = topB a bl + 1 + x.2.length
  | [], a => rfl
  | y :: r, a => by rw [List.cons_append, topB, topB, topB_append x r]
theorem findB_some {y : Int × List Int} {z : Int} : ∀ {bl : List (Int × List Int)} {a : Int}, findB a bl z = some y → ∃ q, z = 2 * q ∧ a ≤ q ∧ q + 1 + y.2.length ≤ topB a bl
  | [], a, h => by cases h
  | x :: r, a, h => by
    rw [findB] at h
    have ht := topB_le r (a + 1 + x.2.length)
    by_cases h1 : z = 2 * a
    · rw [if_pos h1] at h
      cases h
      exact ⟨a, h1, Int.le_refl _, by rw [topB]; omega⟩
    · rw [if_neg h1] at h
      obtain ⟨q, e, h2, h3⟩ := findB_some h
      exact ⟨q, e, by omega, by rw [topB]; exact h3⟩
theorem findB_append (x : Int × List Int) (z : Int) : ∀ (bl : List (Int × List Int)) (a : Int), findB a (bl ++ [x]) z = (findB a bl z).or (if z = 2 * topB a bl then some x else none)
  | [], a => by rw [List.nil_append, findB, findB, findB, topB]; rfl
  | y :: r, a => by
    rw [List.cons_append, findB, findB, topB]
    by_cases h : z = 2 * a
    · rw [if_pos h, if_pos h]; rfl
    · rw [if_neg h, if_neg h]
      exact findB_append x z r (a + 1 + y.2.length)

/-- May word z stand? -/
def mayB (bl : List (Int × List Int)) (z : Int) : Bool := decide (¬ z % 2 = 0) || (findB 1 bl z).isSome
def oddB (bl : List (Int × List Int)) (tag : Int) (l : List Int) : Bool := decide (tag < 0) || decide (201 < tag) || decide (60 < l.length) || (decide (tag ≠ 201) && l.any (fun z => !mayB bl z))
/-- A block is made, with room for n words. -/
def makeB (n : Int) (bl : List (Int × List Int)) (tag : Int) (l : List Int) : Int × Int × List (Int × List Int) :=
  if oddB bl tag l = true then (0, 1, bl) else if n < topB 1 bl + l.length then (0, 2, bl) else (2 * topB 1 bl, 0, bl ++ [(tag, l)])

/-- The heap's words lay these blocks. -/
structure Lays (H : PH) (n : Int) (bl : List (Int × List Int)) : Prop where
  wf : H.Wf
  room : (H.ws.length : Int) = n + 1
  top : H.top = topB 1 bl
  no : ∀ z, findB 1 bl z = none → H.place z = 0
  yes : ∀ z y, findB 1 bl z = some y → H.place z = z / 2 ∧ z / 2 ∈ H.ks ∧ 0 ≤ y.1 ∧ y.1 ≤ 201 ∧ rd H.ws (z / 2) = y.2.length * 256 + y.1 ∧ H.fields (z / 2) = y.2
theorem Lays.place_pos {H : PH} {n : Int} {bl : List (Int × List Int)} (h : Lays H n bl) (z : Int) : decide (0 < H.place z) = (findB 1 bl z).isSome := by
  cases hf : findB 1 bl z with
  | none => rw [h.no z hf]; rfl
  | some y =>
    obtain ⟨e, hk, _⟩ := h.yes z y hf
    have := h.wf.blk _ hk
    rw [e, decide_eq_true (by omega)]
    rfl
theorem Lays.odd {H : PH} {n : Int} {bl : List (Int × List Int)} (h : Lays H n bl) (tag : Int) (l : List Int) : H.odd tag l = oddB bl tag l := by
  unfold PH.odd oddB
  have e : (fun z => !H.may z) = fun z => !mayB bl z := by
    funext z
    unfold PH.may mayB
    rw [h.place_pos z]
  rw [e]
theorem Lays.tag {H : PH} {n : Int} {bl : List (Int × List Int)} (h : Lays H n bl) (z : Int) : H.tag z = match findB 1 bl z with | none => -1 | some y => y.1 := by
  unfold PH.tag
  cases hf : findB 1 bl z with
  | none => rw [h.no z hf]; rfl
  | some y =>
    obtain ⟨e, hk, h0, h1, hr, _⟩ := h.yes z y hf
    have := h.wf.blk _ hk
    rw [e, if_neg (by omega), hr, Int.tmod_eq_emod_of_nonneg (by omega)]
    show _ = y.1
    omega
theorem Lays.fields {H : PH} {n : Int} {bl : List (Int × List Int)} (h : Lays H n bl) (z : Int) : H.fields (H.place z) = match findB 1 bl z with | none => [] | some y => y.2 := by
  cases hf : findB 1 bl z with
  | none => rw [h.no z hf]; rfl
  | some y =>
    obtain ⟨e, hk, h0, h1, hr, hfi⟩ := h.yes z y hf
    rw [e, hfi]
theorem Lays.new (n : Nat) (h : n ≤ 65536) : Lays (PH.new n) n [] := by
  refine ⟨PH.new_wf n h, ?_, rfl, fun z _ => ?_, fun z y hf => by cases hf⟩
  · simp [PH.new]
  · unfold PH.place PH.new
    simp
theorem laid_take (ws : List Int) (t : Nat) (hdr : Int) (l : List Int) (p n : Nat) (h : p + n ≤ t) (ht : t ≤ ws.length) : ((laid ws t hdr l).drop p).take n = (ws.drop p).take n := by
  rw [List.take_drop, List.take_drop]
  congr 1
  unfold laid
  rw [List.append_assoc, List.take_append_of_le_length (by simp; omega), List.take_take]
  congr 1
  omega
theorem laid_at (ws : List Int) (t : Nat) (hdr : Int) (l : List Int) (ht : t ≤ ws.length) : ((laid ws t hdr l).drop (t + 1)).take l.length = l := by
  unfold laid
  have e : ws.take t ++ hdr :: l ++ ws.drop (t + 1 + l.length) = (ws.take t ++ [hdr]) ++ (l ++ ws.drop (t + 1 + l.length)) := by simp
  rw [e, List.drop_left' (by simp; omega), List.take_left' rfl]
theorem Lays.make {H : PH} {n : Int} {bl : List (Int × List Int)} (h : Lays H n bl) (tag : Int) (l : List Int) :
    (H.make tag l).1 = (makeB n bl tag l).1 ∧ (H.make tag l).2.1 = (makeB n bl tag l).2.1 ∧ Lays (H.make tag l).2.2 n (makeB n bl tag l).2.2 := by
  have hwf := PH.make_wf h.wf tag l
  have ho := h.odd tag l
  revert hwf
  unfold PH.make makeB
  rw [ho]
  by_cases h1 : oddB bl tag l = true
  · rw [if_pos h1, if_pos h1]
    exact fun _ => ⟨rfl, rfl, h⟩
  rw [if_neg h1, if_neg h1]
  have hodd := PH.odd_not (H := H) (tag := tag) (l := l) (by rw [ho]; exact h1)
  have hr := h.room
  have htop := h.top
  by_cases h2 : n < topB 1 bl + l.length
  · rw [if_pos (by omega), if_pos h2]
    exact fun _ => ⟨rfl, rfl, h⟩
  rw [if_neg (by omega), if_neg h2]
  intro hwf
  have t1 := h.wf.top1
  have t2 := h.wf.top2
  obtain ⟨t, ht⟩ := Int.eq_ofNat_of_zero_le (show 0 ≤ H.top by omega)
  have e1 : H.top.toNat = t := by omega
  have hf : t + 1 + l.length ≤ H.ws.length := by omega
  refine ⟨by rw [htop], rfl, hwf, ?_, ?_, ?_, ?_⟩
  · show (((laid H.ws H.top.toNat (l.length * 256 + tag) l).length : Nat) : Int) = n + 1
    rw [e1, laid_length _ _ _ _ hf]
    exact hr
  · show H.top + 1 + l.length = _
    rw [topB_append, htop]
  · intro z hz
    rw [findB_append] at hz
    have hz1 : findB 1 bl z = none := by
      cases hq : findB 1 bl z with
      | none => rfl
      | some y => rw [hq] at hz; cases hz
    rw [hz1] at hz
    have hz2 : ¬ z = 2 * topB 1 bl := fun e => by rw [if_pos e] at hz; cases hz
    have h0 := h.no z hz1
    show (if z ≤ 0 then (0 : Int) else if z % 2 = 0 then (if z / 2 ∈ H.ks ++ [H.top] then z / 2 else 0) else 0) = 0
    unfold PH.place at h0
    by_cases a1 : z ≤ 0
    · rw [if_pos a1]
    · rw [if_neg a1] at h0 ⊢
      by_cases a2 : z % 2 = 0
      · rw [if_pos a2] at h0 ⊢
        have a3 : ¬ z / 2 ∈ H.ks := fun a3 => by rw [if_pos a3] at h0; omega
        rw [if_neg]
        intro a4
        rcases List.mem_append.1 a4 with a5 | a5
        · exact a3 a5
        · have := List.mem_singleton.1 a5
          omega
      · rw [if_neg a2]
  · intro z y hz
    rw [findB_append] at hz
    show (if z ≤ 0 then (0 : Int) else if z % 2 = 0 then (if z / 2 ∈ H.ks ++ [H.top] then z / 2 else 0) else 0) = z / 2 ∧ z / 2 ∈ H.ks ++ [H.top] ∧ 0 ≤ y.1 ∧ y.1 ≤ 201 ∧ rd (laid H.ws H.top.toNat (l.length * 256 + tag) l) (z / 2) = y.2.length * 256 + y.1 ∧
      (if z / 2 = 0 then [] else ((laid H.ws H.top.toNat (l.length * 256 + tag) l).drop ((z / 2).toNat + 1)).take (rd (laid H.ws H.top.toNat (l.length * 256 + tag) l) (z / 2) / 256).toNat) = y.2
    rw [e1]
    have hpl : ∀ z, 0 < z → z % 2 = 0 → z / 2 ∈ H.ks ++ [H.top] → (if z ≤ 0 then (0 : Int) else if z % 2 = 0 then (if z / 2 ∈ H.ks ++ [H.top] then z / 2 else 0) else 0) = z / 2 := fun z b1 b2 b3 => by
      rw [if_neg (by omega), if_pos b2, if_pos b3]
    cases hq : findB 1 bl z with
    | some y' =>
      rw [hq] at hz
      obtain rfl : y' = y := by cases hz; rfl
      obtain ⟨c1, c2, c3, c4, c5, c6⟩ := h.yes z y' hq
      obtain ⟨q, rfl, q1, q2⟩ := findB_some hq
      have hq0 : 2 * q / 2 = q := by omega
      rw [hq0] at c1 c2 c5 c6 ⊢
      have hm : q ∈ H.ks ++ [H.top] := List.mem_append_left _ c2
      refine ⟨?_, hm, c3, c4, ?_⟩
      · have := hpl (2 * q) (by omega) (by omega) (by rw [hq0]; exact hm)
        rw [hq0] at this
        exact this
      · obtain ⟨b1, b2, b3, b4⟩ := h.wf.blk' q c2
        obtain ⟨p, rfl⟩ := Int.eq_ofNat_of_zero_le (show 0 ≤ q by omega)
        rw [rd_laid_lt _ _ _ _ _ (by omega) (by omega)]
        refine ⟨c5, ?_⟩
        unfold PH.fields at c6
        rw [laid_take _ _ _ _ _ _ (by rw [Int.toNat_natCast]; omega) (by omega)]
        exact c6
    | none =>
      rw [hq] at hz
      have hz2 : z = 2 * topB 1 bl := by
        by_cases e : z = 2 * topB 1 bl
        · exact e
        · simp [e] at hz
      rw [if_pos hz2] at hz
      obtain rfl : (tag, l) = y := by cases hz; rfl
      have hq0 : z / 2 = (t : Int) := by omega
      have hm : z / 2 ∈ H.ks ++ [H.top] := List.mem_append_right _ (List.mem_singleton.2 (by omega))
      refine ⟨hpl z (by omega) (by omega) hm, hm, hodd.1, hodd.2.1, ?_⟩
      rw [hq0, rd_laid_at _ _ _ _ (by omega), if_neg (by omega), Int.toNat_natCast, show ((l.length * 256 + tag) / 256).toNat = l.length by omega]
      exact ⟨rfl, laid_at _ _ _ _ (by omega)⟩
end Go.Proofs.Ytkmoneccehbncaa.Heap
/- Texts that are told again; what Text, Str and Join come to over a list of blocks. -/
namespace Go.Proofs.Ytkmoneccehbncaa.Heap
open Go.RowKit Go.Proofs.YtkmoneccehbncaaW.PrintWords Go.Proofs.YtkmoneccehbncaaW.PrintLast Go.Proofs.YtkmoneccehbncaaW.PrintMore Go.Proofs.Ytkmoneccehbncaa.Print Go.Proofs.Ytkmoneccehbncaa.Ints
set_option linter.unusedVariables false
set_option linter.unusedSimpArgs false

theorem low_byte (s : ByteArray) (a : Nat) : ∀ (k i : Nat), i < k → low s a k / ((256 ^ i : Nat) : Int) % 256 = bt s ((a + i : Nat) : Int)
  | 0, i, h => by omega
  | k + 1, i, h => by
    rw [low]
    have hp : 0 < 256 ^ i := Nat.pow_pos (by decide)
    rcases Nat.lt_or_ge i k with h1 | h1
    · have ih := low_byte s a k i h1
      obtain ⟨d, rfl⟩ : ∃ d, k = i + 1 + d := ⟨k - i - 1, by omega⟩
      have e : ((256 ^ (i + 1 + d) : Nat) : Int) = ((256 ^ i : Nat) : Int) * (256 * ((256 ^ d : Nat) : Int)) := by
        rw [Nat.pow_add, Nat.pow_succ]
        generalize 256 ^ i = x
        generalize 256 ^ d = y
        rw [Int.natCast_mul, Int.natCast_mul, Int.mul_assoc]
        rfl
      rw [e]
      generalize bt s ((a + (i + 1 + d) : Nat) : Int) = b
      have e2 : b * (((256 ^ i : Nat) : Int) * (256 * ((256 ^ d : Nat) : Int))) = ((256 ^ i : Nat) : Int) * (256 * (b * ((256 ^ d : Nat) : Int))) := by
        generalize ((256 ^ i : Nat) : Int) = x
        generalize ((256 ^ d : Nat) : Int) = y
        rw [Int.mul_left_comm, Int.mul_left_comm b]
      rw [e2, Int.add_mul_ediv_left _ _ (by omega)]
      omega
    · obtain rfl : i = k := by omega
      have hl := low_range s a i
      have hb := bt_range s ((a + i : Nat) : Int)
      rw [Int.add_mul_ediv_right _ _ (by omega), Int.ediv_eq_zero_of_lt hl.1 hl.2]
      omega
theorem chunks_get (s : ByteArray) : ∀ (r j i : Nat), i < r → (chunks s j r).getD i 0 = low s (7 * (j + i)) (min 7 (s.size - 7 * (j + i)))
  | 0, j, i, h => by omega
  | r + 1, j, 0, h => by rw [chunks]; rfl
  | r + 1, j, i + 1, h => by
    rw [chunks, List.getD_cons_succ, chunks_get s r (j + 1) i (by omega), show j + 1 + i = j + (i + 1) by omega]
theorem rd_pack (s : ByteArray) (j : Nat) (h : 7 * j < s.size) : rd (pack s) ((1 + j : Nat) : Int) = low s (7 * j) (min 7 (s.size - 7 * j)) := by
  unfold rd pack
  rw [Int.toNat_natCast, show 1 + j = j + 1 by omega, List.getD_cons_succ, chunks_get s _ 0 j (by omega), show 0 + j = j by omega]
theorem rd_pack0 (s : ByteArray) : rd (pack s) 0 = s.size := rfl
theorem unb_get (l : List Int) : ∀ (n i k : Nat), k < n → (unb l i n).getD k 0 = (rd l ((1 + (i + k) / 7 : Nat) : Int) / ((256 ^ ((i + k) % 7) : Nat) : Int)) % 256
  | 0, i, k, h => by omega
  | n + 1, i, 0, h => by rw [unb]; rfl
  | n + 1, i, k + 1, h => by
    rw [unb, List.getD_cons_succ, unb_get l n (i + 1) k (by omega), show i + 1 + k = i + (k + 1) by omega]
theorem textOf_pack (s : ByteArray) : textOf (pack s) = s := by
  unfold textOf
  rw [rd_pack0, Int.toNat_natCast]
  have e : unb (pack s) 0 s.size = s.data.toList.map fun x => (x.toNat : Int) := by
    apply List.ext_getElem
    · rw [unb_length, List.length_map]; rfl
    · intro i h1 h2
      rw [unb_length] at h1
      have h3 := unb_get (pack s) s.size 0 i h1
      rw [List.getD_eq_getElem?_getD, List.getElem?_eq_getElem (by rw [unb_length]; exact h1), Option.getD_some, show 0 + i = i by omega, rd_pack s (i / 7) (by omega)] at h3
      rw [h3, low_byte s _ _ _ (by omega), show 7 * (i / 7) + i % 7 = i by omega]
      unfold bt
      rw [dif_pos (by rw [Int.toNat_natCast]; exact h1)]
      rw [List.getElem_map]
      congr 1
  rw [e]
  apply ByteArray.ext
  apply Array.toList_inj.1
  rw [strOfNums_data, List.map_map]
  have e2 : ((fun n : Int => UInt8.ofNat n.toNat) ∘ fun x : UInt8 => (x.toNat : Int)) = id := by
    funext x
    simp
  rw [e2, List.map_id]
theorem unp_pack (s : ByteArray) (h : s.size ≤ 60) : unp (pack s) = (s, 0) := by
  unfold unp
  have hf : fits (pack s) := ⟨by unfold pack; simp, by rw [rd_pack0]; omega, by rw [rd_pack0]; omega, by rw [rd_pack0, pack_length, Int.toNat_natCast]; omega⟩
  rw [textOf_pack, if_pos ⟨hf, rfl⟩]

/-- Str, Text and Join over a list of blocks. -/
def strB (bl : List (Int × List Int)) (z : Int) : ByteArray × Int :=
  match findB 1 bl z with
  | none => (⟨#[]⟩, 4)
  | some y => if y.1 = 201 then (if (unp y.2).2 = 0 then ((unp y.2).1, 0) else (⟨#[]⟩, 4)) else (⟨#[]⟩, 4)
def textB (n : Int) (bl : List (Int × List Int)) (s : ByteArray) : Int × Int × List (Int × List Int) := if s.size ≤ 60 then makeB n bl 201 (pack s) else (0, 12, bl)
def joinB (n : Int) (bl : List (Int × List Int)) (x y : Int) : Int × Int × List (Int × List Int) :=
  if (strB bl x).2 = 0 then (if (strB bl y).2 = 0 then (if (strB bl x).1.size + (strB bl y).1.size ≤ 60 then textB n bl ((strB bl x).1 ++ (strB bl y).1) else (0, 12, bl)) else (0, (strB bl y).2, bl)) else (0, (strB bl x).2, bl)
theorem Lays.str {H : PH} {n : Int} {bl : List (Int × List Int)} (h : Lays H n bl) (z : Int) : H.str z = strB bl z := by
  unfold PH.str strB
  rw [h.tag z, h.fields z]
  cases findB 1 bl z <;> rfl
theorem Lays.text {H : PH} {n : Int} {bl : List (Int × List Int)} (h : Lays H n bl) (s : ByteArray) :
    (H.textS s).1 = (textB n bl s).1 ∧ (H.textS s).2.1 = (textB n bl s).2.1 ∧ Lays (H.textS s).2.2 n (textB n bl s).2.2 := by
  unfold PH.textS textB PH.text
  by_cases h0 : s.size ≤ 60
  · rw [if_pos h0, if_pos h0, if_pos rfl]
    exact h.make 201 (pack s)
  · rw [if_neg h0, if_neg h0, if_neg (by decide)]
    exact ⟨rfl, rfl, h⟩
theorem Lays.join {H : PH} {n : Int} {bl : List (Int × List Int)} (h : Lays H n bl) (x y : Int) :
    (H.join x y).1 = (joinB n bl x y).1 ∧ (H.join x y).2.1 = (joinB n bl x y).2.1 ∧ Lays (H.join x y).2.2 n (joinB n bl x y).2.2 := by
  unfold PH.join joinB
  rw [h.str x, h.str y]
  by_cases h1 : (strB bl x).2 = 0
  · rw [if_pos h1, if_pos h1]
    by_cases h2 : (strB bl y).2 = 0
    · rw [if_pos h2, if_pos h2]
      by_cases h3 : (strB bl x).1.size + (strB bl y).1.size ≤ 60
      · rw [if_pos h3, if_pos h3]
        exact h.text _
      · rw [if_neg h3, if_neg h3]
        exact ⟨rfl, rfl, h⟩
    · rw [if_neg h2, if_neg h2]
      exact ⟨rfl, rfl, h⟩
  · rw [if_neg h1, if_neg h1]
    exact ⟨rfl, rfl, h⟩
/-- A text is made where there is room. -/
theorem text_ok (n : Int) (bl : List (Int × List Int)) (s : ByteArray) (h : s.size ≤ 60) (hr : topB 1 bl + 10 ≤ n) : textB n bl s = (2 * topB 1 bl, 0, bl ++ [(201, pack s)]) := by
  unfold textB makeB
  have hl := pack_length s
  have ho : oddB bl 201 (pack s) = false := by
    unfold oddB
    rw [decide_eq_false (by decide : ¬ (201 : Int) < 0), decide_eq_false (by decide : ¬ (201 : Int) < 201), decide_eq_false (by omega : ¬ 60 < (pack s).length), decide_eq_false (by decide : ¬ (201 : Int) ≠ 201)]
    rfl
  rw [if_pos h, ho, if_neg (by decide), if_neg (by omega)]
theorem str_some {bl : List (Int × List Int)} {z : Int} {s : ByteArray} (h : findB 1 bl z = some (201, pack s)) (hs : s.size ≤ 60) : strB bl z = (s, 0) := by
  unfold strB
  rw [h]
  show (if (201 : Int) = 201 then _ else _) = _
  rw [if_pos rfl, unp_pack s hs]
  rfl
theorem str_none {bl : List (Int × List Int)} {z : Int} (h : findB 1 bl z = none) : strB bl z = (⟨#[]⟩, 4) := by
  unfold strB
  rw [h]
end Go.Proofs.Ytkmoneccehbncaa.Heap
/- The heap of layer 2 in memory, as a list of blocks: contracts of what makes and what tells; no condition but what each theorem states. -/
namespace Go.Proofs.Ytkmoneccehbncaa.Heap
open Go.RowKit Go.Proofs.YtkmoneccehbncaaW.PrintWords Go.Proofs.YtkmoneccehbncaaW.PrintLast Go.Proofs.YtkmoneccehbncaaW.PrintMore Go.Proofs.Ytkmoneccehbncaa.Print Go.Proofs.Ytkmoneccehbncaa.Ints
set_option linter.unusedVariables false
set_option linter.unusedSimpArgs false

/-- Block g is a heap with room for n words, with these blocks. -/
def AtB (W : World) (g b m : Nat) (n : Int) (bl : List (Int × List Int)) : Prop := ∃ H, At W g b m H ∧ Lays H n bl
theorem AtB.below {W W1 : World} {g b m : Nat} {n : Int} {bl : List (Int × List Int)} (h : AtB W g b m n bl) (hb : Below W.heap.size W W1) : AtB W1 g b m n bl := by
  obtain ⟨H, h1, h2⟩ := h
  exact ⟨H, h1.below hb, h2⟩
theorem AtB.drawn {W W1 : World} {g b m : Nat} {n : Int} {bl : List (Int × List Int)} (h : AtB W g b m n bl) (hd : Drawn0 W W1) : AtB W1 g b m n bl := by
  obtain ⟨H, h1, h2⟩ := h
  exact ⟨H, at_drawn h1 hd, h2⟩
/-- What may change when a block is made. -/
abbrev Its (g b m : Nat) : Nat → Prop := fun k => k = g ∨ k = b ∨ k = m
theorem newB (n : Nat) (W : World) (h1 : 64 ≤ n) (h2 : n ≤ 65536) :
    Calls Try.prog 14 #[.int .i64 n] W fun e w' => ∃ g b m, e = .returned (.pointer (some ⟨g, 0, none⟩)) ∧ AtB w' g b m n [] ∧ W.heap.size ≤ g ∧ W.heap.size ≤ b ∧ W.heap.size ≤ m ∧ Below W.heap.size W w' := by
  refine (new_calls n W h1 h2).mono ?_
  rintro e w' ⟨g, b, m, rfl, ⟨ha, hw, hg, hb, hm⟩, hbl⟩
  exact ⟨g, b, m, rfl, ⟨_, ha, Lays.new n h2⟩, hg, hb, hm, hbl⟩
theorem textC (g b m : Nat) (n : Int) (bl : List (Int × List Int)) (s : ByteArray) (W : World) (h : AtB W g b m n bl) :
    Calls Try.prog 23 #[.pointer (some ⟨g, 0, none⟩), .string s] W fun e' w' => e' = .returned (.tuple #[.int .i64 (textB n bl s).1, .int .i64 (textB n bl s).2.1]) ∧
      AtB w' g b m n (textB n bl s).2.2 ∧ Chg (Its g b m) W w' := by
  obtain ⟨H, h1, h2⟩ := h
  obtain ⟨e1, e2, h3⟩ := h2.text s
  rw [← e1, ← e2]
  refine (textS_calls g b m H s W h1 h2.wf).mono ?_
  rintro e w' ⟨rfl, ha, hc⟩
  exact ⟨rfl, ⟨_, ha, h3⟩, hc⟩
theorem strC (g b m : Nat) (n : Int) (bl : List (Int × List Int)) (z : Int) (W : World) (h : AtB W g b m n bl) :
    Calls Try.prog 25 #[.pointer (some ⟨g, 0, none⟩), .int .i64 z] W fun e w' => e = .returned (.tuple #[.string (strB bl z).1, .int .i64 (strB bl z).2]) ∧ Below W.heap.size W w' := by
  obtain ⟨H, h1, h2⟩ := h
  rw [← h2.str z]
  exact str_calls g b m H z W h1 h2.wf
theorem joinC (g b m : Nat) (n : Int) (bl : List (Int × List Int)) (x y : Int) (W : World) (h : AtB W g b m n bl) :
    Calls Try.prog 24 #[.pointer (some ⟨g, 0, none⟩), .int .i64 x, .int .i64 y] W fun e' w' => e' = .returned (.tuple #[.int .i64 (joinB n bl x y).1, .int .i64 (joinB n bl x y).2.1]) ∧
      AtB w' g b m n (joinB n bl x y).2.2 ∧ Chg (Its g b m) W w' := by
  obtain ⟨H, h1, h2⟩ := h
  obtain ⟨e1, e2, h3⟩ := h2.join x y
  rw [← e1, ← e2]
  refine (join_calls g b m H x y W h1 h2.wf).mono ?_
  rintro e w' ⟨rfl, ha, hc⟩
  exact ⟨rfl, ⟨_, ha, h3⟩, hc⟩
end Go.Proofs.Ytkmoneccehbncaa.Heap
/- The heap of layer 2, plainly: a block that is laid unasked, and a field that is written. -/
namespace Go.Proofs.Ytkmoneccehbncaa.Heap
open Go.RowKit Go.Proofs.YtkmoneccehbncaaW.PrintWords Go.Proofs.YtkmoneccehbncaaW.PrintLast Go.Proofs.YtkmoneccehbncaaW.PrintMore Go.Proofs.Ytkmoneccehbncaa.Print Go.Proofs.Ytkmoneccehbncaa.Ints
set_option linter.unusedVariables false
set_option linter.unusedSimpArgs false

def PH.lay (H : PH) (tag : Int) (l : List Int) : PH := ⟨laid H.ws H.top.toNat (l.length * 256 + tag) l, H.top + 1 + l.length, H.ks ++ [H.top]⟩
theorem PH.lay_wf {H : PH} (h : H.Wf) (tag : Int) (l : List Int) (h0 : 0 ≤ tag) (h1 : tag ≤ 201) (hr : H.top + 1 + l.length ≤ H.ws.length) : (H.lay tag l).Wf := by
  have t1 := h.top1
  have t2 := h.top2
  obtain ⟨t, ht⟩ := Int.eq_ofNat_of_zero_le (show 0 ≤ H.top by omega)
  have e1 : H.top.toNat = t := by omega
  have hf : t + 1 + l.length ≤ H.ws.length := by omega
  refine ⟨?_, ?_, ?_, ?_⟩
  · show (laid H.ws H.top.toNat (l.length * 256 + tag) l).length ≤ 100000
    rw [e1, laid_length _ _ _ _ hf]; exact h.len
  · show 1 ≤ H.top + 1 + l.length
    omega
  · show H.top + 1 + l.length ≤ ((laid H.ws H.top.toNat (l.length * 256 + tag) l).length : Int)
    rw [e1, laid_length _ _ _ _ hf]; omega
  · intro k hk
    show 1 ≤ k ∧ k < H.top + 1 + l.length ∧ 0 ≤ rd (laid H.ws H.top.toNat (l.length * 256 + tag) l) k ∧ k + 1 + rd (laid H.ws H.top.toNat (l.length * 256 + tag) l) k / 256 ≤ H.top + 1 + l.length
    have hk' : k ∈ H.ks ∨ k = H.top := by
      have := hk
      simp only [PH.lay, List.mem_append, List.mem_singleton] at this
      exact this
    rw [e1]
    rcases hk' with hk' | hk'
    · obtain ⟨b1, b2, b3, b4⟩ := h.blk' k hk'
      obtain ⟨q, rfl⟩ := Int.eq_ofNat_of_zero_le (show 0 ≤ k by omega)
      rw [rd_laid_lt _ _ _ _ _ (by omega) (by omega)]
      omega
    · subst hk'
      rw [ht, rd_laid_at _ _ _ _ (by omega)]
      omega
theorem Lays.lay {H : PH} {n : Int} {bl : List (Int × List Int)} (h : Lays H n bl) (tag : Int) (l : List Int) (h0 : 0 ≤ tag) (h1 : tag ≤ 201) (hr0 : topB 1 bl + l.length ≤ n) : Lays (H.lay tag l) n (bl ++ [(tag, l)]) := by
  have hr := h.room
  have htop := h.top
  have hwf := PH.lay_wf h.wf tag l h0 h1 (by omega)
  have t1 := h.wf.top1
  have t2 := h.wf.top2
  obtain ⟨t, ht⟩ := Int.eq_ofNat_of_zero_le (show 0 ≤ H.top by omega)
  have e1 : H.top.toNat = t := by omega
  have hf : t + 1 + l.length ≤ H.ws.length := by omega
  refine ⟨hwf, ?_, ?_, ?_, ?_⟩
  · show (((laid H.ws H.top.toNat (l.length * 256 + tag) l).length : Nat) : Int) = n + 1
    rw [e1, laid_length _ _ _ _ hf]
    exact hr
  · show H.top + 1 + l.length = _
    rw [topB_append, htop]
  · intro z hz
    rw [findB_append] at hz
    have hz1 : findB 1 bl z = none := by
      cases hq : findB 1 bl z with
      | none => rfl
      | some y => rw [hq] at hz; cases hz
    rw [hz1] at hz
    have hz2 : ¬ z = 2 * topB 1 bl := fun e => by rw [if_pos e] at hz; cases hz
    have h0 := h.no z hz1
    show (if z ≤ 0 then (0 : Int) else if z % 2 = 0 then (if z / 2 ∈ H.ks ++ [H.top] then z / 2 else 0) else 0) = 0
    unfold PH.place at h0
    by_cases a1 : z ≤ 0
    · rw [if_pos a1]
    · rw [if_neg a1] at h0 ⊢
      by_cases a2 : z % 2 = 0
      · rw [if_pos a2] at h0 ⊢
        have a3 : ¬ z / 2 ∈ H.ks := fun a3 => by rw [if_pos a3] at h0; omega
        rw [if_neg]
        intro a4
        rcases List.mem_append.1 a4 with a5 | a5
        · exact a3 a5
        · have := List.mem_singleton.1 a5
          omega
      · rw [if_neg a2]
  · intro z y hz
    rw [findB_append] at hz
    show (if z ≤ 0 then (0 : Int) else if z % 2 = 0 then (if z / 2 ∈ H.ks ++ [H.top] then z / 2 else 0) else 0) = z / 2 ∧ z / 2 ∈ H.ks ++ [H.top] ∧ 0 ≤ y.1 ∧ y.1 ≤ 201 ∧ rd (laid H.ws H.top.toNat (l.length * 256 + tag) l) (z / 2) = y.2.length * 256 + y.1 ∧
      (if z / 2 = 0 then [] else ((laid H.ws H.top.toNat (l.length * 256 + tag) l).drop ((z / 2).toNat + 1)).take (rd (laid H.ws H.top.toNat (l.length * 256 + tag) l) (z / 2) / 256).toNat) = y.2
    rw [e1]
    have hpl : ∀ z, 0 < z → z % 2 = 0 → z / 2 ∈ H.ks ++ [H.top] → (if z ≤ 0 then (0 : Int) else if z % 2 = 0 then (if z / 2 ∈ H.ks ++ [H.top] then z / 2 else 0) else 0) = z / 2 := fun z b1 b2 b3 => by
      rw [if_neg (by omega), if_pos b2, if_pos b3]
    cases hq : findB 1 bl z with
    | some y' =>
      rw [hq] at hz
      obtain rfl : y' = y := by cases hz; rfl
      obtain ⟨c1, c2, c3, c4, c5, c6⟩ := h.yes z y' hq
      obtain ⟨q, rfl, q1, q2⟩ := findB_some hq
      have hq0 : 2 * q / 2 = q := by omega
      rw [hq0] at c1 c2 c5 c6 ⊢
      have hm : q ∈ H.ks ++ [H.top] := List.mem_append_left _ c2
      refine ⟨?_, hm, c3, c4, ?_⟩
      · have := hpl (2 * q) (by omega) (by omega) (by rw [hq0]; exact hm)
        rw [hq0] at this
        exact this
      · obtain ⟨b1, b2, b3, b4⟩ := h.wf.blk' q c2
        obtain ⟨p, rfl⟩ := Int.eq_ofNat_of_zero_le (show 0 ≤ q by omega)
        rw [rd_laid_lt _ _ _ _ _ (by omega) (by omega)]
        refine ⟨c5, ?_⟩
        unfold PH.fields at c6
        rw [laid_take _ _ _ _ _ _ (by rw [Int.toNat_natCast]; omega) (by omega)]
        exact c6
    | none =>
      rw [hq] at hz
      have hz2 : z = 2 * topB 1 bl := by
        by_cases e : z = 2 * topB 1 bl
        · exact e
        · simp [e] at hz
      rw [if_pos hz2] at hz
      obtain rfl : (tag, l) = y := by cases hz; rfl
      have hq0 : z / 2 = (t : Int) := by omega
      have hm : z / 2 ∈ H.ks ++ [H.top] := List.mem_append_right _ (List.mem_singleton.2 (by omega))
      refine ⟨hpl z (by omega) (by omega) hm, hm, h0, h1, ?_⟩
      rw [hq0, rd_laid_at _ _ _ _ (by omega), if_neg (by omega), Int.toNat_natCast, show ((l.length * 256 + tag) / 256).toNat = l.length by omega]
      exact ⟨rfl, laid_at _ _ _ _ (by omega)⟩

/-- Field i of the block at place p, written. -/
def setB : Int → List (Int × List Int) → Int → Nat → Int → List (Int × List Int)
  | _, [], _, _, _ => []
  | a, x :: r, p, i, v => if p = a then (x.1, x.2.set i v) :: r else x :: setB (a + 1 + x.2.length) r p i v
theorem topB_set (p : Int) (i : Nat) (v : Int) : ∀ (bl : List (Int × List Int)) (a : Int), topB a (setB a bl p i v) = topB a bl
  | [], a => rfl
  | x :: r, a => by
    rw [setB]
    by_cases h : p = a
    · rw [if_pos h, topB, topB]
      simp only [List.length_set]
    · rw [if_neg h, topB, topB, topB_set p i v r]
theorem findB_set (p : Int) (i : Nat) (v : Int) (z : Int) : ∀ (bl : List (Int × List Int)) (a : Int), findB a (setB a bl p i v) z = if z = 2 * p then (findB a bl z).map (fun y => (y.1, y.2.set i v)) else findB a bl z
  | [], a => by
    rw [setB, findB]
    split <;> rfl
  | x :: r, a => by
    rw [setB]
    by_cases h : p = a
    · rw [if_pos h, findB, findB]
      by_cases h2 : z = 2 * a
      · rw [if_pos h2, if_pos h2, if_pos (by omega)]
        rfl
      · rw [if_neg h2, if_neg h2, if_neg (by omega)]
        simp only [List.length_set]
    · rw [if_neg h, findB, findB]
      by_cases h2 : z = 2 * a
      · rw [if_pos h2, if_pos h2, if_neg (by omega)]
      · rw [if_neg h2, if_neg h2, findB_set p i v z r]
theorem findB_apart {y y' : Int × List Int} {z z' : Int} (hne : z ≠ z') : ∀ {bl : List (Int × List Int)} {a : Int}, findB a bl z = some y → findB a bl z' = some y' → z / 2 + 1 + y.2.length ≤ z' / 2 ∨ z' / 2 + 1 + y'.2.length ≤ z / 2
  | [], a, h, _ => by cases h
  | x :: r, a, h, h' => by
    have g := findB_some h
    have g' := findB_some h'
    rw [findB] at h h'
    by_cases h1 : z = 2 * a
    · rw [if_pos h1] at h
      rw [if_neg (by omega)] at h'
      cases h
      obtain ⟨q, e, k1, k2⟩ := findB_some h'
      left
      omega
    · rw [if_neg h1] at h
      by_cases h2 : z' = 2 * a
      · rw [if_pos h2] at h'
        cases h'
        obtain ⟨q, e, k1, k2⟩ := findB_some h
        right
        omega
      · rw [if_neg h2] at h'
        exact findB_apart hne h h'
theorem rd_set_ne (l : List Int) (j : Nat) (v h : Int) (h0 : 0 ≤ h) (hne : h ≠ j) : rd (l.set j v) h = rd l h := by
  unfold rd
  simp only [List.getD_eq_getElem?_getD]
  rw [List.getElem?_set_ne (by omega)]
theorem cut_set_out (l : List Int) (j a n : Nat) (v : Int) (h : j < a ∨ a + n ≤ j) : ((l.set j v).drop a).take n = (l.drop a).take n := by
  apply List.ext_getElem?
  intro i
  simp only [List.getElem?_take, List.getElem?_drop]
  by_cases hi : i < n
  · rw [if_pos hi, if_pos hi, List.getElem?_set_ne (by omega)]
  · rw [if_neg hi, if_neg hi]
theorem cut_set_in (l : List Int) (i a n : Nat) (v : Int) (h : i < n) (hl : a + n ≤ l.length) : ((l.set (a + i) v).drop a).take n = ((l.drop a).take n).set i v := by
  apply List.ext_getElem?
  intro q
  simp only [List.getElem?_take, List.getElem?_drop, List.getElem?_set]
  by_cases hq : q < n
  · rw [if_pos hq]
    by_cases he : i = q
    · subst he
      rw [if_pos rfl, if_pos rfl, if_pos (by omega), if_pos (by rw [List.length_take, List.length_drop]; omega)]
    · rw [if_neg (by omega), if_neg he, if_pos hq]
  · rw [if_neg hq]
    by_cases he : i = q
    · omega
    · rw [if_neg he, if_neg hq]
def PH.set (H : PH) (j : Nat) (v : Int) : PH := ⟨H.ws.set j v, H.top, H.ks⟩
theorem Lays.set {H : PH} {n : Int} {bl : List (Int × List Int)} (h : Lays H n bl) (p i : Nat) (y0 : Int × List Int) (hy : findB 1 bl (2 * (p : Int)) = some y0) (hi : i < y0.2.length) (v : Int) : Lays (H.set (p + 1 + i) v) n (setB 1 bl p i v) := by
  obtain ⟨c1, c2, c3, c4, c5, c6⟩ := h.yes _ _ hy
  have hp2 : 2 * (p : Int) / 2 = p := by omega
  rw [hp2] at c1 c2 c5 c6
  have hrd : ∀ k ∈ H.ks, ∃ y, findB 1 bl (2 * k) = some y := fun k hk => by
    cases hq : findB 1 bl (2 * k) with
    | some y => exact ⟨y, rfl⟩
    | none =>
      have := h.no _ hq
      have hb := h.wf.blk' k hk
      unfold PH.place at this
      rw [if_neg (by omega), if_pos (by omega), show 2 * k / 2 = k by omega, if_pos hk] at this
      omega
  have hhead : ∀ k ∈ H.ks, rd (H.ws.set (p + 1 + i) v) k = rd H.ws k := fun k hk => by
    have hb := h.wf.blk' k hk
    obtain ⟨y, hq⟩ := hrd k hk
    refine rd_set_ne _ _ _ _ (by omega) ?_
    by_cases e : 2 * k = 2 * (p : Int)
    · omega
    · have := findB_apart e hq hy
      omega
  refine ⟨⟨by simp only [PH.set, List.length_set]; exact h.wf.len, h.wf.top1, by simp only [PH.set, List.length_set]; exact h.wf.top2, fun k hk => ?_⟩, by simp only [PH.set, List.length_set]; exact h.room, by rw [topB_set]; exact h.top, ?_, ?_⟩
  · show 1 ≤ k ∧ k < H.top ∧ 0 ≤ rd (H.ws.set (p + 1 + i) v) k ∧ k + 1 + rd (H.ws.set (p + 1 + i) v) k / 256 ≤ H.top
    rw [hhead k hk]
    exact h.wf.blk' k hk
  · intro z hz
    rw [findB_set] at hz
    have : findB 1 bl z = none := by
      cases hq : findB 1 bl z with
      | none => rfl
      | some y => rw [hq] at hz; split at hz <;> simp at hz
    exact h.no z this
  · intro z y hz
    rw [findB_set] at hz
    show H.place z = z / 2 ∧ z / 2 ∈ H.ks ∧ 0 ≤ y.1 ∧ y.1 ≤ 201 ∧ rd (H.ws.set (p + 1 + i) v) (z / 2) = y.2.length * 256 + y.1 ∧ (if z / 2 = 0 then [] else ((H.ws.set (p + 1 + i) v).drop ((z / 2).toNat + 1)).take (rd (H.ws.set (p + 1 + i) v) (z / 2) / 256).toNat) = y.2
    have hb2 := h.wf.blk _ c2
    by_cases e : z = 2 * (p : Int)
    · rw [if_pos e, e, hy] at hz
      obtain rfl : (y0.1, y0.2.set i v) = y := by simpa using hz
      subst e
      rw [hp2, hhead _ c2]
      refine ⟨c1, c2, c3, c4, by simp only [List.length_set]; exact c5, ?_⟩
      rw [if_neg (by omega), Int.toNat_natCast]
      unfold PH.fields at c6
      rw [if_neg (by omega), Int.toNat_natCast] at c6
      rw [cut_set_in _ _ _ _ _ (by rw [c5]; omega) (by omega), c6]
    · rw [if_neg e] at hz
      obtain ⟨d1, d2, d3, d4, d5, d6⟩ := h.yes z y hz
      rw [hhead _ d2]
      refine ⟨d1, d2, d3, d4, d5, ?_⟩
      have ha := findB_apart e hz hy
      have hb := h.wf.blk' _ d2
      unfold PH.fields at d6
      rw [if_neg (by omega)] at d6 ⊢
      rw [cut_set_out _ _ _ _ _ (by omega), d6]
end Go.Proofs.Ytkmoneccehbncaa.Heap
/- heap.Collect's inner function move: what it hands back and what it changes; no condition but what each theorem states. -/
namespace Go.Proofs.Ytkmoneccehbncaa.Heap
open Go.RowKit Go.Proofs.YtkmoneccehbncaaW.PrintWords Go.Proofs.YtkmoneccehbncaaW.PrintLast Go.Proofs.YtkmoneccehbncaaW.PrintMore Go.Proofs.Ytkmoneccehbncaa.Print Go.Proofs.Ytkmoneccehbncaa.Ints
set_option linter.unusedVariables false
set_option linter.unusedSimpArgs false

theorem put91 (q cl : Nat) (es : Array MapEntry) (ks : List Int) (f : Int → Int) (W : World) (hb : W.heap[q]? = some (.map es cl)) (hk : Keys (fun k => .int .i64 (f k)) es ks) (z : Int) (hz : z ∉ ks) (x : Int) :
    ∃ W', (Instr.mapUpdate 91 (.map (some q)) (.int .i64 z) (.int .i64 x)).run Try.prog W = .ok () W' ∧ (∃ es cl, W'.heap[q]? = some (.map es cl) ∧ Keys (fun k => .int .i64 ((fun k => if k = z then x else f k) k)) es (ks ++ [z])) ∧ Chg (· = q) W W' := by
  have hlt : q < W.heap.size := (Array.getElem?_eq_some_iff.1 hb).1
  have hx : (W.heap.setIfInBounds q (.map (es.push { key := .int .i64 z, val := .int .i64 x, born := cl }) (cl + 1)))[q]? = some (.map (es.push { key := .int .i64 z, val := .int .i64 x, born := cl }) (cl + 1)) := by
    rw [Array.getElem?_setIfInBounds_self_of_lt hlt]
  have hy : Keys (fun k => .int .i64 ((fun k => if k = z then x else f k) k)) (es.push { key := .int .i64 z, val := .int .i64 x, born := cl }) (ks ++ [z]) := by
    unfold Keys at *
    rw [Array.toList_push, List.map_append, List.map_append, hk]
    congr 1
    · apply List.map_congr_left
      intro k hk'
      have : k ≠ z := fun e => hz (e ▸ hk')
      simp [this]
    · simp
  exact ⟨_, run_put (P := Try.prog) 91 3 3 Try.underlying91 Try.underlying3 hb hk z hz (.int .i64 x), ⟨_, _, hx, hy⟩, ⟨rfl, rfl, rfl, by simp, fun k hk hs => by
    have hs' : q ≠ k := fun e => hs e.symm
    simp [Array.getElem?_setIfInBounds, hs']⟩⟩
theorem look91 (q cl : Nat) (es : Array MapEntry) (ks : List Int) (f : Int → Int) (W : World) (hb : W.heap[q]? = some (.map es cl)) (hk : Keys (fun k => .int .i64 (f k)) es ks) (z : Int) :
    (Instr.lookup 91 (.map (some q)) (.int .i64 z) false).run Try.prog W = .ok (.int .i64 (if z ∈ ks then f z else 0)) W := by
  rw [run_look (P := Try.prog) (W := W) 91 3 3 Try.underlying91 Try.underlying3 (zv := .int .i64 0) (by kernel_rfl) hb hk z]
  split <;> rfl
theorem AtB.chg {S : Nat → Prop} {W W1 : World} {g b m : Nat} {n : Int} {bl : List (Int × List Int)} (h : AtB W g b m n bl) (hc : Chg S W W1) (hg : ¬ S g) (hb : ¬ S b) (hm : ¬ S m) : AtB W1 g b m n bl := by
  obtain ⟨H, h1, h2⟩ := h
  obtain ⟨es, cl, h3, h4⟩ := h1.places
  exact ⟨H, ⟨(hc.block g (blk_lt h1.head) hg).trans h1.head, (hc.block b (blk_lt h1.words) hb).trans h1.words, es, cl, (hc.block m (blk_lt h3) hm).trans h3, h4⟩, h2⟩
theorem layC (g b m : Nat) (n : Int) (bl : List (Int × List Int)) (tag : Int) (A : Option Addr) (c : Nat) (l : List Int) (W : World) (h : AtB W g b m n bl) (h0 : 0 ≤ tag) (h1 : tag ≤ 201) (hroom : topB 1 bl + l.length ≤ n)
    (hr : ReadsInt W .i64 A l.length l) (hA : ∀ ad, A = some ad → 0 < l.length → ad.block ≠ b) :
    Calls Try.prog 65 #[.pointer (some ⟨g, 0, none⟩), .int .i64 tag, .slice A l.length c] W fun e w' => e = .returned (.int .i64 (topB 1 bl)) ∧ AtB w' g b m n (bl ++ [(tag, l)]) ∧ Chg (Its g b m) W w' := by
  obtain ⟨H, a1, a2⟩ := h
  have hwf := a2.wf
  have t1 := hwf.top1
  have t2 := hwf.top2
  have hr' := a2.room
  have htop := a2.top
  obtain ⟨t, ht⟩ := Int.eq_ofNat_of_zero_le (show 0 ≤ H.top by omega)
  refine (lay_calls g b m t H tag A c l W a1 ht (by omega) hwf.len (fun hk => by have := hwf.blk' _ hk; omega) h0 (by omega) hr hA).mono ?_
  rintro e w' ⟨rfl, ha, hc⟩
  refine ⟨by rw [← htop, ht], ⟨H.lay tag l, ?_, a2.lay tag l h0 h1 hroom⟩, hc⟩
  have e1 : H.lay tag l = ⟨laid H.ws t (l.length * 256 + tag) l, (t + 1 + l.length : Nat), H.ks ++ [(t : Int)]⟩ := by
    unfold PH.lay
    rw [ht, Int.toNat_natCast]
    congr 1
  rw [e1]
  exact ha
theorem placeC (g b m : Nat) (n : Int) (bl : List (Int × List Int)) (z : Int) (W : World) (h : AtB W g b m n bl) :
    Calls Try.prog 49 #[.pointer (some ⟨g, 0, none⟩), .int .i64 z] W fun e w' => e = .returned (.int .i64 (match findB 1 bl z with | none => 0 | some _ => z / 2)) ∧ Drawn0 W w' := by
  obtain ⟨H, a1, a2⟩ := h
  have e : H.place z = match findB 1 bl z with | none => 0 | some _ => z / 2 := by
    cases hf : findB 1 bl z with
    | none => exact a2.no z hf
    | some y => exact (a2.yes z y hf).1
  rw [← e]
  exact place_calls g b m H z W a1
/-- A block's fields, where they lie. -/
theorem spanC (g b m : Nat) (n : Int) (bl : List (Int × List Int)) (z : Int) (y : Int × List Int) (hy : findB 1 bl z = some y) (W : World) (h : AtB W g b m n bl) :
    Calls Try.prog 51 #[.pointer (some ⟨g, 0, none⟩), .int .i64 (z / 2)] W fun e w' => e = .returned (.slice (some (cutAt b ((z / 2).toNat + 1) y.2.length)) y.2.length y.2.length) ∧ Drawn0 W w' := by
  obtain ⟨H, a1, a2⟩ := h
  obtain ⟨c1, c2, c3, c4, c5, c6⟩ := a2.yes z y hy
  have hb := a2.wf.blk _ c2
  generalize z / 2 = p at *
  obtain ⟨q, rfl⟩ := Int.eq_ofNat_of_zero_le (show 0 ≤ p by omega)
  have := span_calls g b m H q W a1 (by omega) (by omega) (by omega) a2.wf.len
  rw [show (rd H.ws q / 256).toNat = y.2.length by omega] at this
  exact this
theorem span_readsB {W : World} {g b m : Nat} {n : Int} {bl : List (Int × List Int)} {z : Int} {y : Int × List Int} (hy : findB 1 bl z = some y) (h : AtB W g b m n bl) : ReadsInt W .i64 (some (cutAt b ((z / 2).toNat + 1) y.2.length)) y.2.length y.2 := by
  obtain ⟨H, a1, a2⟩ := h
  obtain ⟨c1, c2, c3, c4, c5, c6⟩ := a2.yes z y hy
  have hb := a2.wf.blk _ c2
  have := span_reads a1 (z / 2).toNat y.2.length (by omega) a2.wf.len
  unfold PH.fields at c6
  rw [if_neg (by omega), show (rd H.ws (z / 2) / 256).toNat = y.2.length by omega] at c6
  rw [c6] at this
  exact this
/-- A block's head word, as code finds it. -/
theorem headB {W : World} {g b m : Nat} {n : Int} {bl : List (Int × List Int)} {z : Int} {y : Int × List Int} (hy : findB 1 bl z = some y) (h : AtB W g b m n bl) : ∃ L v, W.cell? ⟨g, 0, none⟩ = some (.slice (some ⟨b, 0, none⟩) L L) ∧ W.cell? ⟨b, (z / 2).toNat, none⟩ = some (.int .i64 v) ∧ 0 ≤ z / 2 ∧ z / 2 < (L : Int) ∧ 1 ≤ z / 2 ∧ v.tmod 256 = y.1 ∧ 0 ≤ y.1 ∧ y.1 ≤ 201 := by
  obtain ⟨H, a1, a2⟩ := h
  obtain ⟨c1, c2, c3, c4, c5, c6⟩ := a2.yes z y hy
  have hb := a2.wf.blk _ c2
  refine ⟨H.ws.length, rd H.ws (z / 2), (blk_cell a1.head 0).trans rfl, word_cell a1 _ (by omega) (by omega), by omega, by omega, by omega, ?_, c3, c4⟩
  rw [c5, Int.tmod_eq_emod_of_nonneg (by omega)]
  omega

/-- While blocks are moved: the heap they come from, the heap they go to, where they went; and the boxes of these three. -/
structure Mv (W : World) (g b m : Nat) (n : Int) (bl : List (Int × List Int)) (g' b' m' : Nat) (n' : Int) (q ch cn ct : Nat) (s : List (Int × List Int) × (Int → Int) × List Int) : Prop where
  from_ : AtB W g b m n bl
  to_ : AtB W g' b' m' n' s.1
  map : ∃ es cl, W.heap[q]? = some (.map es cl) ∧ Keys (fun k => .int .i64 (s.2.1 k)) es s.2.2
  h1 : W.heap[ch]? = some (.cells #[.pointer (some ⟨g, 0, none⟩)] 31 (0, 0))
  h2 : W.heap[cn]? = some (.cells #[.map (some q)] 91 (0, 0))
  h3 : W.heap[ct]? = some (.cells #[.pointer (some ⟨g', 0, none⟩)] 31 (0, 0))
  apart : ∀ k, (k = g' ∨ k = b' ∨ k = m' ∨ k = q) → k ≠ g ∧ k ≠ b ∧ k ≠ m ∧ k ≠ ch ∧ k ≠ cn ∧ k ≠ ct
  alone : q ≠ g' ∧ q ≠ b' ∧ q ≠ m'
  went : ∀ k ∈ s.2.2, 1 ≤ s.2.1 k ∧ s.2.1 k ≤ 100000
abbrev Moves (g' b' m' q : Nat) : Nat → Prop := fun k => k = g' ∨ k = b' ∨ k = m' ∨ k = q
theorem moves_of {g' b' m' q k : Nat} (h : Its g' b' m' k) : Moves g' b' m' q k := by
  rcases h with h | h | h <;> simp [Moves, h]
section
variable {W W1 : World} {g b m : Nat} {n : Int} {bl : List (Int × List Int)} {g' b' m' : Nat} {n' : Int} {q ch cn ct : Nat} {s : List (Int × List Int) × (Int → Int) × List Int}
theorem Mv.drawn (h : Mv W g b m n bl g' b' m' n' q ch cn ct s) (hd : Drawn0 W W1) : Mv W1 g b m n bl g' b' m' n' q ch cn ct s := by
  obtain ⟨es, cl, e1, e2⟩ := h.map
  exact ⟨h.from_.drawn hd, h.to_.drawn hd, ⟨es, cl, blk_drawn e1 hd, e2⟩, blk_drawn h.h1 hd, blk_drawn h.h2 hd, blk_drawn h.h3 hd, h.apart, h.alone, h.went⟩
theorem Mv.below (h : Mv W g b m n bl g' b' m' n' q ch cn ct s) (hb : Below W.heap.size W W1) : Mv W1 g b m n bl g' b' m' n' q ch cn ct s := by
  obtain ⟨es, cl, e1, e2⟩ := h.map
  exact ⟨h.from_.below hb, h.to_.below hb, ⟨es, cl, blk_below e1 hb, e2⟩, blk_below h.h1 hb, blk_below h.h2 hb, blk_below h.h3 hb, h.apart, h.alone, h.went⟩
theorem Mv.cell1 (h : Mv W g b m n bl g' b' m' n' q ch cn ct s) : W.cell? ⟨ch, 0, none⟩ = some (.pointer (some ⟨g, 0, none⟩)) := (blk_cell h.h1 0).trans rfl
theorem Mv.cell2 (h : Mv W g b m n bl g' b' m' n' q ch cn ct s) : W.cell? ⟨cn, 0, none⟩ = some (.map (some q)) := (blk_cell h.h2 0).trans rfl
theorem Mv.cell3 (h : Mv W g b m n bl g' b' m' n' q ch cn ct s) : W.cell? ⟨ct, 0, none⟩ = some (.pointer (some ⟨g', 0, none⟩)) := (blk_cell h.h3 0).trans rfl
theorem Mv.look (h : Mv W g b m n bl g' b' m' n' q ch cn ct s) (z : Int) : (Instr.lookup 91 (.map (some q)) (.int .i64 z) false).run Try.prog W = .ok (.int .i64 (if z ∈ s.2.2 then s.2.1 z else 0)) W := by
  obtain ⟨es, cl, e1, e2⟩ := h.map
  exact look91 q cl es s.2.2 s.2.1 W e1 e2 z
/-- Behind a block that was laid. -/
theorem Mv.laid (h : Mv W g b m n bl g' b' m' n' q ch cn ct s) (hc : Chg (Its g' b' m') W W1) (bl2 : List (Int × List Int)) (h2 : AtB W1 g' b' m' n' bl2) : Mv W1 g b m n bl g' b' m' n' q ch cn ct (bl2, s.2) := by
  obtain ⟨es, cl, e1, e2⟩ := h.map
  have hap : ∀ k, Its g' b' m' k → k ≠ g ∧ k ≠ b ∧ k ≠ m ∧ k ≠ ch ∧ k ≠ cn ∧ k ≠ ct := fun k hk => h.apart k (by rcases hk with hk | hk | hk <;> simp [hk])
  have hal := h.alone
  refine ⟨h.from_.chg hc (fun s => (hap _ s).1 rfl) (fun s => (hap _ s).2.1 rfl) (fun s => (hap _ s).2.2.1 rfl), h2, ⟨es, cl, (hc.block q (blk_lt e1) (by simp only [Its]; omega)).trans e1, e2⟩,
    (hc.block ch (blk_lt h.h1) (fun s => (hap _ s).2.2.2.1 rfl)).trans h.h1, (hc.block cn (blk_lt h.h2) (fun s => (hap _ s).2.2.2.2.1 rfl)).trans h.h2, (hc.block ct (blk_lt h.h3) (fun s => (hap _ s).2.2.2.2.2 rfl)).trans h.h3, h.apart, h.alone, h.went⟩
/-- Behind a place that was noted. -/
theorem Mv.put (h : Mv W g b m n bl g' b' m' n' q ch cn ct s) (z : Int) (hz : z ∉ s.2.2) (x : Int) (h0 : 1 ≤ x) (h1 : x ≤ 100000) :
    ∃ W', (Instr.mapUpdate 91 (.map (some q)) (.int .i64 z) (.int .i64 x)).run Try.prog W = .ok () W' ∧ Mv W' g b m n bl g' b' m' n' q ch cn ct (s.1, (fun k => if k = z then x else s.2.1 k), s.2.2 ++ [z]) ∧ Chg (Moves g' b' m' q) W W' := by
  obtain ⟨es, cl, e1, e2⟩ := h.map
  obtain ⟨W', r1, r2, r3⟩ := put91 q cl es s.2.2 s.2.1 W e1 e2 z hz x
  have hap := h.apart q (by simp)
  have hal := h.alone
  refine ⟨W', r1, ⟨h.from_.chg r3 (by omega) (by omega) (by omega), h.to_.chg r3 (by omega) (by omega) (by omega), r2, (r3.block ch (blk_lt h.h1) (by omega)).trans h.h1, (r3.block cn (blk_lt h.h2) (by omega)).trans h.h2, (r3.block ct (blk_lt h.h3) (by omega)).trans h.h3, h.apart, h.alone, fun k hk => ?_⟩, r3.mono (fun k hk => .inr (.inr (.inr hk)))⟩
  show 1 ≤ (if k = z then x else s.2.1 k) ∧ (if k = z then x else s.2.1 k) ≤ 100000
  by_cases e : k = z
  · rw [if_pos e]
    exact ⟨h0, h1⟩
  · rw [if_neg e]
    rcases List.mem_append.1 hk with hk | hk
    · exact h.went k hk
    · exact absurd (List.mem_singleton.1 hk) e
end

theorem Chg.cell {S : Nat → Prop} {W W1 : World} (h : Chg S W W1) {a : Addr} {v : Value} (hc : W.cell? a = some v) (hl : a.block < W.heap.size) (hs : ¬ S a.block) : W1.cell? a = some v := (World.cell?_of_block (w := W) (h.block a.block hl hs)).trans hc
theorem AtB.sizes {W : World} {g b m : Nat} {n : Int} {bl : List (Int × List Int)} (h : AtB W g b m n bl) : g < W.heap.size ∧ b < W.heap.size := by
  obtain ⟨H, h1, h2⟩ := h
  exact ⟨blk_lt h1.head, blk_lt h1.words⟩
/-- The cells that move reads stay while blocks are laid. -/
theorem Mv.held {W W1 : World} {g b m : Nat} {n : Int} {bl : List (Int × List Int)} {g' b' m' : Nat} {n' : Int} {q ch cn ct : Nat} {s : List (Int × List Int) × (Int → Int) × List Int} (h : Mv W g b m n bl g' b' m' n' q ch cn ct s) (hc : Chg (Moves g' b' m' q) W W1)
    {L p : Nat} {v : Int} (c0 : W.cell? ⟨g, 0, none⟩ = some (.slice (some ⟨b, 0, none⟩) L L)) (c1 : W.cell? ⟨b, p, none⟩ = some (.int .i64 v)) :
    W1.cell? ⟨ch, 0, none⟩ = some (.pointer (some ⟨g, 0, none⟩)) ∧ W1.cell? ⟨cn, 0, none⟩ = some (.map (some q)) ∧ W1.cell? ⟨ct, 0, none⟩ = some (.pointer (some ⟨g', 0, none⟩)) ∧ W1.cell? ⟨g, 0, none⟩ = some (.slice (some ⟨b, 0, none⟩) L L) ∧ W1.cell? ⟨b, p, none⟩ = some (.int .i64 v) :=
  ⟨hc.cell h.cell1 (blk_lt h.h1) (fun s => (h.apart _ s).2.2.2.1 rfl), hc.cell h.cell2 (blk_lt h.h2) (fun s => (h.apart _ s).2.2.2.2.1 rfl), hc.cell h.cell3 (blk_lt h.h3) (fun s => (h.apart _ s).2.2.2.2.2 rfl),
    hc.cell c0 h.from_.sizes.1 (fun s => (h.apart _ s).1 rfl), hc.cell c1 h.from_.sizes.2 (fun s => (h.apart _ s).2.1 rfl)⟩

/-- What move does. -/
def mvB (bl : List (Int × List Int)) (s : List (Int × List Int) × (Int → Int) × List Int) (w : Int) : Int × (List (Int × List Int) × (Int → Int) × List Int) :=
  match findB 1 bl w with
  | none => (w, s)
  | some y => if w / 2 ∈ s.2.2 then (2 * s.2.1 (w / 2), s) else (2 * topB 1 s.1, (s.1 ++ [y], (fun k => if k = w / 2 then topB 1 s.1 else s.2.1 k), s.2.2 ++ [w / 2]))
theorem AtB.bound {W : World} {g b m : Nat} {n : Int} {bl : List (Int × List Int)} (h : AtB W g b m n bl) : 1 ≤ topB 1 bl ∧ topB 1 bl ≤ n + 1 ∧ n + 1 ≤ 100000 := by
  obtain ⟨H, a1, a2⟩ := h
  have t1 := a2.wf.top1
  have t2 := a2.wf.top2
  have hr' := a2.room
  have htop := a2.top
  have := a2.wf.len
  omega

set_option maxHeartbeats 4000000 in
set_option maxRecDepth 100000 in
theorem move_calls (g b m : Nat) (n : Int) (bl : List (Int × List Int)) (g' b' m' : Nat) (n' : Int) (q ch cn ct : Nat) (s : List (Int × List Int) × (Int → Int) × List Int) (w : Int) (W : World) (h : Mv W g b m n bl g' b' m' n' q ch cn ct s)
    (hroom : ∀ y, findB 1 bl w = some y → w / 2 ∉ s.2.2 → topB 1 s.1 + y.2.length ≤ n') :
    Calls Try.prog 64 #[.int .i64 w, .pointer (some ⟨ch, 0, none⟩), .pointer (some ⟨cn, 0, none⟩), .pointer (some ⟨ct, 0, none⟩)] W fun e w' => e = .returned (.int .i64 (mvB bl s w).1) ∧ Mv w' g b m n bl g' b' m' n' q ch cn ct (mvB bl s w).2 ∧ Chg (Moves g' b' m' q) W w' := by
  have HPL := Aside0.mk (placeC g b m n bl w W h.from_)
  have hc1 := h.cell1
  have HM := Aside0.mk h
  unfold mvB
  cases hf : findB 1 bl w with
  | none =>
    rw [hf] at HPL
    simp only at HPL ⊢
    clear hf hroom h
    go_enter Try.func64, Try.ntmps64
    go_wp2_with (go_at_call 49; (with_reducible refine HPL.out.mono ?_); rintro e w1 ⟨rfl, hd⟩; have HD := Aside0.mk hd; clear hd)
    go_ret
    exact ⟨rfl, HM.out.drawn HD.out, Chg.of_below _ (below_drawn (Below.refl _ _) HD.out)⟩
  | some y =>
    rw [hf] at HPL
    simp only at HPL ⊢
    have hbd := h.to_.bound
    have hneg := (headB hf h.from_)
    obtain ⟨_, _, _, _, hp0, hp1, hp2, _, ht0, ht1⟩ := hneg
    have hz0 : ((w / 2) == 0) = false := beq_eq_false_iff_ne.2 (by omega)
    by_cases hk : w / 2 ∈ s.2.2
    · rw [if_pos hk]
      have hw := h.went _ hk
      have HPT : Aside0 (ints_Point.f (s.2.1 (w / 2)) = some (2 * s.2.1 (w / 2))) := ⟨by rw [point_eq, if_pos ⟨by omega, by omega⟩]⟩
      have hn0 : (s.2.1 (w / 2) == 0) = false := beq_eq_false_iff_ne.2 (by omega)
      have HLK := Aside0.mk (fun W (h : Mv W g b m n bl g' b' m' n' q ch cn ct s) => by have := h.look (w / 2); rw [if_pos hk] at this; exact this)
      clear hk hw hbd hf hroom h
      generalize s.2.1 (w / 2) = v at *
      generalize w / 2 = p at *
      go_enter Try.func64, Try.ntmps64
      go_wp2_with (first | (go_at_call 49; (with_reducible refine HPL.out.mono ?_); rintro e w1 ⟨rfl, hd⟩; have HM1 := Aside0.mk (HM.out.drawn hd); have HD := Aside0.mk hd; clear hd; have hc12 := HM1.out.cell2; have hl1 := HLK.out _ HM1.out) | (go_at_call 66; (with_reducible refine (ints_Point.calls v (2 * v) _ HPT.out).mono ?_); rintro e w2 ⟨rfl, hd⟩; have HD2 := Aside0.mk hd; clear hd))
      go_ret
      exact ⟨rfl, HM1.out.drawn HD2.out, Chg.of_below _ (below_drawn (below_drawn (Below.refl _ _) HD.out) HD2.out)⟩
    · rw [if_neg hk]
      have hr := hroom y hf hk
      have HPT : Aside0 (ints_Point.f (topB 1 s.1) = some (2 * topB 1 s.1)) := ⟨by rw [point_eq, if_pos ⟨by omega, by omega⟩]⟩
      have HLK := Aside0.mk (fun W (h : Mv W g b m n bl g' b' m' n' q ch cn ct s) => by have := h.look (w / 2); rw [if_neg hk] at this; exact this)
      have HSP := Aside0.mk (fun W (h : AtB W g b m n bl) => spanC g b m n bl w y hf W h)
      have HHD := Aside0.mk (fun W (h : AtB W g b m n bl) => headB (W := W) hf h)
      have HRD := Aside0.mk (fun W (h : AtB W g b m n bl) => span_readsB (W := W) hf h)
      have hap := h.apart b' (by simp)
      have HLAY := Aside0.mk (fun W (h : AtB W g' b' m' n' s.1) hr' => layC g' b' m' n' s.1 y.1 (some (cutAt b ((w / 2).toNat + 1) y.2.length)) y.2.length y.2 W h ht0 ht1 hr hr' (fun ad e _ => by cases e; exact fun e => hap.2.1 e.symm))
      have HPUT := Aside0.mk (fun W (h : Mv W g b m n bl g' b' m' n' q ch cn ct (s.1 ++ [(y.1, y.2)], s.2)) => h.put (w / 2) hk (topB 1 s.1) hbd.1 (by omega))
      have HLK2 := Aside0.mk (fun W (h : Mv W g b m n bl g' b' m' n' q ch cn ct (s.1 ++ [(y.1, y.2)], (fun k => if k = w / 2 then topB 1 s.1 else s.2.1 k), s.2.2 ++ [w / 2])) => by have := h.look (w / 2); rw [if_pos (by simp)] at this; simpa using this)
      clear hk hbd hf hroom h hr hap
      generalize hv : topB 1 s.1 = v at *
      generalize w / 2 = p at *
      have hp0' : (0 : Int) ≤ p := hp0
      go_enter Try.func64, Try.ntmps64
      go_wp2_with (go_at_call 49; (with_reducible refine HPL.out.mono ?_); rintro e w1 ⟨rfl, hd⟩; have HM1 := Aside0.mk (HM.out.drawn hd); have HD := Aside0.mk hd; clear hd; have hc11 := HM1.out.cell1; have hc12 := HM1.out.cell2; have hc13 := HM1.out.cell3; have hl1 := HLK.out _ HM1.out; obtain ⟨L, hv0, hh0, hh1, _, hh2, _, hh3, _, _⟩ := HHD.out _ HM1.out.from_)
      have HMD := Aside0.mk (HM1.out.drawn (⟨⟨1, rfl⟩⟩ : Drawn0 w1 w1.drew))
      have HC1 := Aside0.mk (Chg.of_below (Moves g' b' m' q) (below_drawn (Below.refl w1.heap.size w1) (⟨⟨1, rfl⟩⟩ : Drawn0 w1 w1.drew)))
      have HK := Aside0.mk (fun W' (hc : Chg (Moves g' b' m' q) w1 W') => HM1.out.held hc hh0 hh1)
      go_region_held3 (fun w' => w'.cell? ⟨ch, 0, none⟩ = some (.pointer (some ⟨g, 0, none⟩)) ∧ w'.cell? ⟨cn, 0, none⟩ = some (.map (some q)) ∧ w'.cell? ⟨ct, 0, none⟩ = some (.pointer (some ⟨g', 0, none⟩)) ∧ w'.cell? ⟨g, 0, none⟩ = some (.slice (some ⟨b, 0, none⟩) L L) ∧ w'.cell? ⟨b, p.toNat, none⟩ = some (.int .i64 hv0))
        (first | exact HK.out _ HC1.out | exact HK.out _ HC2.out | exact HK.out _ HC3.out | exact HK.out _ HC4.out)
        (first | (go_at_call 51; (with_reducible refine (HSP.out _ HMD.out.from_).mono ?_); rintro e w2 ⟨rfl, hd⟩; have HM2 := Aside0.mk (HMD.out.drawn hd); have HC2 := Aside0.mk (HC1.out.trans (Chg.of_below (Moves g' b' m' q) (below_drawn (Below.refl _ _) hd))); clear hd) | (go_at_call 65; (with_reducible refine (HLAY.out _ HM2.out.to_ (HRD.out _ HM2.out.from_)).mono ?_); rintro e w3 ⟨rfl, ha, hc⟩; have HM3 := Aside0.mk (HM2.out.laid hc _ ha); have HC3 := Aside0.mk (HC2.out.trans (hc.mono (fun k hk => moves_of hk))); obtain ⟨w4, hrun, hm4, hc4⟩ := HPUT.out _ HM3.out; have hc42 := hm4.cell2; have hl4 := HLK2.out _ hm4; have HM4 := Aside0.mk hm4; have HC4 := Aside0.mk (HC3.out.trans hc4); clear ha hc hm4 hc4))
      go_wp2_with (go_at_call 66; (with_reducible refine (ints_Point.calls v (2 * v) _ HPT.out).mono ?_); rintro e w5 ⟨rfl, hd⟩; have HD5 := Aside0.mk hd; clear hd)
      go_ret
      exact ⟨rfl, HM4.out.drawn HD5.out, ((Chg.of_below _ (below_drawn (Below.refl _ _) HD.out)).trans HC4.out).trans (Chg.of_below _ (below_drawn (Below.refl _ _) HD5.out))⟩
end Go.Proofs.Ytkmoneccehbncaa.Heap
/- heap.Collect, plainly: what is copied in which order; and a field that is written in memory. -/
namespace Go.Proofs.Ytkmoneccehbncaa.Heap
open Go.RowKit Go.Proofs.YtkmoneccehbncaaW.PrintWords Go.Proofs.YtkmoneccehbncaaW.PrintLast Go.Proofs.YtkmoneccehbncaaW.PrintMore Go.Proofs.Ytkmoneccehbncaa.Print Go.Proofs.Ytkmoneccehbncaa.Ints
set_option linter.unusedVariables false
set_option linter.unusedSimpArgs false

abbrev St := List (Int × List Int) × (Int → Int) × List Int
/-- move, where there is room. -/
def mvO (n : Int) (bl : List (Int × List Int)) (s : St) (w : Int) : Option (Int × St) :=
  match findB 1 bl w with
  | none => some (w, s)
  | some y => if w / 2 ∈ s.2.2 then some (2 * s.2.1 (w / 2), s) else if topB 1 s.1 + y.2.length ≤ n then some (2 * topB 1 s.1, (s.1 ++ [y], (fun k => if k = w / 2 then topB 1 s.1 else s.2.1 k), s.2.2 ++ [w / 2])) else none
theorem mvO_eq {n : Int} {bl : List (Int × List Int)} {s : St} {w : Int} {r : Int × St} (h : mvO n bl s w = some r) : mvB bl s w = r ∧ ∀ y, findB 1 bl w = some y → w / 2 ∉ s.2.2 → topB 1 s.1 + y.2.length ≤ n := by
  unfold mvO at h
  unfold mvB
  cases hf : findB 1 bl w with
  | none => rw [hf] at h; exact ⟨Option.some.inj h, fun y hy => by cases hy⟩
  | some y =>
    rw [hf] at h
    simp only at h ⊢
    by_cases h1 : w / 2 ∈ s.2.2
    · rw [if_pos h1] at h ⊢
      exact ⟨Option.some.inj h, fun y' _ h2 => absurd h1 h2⟩
    · rw [if_neg h1] at h ⊢
      by_cases h2 : topB 1 s.1 + y.2.length ≤ n
      · rw [if_pos h2] at h
        exact ⟨Option.some.inj h, fun y' hy _ => by cases hy; exact h2⟩
      · rw [if_neg h2] at h
        cases h
theorem mvB_find {bl : List (Int × List Int)} {s : St} {w z : Int} {y : Int × List Int} (h : findB 1 s.1 z = some y) : findB 1 (mvB bl s w).2.1 z = some y := by
  unfold mvB
  cases findB 1 bl w with
  | none => exact h
  | some y' =>
    simp only
    by_cases h1 : w / 2 ∈ s.2.2
    · rw [if_pos h1]; exact h
    · rw [if_neg h1]
      show findB 1 (s.1 ++ [y']) z = some y
      rw [findB_append, h]
      rfl
/-- Fields i, i+1 .. of the block at place p, m of them, are moved. -/
def fldO (n : Int) (bl : List (Int × List Int)) (p : Nat) (tag : Int) : Nat → Nat → St → Option St
  | 0, _, s => some s
  | m + 1, i, s => if tag = 201 then fldO n bl p tag m (i + 1) s else match findB 1 s.1 (2 * (p : Int)) with
    | none => none
    | some y => (mvO n bl s (rd y.2 (i : Int))).bind fun r => fldO n bl p tag m (i + 1) (setB 1 r.2.1 p i r.1, r.2.2)
/-- The blocks from place p on are gone through. -/
def scanO (n : Int) (bl : List (Int × List Int)) : Nat → Nat → St → Option St
  | 0, _, _ => none
  | k + 1, p, s => if (p : Int) < topB 1 s.1 then (match findB 1 s.1 (2 * (p : Int)) with
    | none => none
    | some y => (fldO n bl p y.1 y.2.length 0 s).bind fun s' => scanO n bl k (p + 1 + y.2.length) s') else some s
/-- A field is written in memory. -/
theorem AtB.set {W : World} {g b m : Nat} {n : Int} {bl : List (Int × List Int)} (h : AtB W g b m n bl) (p i : Nat) (y : Int × List Int) (hy : findB 1 bl (2 * (p : Int)) = some y) (hi : i < y.2.length) (v : Int) :
    AtB (W.setCell ⟨b, p + 1 + i, none⟩ (.int .i64 v)) g b m n (setB 1 bl p i v) ∧ W.frozen? ⟨b, p + 1 + i, none⟩ = false ∧ W.cell? ⟨b, p + 1 + i, none⟩ = some (.int .i64 (rd y.2 (i : Int))) := by
  have hrd := span_readsB hy h
  obtain ⟨H, a1, a2⟩ := h
  obtain ⟨es, cl, hm, hK⟩ := a1.places
  have hgb : g ≠ b := blk_ne a1.head a1.words (by decide)
  have hbm : b ≠ m := by rintro rfl; rw [a1.words] at hm; cases hm
  refine ⟨⟨H.set (p + 1 + i) v, ⟨?_, ?_, es, cl, ?_, hK⟩, a2.set p i y hy hi v⟩, blk_frozen a1.words _, ?_⟩
  · rw [Below.heap_setCell _ _ _ g hgb]
    have := a1.head
    simpa [PH.set] using this
  · rw [blk_set a1.words (p + 1 + i)]
    simp [nums, List.map_set, PH.set]
  · rw [Below.heap_setCell _ _ _ m (fun e => hbm e.symm)]
    exact hm
  · obtain ⟨ad, e, hc⟩ := hrd.at_ (i : Int) (by omega) (by omega)
    cases e
    have e2 : (cutAt b ((2 * (p : Int) / 2).toNat + 1) y.2.length).add (i : Int).toNat = ⟨b, p + 1 + i, none⟩ := by
      unfold cutAt
      rw [if_neg (by omega), show (2 * (p : Int) / 2).toNat = p by omega, Int.toNat_natCast]
      unfold Addr.add
      split <;> simp_all
    rw [e2] at hc
    exact hc
theorem Mv.set {W : World} {g b m : Nat} {n : Int} {bl : List (Int × List Int)} {g' b' m' : Nat} {n' : Int} {q ch cn ct : Nat} {s : St} (h : Mv W g b m n bl g' b' m' n' q ch cn ct s) (p i : Nat) (y : Int × List Int) (hy : findB 1 s.1 (2 * (p : Int)) = some y) (hi : i < y.2.length) (v : Int) :
    Mv (W.setCell ⟨b', p + 1 + i, none⟩ (.int .i64 v)) g b m n bl g' b' m' n' q ch cn ct (setB 1 s.1 p i v, s.2) := by
  obtain ⟨es, cl, e1, e2⟩ := h.map
  have hap := h.apart b' (by simp)
  have hal := h.alone
  have hs := (h.to_.set p i y hy hi v).1
  have hc : Chg (· = b') W (W.setCell ⟨b', p + 1 + i, none⟩ (.int .i64 v)) := Chg.set (S := (· = b')) (Chg.refl _ W) (p := ⟨b', p + 1 + i, none⟩) rfl _
  exact ⟨h.from_.chg hc (by omega) (by omega) (by omega), hs, ⟨es, cl, (hc.block q (blk_lt e1) (by omega)).trans e1, e2⟩, (hc.block ch (blk_lt h.h1) (by omega)).trans h.h1, (hc.block cn (blk_lt h.h2) (by omega)).trans h.h2, (hc.block ct (blk_lt h.h3) (by omega)).trans h.h3, h.apart, h.alone, h.went⟩
theorem reads_chg {S : Nat → Prop} {W W1 : World} {o : Nat} {n : Nat} {xs : List Int} (hc : Chg S W W1) (h : ReadsInt W .i64 (some ⟨o, 0, none⟩) n xs) (hl : o < W.heap.size) (hs : ¬ S o) : ReadsInt W1 .i64 (some ⟨o, 0, none⟩) n xs := by
  refine ⟨h.1, h.2.1, fun hn => ?_⟩
  obtain ⟨ad, e, hr⟩ := h.2.2 hn
  refine ⟨ad, e, fun j hj => ?_⟩
  cases e
  exact hc.cell (hr j hj) (by rw [add_block]; exact hl) (by rw [add_block]; exact hs)
end Go.Proofs.Ytkmoneccehbncaa.Heap
/- heap.Collect from one root; no condition but what each theorem states. -/
namespace Go.Proofs.Ytkmoneccehbncaa.Heap
open Go.RowKit Go.Proofs.YtkmoneccehbncaaW.PrintWords Go.Proofs.YtkmoneccehbncaaW.PrintLast Go.Proofs.YtkmoneccehbncaaW.PrintMore Go.Proofs.Ytkmoneccehbncaa.Print Go.Proofs.Ytkmoneccehbncaa.Ints
set_option linter.unusedVariables false
set_option linter.unusedSimpArgs false

theorem mayC (g b m : Nat) (n : Int) (bl : List (Int × List Int)) (z : Int) (W : World) (h : AtB W g b m n bl) :
    Calls Try.prog 62 #[.pointer (some ⟨g, 0, none⟩), .int .i64 z] W fun e w' => e = .returned (.bool (mayB bl z)) ∧ Drawn0 W w' := by
  obtain ⟨H, a1, a2⟩ := h
  have e : H.may z = mayB bl z := by
    unfold PH.may mayB
    rw [a2.place_pos z]
  rw [← e]
  exact may_calls g b m H z W a1
set_option maxHeartbeats 800000 in
set_option maxRecDepth 100000 in
theorem collect1_calls (g b m : Nat) (n : Int) (bl : List (Int × List Int)) (z : Int) (c : Nat) (W : World) (h : AtB W g b m n bl) (hc : W.cell? ⟨c, 0, none⟩ = some (.pointer (some ⟨g, 0, none⟩))) :
    Calls Try.prog 61 #[.int .i64 z, .pointer (some ⟨c, 0, none⟩)] W fun e w' => e = .returned (.bool (!mayB bl z)) ∧ Drawn0 W w' := by
  have HM := Aside0.mk (mayC g b m n bl z W h)
  go_enter Try.func61, Try.ntmps61
  go_wp2_with (go_at_call 62; (with_reducible refine HM.out.mono ?_); rintro e w' ⟨rfl, ⟨nd, rfl⟩⟩)
  go_ret
  exact ⟨rfl, by repeat (first | exact Drawn0.refl _ | apply Drawn0.step)⟩
theorem halfC (g b m : Nat) (n : Int) (bl : List (Int × List Int)) (W : World) (h : AtB W g b m n bl) :
    Calls Try.prog 63 #[.pointer (some ⟨g, 0, none⟩)] W fun e w' => e = .returned (.int .i64 n) ∧ Drawn0 W w' := by
  obtain ⟨H, a1, a2⟩ := h
  have := half_calls g b m H W a1 a2.wf.len
  have hr := a2.room
  rw [show (H.ws.length : Int) - 1 = n by omega] at this
  exact this
theorem drawn_n (W : World) (n : Nat) : Drawn0 W (W.drewN n) := ⟨⟨n, rfl⟩⟩

theorem Mv.start {w2 w3 : World} {g b m : Nat} {n : Int} {bl : List (Int × List Int)} {g' b' m' ch : Nat} (h : AtB w2 g b m n bl) (hch : w2.heap[ch]? = some (.cells #[.pointer (some ⟨g, 0, none⟩)] 31 (0, 0))) (hb : Below w2.heap.size w2 w3) (h' : AtB w3 g' b' m' n []) (a1 : w2.heap.size ≤ g') (a2 : w2.heap.size ≤ b') (a3 : w2.heap.size ≤ m') :
    Mv (((w3.alloc (.cells #[.pointer (some ⟨g', 0, none⟩)] 31)).alloc (.map #[] 0)).alloc (.cells #[.map (some (w3.heap.size + 1))] 91)) g b m n bl g' b' m' n (w3.heap.size + 1) ch (w3.heap.size + 1 + 1) w3.heap.size ([], (fun _ => 0), []) := by
  have hb3 : Below w3.heap.size w3 (((w3.alloc (.cells #[.pointer (some ⟨g', 0, none⟩)] 31)).alloc (.map #[] 0)).alloc (.cells #[.map (some (w3.heap.size + 1))] 91)) := below_alloc (below_alloc (below_alloc (Below.refl _ _) _) _) _
  have hs := hb.size
  have l1 := h.sizes
  have l2 := h'.sizes
  have l3 := blk_lt hch
  obtain ⟨H, k1, k2⟩ := id h
  obtain ⟨es, cl, e1, e2⟩ := k1.places
  have l4 := blk_lt e1
  obtain ⟨H', k1', k2'⟩ := id h'
  obtain ⟨es', cl', e1', e2'⟩ := k1'.places
  have l5 := blk_lt e1'
  have x1 := blk_new w3 (.cells #[.pointer (some ⟨g', 0, none⟩)] 31)
  have x2 := blk_new (w3.alloc (.cells #[.pointer (some ⟨g', 0, none⟩)] 31)) (.map #[] 0)
  have x3 := blk_new ((w3.alloc (.cells #[.pointer (some ⟨g', 0, none⟩)] 31)).alloc (.map #[] 0)) (.cells #[.map (some (w3.heap.size + 1))] 91)
  have z1 : (w3.alloc (.cells #[.pointer (some ⟨g', 0, none⟩)] 31)).heap.size = w3.heap.size + 1 := by simp
  have z2 : ((w3.alloc (.cells #[.pointer (some ⟨g', 0, none⟩)] 31)).alloc (.map #[] 0)).heap.size = w3.heap.size + 1 + 1 := by simp
  rw [z1] at x2
  rw [z2] at x3
  refine ⟨(h.below hb).below hb3, h'.below hb3, ⟨#[], 0, blk_alloc x2 _, rfl⟩, blk_below (blk_below hch hb) hb3, x3, blk_alloc (blk_alloc x1 _) _, fun k hk => ?_, ?_, fun k hk => by cases hk⟩
  · omega
  · omega
theorem Mv.small {W : World} {g b m : Nat} {n : Int} {bl : List (Int × List Int)} {g' b' m' : Nat} {n' : Int} {q ch cn ct : Nat} {s : St} (h : Mv W g b m n bl g' b' m' n' q ch cn ct s) : ∀ k, Moves g' b' m' q k → k < W.heap.size := by
  obtain ⟨H, k1, k2⟩ := h.to_
  obtain ⟨es, cl, e1, e2⟩ := k1.places
  obtain ⟨es', cl', e1', e2'⟩ := h.map
  have l1 := blk_lt k1.head
  have l2 := blk_lt k1.words
  have l3 := blk_lt e1
  have l4 := blk_lt e1'
  intro k hk
  simp only [Moves] at hk
  omega
theorem topC {W : World} {g b m : Nat} {n : Int} {bl : List (Int × List Int)} (h : AtB W g b m n bl) : W.cell? ⟨g, 1, none⟩ = some (.int .i64 (topB 1 bl)) := by
  obtain ⟨H, k1, k2⟩ := h
  rw [blk_cell k1.head 1, ← k2.top]
  rfl
theorem spanP (g b m : Nat) (n : Int) (bl : List (Int × List Int)) (p : Nat) (y : Int × List Int) (hy : findB 1 bl (2 * (p : Int)) = some y) (W : World) (h : AtB W g b m n bl) :
    Calls Try.prog 51 #[.pointer (some ⟨g, 0, none⟩), .int .i64 (p : Int)] W fun e w' => e = .returned (.slice (some (cutAt b (p + 1) y.2.length)) y.2.length y.2.length) ∧ Drawn0 W w' := by
  have := spanC g b m n bl (2 * (p : Int)) y hy W h
  rw [show 2 * (p : Int) / 2 = (p : Int) by omega, Int.toNat_natCast] at this
  exact this
theorem headP {W : World} {g b m : Nat} {n : Int} {bl : List (Int × List Int)} {p : Nat} {y : Int × List Int} (hy : findB 1 bl (2 * (p : Int)) = some y) (h : AtB W g b m n bl) : ∃ L v, W.cell? ⟨g, 0, none⟩ = some (.slice (some ⟨b, 0, none⟩) L L) ∧ W.cell? ⟨b, p, none⟩ = some (.int .i64 v) ∧ (p : Int) < (L : Int) ∧ v.tmod 256 = y.1 ∧ (p : Int) + 1 + y.2.length ≤ n + 1 := by
  obtain ⟨L, v, h1, h2, h3, h4, h5, h6, h7, h8⟩ := headB hy h
  have hb := h.bound
  obtain ⟨q, e, f1, f2⟩ := findB_some hy
  rw [show 2 * (p : Int) / 2 = (p : Int) by omega] at h2 h4
  rw [Int.toNat_natCast] at h2
  exact ⟨L, v, h1, h2, h4, h6, by omega⟩

theorem cell_below {W W1 : World} {a : Addr} {v : Value} (hb : Below W.heap.size W W1) (h : W.cell? a = some v) : W1.cell? a = some v := by
  rcases Nat.lt_or_ge a.block W.heap.size with hl | hl
  · exact (World.cell?_of_block (w := W) (hb.block a.block hl)).trans h
  · unfold World.cell? at h
    rw [Array.getElem?_eq_none hl] at h
    cases h
theorem reads_lt {W : World} {o : Nat} {x : Int} (h : ReadsInt W .i64 (some ⟨o, 0, none⟩) 1 [x]) : o < W.heap.size := by
  obtain ⟨ad, e, hc⟩ := h.at_ 0 (Int.le_refl _) (by simp)
  cases e
  have hc := first_cell (r := []) hc
  rcases Nat.lt_or_ge o W.heap.size with hl | hl
  · exact hl
  · unfold World.cell? at hc
    rw [Array.getElem?_eq_none hl] at hc
    cases hc
/-- What holds while blocks are gone through: the heaps, and the row of roots that were moved. -/
structure Go2 (W0 W : World) (g b m : Nat) (n : Int) (bl : List (Int × List Int)) (g' b' m' : Nat) (n' : Int) (q ch cn ct : Nat) (s : St) (o : Nat) (v : Int) : Prop where
  mv : Mv W g b m n bl g' b' m' n' q ch cn ct s
  below : Below W0.heap.size W0 W
  out : ReadsInt W .i64 (some ⟨o, 0, none⟩) 1 [v]
  away : ¬ Moves g' b' m' q o ∧ W0.heap.size ≤ o
  big : ∀ k, Moves g' b' m' q k → W0.heap.size ≤ k
theorem Go2.chg {W0 W W1 : World} {g b m : Nat} {n : Int} {bl : List (Int × List Int)} {g' b' m' : Nat} {n' : Int} {q ch cn ct : Nat} {s s' : St} {o : Nat} {v : Int} (h : Go2 W0 W g b m n bl g' b' m' n' q ch cn ct s o v) (hm : Mv W1 g b m n bl g' b' m' n' q ch cn ct s') (hc : Chg (Moves g' b' m' q) W W1) : Go2 W0 W1 g b m n bl g' b' m' n' q ch cn ct s' o v :=
  ⟨hm, hc.below h.below h.below.size h.big, reads_chg hc h.out (reads_lt h.out) h.away.1, h.away, h.big⟩
theorem Go2.drawn {W0 W W1 : World} {g b m : Nat} {n : Int} {bl : List (Int × List Int)} {g' b' m' : Nat} {n' : Int} {q ch cn ct : Nat} {s : St} {o : Nat} {v : Int} (h : Go2 W0 W g b m n bl g' b' m' n' q ch cn ct s o v) (hd : Drawn0 W W1) : Go2 W0 W1 g b m n bl g' b' m' n' q ch cn ct s o v :=
  ⟨h.mv.drawn hd, below_drawn h.below hd, reads_drawn h.out hd, h.away, h.big⟩
theorem put3 (W : World) (g : Nat) (x0 x1 x2 a0 a1 a2 : Value) (h : W.heap[g]? = some (.cells #[x0, x1, x2] 71 (0, 0))) :
    ((((W.setCell ⟨g, 0, none⟩ a0).setCell ⟨g, 1, none⟩ a1).setCell ⟨g, 2, none⟩ a2).drew).heap[g]? = some (.cells #[a0, a1, a2] 71 (0, 0)) ∧ Chg (· = g) W ((((W.setCell ⟨g, 0, none⟩ a0).setCell ⟨g, 1, none⟩ a1).setCell ⟨g, 2, none⟩ a2).drew) := by
  have h0 := blk_put h 0 a0 (rfl : _ = #[a0, x1, x2])
  have h1 := blk_put h0 1 a1 (rfl : _ = #[a0, a1, x2])
  have h2 := blk_put h1 2 a2 (rfl : _ = #[a0, a1, a2])
  refine ⟨h2, ?_⟩
  have hc := (((Chg.refl (· = g) W).set (p := ⟨g, 0, none⟩) rfl a0).set (p := ⟨g, 1, none⟩) rfl a1).set (p := ⟨g, 2, none⟩) rfl a2
  exact hc.trans (Chg.of_below _ (below_drew1 (Below.refl _ _)))
theorem Go2.done {W0 W : World} {g b m : Nat} {n : Int} {bl : List (Int × List Int)} {g' b' m' : Nat} {n' : Int} {q ch cn ct : Nat} {s : St} {o : Nat} {v : Int} (h : Go2 W0 W g b m n bl g' b' m' n' q ch cn ct s o v) (h0 : g < W0.heap.size) (H2 : PH) (m1 : At W g' b' m' H2) (m2 : Lays H2 n' s.1) :
    ReadsInt (((W.setCell ⟨g, 0, none⟩ (.slice (some ⟨b', 0, none⟩) H2.ws.length H2.ws.length)).setCell ⟨g, 1, none⟩ (.int .i64 (topB 1 s.1))).setCell ⟨g, 2, none⟩ (.map (some m'))).drew .i64 (some ⟨o, 0, none⟩) 1 [v] ∧
    AtB (((W.setCell ⟨g, 0, none⟩ (.slice (some ⟨b', 0, none⟩) H2.ws.length H2.ws.length)).setCell ⟨g, 1, none⟩ (.int .i64 (topB 1 s.1))).setCell ⟨g, 2, none⟩ (.map (some m'))).drew g b' m' n' s.1 ∧
    Chg (· = g) W0 (((W.setCell ⟨g, 0, none⟩ (.slice (some ⟨b', 0, none⟩) H2.ws.length H2.ws.length)).setCell ⟨g, 1, none⟩ (.int .i64 (topB 1 s.1))).setCell ⟨g, 2, none⟩ (.map (some m'))).drew := by
  obtain ⟨H, k1, k2⟩ := h.mv.from_
  obtain ⟨e1, e2⟩ := put3 W g _ _ _ (.slice (some ⟨b', 0, none⟩) H2.ws.length H2.ws.length) (.int .i64 (topB 1 s.1)) (.map (some m')) k1.head
  obtain ⟨es, cl, e3, e4⟩ := m1.places
  have hb' := h.mv.apart b' (by simp)
  have hm' := h.mv.apart m' (by simp)
  have hgo : o ≠ g := by have := h.away.2; omega
  refine ⟨reads_chg e2 h.out (reads_lt h.out) hgo, ⟨H2, ⟨?_, ?_, es, cl, ?_, e4⟩, m2⟩, (Chg.of_below _ h.below).trans e2⟩
  · rw [e1, m2.top]
  · exact (e2.block b' (blk_lt m1.words) (by omega)).trans m1.words
  · exact (e2.block m' (blk_lt e3) (by omega)).trans e3
theorem moveC (g b m : Nat) (n : Int) (bl : List (Int × List Int)) (g' b' m' : Nat) (n' : Int) (q ch cn ct : Nat) (s : St) (w : Int) (r : Int × St) (h0 : mvO n' bl s w = some r) (W : World) (h : Mv W g b m n bl g' b' m' n' q ch cn ct s) :
    Calls Try.prog 64 #[.int .i64 w, .pointer (some ⟨ch, 0, none⟩), .pointer (some ⟨cn, 0, none⟩), .pointer (some ⟨ct, 0, none⟩)] W fun e w' => e = .returned (.int .i64 r.1) ∧ Mv w' g b m n bl g' b' m' n' q ch cn ct r.2 ∧ Chg (Moves g' b' m' q) W w' := by
  obtain ⟨e, hroom⟩ := mvO_eq h0
  have := move_calls g b m n bl g' b' m' n' q ch cn ct s w W h hroom
  rw [e] at this
  exact this

set_option maxHeartbeats 16000000 in
set_option maxRecDepth 100000 in
theorem collect_calls (g b m : Nat) (n : Nat) (bl : List (Int × List Int)) (c v : Int) (A : Option Addr) (cap : Nat) (k : Nat) (s1 s2 : St) (W : World) (h : AtB W g b m n bl) (hr : ReadsInt W .i64 A [c].length [c]) (hmay : mayB bl c = true)
    (hn1 : 64 ≤ n) (hn2 : n ≤ 65536) (h1 : mvO n bl ([], (fun _ => 0), []) c = some (v, s1)) (h2 : scanO n bl k 1 s1 = some s2) :
    Calls Try.prog 33 #[.pointer (some ⟨g, 0, none⟩), .slice A [c].length cap] W fun e w' => ∃ o oc b' m', e = .returned (.tuple #[.slice (some ⟨o, 0, none⟩) 1 oc, .int .i64 0]) ∧ ReadsInt w' .i64 (some ⟨o, 0, none⟩) 1 [v] ∧ AtB w' g b' m' n s2.1 ∧ W.heap.size ≤ b' ∧ W.heap.size ≤ m' ∧ Chg (· = g) W w' := by
  have hb1 : Below W.heap.size W (W.alloc (.cells #[.pointer (some ⟨g, 0, none⟩)] 31)) := (Below.refl _ _).alloc (Nat.le_refl _) _
  have hat1 := h.below hb1
  have hcell : (W.alloc (.cells #[.pointer (some ⟨g, 0, none⟩)] 31)).cell? ⟨W.heap.size, 0, none⟩ = some (.pointer (some ⟨g, 0, none⟩)) := by
    rw [World.cell?_alloc_new]; rfl
  have HC := Aside0.mk (containsFunc61_calls (.pointer (some ⟨W.heap.size, 0, none⟩)) (fun z => !mayB bl z) A cap [c] (W.alloc (.cells #[.pointer (some ⟨g, 0, none⟩)] 31)) (hr.allocS _) (by simp)
    (fun n' z => collect1_calls g b m n bl z W.heap.size _ (hat1.drawn (drawn_n _ n')) hcell))
  have HA := Aside0.mk hat1
  have HG0 := Aside0.mk h.sizes.1
  have HN := Aside0.mk (fun W => newB n W hn1 hn2)
  have hmay2 : [c].any (fun z => !mayB bl z) = false := by simp [hmay]
  rw [hmay2] at HC
  clear hat1 hmay hmay2 h
  have hmm := @run_makeMap Try.prog 91
  go_enter Try.func33, Try.ntmps33
  go_wp2_with (first
    | (go_at_call 60; (refine HC.out.mono ?_); rintro e w1 ⟨rfl, hd⟩; have HD1 := Aside0.mk hd; have HA1 := Aside0.mk (HA.out.drawn hd); have hc1 := cell_drawn hcell hd; clear hd)
    | (go_at_call 63; (refine (halfC g b m n bl _ HA1.out).mono ?_); rintro e w2 ⟨rfl, hd⟩; have HD2 := Aside0.mk hd; have HA2 := Aside0.mk (HA1.out.drawn hd); have hc2 := cell_drawn hc1 hd; clear hd)
    | (go_at_call 14; (refine (HN.out _).mono ?_); rintro e w3 ⟨g', b', m', rfl, hat, hg, hb, hm, hbl⟩; have HT3 := Aside0.mk hat; have HG := Aside0.mk hg; have HBB := Aside0.mk hb; have HM := Aside0.mk hm; have HB3 := Aside0.mk hbl; clear hat hg hb hm hbl))
  have HM0 := Aside0.mk (Mv.start HA2.out (blk_drawn (blk_drawn (blk_new W (.cells #[.pointer (some ⟨g, 0, none⟩)] 31)) HD1.out) HD2.out) HB3.out HT3.out HG.out HBB.out HM.out)
  have HB0 := Aside0.mk (below_alloc (below_alloc (below_alloc (below_then (below_drawn (below_drawn hb1 HD1.out) HD2.out) (below_drawn (below_drawn hb1 HD1.out) HD2.out).size HB3.out) (.cells #[.pointer (some ⟨g', 0, none⟩)] 31)) (.map #[] 0)) (.cells #[.map (some (w3.heap.size + 1))] 91))
  have HBig : Aside0 (∀ k, Moves g' b' m' (w3.heap.size + 1) k → W.heap.size ≤ k) := ⟨fun k hk => by
    have a1 := HG.out
    have a2 := HBB.out
    have a3 := HM.out
    have a4 := (below_drawn (below_drawn hb1 HD1.out) HD2.out).size
    have a5 := HB3.out.size
    simp only [Moves] at hk
    omega⟩
  have H1 := Aside0.mk h1
  have H2 := Aside0.mk h2
  have HR := Aside0.mk ((hr.allocS (.cells #[.pointer (some ⟨g, 0, none⟩)] 31)))
  go_loopg [9, 25] 1 (fun kq v9 v25 w' => Aside0 (Below W.heap.size W w') ∧ ((Aside0 (kq = 1) ∧ v9 = .slice none 0 0 ∧ v25 = .int .i64 0 ∧ Aside0 (Mv w' g b m n bl g' b' m' n (w3.heap.size + 1) W.heap.size (w3.heap.size + 1 + 1) w3.heap.size ([], (fun _ => 0), []))) ∨ (Aside0 (kq = 0) ∧ v25 = .int .i64 1 ∧ ∃ o oc, v9 = .slice (some ⟨o, 0, none⟩) 1 oc ∧ Aside0 (Mv w' g b m n bl g' b' m' n (w3.heap.size + 1) W.heap.size (w3.heap.size + 1 + 1) w3.heap.size s1) ∧ Aside0 (ReadsInt w' .i64 (some ⟨o, 0, none⟩) 1 [v]) ∧ Aside0 (o < w'.heap.size ∧ ¬ Moves g' b' m' (w3.heap.size + 1) o ∧ W.heap.size ≤ o))))
  case atStart => exact ⟨HB0, .inl ⟨⟨rfl⟩, rfl, rfl, HM0⟩⟩
  case round =>
    obtain ⟨HB, hrel⟩ := hrel
    rcases hrel with ⟨⟨rfl⟩, rfl, rfl, HMV⟩ | ⟨⟨rfl⟩, rfl, o, oc, rfl, HMV, HRO, HO⟩
    · obtain ⟨ad, rfl, hca⟩ := hr.at_ 0 (Int.le_refl _) (by simp)
      have hcw := cell_below HB.out (first_cell (r := []) hca)
      clear hca
      go_wp2_with (first
        | (go_at_call 64; (refine (moveC g b m n bl g' b' m' n (w3.heap.size + 1) W.heap.size (w3.heap.size + 1 + 1) w3.heap.size ([], (fun _ => 0), []) c (v, s1) H1.out _ HMV.out).mono ?_); rintro e w5 ⟨rfl, hm, hc⟩; have HM5 := Aside0.mk hm; have HB5 := Aside0.mk (hc.below HB.out HB.out.size HBig.out); clear hm hc)
        | ((with_reducible refine gate_builtin (b := .append) (xs := #[.tmp 29, .tmp 33]) rfl ?_); at_builtin; refine Kd.R_append (Kd.int .i64) (w0 := w5) w5.heap.size rfl (.tmp 29) (.tmp 33) 36 3 (.int .i64 0) 8 rfl Try.underlying36 info3 rfl (by decide) (by omega) (.slice none 0 0) [] v [.int .i64 v] (fun _ => True) (fun _ => False) rfl rfl ?aP (fun _ hk => hk.elim) ?aF ?aO (Below.refl _ _) ?aS ?aL ?_; (case aP => exact rfl); (case aF => exact (fun _ _ => trivial)); (case aO => exact Kd.R_nil _ _ _ _ _); (case aS => exact Nat.le_refl _); (case aL => decide); intro v6 w6 ho hb hg hat; obtain ⟨o, oc, rfl, _, _, hoB, hro⟩ := own_form (l := [v]) (Kd.own_of_R ho) (by simp); have HRO := Aside0.mk hro; have HM6 := Aside0.mk (HM5.out.below hb); have HB6 := Aside0.mk (below_then HB5.out HB5.out.size hb); have HOB := Aside0.mk hoB; clear ho hb hg hat hro hoB))
      go_roundg 0
      case measure => omega
      case rel => exact ⟨HB6, .inr ⟨⟨rfl⟩, rfl, o, oc, rfl, HM6, HRO, ⟨⟨reads_lt HRO.out, fun hk => by have := HM5.out.small _ hk; have := HOB.out; omega, by have := HB5.out.size; have := HOB.out; omega⟩⟩⟩⟩
    · have HGO := Aside0.mk (Go2.mk HMV.out HB.out HRO.out HO.out.2 HBig.out)
      clear HMV HB HRO HO HM0 HB0
      generalize hch : W.heap.size = ch at HGO ⊢
      go_wp2
      go_loopg [12] k (fun kq v12 w' => ∃ (p : Nat) (s : St), v12 = .int .i64 (p : Int) ∧ Aside0 (1 ≤ p) ∧ Aside0 (scanO n bl kq p s = some s2) ∧ Aside0 (Go2 W w' g b m n bl g' b' m' n (w3.heap.size + 1) ch (w3.heap.size + 1 + 1) w3.heap.size s o v))
      case atStart => exact ⟨1, s1, rfl, ⟨Nat.le_refl _⟩, H2, HGO⟩
      case round =>
        obtain ⟨p, s, rfl, HP, HS, HGO⟩ := hrel
        cases gk with
        | zero => exact absurd HS.out (by simp [scanO])
        | succ k1 =>
          have hs := HS.out
          clear HS
          rw [scanO] at hs
          have hc3 := HGO.out.mv.cell3
          have htop := topC HGO.out.mv.to_
          have hbnd := HGO.out.mv.to_.bound
          by_cases hlt : (p : Int) < topB 1 s.1
          · rw [if_pos hlt] at hs
            cases hy : findB 1 s.1 (2 * (p : Int)) with
            | none => rw [hy] at hs; cases hs
            | some y =>
              rw [hy] at hs
              simp only at hs
              have HSP := Aside0.mk (fun W h => spanP g' b' m' n s.1 p y hy W h)
              have HFI : Aside0 (∃ l, findB 1 s.1 (2 * (p : Int)) = some (y.1, l) ∧ l.length = y.2.length) := ⟨⟨y.2, hy, rfl⟩⟩
              obtain ⟨_, _, _, _, _, _, hroomL⟩ := headP hy HGO.out.mv.to_
              clear hy
              generalize y.1 = tag at *
              generalize y.2.length = L at *
              obtain ⟨ad, had⟩ : ∃ ad, cutAt b' (p + 1) L = ad := ⟨_, rfl⟩
              rw [had] at HSP
              have HS := Aside0.mk hs
              have HAD := Aside0.mk had
              have hL : L ≤ 100000 := by omega
              have hp1 : 1 ≤ p := HP.out
              clear hs had y
              go_wp2_with (go_at_call 51; (with_reducible refine (HSP.out _ HGO.out.mv.to_).mono ?_); rintro e w7 ⟨rfl, hd⟩; have HG7 := Aside0.mk (HGO.out.drawn hd); clear hd)
              go_loopg [47] L (fun kq v47 w' => ∃ (i : Nat) (s' : St), v47 = .int .i64 (i : Int) ∧ Aside0 (i + kq = L) ∧ Aside0 ((fldO n bl p tag kq i s').bind (fun s'' => scanO n bl k1 (p + 1 + L) s'') = some s2) ∧ Aside0 (∃ l, findB 1 s'.1 (2 * (p : Int)) = some (tag, l) ∧ l.length = L) ∧ Aside0 (Go2 W w' g b m n bl g' b' m' n (w3.heap.size + 1) ch (w3.heap.size + 1 + 1) w3.heap.size s' o v))
              case atStart => exact ⟨0, s, rfl, ⟨by omega⟩, HS, HFI, HG7⟩
              case round =>
                clear HS HFI HG7 HSP HGO htop hc3 hlt
                obtain ⟨i, s', rfl, HI, HS, HFI, HGO⟩ := hrel
                cases gk with
                | zero =>
                  have hi := HI.out
                  have hs := HS.out
                  rw [fldO] at hs
                  have HS2 := Aside0.mk (show scanO n bl k1 (p + 1 + L) s' = some s2 from hs)
                  clear hs HS HFI
                  go_wp2
                  go_roundg k1
                  case measure => omega
                  case rel => exact ⟨p + 1 + L, s', by go_num, ⟨by omega⟩, HS2, HGO⟩
                | succ k2 =>
                  have hi := HI.out
                  obtain ⟨l, hfl, hll⟩ := HFI.out
                  obtain ⟨L2, hv, hh0, hh1, hh2, hh3, _⟩ := headP hfl HGO.out.mv.to_
                  have hc3 := HGO.out.mv.cell3
                  have hs := HS.out
                  rw [fldO] at hs
                  by_cases ht : tag = 201
                  · rw [if_pos ht] at hs
                    have HS2 := Aside0.mk hs
                    clear hs HS
                    rw [ht] at hh3
                    go_wp2
                    go_roundg k2
                    case measure => omega
                    case rel => exact ⟨i + 1, s', by go_num, ⟨by omega⟩, HS2, HFI, HGO⟩
                  · rw [if_neg ht, hfl] at hs
                    simp only at hs
                    cases hmv : mvO (n : Int) bl s' (rd l (i : Int)) with
                    | none => rw [hmv] at hs; cases hs
                    | some r =>
                      rw [hmv] at hs
                      simp only [Option.bind_some] at hs
                      have hnt : (tag != 201) = true := bne_iff_ne.2 ht
                      have hil : i < l.length := by omega
                      have hiL : i < L := by omega
                      have hE : ad.add i = ⟨b', p + 1 + i, none⟩ := by
                        rw [← HAD.out]
                        unfold cutAt
                        rw [if_neg (by omega)]
                        unfold Addr.add
                        split <;> simp_all
                      have hcl := (HGO.out.mv.to_.set p i (tag, l) hfl hil 0).2.2
                      rw [← hE] at hcl
                      simp only at hcl
                      have hfl2 : findB 1 r.2.1 (2 * (p : Int)) = some (tag, l) := by
                        have := mvB_find (bl := bl) (w := rd l (i : Int)) hfl
                        rw [(mvO_eq hmv).1] at this
                        exact this
                      have HF2 := Aside0.mk hfl2
                      have HE := Aside0.mk hE
                      have HMO := Aside0.mk (fun W h => moveC g b m n bl g' b' m' n (w3.heap.size + 1) ch (w3.heap.size + 1 + 1) w3.heap.size s' (rd l (i : Int)) r hmv W h)
                      have HST := Aside0.mk (fun W (h : AtB W g' b' m' n r.2.1) => h.set p i (tag, l) hfl2 hil r.1)
                      have HS2 := Aside0.mk hs
                      have HF3 : Aside0 (∃ l', findB 1 (setB 1 r.2.1 p i r.1) (2 * (p : Int)) = some (tag, l') ∧ l'.length = L) := ⟨⟨l.set i r.1, by rw [findB_set, if_pos rfl, hfl2]; rfl, by rw [List.length_set]; exact hll⟩⟩
                      clear hs HS hfl2 hE hmv
                      generalize hzz : rd l (i : Int) = z at *
                      clear hzz
                      go_wp2_with (go_at_call 64; (with_reducible refine (HMO.out _ HGO.out.mv).mono ?_); rintro e w8 ⟨rfl, hm, hc⟩; have HG8 := Aside0.mk (HGO.out.chg hm hc); have hst := (HST.out _ hm.to_).2; rw [← HE.out] at hst; obtain ⟨hfz8, hcl8⟩ := hst; clear hm hc)
                      go_roundg k2
                      case measure => omega
                      case rel => exact ⟨i + 1, _, by go_num, ⟨by omega⟩, HS2, HF3, ⟨by rw [HE.out]; exact HG8.out.chg (HG8.out.mv.set p i (tag, l) HF2.out hil r.1) (Chg.set (S := Moves g' b' m' (w3.heap.size + 1)) (Chg.refl _ _) (p := ⟨b', p + 1 + i, none⟩) (.inr (.inl rfl)) _)⟩⟩
          · rw [if_neg hlt] at hs
            obtain rfl := Option.some.inj hs
            obtain ⟨H1, k1', k2'⟩ := HGO.out.mv.from_
            obtain ⟨H2, m1, m2⟩ := HGO.out.mv.to_
            have hc1 := HGO.out.mv.cell1
            have hz0 := (blk_cell m1.head 0).trans (rfl : _ = some (Value.slice (some ⟨b', 0, none⟩) H2.ws.length H2.ws.length))
            have hz1 := (blk_cell m1.head 1).trans (rfl : _ = some (Value.int .i64 H2.top))
            have hz2 := (blk_cell m1.head 2).trans (rfl : _ = some (Value.map (some m')))
            have hy0 := (blk_cell k1'.head 0).trans (rfl : _ = some (Value.slice (some ⟨b, 0, none⟩) H1.ws.length H1.ws.length))
            have hy1 := (blk_cell k1'.head 1).trans (rfl : _ = some (Value.int .i64 H1.top))
            have hy2 := (blk_cell k1'.head 2).trans (rfl : _ = some (Value.map (some m)))
            have hf0 := blk_frozen k1'.head 0
            have hf1 := blk_frozen k1'.head 1
            have hf2 := blk_frozen k1'.head 2
            have hht := m2.top
            rw [← hht] at htop hlt
            go_wp2
            go_region
            have HDN := Aside0.mk (HGO.out.done HG0.out H2 m1 m2)
            have HBG := Aside0.mk (show W.heap.size ≤ b' ∧ W.heap.size ≤ m' from ⟨HGO.out.big _ (by simp [Moves]), HGO.out.big _ (by simp [Moves])⟩)
            clear m1 m2 k1' k2' HGO
            go_wp2
            go_ret2
            exact ⟨o, oc, b', m', rfl, HDN.out.1, HDN.out.2.1, HBG.out.1, HBG.out.2, HDN.out.2.2⟩
end Go.Proofs.Ytkmoneccehbncaa.Heap
/- Close and Open over a list of blocks; what Collect comes to for PrimsKeep. -/
namespace Go.Proofs.Ytkmoneccehbncaa.Heap
open Go.RowKit Go.Proofs.YtkmoneccehbncaaW.PrintWords Go.Proofs.YtkmoneccehbncaaW.PrintLast Go.Proofs.YtkmoneccehbncaaW.PrintMore Go.Proofs.Ytkmoneccehbncaa.Print Go.Proofs.Ytkmoneccehbncaa.Ints
set_option linter.unusedVariables false
set_option linter.unusedSimpArgs false

def closeB (n : Int) (bl : List (Int × List Int)) (fn : Int) (l : List Int) : Int × Int × List (Int × List Int) := if fn < 0 ∨ 2147483647 < fn then (0, 1, bl) else makeB n bl 200 ((2 * fn + 1) :: l)
def openB (bl : List (Int × List Int)) (z : Int) : Int × List Int × Int :=
  match findB 1 bl z with
  | none => (0, [], 4)
  | some y => if y.1 = 200 then openOf y.2 else (0, [], 4)
theorem Lays.close {H : PH} {n : Int} {bl : List (Int × List Int)} (h : Lays H n bl) (fn : Int) (l : List Int) :
    (H.close fn l).1 = (closeB n bl fn l).1 ∧ (H.close fn l).2.1 = (closeB n bl fn l).2.1 ∧ Lays (H.close fn l).2.2 n (closeB n bl fn l).2.2 := by
  unfold PH.close closeB
  by_cases h0 : fn < 0 ∨ 2147483647 < fn
  · rw [if_pos h0, if_pos h0]
    exact ⟨rfl, rfl, h⟩
  · rw [if_neg h0, if_neg h0]
    exact h.make 200 _
theorem Lays.open_ {H : PH} {n : Int} {bl : List (Int × List Int)} (h : Lays H n bl) (z : Int) : H.open_ z = openB bl z := by
  unfold PH.open_ openB
  rw [h.tag z, h.fields z]
  cases findB 1 bl z <;> rfl
theorem closeC (g b m : Nat) (n : Int) (bl : List (Int × List Int)) (fn : Int) (A : Option Addr) (c : Nat) (l : List Int) (W : World) (h : AtB W g b m n bl) (hr : ReadsInt W .i64 A l.length l) (hl : l.length ≤ 10000) :
    Calls Try.prog 32 #[.pointer (some ⟨g, 0, none⟩), .int .i64 fn, .slice A l.length c] W fun e' w' => e' = .returned (.tuple #[.int .i64 (closeB n bl fn l).1, .int .i64 (closeB n bl fn l).2.1]) ∧
      AtB w' g b m n (closeB n bl fn l).2.2 ∧ Chg (Its g b m) W w' := by
  obtain ⟨H, h1, h2⟩ := h
  obtain ⟨e1, e2, h3⟩ := h2.close fn l
  rw [← e1, ← e2]
  refine (close_calls g b m H fn A c l W h1 h2.wf hr hl).mono ?_
  rintro e w' ⟨rfl, ha, hc⟩
  exact ⟨rfl, ⟨_, ha, h3⟩, hc⟩
theorem openC (g b m : Nat) (n : Int) (bl : List (Int × List Int)) (z : Int) (W : World) (h : AtB W g b m n bl) :
    Calls Try.prog 28 #[.pointer (some ⟨g, 0, none⟩), .int .i64 z] W fun e w' => ∃ v, e = .returned (.tuple #[.int .i64 (openB bl z).1, v, .int .i64 (openB bl z).2.2]) ∧ Row w' W.heap.size v (openB bl z).2.1 ∧ Below W.heap.size W w' := by
  obtain ⟨H, h1, h2⟩ := h
  rw [← h2.open_ z]
  exact open_calls g b m H z W h1 h2.wf

/-- The blocks of PrimsKeep: two texts and one that is lost, and a closure that keeps the two. -/
def lost : ByteArray := ⟨#[108, 111, 115, 116]⟩
theorem lost_len : (pack lost).length = 2 := by decide +kernel
def kb (s : ByteArray) : Int := 2 * (1 + 1 + (pack s).length + 1 + (pack lost).length)
def kc (s t : ByteArray) : Int := 2 * (1 + 1 + (pack s).length + 1 + (pack lost).length + 1 + (pack t).length)
def k3 (s t : ByteArray) : List (Int × List Int) := [(201, pack s), (201, pack lost), (201, pack t)]
def k4 (s t : ByteArray) (f : Int) : List (Int × List Int) := [(201, pack s), (201, pack lost), (201, pack t), (200, [2 * f + 1, kb s, 2, 9])]
def kx (t : ByteArray) : Int := 2 * (1 + 1 + (4 : Nat) + 1 + (pack t).length)
def k5 (s t : ByteArray) (f : Int) : List (Int × List Int) := [(200, [2 * f + 1, 12, kx t, 9]), (201, pack t), (201, pack s)]
theorem p_le' (s : ByteArray) (h : s.size ≤ 60) : (pack s).length ≤ 10 := by rw [pack_length]; omega
theorem f_odd (bl : List (Int × List Int)) (z : Int) (h : z % 2 = 1) : findB 1 bl z = none := by
  cases hf : findB 1 bl z with
  | none => rfl
  | some y => obtain ⟨q, e, _⟩ := findB_some hf; omega
theorem kt_1 (s : ByteArray) (h : s.size ≤ 60) : textB 200 [] s = (2, 0, [(201, pack s)]) := text_ok 200 [] s h (by decide)
theorem kt_2 (s : ByteArray) (h : s.size ≤ 60) : textB 200 [(201, pack s)] lost = (2 * (1 + 1 + ((pack s).length : Int)), 0, [(201, pack s), (201, pack lost)]) := text_ok 200 [(201, pack s)] lost (by decide) (by have := p_le' s h; show 1 + 1 + ((pack s).length : Int) + 10 ≤ 200; omega)
theorem kt_3 (s t : ByteArray) (h : s.size ≤ 60) (ht : t.size ≤ 60) : textB 200 [(201, pack s), (201, pack lost)] t = (kb s, 0, k3 s t) := text_ok 200 [(201, pack s), (201, pack lost)] t ht (by have := p_le' s h; have := lost_len; show 1 + 1 + ((pack s).length : Int) + 1 + (pack lost).length + 10 ≤ 200; omega)
theorem f3_a (s t : ByteArray) (r : List (Int × List Int)) : findB 1 ((201, pack s) :: r) 2 = some (201, pack s) := rfl
theorem f3_b (s t : ByteArray) (r : List (Int × List Int)) : findB 1 ((201, pack s) :: (201, pack lost) :: (201, pack t) :: r) (kb s) = some (201, pack t) := by
  unfold kb
  rw [findB, if_neg (by omega), findB, if_neg (by simp only []; omega), findB, if_pos rfl]
theorem f4_c (s t : ByteArray) (f : Int) : findB 1 (k4 s t f) (kc s t) = some (200, [2 * f + 1, kb s, 2, 9]) := by
  unfold kc k4
  rw [findB, if_neg (by omega), findB, if_neg (by simp only []; omega), findB, if_neg (by simp only []; omega), findB, if_pos rfl]
theorem k_close (s t : ByteArray) (h : s.size ≤ 60) (ht : t.size ≤ 60) (f : Int) (h0 : 0 ≤ f) (h1 : f ≤ 1000) : closeB 200 (k3 s t) f [kb s, 2, 9] = (kc s t, 0, k4 s t f) := by
  unfold closeB makeB
  have e1 : mayB (k3 s t) (2 * f + 1) = true := by unfold mayB; rw [decide_eq_true (by omega)]; rfl
  have e2 : mayB (k3 s t) (kb s) = true := by unfold mayB k3; rw [f3_b]; simp
  have e3 : mayB (k3 s t) 2 = true := by unfold mayB k3; rw [f3_a s t]; simp
  have e4 : mayB (k3 s t) 9 = true := rfl
  have ho : oddB (k3 s t) 200 ((2 * f + 1) :: [kb s, 2, 9]) = false := by
    unfold oddB
    simp [e1, e2, e3, e4]
  have p1 := p_le' s h
  have p2 := p_le' t ht
  have p3 := lost_len
  rw [if_neg (by omega), ho, if_neg (by decide), if_neg (by show ¬ (200 : Int) < 1 + 1 + (pack s).length + 1 + (pack lost).length + 1 + (pack t).length + (4 : Nat); omega)]
  rfl
theorem fld201 (n : Int) (bl : List (Int × List Int)) (p : Nat) : ∀ (m i : Nat) (s : St), fldO n bl p 201 m i s = some s
  | 0, i, s => rfl
  | m + 1, i, s => by rw [fldO, if_pos rfl]; exact fld201 n bl p m (i + 1) s
theorem k_move (s t : ByteArray) (f : Int) : mvO 200 (k4 s t f) ([], (fun _ => 0), []) (kc s t) = some (2, ([(200, [2 * f + 1, kb s, 2, 9])], (fun k => if k = kc s t / 2 then 1 else 0), [kc s t / 2])) := by
  unfold mvO
  rw [f4_c]
  simp only
  have e : topB 1 [] + (([2 * f + 1, kb s, 2, 9] : List Int).length : Int) ≤ 200 := show (1 : Int) + (4 : Nat) ≤ 200 by decide
  rw [if_neg (by simp), if_pos e]
  rfl
theorem fld_none {n : Int} {bl : List (Int × List Int)} {p : Nat} {tag : Int} {m i : Nat} {s : St} {y : Int × List Int} (ht : tag ≠ 201) (hy : findB 1 s.1 (2 * (p : Int)) = some y) (w : Int) (hw : rd y.2 (i : Int) = w) (hn : findB 1 bl w = none) (b2 : List (Int × List Int)) (hb : setB 1 s.1 p i w = b2) :
    fldO n bl p tag (m + 1) i s = fldO n bl p tag m (i + 1) (b2, s.2) := by
  rw [fldO, if_neg ht, hy]
  simp only
  rw [hw]
  unfold mvO
  rw [hn]
  simp only [Option.bind_some]
  rw [hb]
theorem fld_new {n : Int} {bl : List (Int × List Int)} {p : Nat} {tag : Int} {m i : Nat} {s : St} {y : Int × List Int} (ht : tag ≠ 201) (hy : findB 1 s.1 (2 * (p : Int)) = some y) (w : Int) (hw : rd y.2 (i : Int) = w) (x : Int × List Int) (hn : findB 1 bl w = some x) (hk : w / 2 ∉ s.2.2) (hr : topB 1 s.1 + x.2.length ≤ n) (b2 : List (Int × List Int)) (hb : setB 1 (s.1 ++ [x]) p i (2 * topB 1 s.1) = b2) :
    fldO n bl p tag (m + 1) i s = fldO n bl p tag m (i + 1) (b2, (fun k => if k = w / 2 then topB 1 s.1 else s.2.1 k), s.2.2 ++ [w / 2]) := by
  rw [fldO, if_neg ht, hy]
  simp only
  rw [hw]
  unfold mvO
  rw [hn]
  simp only [Option.bind_some]
  rw [if_neg hk, if_pos hr]
  simp only [Option.bind_some]
  rw [hb]
theorem scan_go {n : Int} {bl : List (Int × List Int)} {k p : Nat} {s s' : St} {y : Int × List Int} (h1 : (p : Int) < topB 1 s.1) (hy : findB 1 s.1 (2 * (p : Int)) = some y) (hf : fldO n bl p y.1 y.2.length 0 s = some s') : scanO n bl (k + 1) p s = scanO n bl k (p + 1 + y.2.length) s' := by
  rw [scanO, if_pos h1, hy]
  simp only
  rw [hf]
  rfl
theorem k_scan (s t : ByteArray) (h : s.size ≤ 60) (ht : t.size ≤ 60) (f : Int) : ∃ s2, scanO 200 (k4 s t f) 4 1 ([(200, [2 * f + 1, kb s, 2, 9])], (fun k => if k = kc s t / 2 then 1 else 0), [kc s t / 2]) = some s2 ∧ s2.1 = k5 s t f := by
  have p1 := p_le' s h
  have p2 := p_le' t ht
  have p3 := lost_len
  have n1 : kb s / 2 ≠ kc s t / 2 := by unfold kb kc; omega
  have n2 : (2 : Int) / 2 ≠ kc s t / 2 := by unfold kc; omega
  have n3 : (2 : Int) / 2 ≠ kb s / 2 := by unfold kb; omega
  have g1 : findB 1 (k4 s t f) (2 * f + 1) = none := f_odd _ _ (by omega)
  have g2 : findB 1 (k4 s t f) (kb s) = some (201, pack t) := f3_b s t _
  have g3 : findB 1 (k4 s t f) 2 = some (201, pack s) := f3_a s t _
  have g4 : findB 1 (k4 s t f) 9 = none := f_odd _ _ (by decide)
  unfold k5 kx
  generalize k4 s t f = bl at *
  generalize kb s = b at *
  generalize kc s t / 2 = c at *
  generalize 2 * f + 1 = a at *
  clear h ht
  generalize hP : pack s = P at *
  generalize hR : pack t = R at *
  have hf := ((fld_none (n := 200) (p := 1) (tag := 200) (m := 3) (i := 0) (s := ([(200, [a, b, 2, 9])], (fun k => if k = c then 1 else 0), [c])) (y := (200, [a, b, 2, 9])) (by decide) rfl a rfl g1 [(200, [a, b, 2, 9])] rfl).trans
    ((fld_new (n := 200) (m := 2) (i := 0 + 1) (s := ([(200, [a, b, 2, 9])], (fun k => if k = c then 1 else 0), [c])) (y := (200, [a, b, 2, 9])) (by decide) rfl b rfl (201, R) g2 (by simpa using n1) (by show (1 : Int) + 1 + (4 : Nat) + R.length ≤ 200; omega) [(200, [a, 12, 2, 9]), (201, R)] rfl).trans
    ((fld_new (n := 200) (m := 1) (i := 0 + 1 + 1) (y := (200, [a, 12, 2, 9])) (by decide) rfl 2 rfl (201, P) g3 (by simp only [List.mem_append, List.mem_singleton, not_or]; exact ⟨n2, n3⟩) (by show (1 : Int) + 1 + (4 : Nat) + 1 + R.length + P.length ≤ 200; omega) [(200, [a, 12, 2 * (1 + 1 + (4 : Nat) + 1 + R.length), 9]), (201, R), (201, P)] rfl).trans
    (fld_none (n := 200) (m := 0) (i := 0 + 1 + 1 + 1) (y := (200, [a, 12, 2 * (1 + 1 + (4 : Nat) + 1 + R.length), 9])) (by decide) rfl 9 rfl g4 [(200, [a, 12, 2 * (1 + 1 + (4 : Nat) + 1 + R.length), 9]), (201, R), (201, P)] rfl))))
  rw [show ∀ x, fldO 200 bl 1 200 0 (0 + 1 + 1 + 1 + 1) x = some x from fun x => rfl] at hf
  have e1 := scan_go (k := 3) (p := 1) (y := (200, [a, b, 2, 9])) (by show ((1 : Nat) : Int) < 1 + 1 + (4 : Nat); decide) rfl hf
  have fin : ∀ S : St, S.1 = [(200, [a, 12, 2 * (1 + 1 + (4 : Nat) + 1 + R.length), 9]), (201, R), (201, P)] → scanO 200 bl 3 6 S = some S := fun S hS => by
    have t1 : topB 1 S.1 = 1 + 1 + (4 : Nat) + 1 + R.length + 1 + P.length := by rw [hS]; rfl
    have e2 := scan_go (n := 200) (bl := bl) (k := 2) (p := 6) (y := (201, R)) (s := S) (by rw [t1]; omega) (by rw [hS]; rfl) (fld201 _ _ _ _ _ _)
    have e3 := scan_go (n := 200) (bl := bl) (k := 1) (p := 6 + 1 + R.length) (y := (201, P)) (s := S) (by rw [t1]; omega) (by
      rw [hS, findB, if_neg (by omega), findB, if_neg (by simp only [List.length_cons, List.length_nil]; omega), findB, if_pos (by simp only [List.length_cons, List.length_nil]; omega)]) (fld201 _ _ _ _ _ _)
    refine e2.trans (e3.trans ?_)
    rw [scanO, if_neg (by rw [t1]; show ¬ ((6 + 1 + R.length + 1 + P.length : Nat) : Int) < _; omega)]
  have hfin := e1.trans (fin _ rfl)
  exact ⟨_, hfin, rfl⟩
theorem k_open (s t : ByteArray) (f : Int) (h0 : 0 ≤ f) (h1 : f ≤ 1000) : openB (k5 s t f) 2 = (f, [12, kx t, 9], 0) := by
  show openOf [2 * f + 1, 12, kx t, 9] = _
  unfold openOf
  simp only
  rw [if_neg (by omega), if_neg (by omega), show (2 * f + 1) / 2 = f by omega]
theorem k_str1 (s t : ByteArray) (f : Int) (ht : t.size ≤ 60) : strB (k5 s t f) 12 = (t, 0) := str_some rfl ht
theorem k_str2 (s t : ByteArray) (f : Int) (h : s.size ≤ 60) : strB (k5 s t f) (kx t) = (s, 0) := str_some (by
  unfold k5 kx
  rw [findB, if_neg (by omega), findB, if_neg (by simp only [List.length_cons, List.length_nil]; omega), findB, if_pos (by simp only [List.length_cons, List.length_nil])]) h
end Go.Proofs.Ytkmoneccehbncaa.Heap
/- prims.Case over the heap of layer 2; make, fields, used over a list of blocks; no condition but what each theorem states. -/
namespace Go.Proofs.Ytkmoneccehbncaa.Heap
open Go.RowKit Go.Proofs.YtkmoneccehbncaaW.PrintWords Go.Proofs.YtkmoneccehbncaaW.PrintLast Go.Proofs.YtkmoneccehbncaaW.PrintMore Go.Proofs.Ytkmoneccehbncaa.Print Go.Proofs.Ytkmoneccehbncaa.Ints
set_option linter.unusedVariables false
set_option linter.unusedSimpArgs false

theorem drawn_trans {W W1 W2 : World} (h : Drawn0 W W1) (k : Drawn0 W1 W2) : Drawn0 W W2 := by
  obtain ⟨n, rfl⟩ := k.out
  exact h.step n
def tagB (bl : List (Int × List Int)) (z : Int) : Int := match findB 1 bl z with | none => -1 | some y => y.1
def caseB (bl : List (Int × List Int)) (z : Int) : Int × Int := if z % 2 = 0 then (if tagB bl z < 0 ∨ 199 < tagB bl z then (0, 4) else (tagB bl z, 0)) else (z / 2, 0)
theorem tagC (g b m : Nat) (n : Int) (bl : List (Int × List Int)) (z : Int) (W : World) (h : AtB W g b m n bl) :
    Calls Try.prog 55 #[.pointer (some ⟨g, 0, none⟩), .int .i64 z] W fun e w' => e = .returned (.int .i64 (tagB bl z)) ∧ Drawn0 W w' := by
  obtain ⟨H, h1, h2⟩ := h
  have := tag_calls g b m H z W h1 (fun hp => by have := h2.wf.blk _ (PH.place_mem (H := H) (z := z) hp); omega)
  have e : (if H.place z = 0 then -1 else (rd H.ws (H.place z)).tmod 256) = tagB bl z := h2.tag z
  rw [e] at this
  exact this
set_option maxHeartbeats 1600000 in
set_option maxRecDepth 100000 in
theorem caseC (g b m : Nat) (n : Int) (bl : List (Int × List Int)) (z : Int) (W : World) (h : AtB W g b m n bl) :
    Calls Try.prog 30 #[.pointer (some ⟨g, 0, none⟩), .int .i64 z] W fun e w' => e = .returned (.tuple #[.int .i64 (caseB bl z).1, .int .i64 (caseB bl z).2]) ∧ Drawn0 W w' := by
  have HT := Aside0.mk (fun W h => tagC g b m n bl z W h)
  have HH := Aside0.mk h
  have hu := untag_eq z
  unfold caseB
  generalize tagB bl z = t at *
  clear h
  by_cases hz : z % 2 = 0
  · rw [if_pos hz] at hu ⊢
    have HU := Aside0.mk hu
    clear hu hz
    by_cases h1 : t < 0
    · rw [if_pos (.inl h1)]
      go_enter Try.func30, Try.ntmps30
      go_wp2_with (first | (go_at_call 35; (with_reducible refine (ints_Untag.calls z 0 false _ HU.out).mono ?_); rintro e w1 ⟨rfl, hd⟩; have HD := Aside0.mk hd; clear hd) | (go_at_call 55; (with_reducible refine (HT.out _ (HH.out.drawn HD.out)).mono ?_); rintro e w2 ⟨rfl, hd⟩; have HD2 := Aside0.mk (drawn_trans HD.out hd); clear hd))
      go_ret2
      exact ⟨rfl, HD2.out⟩
    · by_cases h2 : 199 < t
      · rw [if_pos (.inr h2)]
        go_enter Try.func30, Try.ntmps30
        go_wp2_with (first | (go_at_call 35; (with_reducible refine (ints_Untag.calls z 0 false _ HU.out).mono ?_); rintro e w1 ⟨rfl, hd⟩; have HD := Aside0.mk hd; clear hd) | (go_at_call 55; (with_reducible refine (HT.out _ (HH.out.drawn HD.out)).mono ?_); rintro e w2 ⟨rfl, hd⟩; have HD2 := Aside0.mk (drawn_trans HD.out hd); clear hd))
        go_ret2
        exact ⟨rfl, HD2.out⟩
      · rw [if_neg (fun h => h.elim h1 h2)]
        go_enter Try.func30, Try.ntmps30
        go_wp2_with (first | (go_at_call 35; (with_reducible refine (ints_Untag.calls z 0 false _ HU.out).mono ?_); rintro e w1 ⟨rfl, hd⟩; have HD := Aside0.mk hd; clear hd) | (go_at_call 55; (with_reducible refine (HT.out _ (HH.out.drawn HD.out)).mono ?_); rintro e w2 ⟨rfl, hd⟩; have HD2 := Aside0.mk (drawn_trans HD.out hd); clear hd))
        go_ret2
        exact ⟨rfl, HD2.out⟩
  · rw [if_neg hz] at hu ⊢
    have HU := Aside0.mk hu
    clear hu hz
    go_enter Try.func30, Try.ntmps30
    go_wp2_with (go_at_call 35; (with_reducible refine (ints_Untag.calls z (z / 2) true _ HU.out).mono ?_); rintro e w1 ⟨rfl, hd⟩; have HD := Aside0.mk hd; clear hd)
    go_ret2
    exact ⟨rfl, HD.out⟩
theorem makeC (g b m : Nat) (n : Int) (bl : List (Int × List Int)) (tag : Int) (A : Option Addr) (c : Nat) (l : List Int) (W : World) (h : AtB W g b m n bl) (hr : ReadsInt W .i64 A l.length l) (hl : l.length ≤ 100000) (hA : ∀ ad, A = some ad → 0 < l.length → ad.block ≠ b) :
    Calls Try.prog 46 #[.pointer (some ⟨g, 0, none⟩), .int .i64 tag, .slice A l.length c] W fun e w' => e = .returned (.tuple #[.int .i64 (makeB n bl tag l).1, .int .i64 (makeB n bl tag l).2.1]) ∧
      AtB w' g b m n (makeB n bl tag l).2.2 ∧ Chg (Its g b m) W w' := by
  obtain ⟨H, h1, h2⟩ := h
  obtain ⟨e1, e2, h3⟩ := h2.make tag l
  rw [← e1, ← e2]
  refine (make_calls g b m H tag A c l W h1 h2.wf hr hl hA).mono ?_
  rintro e w' ⟨rfl, ha, hc⟩
  exact ⟨rfl, ⟨_, ha, h3⟩, hc⟩
def fieldsB (bl : List (Int × List Int)) (z : Int) : List Int := match findB 1 bl z with | none => [] | some y => y.2
theorem fieldsC (g b m : Nat) (n : Int) (bl : List (Int × List Int)) (z : Int) (W : World) (h : AtB W g b m n bl) :
    Calls Try.prog 20 #[.pointer (some ⟨g, 0, none⟩), .int .i64 z] W fun e w' => ∃ v, e = .returned v ∧ Row w' W.heap.size v (fieldsB bl z) ∧ Below W.heap.size W w' := by
  obtain ⟨H, h1, h2⟩ := h
  have := fields_calls g b m H z W h1 h2.wf
  have e : H.fields (H.place z) = fieldsB bl z := h2.fields z
  rw [e] at this
  refine this.mono ?_
  rintro e w' ⟨v, he, ho, hb⟩
  obtain ⟨A, c, e1, _, e3, e4, e5⟩ := own_facts ho
  exact ⟨v, he, ⟨A, c, e1, e3, e4, e5⟩, hb⟩
theorem usedC (g b m : Nat) (n : Int) (bl : List (Int × List Int)) (W : World) (h : AtB W g b m n bl) :
    Calls Try.prog 17 #[.pointer (some ⟨g, 0, none⟩)] W fun e w' => e = .returned (.int .i64 (topB 1 bl - 1)) ∧ Drawn0 W w' := by
  obtain ⟨H, h1, h2⟩ := h
  have a1 := h2.wf.top1
  have a2 := h2.wf.top2
  have a3 := h2.wf.len
  have := used_calls g b m H W h1 (by omega) (by omega)
  rw [h2.top] at this
  exact this
end Go.Proofs.Ytkmoneccehbncaa.Heap
