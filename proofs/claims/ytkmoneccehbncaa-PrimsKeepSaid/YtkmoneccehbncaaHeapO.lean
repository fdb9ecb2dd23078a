/- Texts as numbers, plainly: what strs.Pack and strs.Unpack come to. -/
import Derived.Test.YtkmoneccehbncaaHeapN
namespace Go.Proofs.Ytkmoneccehbncaa.Heap
open Go.RowKit Go.Proofs.YtkmoneccehbncaaW.PrintWords Go.Proofs.YtkmoneccehbncaaW.PrintLast Go.Proofs.YtkmoneccehbncaaW.PrintMore Go.Proofs.Ytkmoneccehbncaa.Print Go.Proofs.Ytkmoneccehbncaa.Ints
set_option linter.unusedVariables false
set_option linter.unusedSimpArgs false

/-- The number of k bytes from place at on. -/
def low (s : ByteArray) (at_ : Nat) : Nat → Int
  | 0 => 0
  | k + 1 => low s at_ k + bt s ((at_ + k : Nat) : Int) * ((256 ^ k : Nat) : Int)
theorem low_range (s : ByteArray) (a : Nat) : ∀ k, 0 ≤ low s a k ∧ low s a k < ((256 ^ k : Nat) : Int)
  | 0 => by simp [low]
  | k + 1 => by
    have h := low_range s a k
    have hb := bt_range s ((a + k : Nat) : Int)
    rw [low, Nat.pow_succ]
    generalize (256 ^ k : Nat) = P at *
    generalize bt s ((a + k : Nat) : Int) = b at *
    generalize low s a k = n at *
    have h1 : 0 ≤ b * (P : Int) := Int.mul_nonneg hb.1 (by omega)
    have h2 : b * (P : Int) ≤ 255 * P := Int.mul_le_mul_of_nonneg_right hb.2 (by omega)
    constructor <;> omega
/-- The number of words that n bytes take. -/
def chunks (s : ByteArray) (j : Nat) : Nat → List Int
  | 0 => []
  | r + 1 => low s (7 * j) (min 7 (s.size - 7 * j)) :: chunks s (j + 1) r
/-- A text's numbers. -/
def pack (s : ByteArray) : List Int := (s.size : Int) :: chunks s 0 ((s.size + 6) / 7)
theorem chunks_length (s : ByteArray) : ∀ r j, (chunks s j r).length = r
  | 0, _ => rfl
  | r + 1, j => by rw [chunks, List.length_cons, chunks_length s r (j + 1)]
theorem pack_length (s : ByteArray) : (pack s).length = 1 + (s.size + 6) / 7 := by rw [pack, List.length_cons, chunks_length]; omega

theorem or_shl (n b : Int) (k : Nat) (hk : k < 7) (h0 : 0 ≤ n) (h1 : n < ((256 ^ k : Nat) : Int)) (hb : 0 ≤ b ∧ b ≤ 255) : Go.bits .or .i64 n (shl .i64 b (8 * (k : Int))) = n + b * ((256 ^ k : Nat) : Int) := by
  obtain ⟨a, rfl⟩ := Int.eq_ofNat_of_zero_le h0
  obtain ⟨c, rfl⟩ := Int.eq_ofNat_of_zero_le hb.1
  have ha : a < 256 ^ k := by omega
  have hc : c ≤ 255 := by omega
  have hp : (256 ^ k : Nat) = 2 ^ (8 * k) := by rw [Nat.pow_mul]
  have hp7 : 256 ^ k ≤ 256 ^ 6 := Nat.pow_le_pow_right (by decide) (by omega)
  have hcp : c * 256 ^ k ≤ 255 * 256 ^ 6 := Nat.mul_le_mul hc hp7
  have e1 : shl .i64 (c : Int) (8 * (k : Int)) = ((c * 256 ^ k : Nat) : Int) := by
    unfold shl
    have e : (8 * (k : Int)).toNat = 8 * k := by omega
    rw [e, show min (8 * k) (IntKind.bits .i64) = 8 * k from Nat.min_eq_left (by show 8 * k ≤ 64; omega)]
    have e2 : (c : Int) * 2 ^ (8 * k) = ((c * 256 ^ k : Nat) : Int) := by rw [hp]; push_cast; rfl
    rw [e2, IntKind.wrap_i64]
    have h6 : (256 : Nat) ^ 6 = 281474976710656 := by decide
    rw [h6] at hcp
    generalize c * 256 ^ k = q at *
    omega
  rw [e1]
  have h6 : (256 : Nat) ^ 6 = 281474976710656 := by decide
  have e64 : (((2 : Nat) ^ 64 : Nat) : Int) = 18446744073709551616 := by decide
  have hs : ((BitVec.ofInt 64 (a : Int)) ||| (BitVec.ofInt 64 ((c * 256 ^ k : Nat) : Int))).toNat = a + c * 256 ^ k := by
    rw [BitVec.toNat_or, BitVec.toNat_ofInt, BitVec.toNat_ofInt, e64]
    have f1 : ((a : Int) % 18446744073709551616).toNat = a := by rw [h6] at hp7; omega
    have f2 : (((c * 256 ^ k : Nat) : Int) % 18446744073709551616).toNat = c * 256 ^ k := by
      rw [h6] at hcp
      generalize c * 256 ^ k = q at *
      omega
    rw [f1, f2, Nat.or_comm, Nat.mul_comm c, hp, ← Nat.two_pow_add_eq_or_of_lt (by rw [← hp]; exact ha)]
    omega
  show IntKind.i64.wrap (((BitVec.ofInt 64 (a : Int)) ||| (BitVec.ofInt 64 ((c * 256 ^ k : Nat) : Int))).toNat : Int) = _
  rw [hs, IntKind.wrap_i64]
  rw [h6] at hp7 hcp
  have e3 : (c : Int) * ((256 ^ k : Nat) : Int) = ((c * 256 ^ k : Nat) : Int) := (Int.natCast_mul c (256 ^ k)).symm
  rw [e3]
  generalize c * 256 ^ k = q at *
  omega

theorem pack_l1 (s : ByteArray) (x4 : List Int) (j : Nat) (hs : s.size ≤ 60) (e : Nat) (he : e ≤ 7) (hj : 7 * j + e ≤ s.size) (hx : x4.length < 100000) : ∀ (m k i : Nat), e = i + m →
    strs_Pack.l1 (k + m + 1) s x4 ((7 * j : Nat) : Int) (low s (7 * j) i) (e : Int) (i : Int) = strs_Pack.l0 k s (x4 ++ [low s (7 * j) e]) (((7 * (j + 1) : Nat)) : Int)
  | 0, k, i, h => by
    obtain rfl : i = e := by omega
    rw [strs_Pack.l1, if_neg (by omega), if_pos (by omega)]
    have e1 : wrap64 (((7 * j : Nat) : Int) + 7) = ((7 * (j + 1) : Nat) : Int) := by unfold wrap64; omega
    rw [e1]
  | m + 1, k, i, h => by
    have e1 : wrap64 (((7 * j : Nat) : Int) + (i : Int)) = ((7 * j + i : Nat) : Int) := by unfold wrap64; omega
    have e2 : wrap64 (8 * (i : Int)) = 8 * (i : Int) := by unfold wrap64; omega
    have e3 : wrap64 ((i : Int) + 1) = ((i + 1 : Nat) : Int) := by unfold wrap64; omega
    have hb := bt_range s ((7 * j + i : Nat) : Int)
    have e4 : wrap64 (bt s ((7 * j + i : Nat) : Int)) = bt s ((7 * j + i : Nat) : Int) := by
      generalize bt s ((7 * j + i : Nat) : Int) = q at *
      unfold wrap64
      omega
    rw [strs_Pack.l1, if_pos (by omega), e1, if_pos (by omega), if_pos (by omega), e2, if_pos (by omega), e3, e4, or_shl _ _ i (by omega) (low_range s (7 * j) i).1 (low_range s (7 * j) i).2 hb]
    exact pack_l1 s x4 j hs e he hj hx m k (i + 1) (by omega)
theorem pack_l0 (s : ByteArray) (hs : s.size ≤ 60) : ∀ (r k j : Nat) (x4 : List Int), r = (s.size + 6) / 7 - j → x4.length + r ≤ 1000 →
    strs_Pack.l0 (k + 9 * r + 1) s x4 ((7 * j : Nat) : Int) = some (x4 ++ chunks s j r, 0)
  | 0, k, j, x4, h, hx => by
    rw [strs_Pack.l0, if_neg (by omega), chunks, List.append_nil]
  | r + 1, k, j, x4, h, hx => by
    rw [show k + 9 * (r + 1) + 1 = (k + 9 * r + 9) + 1 by omega, strs_Pack.l0, if_pos (by omega)]
    have e0 : wrap64 ((s.size : Int) - ((7 * j : Nat) : Int)) = ((s.size - 7 * j : Nat) : Int) := by unfold wrap64; omega
    have e1 : mn 7 (wrap64 ((s.size : Int) - ((7 * j : Nat) : Int))) = ((min 7 (s.size - 7 * j) : Nat) : Int) := by
      rw [e0]
      unfold mn
      split <;> omega
    rw [e1]
    have h1 := pack_l1 s x4 j hs (min 7 (s.size - 7 * j)) (by omega) (by omega) (by omega) (min 7 (s.size - 7 * j)) (k + 9 * r + 8 - min 7 (s.size - 7 * j)) 0 (by omega)
    rw [show k + 9 * r + 8 - min 7 (s.size - 7 * j) + min 7 (s.size - 7 * j) + 1 = k + 9 * r + 9 by omega] at h1
    have h2 : low s (7 * j) 0 = 0 := rfl
    rw [h2] at h1
    have h3 : ((0 : Nat) : Int) = 0 := rfl
    rw [h3] at h1
    rw [h1]
    rw [show k + 9 * r + 8 - min 7 (s.size - 7 * j) = (k + 7 - min 7 (s.size - 7 * j)) + 9 * r + 1 by omega]
    rw [pack_l0 s hs r _ (j + 1) _ (by omega) (by simp; omega), chunks, List.append_assoc]
    rfl
theorem pack_eq (k : Nat) (s : ByteArray) : strs_Pack.f (k + 90) s = some (if s.size ≤ 60 then (pack s, 0) else ([], 12)) := by
  unfold strs_Pack.f
  by_cases h : s.size ≤ 60
  · rw [if_neg (by omega), if_pos h]
    have h1 := pack_l0 s h ((s.size + 6) / 7) (k + 89 - 9 * ((s.size + 6) / 7)) 0 [(s.size : Int)] (by omega) (by simp; omega)
    rw [show k + 89 - 9 * ((s.size + 6) / 7) + 9 * ((s.size + 6) / 7) + 1 = k + 90 by omega] at h1
    exact h1
  · rw [if_pos (by omega), if_neg h]

/-- The bytes that numbers tell: n of them from place i on. -/
def unb (l : List Int) (i : Nat) : Nat → List Int
  | 0 => []
  | n + 1 => (rd l ((1 + i / 7 : Nat) : Int) / ((256 ^ (i % 7) : Nat) : Int)) % 256 :: unb l (i + 1) n
theorem unb_length (l : List Int) : ∀ n i, (unb l i n).length = n
  | 0, _ => rfl
  | n + 1, i => by rw [unb, List.length_cons, unb_length l n (i + 1)]
/-- Do the numbers have a count that fits? -/
def fits (l : List Int) : Prop := l ≠ [] ∧ 0 ≤ rd l 0 ∧ rd l 0 ≤ 60 ∧ ((rd l 0).toNat + 6) / 7 + 1 = l.length
instance (l : List Int) : Decidable (fits l) := by unfold fits; infer_instance
/-- The text that numbers tell. -/
def textOf (l : List Int) : ByteArray := strOfNums (unb l 0 (rd l 0).toNat)
def unp (l : List Int) : ByteArray × Int := if fits l ∧ pack (textOf l) = l then (textOf l, 0) else (⟨#[]⟩, 1)

theorem equal_l0 (a b : List Int) (hl : a.length = b.length) (hb : a.length ≤ 100000) : ∀ (m k i : Nat), a.length = i + m → (∀ q, q < i → rd a (q : Int) = rd b (q : Int)) →
    slices_Equal_int_int.l0 (k + m + 1) a b (a.length : Int) (i : Int) = some (decide (a = b))
  | 0, k, i, h, hq => by
    rw [slices_Equal_int_int.l0, if_neg (by omega)]
    have : a = b := by
      apply List.ext_getElem hl
      intro q h1 h2
      have := hq q (by omega)
      unfold rd at this
      simp only [Int.toNat_natCast, List.getD_eq_getElem?_getD, List.getElem?_eq_getElem h1, List.getElem?_eq_getElem h2, Option.getD_some] at this
      exact this
    rw [decide_eq_true this]
  | m + 1, k, i, h, hq => by
    rw [slices_Equal_int_int.l0, if_pos (by omega), if_pos (by omega), if_pos (by omega), if_pos (by omega)]
    by_cases he : rd a (i : Int) = rd b (i : Int)
    · rw [if_pos he]
      have e3 : wrap64 ((i : Int) + 1) = ((i + 1 : Nat) : Int) := by unfold wrap64; omega
      rw [e3]
      exact equal_l0 a b hl hb m k (i + 1) (by omega) (fun q hq' => by
        rcases Nat.lt_or_ge q i with h1 | h1
        · exact hq q h1
        · obtain rfl : q = i := by omega
          exact he)
    · rw [if_neg he]
      have : a ≠ b := fun e => he (by rw [e])
      rw [decide_eq_false this]
theorem equal_eq (k : Nat) (a b : List Int) (hb : a.length ≤ 100000) : slices_Equal_int_int.f (k + a.length + 1) a b = some (decide (a = b)) := by
  unfold slices_Equal_int_int.f
  by_cases h : a.length = b.length
  · rw [if_pos (by omega)]
    exact equal_l0 a b h hb a.length k 0 (by omega) (fun q hq => by omega)
  · rw [if_neg (by omega)]
    have : a ≠ b := fun e => h (by rw [e])
    rw [decide_eq_false this]

theorem shr_eq (x : Int) (k : Nat) (hk : k < 7) : shr .i64 x (8 * (k : Int)) = x / ((256 ^ k : Nat) : Int) := by
  unfold shr
  have e : (8 * (k : Int)).toNat = 8 * k := by omega
  rw [e, show min (8 * k) (IntKind.bits .i64) = 8 * k from Nat.min_eq_left (by show 8 * k ≤ 64; omega)]
  have e2 : (256 ^ k : Nat) = 2 ^ (8 * k) := by rw [Nat.pow_mul]
  rw [e2]
  push_cast
  rfl
theorem wr (x : Int) (h0 : 0 ≤ x) (h1 : x ≤ 100000) : wrap64 x = x := by unfold wrap64; omega
theorem td7 (i : Nat) : Int.tdiv (i : Int) 7 = ((i / 7 : Nat) : Int) := rfl
theorem tm7 (i : Nat) : Int.tmod (i : Int) 7 = ((i % 7 : Nat) : Int) := rfl
theorem unp_l0 (l : List Int) (n : Nat) (h3 : n ≤ 60) (h4 : (n + 6) / 7 + 1 = l.length) (m : Nat) : ∀ (q i : Nat) (x4 : List Int), m + 101 ≤ q → n = i + m → x4.length = i →
    strs_Unpack.l0 q l x4 (n : Int) (i : Int) = some (if pack (strOfNums (x4 ++ unb l i m)) = l then (strOfNums (x4 ++ unb l i m), 0) else (⟨#[]⟩, 1)) := by
  induction m with
  | zero =>
    intro q i x4 hq h hx
    obtain ⟨q, rfl⟩ : ∃ p, q = p + 1 := ⟨q - 1, by omega⟩
    have hsz : (strOfNums x4).size ≤ 60 := by rw [strOfNums_size]; omega
    have hp : strs_Pack.f q (strOfNums x4) = some (pack (strOfNums x4), 0) := by
      have := pack_eq (q - 90) (strOfNums x4)
      rw [show q - 90 + 90 = q by omega, if_pos hsz] at this
      exact this
    have hle := pack_length (strOfNums x4)
    have he : slices_Equal_int_int.f q (pack (strOfNums x4)) l = some (decide (pack (strOfNums x4) = l)) := by
      have := equal_eq (q - 1 - (pack (strOfNums x4)).length) (pack (strOfNums x4)) l (by omega)
      rw [show q - 1 - (pack (strOfNums x4)).length + (pack (strOfNums x4)).length + 1 = q by omega] at this
      exact this
    rw [strs_Unpack.l0, if_neg (by omega), unb, List.append_nil, hp]
    simp only [Option.bind_some]
    rw [he]
    simp only [Option.bind_some, decide_eq_true_eq]
    split <;> rfl
  | succ m ih =>
    intro q i x4 hq h hx
    obtain ⟨q, rfl⟩ : ∃ p, q = p + 1 := ⟨q - 1, by omega⟩
    have hi : i < 60 := by omega
    have h7 : i / 7 < 10 := by omega
    have h8 : i % 7 < 7 := by omega
    have e1 : wrap64 (1 + wrap64 (((i / 7 : Nat) : Int))) = ((1 + i / 7 : Nat) : Int) := by
      generalize i / 7 = z at *
      rw [wr (z : Int) (by omega) (by omega), wr _ (by omega) (by omega)]
      omega
    have e2 : wrap64 (8 * ((i % 7 : Nat) : Int)) = 8 * ((i % 7 : Nat) : Int) := by
      generalize i % 7 = z at *
      exact wr _ (by omega) (by omega)
    have e3 : wrap64 ((i : Int) + 1) = ((i + 1 : Nat) : Int) := by
      rw [wr _ (by omega) (by omega)]
      omega
    have g1 : 1 + i / 7 < l.length := by
      rw [← h4]
      clear h4 e1 e2 e3
      omega
    have e0 := td7 i
    have e0' := tm7 i
    rw [strs_Unpack.l0, if_pos (by omega), e0, e0', e1, e2, e3, if_pos (Int.natCast_nonneg _), if_pos (Int.ofNat_lt.2 g1), if_pos (by generalize i % 7 = z; omega), if_pos (by rw [hx]; exact Nat.lt_trans hi (by decide)), shr_eq _ _ h8]
    rw [ih q (i + 1) _ (by omega) (by omega) (by simp; omega), unb, List.append_assoc]
    rfl
theorem unp_eq (k : Nat) (l : List Int) (hl : l.length ≤ 100000) : strs_Unpack.f (k + 163) l = some (unp l) := by
  unfold strs_Unpack.f unp
  have hj : ∀ c, strs_Unpack.j0 (k + 163) l c = if c = true then (some ((⟨#[]⟩ : ByteArray), 1)) else (if 0 < (l.length : Int) then (strs_Unpack.l0 (k + 162) l ([] : List Int) (rd l 0) 0) else (none)) := fun c => by rw [strs_Unpack.j0]
  rw [hj, hj, if_pos rfl]
  by_cases h0 : l.length = 0
  · have : ¬ fits l := fun h => h.1 (List.length_eq_zero_iff.1 h0)
    rw [if_pos (by omega), if_neg (fun h => this h.1)]
  rw [if_neg (by omega), if_pos (by omega)]
  by_cases h1 : rd l 0 < 0
  · have : ¬ fits l := fun h => by have := h.2.1; omega
    rw [if_pos h1, if_neg (fun h => this h.1)]
  rw [if_neg h1]
  by_cases h2 : rd l 0 > 60
  · have : ¬ fits l := fun h => by have := h.2.2.1; omega
    rw [if_pos h2, if_neg (fun h => this h.1)]
  rw [if_neg h2]
  have e1 : wrap64 (wrap64 (rd l 0 + 7) - 1) = rd l 0 + 6 := by unfold wrap64; omega
  have e2 : wrap64 ((l.length : Int) - 1) = (l.length : Int) - 1 := by unfold wrap64; omega
  have e3 : wrap64 ((rd l 0 + 6).tdiv 7) = (((rd l 0).toNat + 6) / 7 : Nat) := by
    rw [Int.tdiv_eq_ediv_of_nonneg (by omega)]
    unfold wrap64
    omega
  rw [e1, e2, e3]
  by_cases h3 : ((((rd l 0).toNat + 6) / 7 : Nat) : Int) = (l.length : Int) - 1
  · have hf : fits l := ⟨fun h => h0 (by rw [h]; rfl), by omega, by omega, by omega⟩
    rw [bne_eq_false_iff_eq.2 h3, if_neg (by decide), if_pos (by omega)]
    have h4 := unp_l0 l (rd l 0).toNat (by omega) (by omega) (rd l 0).toNat (k + 162) 0 [] (by omega) (by omega) rfl
    rw [show (((rd l 0).toNat : Nat) : Int) = rd l 0 by omega] at h4
    have h5 : ((0 : Nat) : Int) = 0 := rfl
    rw [h5] at h4
    rw [h4, List.nil_append]
    show some (if pack (textOf l) = l then (textOf l, 0) else _) = _
    by_cases h6 : pack (textOf l) = l
    · rw [if_pos h6, if_pos ⟨hf, h6⟩]
    · rw [if_neg h6, if_neg (fun h => h6 h.2)]
  · have : ¬ fits l := fun h => h3 (by have := h.2.2.2; omega)
    rw [bne_iff_ne.2 h3, if_pos rfl, if_neg (fun h => this h.1)]
end Go.Proofs.Ytkmoneccehbncaa.Heap
