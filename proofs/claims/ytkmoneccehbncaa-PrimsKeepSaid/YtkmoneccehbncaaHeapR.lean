/- Texts that are told again; what Text, Str and Join come to over a list of blocks. -/
import Derived.Test.YtkmoneccehbncaaHeapQ
namespace Go.Proofs.Ytkmoneccehbncaa.Heap
open Go.RowKit Go.Proofs.YtkmoneccehbncaaW.PrintWords Go.Proofs.YtkmoneccehbncaaW.PrintLast Go.Proofs.YtkmoneccehbncaaW.PrintMore Go.Proofs.Ytkmoneccehbncaa.Print Go.Proofs.Ytkmoneccehbncaa.Ints
set_option linter.unusedVariables false
set_option linter.unusedSimpArgs false

theorem low_byte (s : ByteArray) (a : Nat) : ∀ (k i : Nat), i < k → low s a k / ((256 ^ i : Nat) : Int) % 256 = bt s ((a + i : Nat) : Int)
  | 0, i, h => by omega
  | k + 1, i, h => by
    rw [low]
    have hp : 0 < 256 ^ i := Nat.pow_pos (by decide)
    rcases Nat.lt_or_ge i k with h1 | h1
    · have ih := low_byte s a k i h1
      obtain ⟨d, rfl⟩ : ∃ d, k = i + 1 + d := ⟨k - i - 1, by omega⟩
      have e : ((256 ^ (i + 1 + d) : Nat) : Int) = ((256 ^ i : Nat) : Int) * (256 * ((256 ^ d : Nat) : Int)) := by
        rw [Nat.pow_add, Nat.pow_succ]
        generalize 256 ^ i = x
        generalize 256 ^ d = y
        rw [Int.natCast_mul, Int.natCast_mul, Int.mul_assoc]
        rfl
      rw [e]
      generalize bt s ((a + (i + 1 + d) : Nat) : Int) = b
      have e2 : b * (((256 ^ i : Nat) : Int) * (256 * ((256 ^ d : Nat) : Int))) = ((256 ^ i : Nat) : Int) * (256 * (b * ((256 ^ d : Nat) : Int))) := by
        generalize ((256 ^ i : Nat) : Int) = x
        generalize ((256 ^ d : Nat) : Int) = y
        rw [Int.mul_left_comm, Int.mul_left_comm b]
      rw [e2, Int.add_mul_ediv_left _ _ (by omega)]
      omega
    · obtain rfl : i = k := by omega
      have hl := low_range s a i
      have hb := bt_range s ((a + i : Nat) : Int)
      rw [Int.add_mul_ediv_right _ _ (by omega), Int.ediv_eq_zero_of_lt hl.1 hl.2]
      omega
theorem chunks_get (s : ByteArray) : ∀ (r j i : Nat), i < r → (chunks s j r).getD i 0 = low s (7 * (j + i)) (min 7 (s.size - 7 * (j + i)))
  | 0, j, i, h => by omega
  | r + 1, j, 0, h => by rw [chunks]; rfl
  | r + 1, j, i + 1, h => by
    rw [chunks, List.getD_cons_succ, chunks_get s r (j + 1) i (by omega), show j + 1 + i = j + (i + 1) by omega]
theorem rd_pack (s : ByteArray) (j : Nat) (h : 7 * j < s.size) : rd (pack s) ((1 + j : Nat) : Int) = low s (7 * j) (min 7 (s.size - 7 * j)) := by
  unfold rd pack
  rw [Int.toNat_natCast, show 1 + j = j + 1 by omega, List.getD_cons_succ, chunks_get s _ 0 j (by omega), show 0 + j = j by omega]
theorem rd_pack0 (s : ByteArray) : rd (pack s) 0 = s.size := rfl
theorem unb_get (l : List Int) : ∀ (n i k : Nat), k < n → (unb l i n).getD k 0 = (rd l ((1 + (i + k) / 7 : Nat) : Int) / ((256 ^ ((i + k) % 7) : Nat) : Int)) % 256
  | 0, i, k, h => by omega
  | n + 1, i, 0, h => by rw [unb]; rfl
  | n + 1, i, k + 1, h => by
    rw [unb, List.getD_cons_succ, unb_get l n (i + 1) k (by omega), show i + 1 + k = i + (k + 1) by omega]
theorem textOf_pack (s : ByteArray) : textOf (pack s) = s := by
  unfold textOf
  rw [rd_pack0, Int.toNat_natCast]
  have e : unb (pack s) 0 s.size = s.data.toList.map fun x => (x.toNat : Int) := by
    apply List.ext_getElem
    · rw [unb_length, List.length_map]; rfl
    · intro i h1 h2
      rw [unb_length] at h1
      have h3 := unb_get (pack s) s.size 0 i h1
      rw [List.getD_eq_getElem?_getD, List.getElem?_eq_getElem (by rw [unb_length]; exact h1), Option.getD_some, show 0 + i = i by omega, rd_pack s (i / 7) (by omega)] at h3
      rw [h3, low_byte s _ _ _ (by omega), show 7 * (i / 7) + i % 7 = i by omega]
      unfold bt
      rw [dif_pos (by rw [Int.toNat_natCast]; exact h1)]
      rw [List.getElem_map]
      congr 1
  rw [e]
  apply ByteArray.ext
  apply Array.toList_inj.1
  rw [strOfNums_data, List.map_map]
  have e2 : ((fun n : Int => UInt8.ofNat n.toNat) ∘ fun x : UInt8 => (x.toNat : Int)) = id := by
    funext x
    simp
  rw [e2, List.map_id]
theorem unp_pack (s : ByteArray) (h : s.size ≤ 60) : unp (pack s) = (s, 0) := by
  unfold unp
  have hf : fits (pack s) := ⟨by unfold pack; simp, by rw [rd_pack0]; omega, by rw [rd_pack0]; omega, by rw [rd_pack0, pack_length, Int.toNat_natCast]; omega⟩
  rw [textOf_pack, if_pos ⟨hf, rfl⟩]

/-- Str, Text and Join over a list of blocks. -/
def strB (bl : List (Int × List Int)) (z : Int) : ByteArray × Int :=
  match findB 1 bl z with
  | none => (⟨#[]⟩, 4)
  | some y => if y.1 = 201 then (if (unp y.2).2 = 0 then ((unp y.2).1, 0) else (⟨#[]⟩, 4)) else (⟨#[]⟩, 4)
def textB (n : Int) (bl : List (Int × List Int)) (s : ByteArray) : Int × Int × List (Int × List Int) := if s.size ≤ 60 then makeB n bl 201 (pack s) else (0, 12, bl)
def joinB (n : Int) (bl : List (Int × List Int)) (x y : Int) : Int × Int × List (Int × List Int) :=
  if (strB bl x).2 = 0 then (if (strB bl y).2 = 0 then (if (strB bl x).1.size + (strB bl y).1.size ≤ 60 then textB n bl ((strB bl x).1 ++ (strB bl y).1) else (0, 12, bl)) else (0, (strB bl y).2, bl)) else (0, (strB bl x).2, bl)
theorem Lays.str {H : PH} {n : Int} {bl : List (Int × List Int)} (h : Lays H n bl) (z : Int) : H.str z = strB bl z := by
  unfold PH.str strB
  rw [h.tag z, h.fields z]
  cases findB 1 bl z <;> rfl
theorem Lays.text {H : PH} {n : Int} {bl : List (Int × List Int)} (h : Lays H n bl) (s : ByteArray) :
    (H.textS s).1 = (textB n bl s).1 ∧ (H.textS s).2.1 = (textB n bl s).2.1 ∧ Lays (H.textS s).2.2 n (textB n bl s).2.2 := by
  unfold PH.textS textB PH.text
  by_cases h0 : s.size ≤ 60
  · rw [if_pos h0, if_pos h0, if_pos rfl]
    exact h.make 201 (pack s)
  · rw [if_neg h0, if_neg h0, if_neg (by decide)]
    exact ⟨rfl, rfl, h⟩
theorem Lays.join {H : PH} {n : Int} {bl : List (Int × List Int)} (h : Lays H n bl) (x y : Int) :
    (H.join x y).1 = (joinB n bl x y).1 ∧ (H.join x y).2.1 = (joinB n bl x y).2.1 ∧ Lays (H.join x y).2.2 n (joinB n bl x y).2.2 := by
  unfold PH.join joinB
  rw [h.str x, h.str y]
  by_cases h1 : (strB bl x).2 = 0
  · rw [if_pos h1, if_pos h1]
    by_cases h2 : (strB bl y).2 = 0
    · rw [if_pos h2, if_pos h2]
      by_cases h3 : (strB bl x).1.size + (strB bl y).1.size ≤ 60
      · rw [if_pos h3, if_pos h3]
        exact h.text _
      · rw [if_neg h3, if_neg h3]
        exact ⟨rfl, rfl, h⟩
    · rw [if_neg h2, if_neg h2]
      exact ⟨rfl, rfl, h⟩
  · rw [if_neg h1, if_neg h1]
    exact ⟨rfl, rfl, h⟩
/-- A text is made where there is room. -/
theorem text_ok (n : Int) (bl : List (Int × List Int)) (s : ByteArray) (h : s.size ≤ 60) (hr : topB 1 bl + 10 ≤ n) : textB n bl s = (2 * topB 1 bl, 0, bl ++ [(201, pack s)]) := by
  unfold textB makeB
  have hl := pack_length s
  have ho : oddB bl 201 (pack s) = false := by
    unfold oddB
    rw [decide_eq_false (by decide : ¬ (201 : Int) < 0), decide_eq_false (by decide : ¬ (201 : Int) < 201), decide_eq_false (by omega : ¬ 60 < (pack s).length), decide_eq_false (by decide : ¬ (201 : Int) ≠ 201)]
    rfl
  rw [if_pos h, ho, if_neg (by decide), if_neg (by omega)]
theorem str_some {bl : List (Int × List Int)} {z : Int} {s : ByteArray} (h : findB 1 bl z = some (201, pack s)) (hs : s.size ≤ 60) : strB bl z = (s, 0) := by
  unfold strB
  rw [h]
  show (if (201 : Int) = 201 then _ else _) = _
  rw [if_pos rfl, unp_pack s hs]
  rfl
theorem str_none {bl : List (Int × List Int)} {z : Int} (h : findB 1 bl z = none) : strB bl z = (⟨#[]⟩, 4) := by
  unfold strB
  rw [h]
end Go.Proofs.Ytkmoneccehbncaa.Heap
