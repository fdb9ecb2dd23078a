/- The reference's heap in memory and chapter 16's reference over it; no condition but what each theorem states. -/
import Derived.Test.YtkmoneccehbncaaGB
import Derived.Test.YtkmoneccehbncaaPrint4
import Derived.Test.YtkmoneccehbncaaPrint6
import Derived.Test.YtkmoneccehbncaaPrint5
import Derived.Outline
import Derived.Deep.RegionHeld3
import Derived.Deep.RegionLaw
import Derived.IntWalk
/- The reference's heap, plainly: its blocks as a list of tags and fields; what its readers come to. No condition but what each theorem states. -/
namespace Go.Proofs.Ytkmoneccehbncaa.Heap
open Go.RowKit Go.Proofs.YtkmoneccehbncaaW.PrintWords Go.Proofs.YtkmoneccehbncaaW.PrintLast Go.Proofs.YtkmoneccehbncaaW.PrintMore Go.Proofs.Ytkmoneccehbncaa.Print Go.Proofs.Ytkmoneccehbncaa.Ints
set_option linter.unusedVariables false
set_option linter.unusedSimpArgs false

/-- How many words a block takes. -/
def szR (b : S80) : Nat := 1 + b.f1.length + b.f2.length
/-- The place of block k, where the first lies at a. -/
def posR : Int → List S80 → Nat → Int
  | a, _, 0 => a
  | a, [], _ + 1 => a
  | a, b :: r, k + 1 => posR (a + szR b) r k
/-- The block that a word points to. -/
def idxR : Int → List S80 → Int → Option Nat
  | _, [], _ => none
  | a, b :: r, z => if z = 2 * a then some 0 else (idxR (a + szR b) r z).map (· + 1)
def sayR (bs : List S80) (w : S84) : Int := if w.f0 = true then 2 * posR 1 bs w.f1.toNat else w.f1
def toB (bs : List S80) (b : S80) : Int × List Int := (b.f0, if b.f0 = 201 then b.f2 else b.f1.map (sayR bs))
def blR (bs : List S80) : List (Int × List Int) := bs.map (toB bs)
def fndR (bs : List S80) (z : Int) : Bool × Int × Bool :=
  if z % 2 = 0 then (match idxR 1 bs z with | none => (false, 0, false) | some i => (true, (i : Int), true)) else (false, z, true)

/-- A block is well formed where i blocks lie ahead of it. -/
structure OkB (i : Nat) (b : S80) : Prop where
  raw : b.f0 = 201 → b.f1 = []
  cooked : b.f0 ≠ 201 → b.f2 = []
  t0 : 0 ≤ b.f0
  t1 : b.f0 ≤ 201
  ws : ∀ w ∈ b.f1, w.f0 = true → 0 ≤ w.f1 ∧ w.f1 < i
/-- The blocks are well formed, and take no more than n words. -/
structure WfR (n : Int) (bs : List S80) : Prop where
  ok : ∀ i b, bs[i]? = some b → OkB i b
  room : posR 1 bs bs.length ≤ n + 1
  most : n ≤ 65536

theorem szR_pos (b : S80) : 1 ≤ szR b := by unfold szR; omega
theorem toB_len {bs : List S80} {i : Nat} {b : S80} (h : OkB i b) : (toB bs b).2.length = b.f1.length + b.f2.length := by
  unfold toB
  by_cases h1 : b.f0 = 201
  · simp [h1, h.raw h1]
  · simp [h1, h.cooked h1]
theorem posR_ge : ∀ (bs : List S80) (a : Int) (k : Nat), a ≤ posR a bs k
  | _, a, 0 => by cases ‹List S80› <;> exact Int.le_refl a
  | [], a, k + 1 => Int.le_refl a
  | b :: r, a, k + 1 => by have := posR_ge r (a + szR b) k; rw [posR]; omega
theorem posR_zero (bs : List S80) (a : Int) : posR a bs 0 = a := by cases bs <;> rfl
theorem posR_shift : ∀ (bs : List S80) (a c : Int) (k : Nat), posR (a + c) bs k = posR a bs k + c
  | bs, a, c, 0 => by rw [posR_zero, posR_zero]
  | [], a, c, k + 1 => rfl
  | b :: r, a, c, k + 1 => by rw [posR, posR, show a + c + (szR b : Int) = a + szR b + c by omega, posR_shift r _ c k]
theorem posR_succ : ∀ (bs : List S80) (a : Int) (k : Nat) (b : S80), bs[k]? = some b → posR a bs (k + 1) = posR a bs k + szR b
  | [], a, k, b, h => by simp at h
  | x :: r, a, 0, b, h => by
    obtain rfl : x = b := by simpa using h
    rw [posR_zero, show posR a (x :: r) (0 + 1) = posR (a + szR x) r 0 from rfl, posR_zero]
  | x :: r, a, k + 1, b, h => by
    rw [posR, posR_succ r (a + szR x) k b (by simpa using h), posR]
theorem posR_mono (bs : List S80) (a : Int) : ∀ (d k : Nat), k + d ≤ bs.length → posR a bs k ≤ posR a bs (k + d)
  | 0, k, _ => Int.le_refl _
  | d + 1, k, h => by
    have hk : k + d < bs.length := by omega
    have := posR_succ bs a (k + d) _ (List.getElem?_eq_getElem hk)
    have := posR_mono bs a d k (by omega)
    rw [show k + (d + 1) = k + d + 1 by omega]
    omega
theorem posR_lt {bs : List S80} {a : Int} {i j : Nat} (h : i < j) (hj : j ≤ bs.length) : posR a bs i < posR a bs j := by
  have h1 := posR_succ bs a i _ (List.getElem?_eq_getElem (show i < bs.length by omega))
  obtain ⟨d, rfl⟩ : ∃ d, j = i + 1 + d := ⟨j - i - 1, by omega⟩
  have := posR_mono bs a d (i + 1) hj
  have := szR_pos (bs[i]'(by omega))
  omega
theorem posR_append (x : S80) : ∀ (bs : List S80) (a : Int) (k : Nat), k ≤ bs.length → posR a (bs ++ [x]) k = posR a bs k
  | bs, a, 0, _ => by rw [posR_zero, posR_zero]
  | [], a, k + 1, h => by simp at h
  | b :: r, a, k + 1, h => by
    rw [List.cons_append, posR, posR, posR_append x r _ k (by simpa using h)]
theorem idxR_some : ∀ {bs : List S80} {a z : Int} {i : Nat}, idxR a bs z = some i → i < bs.length ∧ z = 2 * posR a bs i
  | [], a, z, i, h => by cases h
  | b :: r, a, z, i, h => by
    rw [idxR] at h
    by_cases h1 : z = 2 * a
    · rw [if_pos h1] at h
      cases h
      exact ⟨by simp, by rw [posR_zero]; exact h1⟩
    · rw [if_neg h1] at h
      obtain ⟨j, hj, rfl⟩ := Option.map_eq_some_iff.1 h
      obtain ⟨h2, h3⟩ := idxR_some hj
      exact ⟨by simp; omega, by rw [posR]; exact h3⟩
theorem idxR_at : ∀ (bs : List S80) (a : Int) (i : Nat), i < bs.length → idxR a bs (2 * posR a bs i) = some i
  | [], a, i, h => by simp at h
  | b :: r, a, 0, h => by rw [posR_zero, idxR, if_pos rfl]
  | b :: r, a, i + 1, h => by
    have := posR_ge r (a + szR b) i
    have := szR_pos b
    rw [posR, idxR, if_neg (by omega), idxR_at r _ i (by simpa using h)]
    rfl
theorem find_map (bs0 : List S80) : ∀ (r : List S80) (a z : Int), (∀ b ∈ r, (toB bs0 b).2.length = b.f1.length + b.f2.length) → findB a (r.map (toB bs0)) z = (idxR a r z).bind (fun i => (r[i]?).map (toB bs0))
  | [], a, z, _ => rfl
  | b :: r, a, z, h => by
    rw [List.map_cons, findB, idxR]
    by_cases h1 : z = 2 * a
    · rw [if_pos h1, if_pos h1]; rfl
    · rw [if_neg h1, if_neg h1, h b (by simp), show a + 1 + ((b.f1.length + b.f2.length : Nat) : Int) = a + szR b by unfold szR; omega, find_map bs0 r _ z (fun x hx => h x (by simp [hx]))]
      cases idxR (a + ↑(szR b)) r z <;> simp
theorem top_map (bs0 : List S80) : ∀ (r : List S80) (a : Int), (∀ b ∈ r, (toB bs0 b).2.length = b.f1.length + b.f2.length) → topB a (r.map (toB bs0)) = posR a r r.length
  | [], a, _ => rfl
  | b :: r, a, h => by
    rw [List.map_cons, topB, List.length_cons, posR, h b (by simp), show a + 1 + ((b.f1.length + b.f2.length : Nat) : Int) = a + szR b by unfold szR; omega]
    exact top_map bs0 r _ (fun x hx => h x (by simp [hx]))
section
variable {n : Int} {bs : List S80}
theorem WfR.lens (h : WfR n bs) : ∀ b ∈ bs, (toB bs b).2.length = b.f1.length + b.f2.length := fun b hb => by
  obtain ⟨i, hi⟩ := List.getElem?_of_mem hb
  exact toB_len (h.ok i b hi)
theorem WfR.find (h : WfR n bs) (z : Int) : findB 1 (blR bs) z = (idxR 1 bs z).bind (fun i => (bs[i]?).map (toB bs)) := find_map bs bs 1 z h.lens
theorem WfR.top (h : WfR n bs) : topB 1 (blR bs) = posR 1 bs bs.length := top_map bs bs 1 h.lens
theorem WfR.pos_le (h : WfR n bs) (k : Nat) (hk : k ≤ bs.length) : 1 + k ≤ posR 1 bs k ∧ posR 1 bs k ≤ 65537 := by
  have h1 : posR 1 bs k ≤ posR 1 bs bs.length := by
    have := posR_mono bs 1 (bs.length - k) k (by omega)
    rwa [show k + (bs.length - k) = bs.length by omega] at this
  have := h.room
  have := h.most
  refine ⟨?_, by omega⟩
  clear h1
  induction k with
  | zero => rw [posR_zero]; omega
  | succ k ih =>
    have := posR_succ bs 1 k _ (List.getElem?_eq_getElem (show k < bs.length by omega))
    have := szR_pos (bs[k]'(by omega))
    have := ih (by omega)
    omega
theorem WfR.len (h : WfR n bs) : bs.length ≤ 65536 := by have := h.pos_le bs.length (Nat.le_refl _); omega
theorem WfR.sz (h : WfR n bs) (k : Nat) (hk : k < bs.length) : szR (bs[k]) ≤ 65536 := by
  have h1 := h.pos_le (k + 1) (by omega)
  have h2 := h.pos_le k (by omega)
  have := posR_succ bs 1 k _ (List.getElem?_eq_getElem hk)
  omega
theorem rd_T80_at {k : Nat} (hk : k < bs.length) : rd_T80 bs (k : Int) = bs[k] := by
  unfold rd_T80
  rw [Int.toNat_natCast, List.getD_eq_getElem?_getD, List.getElem?_eq_getElem hk]
  rfl
theorem size_eq {b : S80} (h : szR b ≤ 65536) : selvageref02_size.f b.f0 b.f1 b.f2 = some (szR b : Int) := by
  unfold selvageref02_size.f szR at *
  congr 1
  unfold wrap64
  omega
theorem find_l0 (h : WfR n bs) (z : Int) : ∀ (d k j : Nat), j + d = bs.length → d < k →
    selvageref02_Heap_Find.l0 k z (posR 1 bs j) (j : Int) n bs = some (match idxR (posR 1 bs j) (bs.drop j) z with | none => (false, 0, false, n) | some i => (true, ((j + i : Nat) : Int), true, n)) := by
  intro d
  induction d with
  | zero =>
    intro k j hj hk
    obtain ⟨k, rfl⟩ : ∃ m, k = m + 1 := ⟨k - 1, by omega⟩
    simp only [selvageref02_Heap_Find.l0]
    rw [if_neg (by omega), List.drop_eq_nil_of_le (by omega)]
    rfl
  | succ d ih =>
    intro k j hj hk
    obtain ⟨k, rfl⟩ : ∃ m, k = m + 1 := ⟨k - 1, by omega⟩
    have hjl : j < bs.length := by omega
    have hp := h.pos_le j (by omega)
    have hp1 := h.pos_le (j + 1) (by omega)
    have hs := posR_succ bs 1 j _ (List.getElem?_eq_getElem hjl)
    simp only [selvageref02_Heap_Find.l0]
    rw [if_pos (by omega), show wrap64 (2 * posR 1 bs j) = 2 * posR 1 bs j by unfold wrap64; omega, List.drop_eq_getElem_cons hjl, idxR]
    by_cases h1 : z = 2 * posR 1 bs j
    · rw [if_pos h1, if_pos h1]
      rfl
    · rw [if_neg h1, if_neg h1, if_pos (by omega), rd_T80_at hjl, size_eq (h.sz j hjl)]
      simp only [Option.bind_some]
      rw [← hs, show wrap64 (posR 1 bs (j + 1)) = posR 1 bs (j + 1) by unfold wrap64; omega, show wrap64 ((j : Int) + 1) = ((j + 1 : Nat) : Int) by have := h.len; unfold wrap64; omega, ih k (j + 1) (by omega) (by omega)]
      cases idxR (posR 1 bs (j + 1)) (bs.drop (j + 1)) z with
      | none => rfl
      | some i => simp only [Option.map_some]; congr 3; omega
theorem tmod2_even (z : Int) : Int.tmod z 2 = 0 ↔ z % 2 = 0 := tmod2_iff z
theorem find_eq (h : WfR n bs) (z : Int) : selvageref02_Heap_Find.f (bs.length + 1) n bs z = some ((fndR bs z).1, (fndR bs z).2.1, (fndR bs z).2.2, n) := by
  unfold selvageref02_Heap_Find.f fndR
  by_cases h1 : z % 2 = 0
  · rw [if_pos ((tmod2_even z).2 h1), if_pos h1]
    have := find_l0 h z bs.length (bs.length + 1) 0 (by omega) (by omega)
    rw [posR_zero, List.drop_zero] at this
    rw [show (0 : Int) = ((0 : Nat) : Int) from rfl, this]
    cases idxR 1 bs z with
    | none => rfl
    | some i => simp
  · rw [if_neg (fun e => h1 ((tmod2_even z).1 e)), if_neg h1]
theorem point_l0 (h : WfR n bs) (m : Nat) (hm : m ≤ bs.length) : ∀ (d k j : Nat), j + d = m → d < k → selvageref02_Heap_Point.l0 k (m : Int) (posR 1 bs j) (j : Int) n bs = some (2 * posR 1 bs m, n) := by
  intro d
  induction d with
  | zero =>
    intro k j hj hk
    obtain ⟨k, rfl⟩ : ∃ m, k = m + 1 := ⟨k - 1, by omega⟩
    obtain rfl : j = m := by omega
    have hp := h.pos_le j hm
    simp only [selvageref02_Heap_Point.l0]
    rw [if_neg (by omega), show wrap64 (2 * posR 1 bs j) = 2 * posR 1 bs j by unfold wrap64; omega]
  | succ d ih =>
    intro k j hj hk
    obtain ⟨k, rfl⟩ : ∃ m, k = m + 1 := ⟨k - 1, by omega⟩
    have hjl : j < bs.length := by omega
    have hp1 := h.pos_le (j + 1) (by omega)
    have hs := posR_succ bs 1 j _ (List.getElem?_eq_getElem hjl)
    simp only [selvageref02_Heap_Point.l0]
    rw [if_pos (by omega), if_pos (by omega), if_pos (by omega), rd_T80_at hjl, size_eq (h.sz j hjl)]
    simp only [Option.bind_some]
    rw [← hs, show wrap64 (posR 1 bs (j + 1)) = posR 1 bs (j + 1) by unfold wrap64; omega, show wrap64 ((j : Int) + 1) = ((j + 1 : Nat) : Int) by have := h.len; unfold wrap64; omega, ih k (j + 1) (by omega) (by omega)]
theorem point_eq (h : WfR n bs) (m : Nat) (hm : m ≤ bs.length) (k : Nat) (hk : m < k) : selvageref02_Heap_Point.f k n bs (m : Int) = some (2 * posR 1 bs m, n) := by
  have := point_l0 h m hm m k 0 (by omega) hk
  rw [posR_zero] at this
  exact this
theorem used_l0 (h : WfR n bs) : ∀ (d k j : Nat), j + d = bs.length → d < k → selvageref02_Heap_Used.l0 k (posR 1 bs j - 1) (j : Int) n bs = some (posR 1 bs bs.length - 1, n) := by
  intro d
  induction d with
  | zero =>
    intro k j hj hk
    obtain ⟨k, rfl⟩ : ∃ m, k = m + 1 := ⟨k - 1, by omega⟩
    obtain rfl : j = bs.length := by omega
    simp only [selvageref02_Heap_Used.l0]
    rw [if_neg (by omega)]
  | succ d ih =>
    intro k j hj hk
    obtain ⟨k, rfl⟩ : ∃ m, k = m + 1 := ⟨k - 1, by omega⟩
    have hjl : j < bs.length := by omega
    have hp1 := h.pos_le (j + 1) (by omega)
    have hs := posR_succ bs 1 j _ (List.getElem?_eq_getElem hjl)
    simp only [selvageref02_Heap_Used.l0]
    rw [if_pos (by omega), if_pos (by omega), rd_T80_at hjl, size_eq (h.sz j hjl)]
    simp only [Option.bind_some]
    rw [show wrap64 (posR 1 bs j - 1 + (szR bs[j] : Int)) = posR 1 bs (j + 1) - 1 by unfold wrap64; omega, show wrap64 ((j : Int) + 1) = ((j + 1 : Nat) : Int) by have := h.len; unfold wrap64; omega, ih k (j + 1) (by omega) (by omega)]
theorem used_eq (h : WfR n bs) : selvageref02_Heap_Used.f (bs.length + 1) n bs = some (posR 1 bs bs.length - 1, n) := by
  have := used_l0 h bs.length (bs.length + 1) 0 (by omega) (by omega)
  rw [posR_zero] at this
  exact this
/-- A word as it is meant. -/
def wordR (bl : List (Int × List Int)) (z : Int) : Int := if z < 0 ∧ 0 < bl.length then 2 * topB 1 (bl.take ((-(z + 1)) % bl.length).toNat) else z
theorem top_take (bs0 : List S80) : ∀ (r : List S80) (a : Int) (k : Nat), k ≤ r.length → (∀ b ∈ r, (toB bs0 b).2.length = b.f1.length + b.f2.length) → topB a ((r.map (toB bs0)).take k) = posR a r k
  | r, a, 0, _, _ => by rw [posR_zero]; rfl
  | [], a, k + 1, h, _ => by simp at h
  | b :: r, a, k + 1, h0, h => by
    rw [List.map_cons, List.take_succ_cons, topB, posR, h b (by simp), show a + 1 + ((b.f1.length + b.f2.length : Nat) : Int) = a + szR b by unfold szR; omega]
    exact top_take bs0 r _ k (by simpa using h0) (fun x hx => h x (by simp [hx]))
theorem WfR.take (h : WfR n bs) (k : Nat) (hk : k ≤ bs.length) : topB 1 ((blR bs).take k) = posR 1 bs k := top_take bs bs 1 k hk h.lens
theorem word_eq (h : WfR n bs) (z : Int) (hz : I64 z) (k : Nat) (hk : bs.length < k) : selvagelaw16_word.f k n bs z = some (wordR (blR bs) z, n) := by
  unfold selvagelaw16_word.f wordR
  have hbl : (blR bs).length = bs.length := by unfold blR; simp
  rw [hbl]
  unfold I64 at hz
  by_cases h1 : z < 0
  · rw [if_pos h1]
    by_cases h2 : 0 < bs.length
    · have e : Int.tmod (wrap64 (-(wrap64 (z + 1)))) (bs.length : Int) = (((-(z + 1)) % (bs.length : Int)).toNat : Int) := by
        rw [show wrap64 (-(wrap64 (z + 1))) = -(z + 1) by unfold wrap64; omega, Int.tmod_eq_emod_of_nonneg (by omega), Int.toNat_of_nonneg (Int.emod_nonneg _ (by omega))]
      have hlt : ((-(z + 1)) % (bs.length : Int)).toNat < bs.length := by
        have := Int.emod_lt_of_pos (-(z + 1)) (show (0 : Int) < bs.length by omega)
        omega
      rw [if_pos (by omega), if_neg (by omega), e, point_eq h _ (by omega) k (by omega), if_pos ⟨h1, h2⟩, h.take _ (by omega)]
      rfl
    · rw [if_neg (by omega), if_neg (fun e => h2 e.2)]
  · rw [if_neg h1, if_neg (fun e => h1 e.1)]
theorem words_l0 (h : WfR n bs) (l : List Int) (hl : ∀ z ∈ l, I64 z) (k0 : Nat) (hk0 : bs.length + 70 < k0) : ∀ (d j k : Nat), j + d = min l.length 61 → k0 - j ≤ k → j ≤ 61 →
    selvagelaw16_words.l0 k l ((l.take j).map (wordR (blR bs))) (j : Int) n bs = some ((l.take 61).map (wordR (blR bs)), n) := by
  intro d
  induction d with
  | zero =>
    intro j k hj hk hj6
    obtain ⟨k, rfl⟩ : ∃ m, k = m + 1 := ⟨k - 1, by omega⟩
    simp only [selvagelaw16_words.l0]
    have e : l.take j = l.take 61 := by
      rcases Nat.lt_or_ge l.length 61 with h1 | h1
      · rw [List.take_of_length_le (by omega), List.take_of_length_le (by omega)]
      · rw [show j = 61 by omega]
    by_cases h1 : (j : Int) < (l.length : Int)
    · rw [if_pos h1, if_neg (by omega), e]
    · rw [if_neg h1, e]
  | succ d ih =>
    intro j k hj hk hj6
    obtain ⟨k, rfl⟩ : ∃ m, k = m + 1 := ⟨k - 1, by omega⟩
    have hjl : j < l.length := by omega
    have hrd : rd l (j : Int) = l[j] := by unfold rd; rw [Int.toNat_natCast, List.getD_eq_getElem?_getD, List.getElem?_eq_getElem hjl]; rfl
    simp only [selvagelaw16_words.l0]
    rw [if_pos (by omega), if_pos (by omega), if_pos (by omega), hrd, word_eq h _ (hl _ (List.getElem_mem hjl)) k (by omega)]
    simp only [Option.bind_some]
    rw [if_pos (by simp; omega), show wrap64 ((j : Int) + 1) = ((j + 1 : Nat) : Int) by unfold wrap64; omega,
      show List.map (wordR (blR bs)) (List.take j l) ++ [wordR (blR bs) l[j]] = List.map (wordR (blR bs)) (List.take (j + 1) l) by rw [List.take_succ_eq_append_getElem hjl, List.map_append]; rfl]
    exact ih (j + 1) k (by omega) (by omega) (by omega)
theorem words_eq (h : WfR n bs) (l : List Int) (hl : ∀ z ∈ l, I64 z) : selvagelaw16_words.f (bs.length + 71) n bs l = some ((l.take 61).map (wordR (blR bs)), n) := by
  have := words_l0 h l hl (bs.length + 71) (by omega) (min l.length 61) 0 (bs.length + 71) (by omega) (by omega) (by omega)
  exact this
end
end Go.Proofs.Ytkmoneccehbncaa.Heap
/- The reference's heap, plainly: a block that is made. No condition but what each theorem states. -/
namespace Go.Proofs.Ytkmoneccehbncaa.Heap
open Go.RowKit Go.Proofs.YtkmoneccehbncaaW.PrintWords Go.Proofs.YtkmoneccehbncaaW.PrintLast Go.Proofs.YtkmoneccehbncaaW.PrintMore Go.Proofs.Ytkmoneccehbncaa.Print Go.Proofs.Ytkmoneccehbncaa.Ints
set_option linter.unusedVariables false
set_option linter.unusedSimpArgs false

def wdR (bs : List S80) (z : Int) : S84 := ⟨(fndR bs z).1, (fndR bs z).2.1⟩
def newR80 (bs : List S80) (tag : Int) (l : List Int) : S80 := if tag = 201 then ⟨tag, [], l⟩ else ⟨tag, l.map (wdR bs), []⟩
section
variable {n : Int} {bs : List S80}
theorem WfR.may (h : WfR n bs) (z : Int) : mayB (blR bs) z = (fndR bs z).2.2 := by
  unfold mayB fndR
  rw [h.find z]
  by_cases h1 : z % 2 = 0
  · rw [if_pos h1, decide_eq_false (by omega)]
    cases hi : idxR 1 bs z with
    | none => rfl
    | some i =>
      have := (idxR_some hi).1
      simp [List.getElem?_eq_getElem this]
  · rw [if_neg h1, decide_eq_true h1]
    rfl
theorem say_append (x : S80) (w : S84) (h : w.f0 = true → 0 ≤ w.f1 ∧ w.f1 < bs.length) : sayR (bs ++ [x]) w = sayR bs w := by
  unfold sayR
  by_cases h1 : w.f0 = true
  · have := h h1
    rw [if_pos h1, if_pos h1, posR_append x bs 1 _ (by omega)]
  · rw [if_neg h1, if_neg h1]
theorem say_wd (h : WfR n bs) (z : Int) (hm : (fndR bs z).2.2 = true) : sayR bs (wdR bs z) = z := by
  revert hm
  unfold sayR wdR fndR
  by_cases h1 : z % 2 = 0
  · rw [if_pos h1]
    cases hi : idxR 1 bs z with
    | none => intro hm; cases hm
    | some i =>
      intro _
      have := (idxR_some hi).2
      simp [this]
  · rw [if_neg h1]
    intro _
    rfl
theorem wd_ok (h : WfR n bs) (z : Int) : (wdR bs z).f0 = true → 0 ≤ (wdR bs z).f1 ∧ (wdR bs z).f1 < (bs.length : Int) := by
  unfold wdR fndR
  by_cases h1 : z % 2 = 0
  · rw [if_pos h1]
    cases hi : idxR 1 bs z with
    | none => intro hm; cases hm
    | some i =>
      intro _
      have := (idxR_some hi).1
      simp only
      omega
  · rw [if_neg h1]
    intro hm; cases hm
theorem newR80_len (bs : List S80) (tag : Int) (l : List Int) : szR (newR80 bs tag l) = 1 + l.length := by
  unfold newR80 szR
  split <;> simp
theorem newR80_ok (h : WfR n bs) (tag : Int) (l : List Int) (h0 : 0 ≤ tag) (h1 : tag ≤ 201) : OkB bs.length (newR80 bs tag l) := by
  unfold newR80
  by_cases ht : tag = 201
  · rw [if_pos ht]
    exact ⟨fun _ => rfl, fun hn => absurd ht hn, h0, h1, fun w hw => by cases hw⟩
  · rw [if_neg ht]
    refine ⟨fun he => absurd he ht, fun _ => rfl, h0, h1, fun w hw => ?_⟩
    obtain ⟨z, _, rfl⟩ := List.mem_map.1 hw
    exact wd_ok h z
theorem make_wf (h : WfR n bs) (tag : Int) (l : List Int) (h0 : 0 ≤ tag) (h1 : tag ≤ 201) (hm : tag ≠ 201 → ∀ z ∈ l, (fndR bs z).2.2 = true) (hr : posR 1 bs bs.length + l.length ≤ n) :
    WfR n (bs ++ [newR80 bs tag l]) ∧ blR (bs ++ [newR80 bs tag l]) = blR bs ++ [(tag, l)] := by
  refine ⟨⟨?_, ?_, h.most⟩, ?_⟩
  · intro i b hb
    rcases Nat.lt_or_ge i bs.length with h2 | h2
    · rw [List.getElem?_append_left h2] at hb
      exact h.ok i b hb
    · rw [List.getElem?_append_right h2] at hb
      have hi : i = bs.length := by
        rcases Nat.lt_or_ge (i - bs.length) 1 with h3 | h3
        · omega
        · rw [List.getElem?_eq_none (by simpa using h3)] at hb; cases hb
      subst hi
      obtain rfl : newR80 bs tag l = b := by simpa using hb
      exact newR80_ok h tag l h0 h1
  · have := posR_succ (bs ++ [newR80 bs tag l]) 1 bs.length (newR80 bs tag l) (by simp)
    rw [List.length_append, List.length_singleton, this, posR_append _ bs 1 _ (Nat.le_refl _), newR80_len]
    omega
  · unfold blR
    rw [List.map_append]
    congr 1
    · apply List.map_congr_left
      intro b hb
      obtain ⟨i, hi⟩ := List.getElem?_of_mem hb
      have hlt : i < bs.length := (List.getElem?_eq_some_iff.1 hi).1
      have hok := h.ok i b hi
      unfold toB
      congr 1
      by_cases ht : b.f0 = 201
      · rw [if_pos ht, if_pos ht]
      · rw [if_neg ht, if_neg ht]
        apply List.map_congr_left
        intro w hw
        exact say_append _ w (fun hw0 => by have := hok.ws w hw hw0; omega)
    · simp only [List.map_cons, List.map_nil, List.cons.injEq, and_true]
      unfold toB newR80
      by_cases ht : tag = 201
      · rw [if_pos ht]
        simp [ht]
      · simp only [if_neg ht, Prod.mk.injEq, true_and, List.map_map]
        conv => rhs; rw [← List.map_id l]
        apply List.map_congr_left
        intro z hz
        show sayR (bs ++ [_]) (wdR bs z) = z
        rw [say_append _ _ (wd_ok h z), say_wd h z (hm ht z hz)]
theorem fields_eq (h : WfR n bs) {k : Nat} {b : S80} (hb : bs[k]? = some b) : (blR bs)[k]? = some (toB bs b) := by unfold blR; rw [List.getElem?_map, hb]; rfl
/-- The block that a word points to, and its number. -/
theorem fnd_some (h : WfR n bs) (z : Int) (hz : (fndR bs z).1 = true) : ∃ (i : Nat) (b : S80), fndR bs z = (true, (i : Int), true) ∧ bs[i]? = some b ∧ findB 1 (blR bs) z = some (toB bs b) := by
  have hf := h.find z
  revert hz
  unfold fndR
  by_cases h1 : z % 2 = 0
  · rw [if_pos h1]
    cases hi : idxR 1 bs z with
    | none => intro hm; cases hm
    | some i =>
      intro _
      have hl := (idxR_some hi).1
      rw [hi] at hf
      refine ⟨i, bs[i], rfl, List.getElem?_eq_getElem hl, ?_⟩
      rw [hf]
      simp [List.getElem?_eq_getElem hl]
  · rw [if_neg h1]
    intro hm; cases hm
theorem fnd_none (h : WfR n bs) (z : Int) (hz : (fndR bs z).1 = false) : findB 1 (blR bs) z = none := by
  have hf := h.find z
  revert hz
  unfold fndR
  by_cases h1 : z % 2 = 0
  · rw [if_pos h1]
    cases hi : idxR 1 bs z with
    | none => intro _; rw [hf, hi]; rfl
    | some i => intro hm; cases hm
  · intro _
    exact f_odd _ _ (by omega)
end
end Go.Proofs.Ytkmoneccehbncaa.Heap
/- The reference's heap in memory: New, and what its readers come to; no condition but what each theorem states. -/
namespace Go.Proofs.Ytkmoneccehbncaa.Heap
open Go.RowKit Go.Proofs.YtkmoneccehbncaaW.PrintWords Go.Proofs.YtkmoneccehbncaaW.PrintLast Go.Proofs.YtkmoneccehbncaaW.PrintMore Go.Proofs.Ytkmoneccehbncaa.Print Go.Proofs.Ytkmoneccehbncaa.Ints
set_option linter.unusedVariables false
set_option linter.unusedSimpArgs false

/-- Block g is the reference's heap: how many words, its blocks, in rows of its own (from block B on, each in ok). -/
def AtR (W : World) (B : Nat) (ok : Nat → Prop) (g : Nat) (n : Int) (bs : List S80) : Prop := ∃ v, W.heap[g]? = some (.cells #[.int .i64 n, v] 42 (0, 0)) ∧ Kd.R k80 80 W B ok v bs ∧ B ≤ g ∧ ¬ ok g
theorem AtR.step {W W1 : World} {B g : Nat} {ok : Nat → Prop} {n : Int} {bs : List S80} (h : AtR W B ok g n bs) (hg : W1.heap[g]? = W.heap[g]?) (hm : ∀ k, ok k → k < W.heap.size → W1.heap[k]? = W.heap[k]?) : AtR W1 B ok g n bs := by
  obtain ⟨v, h1, h2, h3⟩ := h
  exact ⟨v, hg.trans h1, Kd.R_step h2 hm, h3⟩
theorem AtR.lt {W : World} {B g : Nat} {ok : Nat → Prop} {n : Int} {bs : List S80} (h : AtR W B ok g n bs) : g < W.heap.size := by
  obtain ⟨v, h1, _⟩ := h
  exact blk_lt h1
theorem AtR.below {W W1 : World} {B g : Nat} {ok : Nat → Prop} {n : Int} {bs : List S80} (h : AtR W B ok g n bs) (hb : Below W.heap.size W W1) : AtR W1 B ok g n bs :=
  h.step (hb.block g h.lt) (fun k _ hk => hb.block k hk)
theorem AtR.chg {W W1 : World} {B g : Nat} {ok S : Nat → Prop} {n : Int} {bs : List S80} (h : AtR W B ok g n bs) (hc : Chg S W W1) (hg : ¬ S g) (hm : ∀ k, ok k → ¬ S k) : AtR W1 B ok g n bs :=
  h.step (hc.block g h.lt hg) (fun k ho hk => hc.block k hk (hm k ho))
theorem AtR.state {W : World} {B g : Nat} {ok : Nat → Prop} {n : Int} {bs : List S80} (h : AtR W B ok g n bs) : IsS42 W W g n bs := by
  obtain ⟨v, h1, h2, h3⟩ := h
  obtain ⟨A, c, e⟩ := Kd.R_slice h2
  subst e
  exact ⟨A, c, h1, trivial, (Kd.R_reads' h2).2.2⟩
set_option maxHeartbeats 800000 in
set_option maxRecDepth 100000 in
theorem newR (n : Nat) (ok : Nat → Prop) (W : World) (h1 : 64 ≤ n) (h2 : n ≤ 65536) (hok : ¬ ok W.heap.size) :
    Calls Try.prog 15 #[.int .i64 n] W fun e w' => e = .returned (.pointer (some ⟨W.heap.size, 0, none⟩)) ∧ AtR w' W.heap.size ok W.heap.size n [] ∧ Below W.heap.size W w' := by
  go_enter Try.func15, Try.ntmps15
  go_wp2
  go_ret
  exact ⟨rfl, ⟨_, heap_alloc_new W _, Kd.R_nil _ _ _ _ _, Nat.le_refl _, hok⟩, below_alloc (Below.refl _ _) _⟩
theorem wf_nil (n : Nat) (h1 : 64 ≤ n) (h2 : n ≤ 65536) : WfR n [] := ⟨fun i b hb => by simp at hb, by rw [List.length_nil, posR_zero]; omega, by omega⟩
section
variable {B g : Nat} {ok : Nat → Prop} {n : Int} {bs : List S80} {W : World}
theorem findRC (z : Int) (hw : WfR n bs) (h : AtR W B ok g n bs) :
    Calls Try.prog 72 #[.pointer (some ⟨g, 0, none⟩), .int .i64 z] W fun e w' => e = .returned (.tuple #[.agg #[.bool (fndR bs z).1, .int .i64 (fndR bs z).2.1], .bool (fndR bs z).2.2]) ∧ Below W.heap.size W w' :=
  (selvageref02_Heap_Find.calls _ g n bs z _ _ _ _ W W h.state (Below.refl _ _) (find_eq hw z)).mono fun _ _ hh => ⟨hh.1, hh.2.2.1⟩
theorem usedRC (hw : WfR n bs) (h : AtR W B ok g n bs) :
    Calls Try.prog 18 #[.pointer (some ⟨g, 0, none⟩)] W fun e w' => e = .returned (.int .i64 (posR 1 bs bs.length - 1)) ∧ Below W.heap.size W w' :=
  (selvageref02_Heap_Used.calls _ g n bs _ _ W W h.state (Below.refl _ _) (used_eq hw)).mono fun _ _ hh => ⟨hh.1, hh.2.2.1⟩
theorem pointRC (k : Nat) (hk : k ≤ bs.length) (hw : WfR n bs) (h : AtR W B ok g n bs) :
    Calls Try.prog 21 #[.pointer (some ⟨g, 0, none⟩), .int .i64 (k : Int)] W fun e w' => e = .returned (.int .i64 (2 * posR 1 bs k)) ∧ Below W.heap.size W w' :=
  (selvageref02_Heap_Point.calls (k + 1) g n bs (k : Int) _ _ W W h.state (Below.refl _ _) (point_eq hw k hk (k + 1) (by omega))).mono fun _ _ hh => ⟨hh.1, hh.2.2.1⟩
theorem wordRC (z : Int) (hz : I64 z) (hw : WfR n bs) (h : AtR W B ok g n bs) :
    Calls Try.prog 26 #[.pointer (some ⟨g, 0, none⟩), .int .i64 z] W fun e w' => e = .returned (.int .i64 (wordR (blR bs) z)) ∧ Below W.heap.size W w' :=
  (selvagelaw16_word.calls _ g n bs z _ _ W W h.state (Below.refl _ _) (word_eq hw z hz (bs.length + 1) (by omega))).mono fun _ _ hh => ⟨hh.1, hh.2.2.1⟩
theorem wordsRC (A : Option Addr) (c : Nat) (l : List Int) (hl : ∀ z ∈ l, I64 z) (hr : (Kd.int .i64).C W A l.length l) (hc : l.length ≤ c) (hA : ∀ ad, A = some ad → 0 < l.length → ad.block ≠ g) (hw : WfR n bs) (h : AtR W B ok g n bs) :
    Calls Try.prog 42 #[.pointer (some ⟨g, 0, none⟩), .slice A l.length c] W fun e w' => ∃ v, e = .returned v ∧ Kd.R (Kd.int .i64) 3 w' W.heap.size (fun _ => True) v ((l.take 61).map (wordR (blR bs))) ∧ Below W.heap.size W w' :=
  (selvagelaw16_words.calls _ g n bs A c l _ _ W W h.state (Below.refl _ _) hr hc hA (words_eq hw l hl)).mono fun _ _ ⟨v, h1, h2, _, h4, _⟩ => ⟨v, h1, h2, h4⟩
theorem sayRC (w : S84) (hw' : w.f0 = true → 0 ≤ w.f1 ∧ w.f1 < bs.length) (hw : WfR n bs) (h : AtR W B ok g n bs) :
    Calls Try.prog 52 #[.pointer (some ⟨g, 0, none⟩), .agg #[.bool w.f0, .int .i64 w.f1]] W fun e w' => e = .returned (.int .i64 (sayR bs w)) ∧ Below W.heap.size W w' := by
  have e : selvageref02_Heap_Say.f (bs.length + 1) n bs w.f0 w.f1 = some (sayR bs w, n) := by
    unfold selvageref02_Heap_Say.f sayR
    by_cases h1 : w.f0 = true
    · have h2 := hw' h1
      obtain ⟨m, hm⟩ := Int.eq_ofNat_of_zero_le h2.1
      rw [if_pos h1, if_pos h1, hm, point_eq hw m (by omega) _ (by omega)]
      rfl
    · rw [if_neg h1, if_neg h1]
  exact (selvageref02_Heap_Say.calls _ g n bs w.f0 w.f1 _ _ W W h.state (Below.refl _ _) e).mono fun _ _ hh => ⟨hh.1, hh.2.2.1⟩
end
end Go.Proofs.Ytkmoneccehbncaa.Heap
/- The reference's heap in memory: Fields; no condition but what each theorem states. -/
namespace Go.Proofs.Ytkmoneccehbncaa.Heap
open Go.RowKit Go.Proofs.YtkmoneccehbncaaW.PrintWords Go.Proofs.YtkmoneccehbncaaW.PrintLast Go.Proofs.YtkmoneccehbncaaW.PrintMore Go.Proofs.Ytkmoneccehbncaa.Print Go.Proofs.Ytkmoneccehbncaa.Ints
set_option linter.unusedVariables false
set_option linter.unusedSimpArgs false

theorem lst_take (l : List Int) (i : Nat) (h : i < l.length) : l.take (i + 1) = l.take i ++ [l[i]] := by rw [List.take_succ_eq_append_getElem h]
/-- Block k's cells. -/
theorem AtR.blk {W : World} {B g : Nat} {ok : Nat → Prop} {n : Int} {bs : List S80} {k : Nat} {b : S80} (h : AtR W B ok g n bs) (hb : bs[k]? = some b) :
    ∃ ad c A1 c1 A2 c2, W.cell? ⟨g, 1, none⟩ = some (.slice (some ad) bs.length c) ∧ W.cell? (ad.add (k * 3)) = some (.int .i64 b.f0) ∧ W.cell? ⟨(ad.add (k * 3)).block, (ad.add (k * 3)).off + 1, none⟩ = some (.slice A1 b.f1.length c1) ∧
      W.cell? ⟨(ad.add (k * 3)).block, (ad.add (k * 3)).off + 2, none⟩ = some (.slice A2 b.f2.length c2) ∧ b.f1.length ≤ c1 ∧ k84.C W A1 b.f1.length b.f1 ∧ b.f2.length ≤ c2 ∧ (Kd.int .i64).C W A2 b.f2.length b.f2 := by
  obtain ⟨A, c, h1, _, h3⟩ := h.state
  have hlt : k < bs.length := (List.getElem?_eq_some_iff.1 hb).1
  have hk : bs[k] = b := by rw [List.getElem?_eq_getElem hlt] at hb; exact Option.some.inj hb
  obtain ⟨ad, A1, c1, A2, c2, rfl, e0, e1, e2, l1, r1, l2, r2⟩ := at_T80 h3 (k : Int) (by omega) (by omega)
  rw [rd_T80_at hlt, hk] at e0 e1 e2 l1 r1 l2 r2
  exact ⟨ad, c, A1, c1, A2, c2, (blk_cell h1 1).trans rfl, e0, e1, e2, l1, r1, l2, r2⟩

set_option maxHeartbeats 4000000 in
set_option maxRecDepth 100000 in
theorem fieldsRC {B g : Nat} {ok : Nat → Prop} {n : Int} {bs : List S80} {W : World} (k : Nat) (b : S80) (hb : bs[k]? = some b) (hw : WfR n bs) (h : AtR W B ok g n bs) :
    Calls Try.prog 22 #[.pointer (some ⟨g, 0, none⟩), .int .i64 (k : Int)] W fun e w' => ∃ A c, e = .returned (.slice A (toB bs b).2.length c) ∧ (toB bs b).2.length ≤ c ∧ (Kd.int .i64).C w' A (toB bs b).2.length (toB bs b).2 ∧ Below W.heap.size W w' := by
  obtain ⟨ad, c, A1, c1, A2, c2, q1, e0, e1, e2, l1, r1, l2, r2⟩ := h.blk hb
  have hlt : k < bs.length := (List.getElem?_eq_some_iff.1 hb).1
  have hok := hw.ok k b hb
  have hsz := hw.sz k hlt
  have hk : bs[k] = b := by rw [List.getElem?_eq_getElem hlt] at hb; exact Option.some.inj hb
  rw [hk] at hsz
  unfold szR at hsz
  have hlenk : bs.length ≤ 65536 := hw.len
  have hu80 := Try.underlying80
  have hu84 := Try.underlying84
  have HH := Aside0.mk h
  have HR1 := Aside0.mk r1
  have HR2 := Aside0.mk r2
  have p1 : (0 ≤ (k : Int)) = True := eq_true (by omega)
  have p2 : ((k : Int) < (bs.length : Int)) = True := eq_true (by omega)
  unfold toB
  clear r1 r2 h
  by_cases ht : b.f0 = 201
  · rw [if_pos ht]
    have d1 : (b.f0 == 201) = true := beq_iff_eq.2 ht
    go_enter Try.func22, Try.ntmps22
    go_wp2
    go_ret
    exact ⟨A2, c2, rfl, l2, HR2.out, Below.refl _ _⟩
  · rw [if_neg ht]
    have d1 : (b.f0 == 201) = false := beq_eq_false_iff_ne.2 ht
    have HS := Aside0.mk (fun (w : S84) hw1 (W1 : World) h1 => sayRC (B := B) (g := g) (ok := ok) (n := n) (bs := bs) (W := W1) w hw1 hw h1)
    have HOK := Aside0.mk (show ∀ i (hi : i < b.f1.length), (b.f1[i]).f0 = true → 0 ≤ (b.f1[i]).f1 ∧ (b.f1[i]).f1 < (bs.length : Int) from fun i hi h0 => by have := hok.ws _ (List.getElem_mem hi) h0; omega)
    have hm : (b.f1.map (sayR bs)).length = b.f1.length := by simp
    have HM := Aside0.mk hm
    have Q1 := Aside0.mk q1
    have E1 := Aside0.mk e1
    clear hm hok
    generalize hL : b.f1.map (sayR bs) = L at *
    have HL := Aside0.mk hL
    clear hL
    go_enter Try.func22, Try.ntmps22
    go_wp2
    clear q1 e0 e1 e2
    go_loopg [5, 6] b.f1.length (fun kq v5 v6 w' => ∃ (i : Nat), v6 = .int .i64 (i : Int) ∧ Aside0 (i + kq = b.f1.length) ∧ Aside0 (Kd.R (Kd.int .i64) 3 w' W.heap.size (fun _ => True) v5 (L.take i)) ∧ Aside0 (Below W.heap.size W w'))
    case atStart => exact ⟨0, rfl, ⟨by omega⟩, ⟨by rw [List.take_zero]; exact Kd.R_nil _ _ _ _ _⟩, ⟨Below.refl _ _⟩⟩
    case round =>
      obtain ⟨i, rfl, HI, HR, HB⟩ := hrel
      have q1 := cell_below HB.out Q1.out
      have e1 := cell_below HB.out E1.out
      have hi := HI.out
      cases gk with
      | zero =>
        have hiL : i = b.f1.length := by omega
        subst hiL
        go_wp2
        go_ret
        have hr := HR.out
        rw [List.take_of_length_le (by have := HM.out; omega)] at hr
        obtain ⟨A', c', rfl⟩ := Kd.R_slice hr
        exact ⟨A', c', rfl, (Kd.R_reads' hr).2.1, (Kd.R_reads' hr).2.2, HB.out⟩
      | succ k1 =>
        have hil : i < b.f1.length := by omega
        have hwd := rd_T84 b.f1 (i : Int)
        obtain ⟨ad1, e84, f0, f1⟩ := at_T84 HR1.out (i : Int) (by omega) (by omega)
        cases e84
        have hrd : rd_T84 b.f1 (i : Int) = b.f1[i] := by unfold rd_T84; rw [Int.toNat_natCast, List.getD_eq_getElem?_getD, List.getElem?_eq_getElem hil]; rfl
        rw [hrd] at f0 f1
        rw [Int.toNat_natCast] at f0 f1
        replace f0 := cell_below HB.out f0
        replace f1 := cell_below HB.out f1
        have HSW := Aside0.mk (HS.out b.f1[i] (HOK.out i hil) _ (HH.out.below HB.out))
        have hLi : L[i]'(by have := HM.out; omega) = sayR bs b.f1[i] := by
          have := HL.out
          subst this
          simp
        have HTK := Aside0.mk (show L.take (i + 1) = L.take i ++ [sayR bs b.f1[i]] by rw [lst_take L i (by have := HM.out; omega), hLi])
        clear hLi hrd
        generalize sayR bs b.f1[i] = z at *
        generalize b.f1[i] = w84 at *
        have HTL := Aside0.mk (show (L.take i).length ≤ i by simp; omega)
        go_wp2_with (first
          | (go_at_call 52; (with_reducible refine HSW.out.mono ?_); rintro e w5 ⟨rfl, hb5⟩; have HB5 := Aside0.mk (below_then HB.out HB.out.size hb5); have HR5 := Aside0.mk (Kd.R_below HR.out hb5); clear hb5)
          | ((with_reducible refine gate_builtin (b := .append) (xs := #[.tmp 37, .tmp 51]) rfl ?_); at_builtin; refine Kd.R_append (Kd.int .i64) (w0 := W) W.heap.size rfl (.tmp 37) (.tmp 51) 36 3 (.int .i64 0) 8 rfl Try.underlying36 info3 rfl (by decide) (by omega) _ (L.take i) z [.int .i64 z] (fun _ => True) (fun _ => False) rfl rfl ?aP (fun _ hk => hk.elim) ?aF ?aO ?aB ?aS ?aL ?_; (case aP => exact rfl); (case aF => exact (fun _ _ => trivial)); (case aO => exact HR5.out); (case aB => exact HB5.out); (case aS => exact HB5.out.size); (case aL => have := HTL.out; omega); intro v6 w6 ho hb hg hat; have HR6 := Aside0.mk ho; have HB6 := Aside0.mk hb; clear ho hb hg hat))
        go_roundg k1
        case measure => omega
        case rel => exact ⟨i + 1, by go_num, ⟨by omega⟩, ⟨by rw [HTK.out]; exact HR6.out⟩, HB6⟩
end Go.Proofs.Ytkmoneccehbncaa.Heap
/- The reference's heap in memory: Make; no condition but what each theorem states. -/
namespace Go.Proofs.Ytkmoneccehbncaa.Heap
open Go.RowKit Go.Proofs.YtkmoneccehbncaaW.PrintWords Go.Proofs.YtkmoneccehbncaaW.PrintLast Go.Proofs.YtkmoneccehbncaaW.PrintMore Go.Proofs.Ytkmoneccehbncaa.Print Go.Proofs.Ytkmoneccehbncaa.Ints
set_option linter.unusedVariables false
set_option linter.unusedSimpArgs false

theorem info80 : (Try.prog.info? 80).map (fun i => (i.zero, i.size, i.bytes)) = some (some (.agg #[.int .i64 0, .slice none 0 0, .slice none 0 0]), 3, 56) := by kernel_rfl
theorem mkB_full (bl : List (Int × List Int)) (n tag : Int) (l : List Int) (ho : oddB bl tag l = false) (h : n < topB 1 bl + l.length) : makeB n bl tag l = (0, 2, bl) := by
  unfold makeB
  rw [ho, if_neg (by decide), if_pos h]
theorem mkB_made (bl : List (Int × List Int)) (n tag : Int) (l : List Int) (ho : oddB bl tag l = false) (h : ¬ n < topB 1 bl + l.length) : makeB n bl tag l = (2 * topB 1 bl, 0, bl ++ [(tag, l)]) := by
  unfold makeB
  rw [ho, if_neg (by decide), if_neg h]
theorem mkB_odd (bl : List (Int × List Int)) (n tag : Int) (l : List Int) (ho : oddB bl tag l = true) : makeB n bl tag l = (0, 1, bl) := by
  unfold makeB
  rw [ho, if_pos rfl]
theorem odd_raw (bl : List (Int × List Int)) (l : List Int) (hl : l.length ≤ 60) : oddB bl 201 l = false := by
  unfold oddB
  rw [decide_eq_false (show ¬ 60 < l.length by omega)]
  rfl
theorem AtR.made {W1 : World} {B g : Nat} {ok : Nat → Prop} {n : Int} {v v1 : Value} {bs1 : List S80} (h1 : W1.heap[g]? = some (.cells #[.int .i64 n, v] 42 (0, 0))) (ho : k80.R 80 W1 B ok v1 bs1) (hB : B ≤ g) (hg : ¬ ok g) : AtR (W1.setCell ⟨g, 1, none⟩ v1) B ok g n bs1 :=
  ⟨v1, blk_set h1 1 v1, Kd.R_far (p := ⟨g, 1, none⟩) ho (fun k hk e => hg ((show k = g from e) ▸ hk)) v1, hB, hg⟩
theorem Chg.made {W W1 : World} {g : Nat} {ok : Nat → Prop} {v : Value} (hg : W.grownBy W1 v.ownBlock) (hv : ∀ k, v.ownBlock = some k → ok k) (u : Value) : Chg (fun k => k = g ∨ ok k) W (W1.setCell ⟨g, 1, none⟩ u) :=
  (show Chg (fun k => k = g ∨ ok k) W W1 from ⟨hg.os, hg.tape, hg.output, hg.size, fun k hk hs => hg.block k hk (fun e => hs (.inr (hv k e.symm)))⟩).set (.inl rfl) u
theorem pointRCz {B g : Nat} {ok : Nat → Prop} {n : Int} {bs : List S80} {W : World} (z : Int) (k : Nat) (hz : z = k) (hk : k ≤ bs.length) (hw : WfR n bs) (h : AtR W B ok g n bs) :
    Calls Try.prog 21 #[.pointer (some ⟨g, 0, none⟩), .int .i64 z] W fun e w' => e = .returned (.int .i64 (2 * posR 1 bs k)) ∧ Below W.heap.size W w' := by
  subst hz
  exact pointRC k hk hw h
/-- A block of raw numbers that is being made. -/
structure MkR (W0 W : World) (p : Nat) (v : Value) (rs : List Int) : Prop where
  head : W.heap[p]? = some (.cells #[.int .i64 201, .slice none 0 0, v] 80 (0, 0))
  r : Kd.R (Kd.int .i64) 3 W W0.heap.size (fun k => k ≠ p) v rs
section
variable {W0 W W1 : World} {p : Nat} {v v1 : Value} {rs rs1 : List Int}
theorem MkR.below (h : MkR W0 W p v rs) (hb : Below W.heap.size W W1) : MkR W0 W1 p v rs := ⟨blk_below h.head hb, Kd.R_below h.r hb⟩
theorem MkR.drew (h : MkR W0 W p v rs) : MkR W0 W.drew p v rs := h.below (below_drew1 (Below.refl _ _))
theorem MkR.app (h : MkR W0 W p v rs) (hg : W.grownBy W1 v.ownBlock) : W1.heap[p]? = some (.cells #[.int .i64 201, .slice none 0 0, v] 80 (0, 0)) :=
  (hg.block p (blk_lt h.head) (fun e => h.r.1 p e.symm rfl)).trans h.head
theorem MkR.store (h1 : W1.heap[p]? = some (.cells #[.int .i64 201, .slice none 0 0, v] 80 (0, 0))) (ho : (Kd.int .i64).R 3 W1 W0.heap.size (fun k => k ≠ p) v1 rs1) : MkR W0 (W1.setCell ⟨p, 2, none⟩ v1) p v1 rs1 :=
  ⟨blk_set h1 2 v1, Kd.R_far (p := ⟨p, 2, none⟩) ho (fun _ hk => hk) v1⟩
theorem MkR.done (h : MkR W0 W p v rs) (l : List Int) (hl : rs = l) : ∃ A1 c1 A2 c2, v = .slice A2 l.length c2 ∧ k80.M W W0.heap.size (fun k => k ≠ p) ⟨201, [], l⟩ [.int .i64 201, .slice A1 0 c1, .slice A2 l.length c2] ∧
    k84.C W A1 ([] : List S84).length [] ∧ ([] : List S84).length ≤ c1 ∧ (Kd.int .i64).C W A2 l.length l ∧ l.length ≤ c2 ∧ A1 = none ∧ c1 = 0 := by
  subst hl
  obtain ⟨A2, c2, rfl⟩ := Kd.R_slice h.r
  have h2 := Kd.R_reads' h.r
  exact ⟨none, 0, A2, c2, rfl, k80_mkM _ _ _ ⟨201, [], rs⟩ (Kd.R_nil _ _ _ _ _) h.r, Kd.C_nil _ _, Nat.le_refl _, h2.2.2, h2.2.1, rfl, rfl⟩
end

set_option maxHeartbeats 4000000 in
set_option maxRecDepth 100000 in
theorem makeRaw {B g : Nat} {ok : Nat → Prop} {n : Int} {bs : List S80} {W : World} (A : Option Addr) (c : Nat) (l : List Int) (hr : (Kd.int .i64).C W A l.length l) (hl : l.length ≤ 60) (hw : WfR n bs) (h : AtR W B ok g n bs) (hok : ∀ k, W.heap.size ≤ k → ok k) (hB : B ≤ W.heap.size) :
    Calls Try.prog 47 #[.pointer (some ⟨g, 0, none⟩), .int .i64 201, .slice A l.length c] W fun e w' => ∃ bs', e = .returned (.tuple #[.int .i64 (makeB n (blR bs) 201 l).1, .int .i64 (makeB n (blR bs) 201 l).2.1]) ∧ AtR w' B ok g n bs' ∧ WfR n bs' ∧ blR bs' = (makeB n (blR bs) 201 l).2.2 ∧ Chg (fun k => k = g ∨ ok k) W w' := by
  have HFULL := Aside0.mk (fun h => mkB_full (blR bs) n 201 l (odd_raw _ l hl) h)
  have HMADE := Aside0.mk (fun h => mkB_made (blR bs) n 201 l (odd_raw _ l hl) h)
  have hu80 := Try.underlying80
  have HH := Aside0.mk h
  have HR := Aside0.mk hr
  have hl2 : ¬ (l.length : Int) > 60 := by omega
  clear h hr
  go_enter Try.func47, Try.ntmps47
  go_wp2
  go_loopg [9] l.length (fun kq v9 w' => ∃ (i : Nat) (v : Value), v9 = .int .i64 (i : Int) ∧ Aside0 (i + kq = l.length) ∧ Aside0 (MkR W w' W.heap.size v (l.take i)) ∧ Aside0 (Below W.heap.size W w'))
  case atStart => exact ⟨0, _, rfl, ⟨by omega⟩, ⟨⟨heap_alloc_new W _, by rw [List.take_zero]; exact Kd.R_nil _ _ _ _ _⟩⟩, ⟨below_alloc (Below.refl _ _) _⟩⟩
  case round =>
    obtain ⟨i, v, rfl, HI, HM, HB⟩ := hrel
    have hi := HI.out
    have hh := HM.out.head
    have hc1 := (blk_cell hh 1).trans (rfl : _ = some (Value.slice none 0 0))
    have hc2 := (blk_cell hh 2).trans (rfl : _ = some v)
    have hf2 := blk_frozen hh 2
    cases gk with
    | zero => 
      have hil : i = l.length := by omega
      subst hil
      obtain ⟨A1, c1, A2, c2, ev, TM0, TC10, TC1l0, TC20, TC2l0, eA1, ec1⟩ := HM.out.done l (List.take_of_length_le (Nat.le_refl _))
      subst ev eA1 ec1
      have TH := Aside0.mk HM.out.head
      have TM := Aside0.mk TM0
      have TC1 := Aside0.mk TC10
      have TC1l := Aside0.mk TC1l0
      have TC2 := Aside0.mk TC20
      have TC2l := Aside0.mk TC2l0
      clear TM0 TC10 TC1l0 TC20 TC2l0 hc1 hc2 hf2 hh
      have TZ := Aside0.mk (show selvageref02_size.f 201 ([] : List S84) l = some (1 + (l.length : Int)) by unfold selvageref02_size.f; congr 1; unfold wrap64; simp; omega)
      go_wp2
      have th0 := (blk_cell TH.out 0).trans (rfl : _ = some (Value.int .i64 201))
      have th1 := (blk_cell TH.out 1).trans (rfl : _ = some (Value.slice none 0 0))
      have th2 := (blk_cell TH.out 2).trans (rfl : _ = some (Value.slice A2 (l).length c2))
      have HA1 := Aside0.mk (HH.out.below HB.out)
      obtain ⟨vb, gh0, gR0, gB, gok⟩ := HH.out
      obtain ⟨AB, cB, evb⟩ := Kd.R_slice gR0
      subst evb
      have gh := blk_below gh0 HB.out
      have gR := Kd.R_below gR0 HB.out
      have OWN : Aside0 (∀ k, (Value.slice AB bs.length cB).ownBlock = some k → k < W.heap.size ∧ k ≠ g) := ⟨fun k hk => by
        obtain ⟨_, ho⟩ := Kd.R_own gR0
        exact ⟨own_lt ho k hk, fun e => gok (e ▸ gR0.1 k hk)⟩⟩
      have HG := Aside0.mk (blk_lt gh0)
      have GOK := Aside0.mk gok
      have GB := Aside0.mk gB
      clear gh0 gR0 gok gB
      have g0 := (blk_cell gh 0).trans (rfl : _ = some (Value.int .i64 n))
      have GH := Aside0.mk gh
      have GR := Aside0.mk gR
      clear gh gR
      have hU := hw.pos_le bs.length (Nat.le_refl _)
      have hTop := hw.top
      have HU1 := Aside0.mk hU
      obtain ⟨U, eU⟩ : ∃ U : Int, posR 1 bs bs.length - 1 = U := ⟨_, rfl⟩
      have HUC := Aside0.mk (fun (W1 : World) (h1 : AtR W1 B ok g n bs) => usedRC (W := W1) hw h1)
      rw [eU] at HUC
      have HPT := Aside0.mk (fun (W1 : World) (h1 : AtR W1 B ok g n (bs ++ [newR80 bs 201 l])) (h2 : WfR n (bs ++ [newR80 bs 201 l])) => pointRCz (W := W1) (wrap64 (bs.length : Int)) bs.length (by have := hw.len; unfold wrap64; omega) (by simp) h2 h1)
      have hsz1 : IntKind.i64.wrap (U + (1 + (l.length : Int))) = U + (1 + (l.length : Int)) := IntWalk.i64_in _ (by omega)
      have EU := Aside0.mk eU
      have TK := Aside0.mk (k80_open (k80.K_of_M TM.out))
      have HKP := Aside0.mk (fun (w' : World) (hb : Below wr.heap.size wr w') => (show w'.cell? ⟨W.heap.size, 0, none⟩ = some (.int .i64 201) ∧ w'.cell? ⟨W.heap.size, 1, none⟩ = some (.slice none 0 0) ∧ w'.cell? ⟨W.heap.size, 2, none⟩ = some (.slice A2 (l).length c2) ∧ w'.cell? ⟨g, 0, none⟩ = some (.int .i64 n) from ⟨cell_below hb th0, cell_below hb th1, cell_below hb th2, cell_below hb g0⟩))
      have HB1 := Aside0.mk (below_drew1 (Below.refl wr.heap.size wr))
      have HSZ := Aside0.mk (fun (W1 : World) (hb : Below wr.heap.size wr W1) => selvageref02_size.calls 201 none 0 ([] : List S84) A2 c2 l (1 + (l.length : Int)) W1 (Kd.C_below TC1.out hb) TC1l.out (Kd.C_below TC2.out hb) TC2l.out TZ.out)
      clear hTop hU eU
      by_cases hov : U + (1 + (l.length : Int)) > n
      · go_region_held3 (fun w' => w'.cell? ⟨W.heap.size, 0, none⟩ = some (.int .i64 201) ∧ w'.cell? ⟨W.heap.size, 1, none⟩ = some (.slice none 0 0) ∧ w'.cell? ⟨W.heap.size, 2, none⟩ = some (.slice A2 (l).length c2) ∧ w'.cell? ⟨g, 0, none⟩ = some (.int .i64 n))
          (first | exact HKP.out _ HB1.out | exact HKP.out _ HB2.out | exact HKP.out _ HB3.out)
          (first | (go_at_call 18; (with_reducible refine (HUC.out _ (HA1.out.below HB1.out)).mono ?_); rintro e w2 ⟨rfl, hb⟩; have HB2 := Aside0.mk (below_then HB1.out HB1.out.size hb); clear hb) | (go_at_call 48; (refine (HSZ.out _ HB2.out).mono ?_); rintro e w3 ⟨rfl, hb⟩; have HB3 := Aside0.mk (below_then HB2.out HB2.out.size hb); clear hb))
        go_wp2
        go_ret2
        rw [HFULL.out (by have := EU.out; have := hw.top; omega)]
        exact ⟨bs, rfl, HA1.out.below HB3.out, hw, rfl, (Chg.of_below _ HB.out).trans (Chg.of_below _ HB3.out)⟩
      have hmk := make_wf hw 201 l (by omega) (by omega) (fun h => absurd rfl h) (by have := EU.out; omega)
      have HMK := Aside0.mk hmk
      clear hmk
      have HNB : Aside0 (newR80 bs 201 l = ⟨201, ([] : List S84), l⟩) := ⟨rfl⟩
      have HOVF := Aside0.mk hov
      go_region_held3 (fun w' => w'.cell? ⟨W.heap.size, 0, none⟩ = some (.int .i64 201) ∧ w'.cell? ⟨W.heap.size, 1, none⟩ = some (.slice none 0 0) ∧ w'.cell? ⟨W.heap.size, 2, none⟩ = some (.slice A2 (l).length c2) ∧ w'.cell? ⟨g, 0, none⟩ = some (.int .i64 n))
        (first | exact HKP.out _ HB1.out | exact HKP.out _ HB2.out | exact HKP.out _ HB3.out)
        (first | (go_at_call 18; (with_reducible refine (HUC.out _ (HA1.out.below HB1.out)).mono ?_); rintro e w2 ⟨rfl, hb⟩; have HB2 := Aside0.mk (below_then HB1.out HB1.out.size hb); clear hb) | (go_at_call 48; (refine (HSZ.out _ HB2.out).mono ?_); rintro e w3 ⟨rfl, hb⟩; have HB3 := Aside0.mk (below_then HB2.out HB2.out.size hb); clear hb))
      have q1 := cell_below HB3.out ((blk_cell GH.out 1).trans (rfl : _ = some (Value.slice AB bs.length cB)))
      have hfg := blk_frozen (blk_below GH.out HB3.out) 1
      obtain ⟨q2, q3, q4, q5⟩ := HKP.out _ HB3.out
      have q6 := cell_below (below_alloc (Below.refl _ w3) (.cells #[.int .i64 201, .slice none 0 0, .slice A2 (l).length c2] 80)) q1
      have HLB := Aside0.mk hw.len
      go_wp2
      have MB := Aside0.mk (k80.M_mono (fun k hk => hk.2.1) (k80.M_bound (Kd.M_below (Kd.M_below TM.out HB3.out) (below_drew1 (Below.refl _ w3)))))
      go_region_law (refine Kd.R_append_step k80 (w0 := w3.drew) B (by rfl) (.tmp 73) (.tmp 75) 40 80 (.agg #[.int .i64 0, .slice none 0 0, .slice none 0 0]) 56 rfl Try.underlying40 info80 rfl (by decide) (by omega) (.slice AB bs.length cB) bs ⟨201, ([] : List S84), l⟩ [.int .i64 201, .slice none 0 0, .slice A2 (l).length c2] ok (fun k => W.heap.size ≤ k) (by rfl) (by rfl) (k80.M_lower hB MB.out) (fun k hk => ⟨hok k hk, fun e => by have := (OWN.out k e.symm).1; omega⟩) (fun k hk => hok k (by have h1 := HB.out.size; have h2 := HB3.out.size; simp at hk; omega)) (Kd.R_drew (Kd.R_below GR.out HB3.out)) (Below.refl _ _) (by have h1 := HB.out.size; have h2 := HB3.out.size; simp; omega) (by have := HLB.out; omega) ?_; intro v6 w6 ho hb hg hat; obtain ⟨A6, c6, e6⟩ := Kd.R_slice ho; rw [show (bs ++ [(⟨201, ([] : List S84), l⟩ : S80)]).length = bs.length + 1 by simp] at e6; subst e6; have hg6 := (hg.block g (by have h1 := HB.out.size; have h2 := HB3.out.size; have := HG.out; simp; omega) (fun e => (OWN.out g e.symm).2 rfl)).trans (blk_below (blk_below GH.out HB3.out) (below_drew1 (Below.refl _ w3))); have HAT := Aside0.mk (AtR.made hg6 ho GB.out GOK.out); have hf6 := blk_frozen hg6 1; have hc6 := (blk_cell hg6 1).trans (rfl : _ = some (Value.slice AB bs.length cB)); have hc7 := (blk_cell (blk_set hg6 1 (.slice A6 (bs.length + 1) c6)) 1).trans (rfl : _ = some (Value.slice A6 (bs.length + 1) c6)); have HC7 := Aside0.mk ((((Chg.of_below (fun k => k = g ∨ ok k) HB.out).trans (Chg.of_below _ HB3.out)).trans (Chg.of_below _ (below_drew1 (Below.refl _ w3)))).trans (Chg.made (g := g) (ok := ok) hg (fun k e => (Kd.R_step GR.out (fun _ _ _ => rfl)).1 k e) (.slice A6 (bs.length + 1) c6))); clear ho hb hg hat hg6)
      all_goals go_wp2_with (go_at_call 21; (with_reducible refine (HPT.out _ (by rw [HNB.out]; exact HAT.out) HMK.out.1).mono ?_); rintro e w8 ⟨rfl, hb⟩; have HB8 := Aside0.mk hb; clear hb)
      all_goals go_ret2
      all_goals rw [HMADE.out (by have := EU.out; have := hw.top; have := HOVF.out; omega)]
      all_goals exact ⟨_, by rw [posR_append _ _ _ _ (Nat.le_refl _), hw.top]; rfl, AtR.below (by rw [HNB.out]; exact HAT.out) HB8.out, HMK.out.1, HMK.out.2, HC7.out.trans (Chg.of_below _ HB8.out)⟩
    | succ k1 =>
      have hil : i < l.length := by omega
      obtain ⟨ad, rfl, ha⟩ := Kd.at_int (Kd.C_below HR.out HB.out) (i : Int) (by omega) (by omega)
      rw [Int.toNat_natCast] at ha
      have hrd : rd l (i : Int) = l[i] := by unfold rd; rw [Int.toNat_natCast, List.getD_eq_getElem?_getD, List.getElem?_eq_getElem hil]; rfl
      rw [hrd] at ha
      clear hh
      go_wp2
      have HTK := Aside0.mk (show l.take (i + 1) = l.take i ++ [l[i]] from lst_take l i hil)
      generalize l[i] = z at *
      have HL := Aside0.mk (show (l.take i).length ≤ i by simp; omega)
      have hc2a := cell_below (below_alloc (Below.refl _ wr) (.cells #[.int .i64 z] 3)) hc2
      have HLN := Aside0.mk (show (l.take i ++ [z]).length = i + 1 by simp; omega)
      go_region_law (refine Kd.R_append_step (Kd.int .i64) (w0 := W) W.heap.size (by rfl) (.tmp 34) (.tmp 39) 36 3 (.int .i64 0) 8 rfl Try.underlying36 info3 rfl (by decide) (by omega) v (l.take i) z [.int .i64 z] (fun k => k ≠ W.heap.size) (fun _ => False) (by rfl) (by rfl) rfl (fun _ hk => hk.elim) (fun k hk e => by have h1 := blk_lt HM.out.head; simp at hk; omega) HM.out.drew.r (below_drew1 HB.out) (by have h1 := HB.out.size; simp; omega) (by have := HL.out; omega) ?_; intro v6 w6 ho hb hg hat; obtain ⟨A6, c6, e6⟩ := Kd.R_slice ho; rw [HLN.out] at e6; subst e6; have HM6 := Aside0.mk (MkR.store (HM.out.drew.app hg) ho); have hf2 := blk_frozen (HM.out.drew.app hg) 2; have hc6 := (blk_cell (HM.out.drew.app hg) 2).trans (rfl : _ = some v); have HB6 := Aside0.mk (below_set (j := 2) (v := .slice A6 (i + 1) c6) hb (Nat.le_refl _)); clear ho hb hg hat)
      all_goals go_wp2
      all_goals go_roundg k1
      all_goals first | omega | exact ⟨i + 1, _, by go_num, ⟨by omega⟩, ⟨by rw [HTK.out]; exact HM6.out⟩, HB6⟩
end Go.Proofs.Ytkmoneccehbncaa.Heap
/- The reference's heap in memory: Make of any block; no condition but what each theorem states. -/
namespace Go.Proofs.Ytkmoneccehbncaa.Heap
open Go.RowKit Go.Proofs.YtkmoneccehbncaaW.PrintWords Go.Proofs.YtkmoneccehbncaaW.PrintLast Go.Proofs.YtkmoneccehbncaaW.PrintMore Go.Proofs.Ytkmoneccehbncaa.Print Go.Proofs.Ytkmoneccehbncaa.Ints
set_option linter.unusedVariables false
set_option linter.unusedSimpArgs false

theorem info84 : (Try.prog.info? 84).map (fun i => (i.zero, i.size, i.bytes)) = some (some (.agg #[.bool false, .int .i64 0]), 2, 16) := by kernel_rfl
theorem odd_cooked (bl : List (Int × List Int)) (tag : Int) (l : List Int) (hl : l.length ≤ 60) (h0 : 0 ≤ tag) (h1 : tag ≤ 201) (hm : ∀ z ∈ l, mayB bl z = true) : oddB bl tag l = false := by
  unfold oddB
  rw [decide_eq_false (show ¬ 60 < l.length by omega), decide_eq_false (show ¬ tag < 0 by omega), decide_eq_false (show ¬ 201 < tag by omega)]
  have : l.any (fun z => !mayB bl z) = false := by
    rw [List.any_eq_false]
    intro z hz
    simp [hm z hz]
  rw [this]
  simp
theorem odd_bad (bl : List (Int × List Int)) (tag : Int) (l : List Int) (ht : tag ≠ 201) (z : Int) (hz : z ∈ l) (hm : mayB bl z = false) : oddB bl tag l = true := by
  unfold oddB
  have : l.any (fun z => !mayB bl z) = true := by
    rw [List.any_eq_true]
    exact ⟨z, hz, by simp [hm]⟩
  rw [this, decide_eq_true ht]
  simp
/-- A block of words that is being made. -/
structure MkW (W0 W : World) (p : Nat) (tag : Int) (v : Value) (ws : List S84) : Prop where
  head : W.heap[p]? = some (.cells #[.int .i64 tag, v, .slice none 0 0] 80 (0, 0))
  r : Kd.R k84 84 W W0.heap.size (fun k => k ≠ p) v ws
section
variable {W0 W W1 : World} {p : Nat} {tag : Int} {v v1 : Value} {rs rs1 : List S84}
theorem MkW.below (h : MkW W0 W p tag v rs) (hb : Below W.heap.size W W1) : MkW W0 W1 p tag v rs := ⟨blk_below h.head hb, Kd.R_below h.r hb⟩
theorem MkW.app (h : MkW W0 W p tag v rs) (hg : W.grownBy W1 v.ownBlock) : W1.heap[p]? = some (.cells #[.int .i64 tag, v, .slice none 0 0] 80 (0, 0)) :=
  (hg.block p (blk_lt h.head) (fun e => h.r.1 p e.symm rfl)).trans h.head
theorem MkW.store (h1 : W1.heap[p]? = some (.cells #[.int .i64 tag, v, .slice none 0 0] 80 (0, 0))) (ho : k84.R 84 W1 W0.heap.size (fun k => k ≠ p) v1 rs1) : MkW W0 (W1.setCell ⟨p, 1, none⟩ v1) p tag v1 rs1 :=
  ⟨blk_set h1 1 v1, Kd.R_far (p := ⟨p, 1, none⟩) ho (fun _ hk => hk) v1⟩
theorem MkW.done (h : MkW W0 W p tag v rs) : ∃ A1 c1, v = .slice A1 rs.length c1 ∧ k80.M W W0.heap.size (fun k => k ≠ p) ⟨tag, rs, []⟩ [.int .i64 tag, .slice A1 rs.length c1, .slice none 0 0] ∧
    k84.C W A1 rs.length rs ∧ rs.length ≤ c1 ∧ (Kd.int .i64).C W none ([] : List Int).length [] := by
  obtain ⟨A1, c1, rfl⟩ := Kd.R_slice h.r
  have h2 := Kd.R_reads' h.r
  exact ⟨A1, c1, rfl, k80_mkM _ _ _ ⟨tag, rs, []⟩ h.r (Kd.R_nil _ _ _ _ _), h2.2.2, h2.2.1, Kd.C_nil _ _⟩
end

set_option maxHeartbeats 4000000 in
set_option maxRecDepth 100000 in
theorem makeCooked {B g : Nat} {ok : Nat → Prop} {n : Int} {bs : List S80} {W : World} (tag : Int) (ht : tag ≠ 201) (h0 : 0 ≤ tag) (h1 : tag ≤ 201) (A : Option Addr) (c : Nat) (l : List Int) (hr : (Kd.int .i64).C W A l.length l) (hl : l.length ≤ 60) (hw : WfR n bs) (h : AtR W B ok g n bs) (hok : ∀ k, W.heap.size ≤ k → ok k) (hB : B ≤ W.heap.size) :
    Calls Try.prog 47 #[.pointer (some ⟨g, 0, none⟩), .int .i64 tag, .slice A l.length c] W fun e w' => ∃ bs', e = .returned (.tuple #[.int .i64 (makeB n (blR bs) tag l).1, .int .i64 (makeB n (blR bs) tag l).2.1]) ∧ AtR w' B ok g n bs' ∧ WfR n bs' ∧ blR bs' = (makeB n (blR bs) tag l).2.2 ∧ Chg (fun k => k = g ∨ ok k) W w' := by
  have HF := Aside0.mk (fun (W1 : World) z (h1 : AtR W1 B ok g n bs) => findRC (W := W1) z hw h1)
  have HMAY := Aside0.mk hw.may
  have hu80 := Try.underlying80
  have hu84 := Try.underlying84
  have HH := Aside0.mk h
  have HR := Aside0.mk hr
  have hl2 : ¬ (l.length : Int) > 60 := by omega
  have d1 : (tag == 201) = false := beq_eq_false_iff_ne.2 ht
  have d2 : ¬ tag < 0 := by omega
  have d3 : ¬ tag > 201 := by omega
  clear h hr
  go_enter Try.func47, Try.ntmps47
  go_wp2
  go_loopg [9] l.length (fun kq v9 w' => ∃ (i : Nat) (v : Value), v9 = .int .i64 (i : Int) ∧ Aside0 (i + kq = l.length) ∧ Aside0 (∀ z ∈ l.take i, (fndR bs z).2.2 = true) ∧ Aside0 (MkW W w' W.heap.size tag v ((l.take i).map (wdR bs))) ∧ Aside0 (Below W.heap.size W w'))
  case atStart => exact ⟨0, _, rfl, ⟨by omega⟩, ⟨fun z hz => by simp at hz⟩, ⟨⟨heap_alloc_new W _, by rw [List.take_zero]; exact Kd.R_nil _ _ _ _ _⟩⟩, ⟨below_alloc (Below.refl _ _) _⟩⟩
  case round =>
    obtain ⟨i, v, rfl, HI, HY, HM, HB⟩ := hrel
    have hi := HI.out
    cases gk with
    | zero =>
      have hil : i = l.length := by omega
      subst hil
      have HM2 := Aside0.mk (show MkW W wr W.heap.size tag v (l.map (wdR bs)) by have := HM.out; rwa [List.take_of_length_le (Nat.le_refl _)] at this)
      have hY := HY.out
      rw [List.take_of_length_le (Nat.le_refl _)] at hY
      have HFULL := Aside0.mk (fun h => mkB_full (blR bs) n tag l (odd_cooked (blR bs) tag l hl h0 h1 (fun z hz => by rw [HMAY.out]; exact hY z hz)) h)
      have HMADE := Aside0.mk (fun h => mkB_made (blR bs) n tag l (odd_cooked (blR bs) tag l hl h0 h1 (fun z hz => by rw [HMAY.out]; exact hY z hz)) h)
      have HYY := Aside0.mk hY
      clear HM HY hY
      obtain ⟨A1, c1, ev, TM0, TC10, TC1l0, TC20⟩ := HM2.out.done
      subst ev
      have TH := Aside0.mk HM2.out.head
      have TM := Aside0.mk TM0
      have TC1 := Aside0.mk TC10
      have TC1l := Aside0.mk TC1l0
      have TC2 := Aside0.mk TC20
      have TC2l := Aside0.mk (Nat.le_refl ([] : List Int).length)
      clear TM0 TC10 TC1l0 TC20
      have TZ := Aside0.mk (show selvageref02_size.f tag (l.map (wdR bs)) ([] : List Int) = some (1 + (l.length : Int)) by unfold selvageref02_size.f; congr 1; unfold wrap64; simp; omega)
      have NB0 := Aside0.mk (show newR80 bs tag l = ⟨tag, l.map (wdR bs), []⟩ by unfold newR80; rw [if_neg ht])
      clear HM2
      generalize l.map (wdR bs) = ws at *
      go_wp2
      have th0 := (blk_cell TH.out 0).trans (rfl : _ = some (Value.int .i64 tag))
      have th1 := (blk_cell TH.out 1).trans (rfl : _ = some (Value.slice A1 (ws).length c1))
      have th2 := (blk_cell TH.out 2).trans (rfl : _ = some (Value.slice none 0 0))
      have HA1 := Aside0.mk (HH.out.below HB.out)
      obtain ⟨vb, gh0, gR0, gB, gok⟩ := HH.out
      obtain ⟨AB, cB, evb⟩ := Kd.R_slice gR0
      subst evb
      have gh := blk_below gh0 HB.out
      have gR := Kd.R_below gR0 HB.out
      have OWN : Aside0 (∀ k, (Value.slice AB bs.length cB).ownBlock = some k → k < W.heap.size ∧ k ≠ g) := ⟨fun k hk => by
        obtain ⟨_, ho⟩ := Kd.R_own gR0
        exact ⟨own_lt ho k hk, fun e => gok (e ▸ gR0.1 k hk)⟩⟩
      have HG := Aside0.mk (blk_lt gh0)
      have GOK := Aside0.mk gok
      have GB := Aside0.mk gB
      clear gh0 gR0 gok gB
      have g0 := (blk_cell gh 0).trans (rfl : _ = some (Value.int .i64 n))
      have GH := Aside0.mk gh
      have GR := Aside0.mk gR
      clear gh gR
      have hU := hw.pos_le bs.length (Nat.le_refl _)
      have hTop := hw.top
      have HU1 := Aside0.mk hU
      obtain ⟨U, eU⟩ : ∃ U : Int, posR 1 bs bs.length - 1 = U := ⟨_, rfl⟩
      have HUC := Aside0.mk (fun (W1 : World) (h1 : AtR W1 B ok g n bs) => usedRC (W := W1) hw h1)
      rw [eU] at HUC
      have HPT := Aside0.mk (fun (W1 : World) (h1 : AtR W1 B ok g n (bs ++ [newR80 bs tag l])) (h2 : WfR n (bs ++ [newR80 bs tag l])) => pointRCz (W := W1) (wrap64 (bs.length : Int)) bs.length (by have := hw.len; unfold wrap64; omega) (by simp) h2 h1)
      have hsz1 : IntKind.i64.wrap (U + (1 + (l.length : Int))) = U + (1 + (l.length : Int)) := IntWalk.i64_in _ (by omega)
      have EU := Aside0.mk eU
      have TK := Aside0.mk (k80_open (k80.K_of_M TM.out))
      have HKP := Aside0.mk (fun (w' : World) (hb : Below wr.heap.size wr w') => (show w'.cell? ⟨W.heap.size, 0, none⟩ = some (.int .i64 tag) ∧ w'.cell? ⟨W.heap.size, 1, none⟩ = some (.slice A1 (ws).length c1) ∧ w'.cell? ⟨W.heap.size, 2, none⟩ = some (.slice none 0 0) ∧ w'.cell? ⟨g, 0, none⟩ = some (.int .i64 n) from ⟨cell_below hb th0, cell_below hb th1, cell_below hb th2, cell_below hb g0⟩))
      have HB1 := Aside0.mk (below_drew1 (Below.refl wr.heap.size wr))
      have HSZ := Aside0.mk (fun (W1 : World) (hb : Below wr.heap.size wr W1) => selvageref02_size.calls tag A1 c1 ws none 0 ([] : List Int) (1 + (l.length : Int)) W1 (Kd.C_below TC1.out hb) TC1l.out (Kd.C_below TC2.out hb) TC2l.out TZ.out)
      clear hTop hU eU
      by_cases hov : U + (1 + (l.length : Int)) > n
      · go_region_held3 (fun w' => w'.cell? ⟨W.heap.size, 0, none⟩ = some (.int .i64 tag) ∧ w'.cell? ⟨W.heap.size, 1, none⟩ = some (.slice A1 (ws).length c1) ∧ w'.cell? ⟨W.heap.size, 2, none⟩ = some (.slice none 0 0) ∧ w'.cell? ⟨g, 0, none⟩ = some (.int .i64 n))
          (first | exact HKP.out _ HB1.out | exact HKP.out _ HB2.out | exact HKP.out _ HB3.out)
          (first | (go_at_call 18; (with_reducible refine (HUC.out _ (HA1.out.below HB1.out)).mono ?_); rintro e w2 ⟨rfl, hb⟩; have HB2 := Aside0.mk (below_then HB1.out HB1.out.size hb); clear hb) | (go_at_call 48; (refine (HSZ.out _ HB2.out).mono ?_); rintro e w3 ⟨rfl, hb⟩; have HB3 := Aside0.mk (below_then HB2.out HB2.out.size hb); clear hb))
        go_wp2
        go_ret2
        rw [HFULL.out (by have := EU.out; have := hw.top; omega)]
        exact ⟨bs, rfl, HA1.out.below HB3.out, hw, rfl, (Chg.of_below _ HB.out).trans (Chg.of_below _ HB3.out)⟩
      have hmk := make_wf hw tag l (by omega) (by omega) (fun _ => HYY.out) (by have := EU.out; omega)
      have HMK := Aside0.mk hmk
      clear hmk
      have HNB : Aside0 (newR80 bs tag l = ⟨tag, ws, ([] : List Int)⟩) := ⟨NB0.out⟩
      have HOVF := Aside0.mk hov
      go_region_held3 (fun w' => w'.cell? ⟨W.heap.size, 0, none⟩ = some (.int .i64 tag) ∧ w'.cell? ⟨W.heap.size, 1, none⟩ = some (.slice A1 (ws).length c1) ∧ w'.cell? ⟨W.heap.size, 2, none⟩ = some (.slice none 0 0) ∧ w'.cell? ⟨g, 0, none⟩ = some (.int .i64 n))
        (first | exact HKP.out _ HB1.out | exact HKP.out _ HB2.out | exact HKP.out _ HB3.out)
        (first | (go_at_call 18; (with_reducible refine (HUC.out _ (HA1.out.below HB1.out)).mono ?_); rintro e w2 ⟨rfl, hb⟩; have HB2 := Aside0.mk (below_then HB1.out HB1.out.size hb); clear hb) | (go_at_call 48; (refine (HSZ.out _ HB2.out).mono ?_); rintro e w3 ⟨rfl, hb⟩; have HB3 := Aside0.mk (below_then HB2.out HB2.out.size hb); clear hb))
      have q1 := cell_below HB3.out ((blk_cell GH.out 1).trans (rfl : _ = some (Value.slice AB bs.length cB)))
      have hfg := blk_frozen (blk_below GH.out HB3.out) 1
      obtain ⟨q2, q3, q4, q5⟩ := HKP.out _ HB3.out
      have q6 := cell_below (below_alloc (Below.refl _ w3) (.cells #[.int .i64 tag, .slice A1 (ws).length c1, .slice none 0 0] 80)) q1
      have HLB := Aside0.mk hw.len
      go_wp2
      have MB := Aside0.mk (k80.M_mono (fun k hk => hk.2.1) (k80.M_bound (Kd.M_below (Kd.M_below TM.out HB3.out) (below_drew1 (Below.refl _ w3)))))
      go_region_law (refine Kd.R_append_step k80 (w0 := w3.drew) B (by rfl) (.tmp 73) (.tmp 75) 40 80 (.agg #[.int .i64 0, .slice none 0 0, .slice none 0 0]) 56 rfl Try.underlying40 info80 rfl (by decide) (by omega) (.slice AB bs.length cB) bs ⟨tag, ws, ([] : List Int)⟩ [.int .i64 tag, .slice A1 (ws).length c1, .slice none 0 0] ok (fun k => W.heap.size ≤ k) (by rfl) (by rfl) (k80.M_lower hB MB.out) (fun k hk => ⟨hok k hk, fun e => by have := (OWN.out k e.symm).1; omega⟩) (fun k hk => hok k (by have h1 := HB.out.size; have h2 := HB3.out.size; simp at hk; omega)) (Kd.R_drew (Kd.R_below GR.out HB3.out)) (Below.refl _ _) (by have h1 := HB.out.size; have h2 := HB3.out.size; simp; omega) (by have := HLB.out; omega) ?_; intro v6 w6 ho hb hg hat; obtain ⟨A6, c6, e6⟩ := Kd.R_slice ho; rw [show (bs ++ [(⟨tag, ws, ([] : List Int)⟩ : S80)]).length = bs.length + 1 by simp] at e6; subst e6; have hg6 := (hg.block g (by have h1 := HB.out.size; have h2 := HB3.out.size; have := HG.out; simp; omega) (fun e => (OWN.out g e.symm).2 rfl)).trans (blk_below (blk_below GH.out HB3.out) (below_drew1 (Below.refl _ w3))); have HAT := Aside0.mk (AtR.made hg6 ho GB.out GOK.out); have hf6 := blk_frozen hg6 1; have hc6 := (blk_cell hg6 1).trans (rfl : _ = some (Value.slice AB bs.length cB)); have hc7 := (blk_cell (blk_set hg6 1 (.slice A6 (bs.length + 1) c6)) 1).trans (rfl : _ = some (Value.slice A6 (bs.length + 1) c6)); have HC7 := Aside0.mk ((((Chg.of_below (fun k => k = g ∨ ok k) HB.out).trans (Chg.of_below _ HB3.out)).trans (Chg.of_below _ (below_drew1 (Below.refl _ w3)))).trans (Chg.made (g := g) (ok := ok) hg (fun k e => (Kd.R_step GR.out (fun _ _ _ => rfl)).1 k e) (.slice A6 (bs.length + 1) c6))); clear ho hb hg hat hg6)
      all_goals go_wp2_with (go_at_call 21; (with_reducible refine (HPT.out _ (by rw [HNB.out]; exact HAT.out) HMK.out.1).mono ?_); rintro e w8 ⟨rfl, hb⟩; have HB8 := Aside0.mk hb; clear hb)
      all_goals go_ret2
      all_goals rw [HMADE.out (by have := EU.out; have := hw.top; have := HOVF.out; omega)]
      all_goals exact ⟨_, by rw [posR_append _ _ _ _ (Nat.le_refl _), hw.top]; rfl, AtR.below (by rw [HNB.out]; exact HAT.out) HB8.out, HMK.out.1, HMK.out.2, HC7.out.trans (Chg.of_below _ HB8.out)⟩
    | succ k1 =>
      have hil : i < l.length := by omega
      obtain ⟨ad, rfl, ha⟩ := Kd.at_int (Kd.C_below HR.out HB.out) (i : Int) (by omega) (by omega)
      rw [Int.toNat_natCast] at ha
      have hrd : rd l (i : Int) = l[i] := by unfold rd; rw [Int.toNat_natCast, List.getD_eq_getElem?_getD, List.getElem?_eq_getElem hil]; rfl
      rw [hrd] at ha
      have HTK := Aside0.mk (show l.take (i + 1) = l.take i ++ [l[i]] from lst_take l i hil)
      have HFZ := Aside0.mk (HF.out _ l[i] (HH.out.below HB.out))
      have HZI := Aside0.mk (List.getElem_mem hil)
      have hwd : wdR bs l[i] = ⟨(fndR bs l[i]).1, (fndR bs l[i]).2.1⟩ := rfl
      clear HF
      generalize l[i] = z at *
      by_cases hm : (fndR bs z).2.2 = true
      · have HMZ := Aside0.mk hm
        rw [hm] at HFZ
        clear hm
        have HWD := Aside0.mk hwd
        clear hwd
        have HLN := Aside0.mk (show ((l.take i).map (wdR bs) ++ [wdR bs z]).length = i + 1 by simp; omega)
        have HLL := Aside0.mk (show ((l.take i).map (wdR bs)).length ≤ i by simp; omega)
        rw [HWD.out] at HLN
        generalize (fndR bs z).1 = b1 at *
        generalize (fndR bs z).2.1 = i1 at *
        go_wp2_with (first
          | (go_at_call 72; (with_reducible refine HFZ.out.mono ?_); rintro e w5 ⟨rfl, hb5⟩; have HB5 := Aside0.mk (below_then HB.out HB.out.size hb5); have HM5 := Aside0.mk (HM.out.below hb5); have hc5 := cell_below (below_alloc (Below.refl _ w5) (.cells #[.bool b1, .int .i64 i1] 84)) ((blk_cell HM5.out.head 1).trans (rfl : _ = some v)); have hf5 := blk_frozen HM5.out.head 1; clear hb5)
          | ((with_reducible refine gate_builtin (b := .append) (xs := #[.tmp 54, .tmp 56]) rfl ?_); at_builtin; refine Kd.R_append k84 (w0 := W) W.heap.size rfl (.tmp 54) (.tmp 56) 78 84 (.agg #[.bool false, .int .i64 0]) 16 rfl Try.underlying78 info84 rfl (by decide) (by omega) v ((l.take i).map (wdR bs)) ⟨b1, i1⟩ [.bool b1, .int .i64 i1] (fun k => k ≠ W.heap.size) (fun _ => False) rfl ?aX ?aP (fun _ hk => hk.elim) ?aF ?aO ?aB ?aS ?aL ?_; (case aX => show Value.slice (some ⟨w5.heap.size + 1, 0, none⟩) 1 1 = _; rw [World.size_alloc]); (case aP => exact k84_mkM _ _ _ ⟨b1, i1⟩); (case aF => exact (fun k hk e => by have h1 := blk_lt HM5.out.head; simp at hk; omega)); (case aO => exact Kd.R_alloc HM5.out.r _); (case aB => exact below_alloc HB5.out _); (case aS => exact (below_alloc HB5.out _).size); (case aL => have := HLL.out; omega); intro v6 w6 ho hb hg hat; obtain ⟨A6, c6, e6⟩ := Kd.R_slice ho; rw [HLN.out] at e6; subst e6; have HM6 := Aside0.mk (MkW.store ((HM5.out.below (below_alloc (Below.refl _ _) _)).app hg) ho); have hf6 := blk_frozen ((HM5.out.below (below_alloc (Below.refl _ _) _)).app hg) 1; have hc6 := (blk_cell ((HM5.out.below (below_alloc (Below.refl _ _) _)).app hg) 1).trans (rfl : _ = some v); have HB6 := Aside0.mk (below_set (j := 1) (v := .slice A6 (i + 1) c6) hb (Nat.le_refl _)); clear ho hb hg hat))
        go_roundg k1
        case measure => omega
        case rel => exact ⟨i + 1, _, by go_num, ⟨by omega⟩, ⟨fun y hy => by rw [HTK.out] at hy; rcases List.mem_append.1 hy with hy | hy; exact HY.out y hy; rw [List.mem_singleton.1 hy]; exact HMZ.out⟩, ⟨by rw [HTK.out, List.map_append]; show MkW W _ _ tag _ (List.map (wdR bs) (List.take i l) ++ [wdR bs z]); rw [HWD.out]; exact HM6.out⟩, HB6⟩
      · have hm2 : (fndR bs z).2.2 = false := by simpa using hm
        have HODD := Aside0.mk (mkB_odd (blR bs) n tag l (odd_bad (blR bs) tag l ht z HZI.out (by rw [HMAY.out]; exact hm2)))
        rw [hm2] at HFZ
        clear hm hm2 hwd
        generalize (fndR bs z).1 = b1 at *
        generalize (fndR bs z).2.1 = i1 at *
        go_wp2_with (go_at_call 72; (with_reducible refine HFZ.out.mono ?_); rintro e w5 ⟨rfl, hb5⟩; have HB5 := Aside0.mk (below_then HB.out HB.out.size hb5); clear hb5)
        go_ret2
        rw [HODD.out]
        have HB6 := below_alloc HB5.out (.cells #[.bool b1, .int .i64 i1] 84)
        exact ⟨bs, rfl, HH.out.below HB6, hw, rfl, Chg.of_below _ HB6⟩
/-- Make of the reference. -/
theorem makeRC {B g : Nat} {ok : Nat → Prop} {n : Int} {bs : List S80} {W : World} (tag : Int) (A : Option Addr) (c : Nat) (l : List Int) (hr : (Kd.int .i64).C W A l.length l) (hl : l.length ≤ 1000000) (hw : WfR n bs) (h : AtR W B ok g n bs) (hok : ∀ k, W.heap.size ≤ k → ok k) (hB : B ≤ W.heap.size) :
    Calls Try.prog 47 #[.pointer (some ⟨g, 0, none⟩), .int .i64 tag, .slice A l.length c] W fun e w' => ∃ bs', e = .returned (.tuple #[.int .i64 (makeB n (blR bs) tag l).1, .int .i64 (makeB n (blR bs) tag l).2.1]) ∧ AtR w' B ok g n bs' ∧ WfR n bs' ∧ blR bs' = (makeB n (blR bs) tag l).2.2 ∧ Chg (fun k => k = g ∨ ok k) W w' := by
  by_cases hl6 : l.length ≤ 60
  · by_cases ht : tag = 201
    · subst ht
      exact makeRaw A c l hr hl6 hw h hok hB
    · by_cases h0 : 0 ≤ tag
      · by_cases h1 : tag ≤ 201
        · exact makeCooked tag ht h0 h1 A c l hr hl6 hw h hok hB
        · have HODD := Aside0.mk (mkB_odd (blR bs) n tag l (by unfold oddB; rw [decide_eq_true (show 201 < tag by omega)]; simp))
          have d2 : ¬ tag < 0 := by omega
          have d3 : tag > 201 := by omega
          have HH := Aside0.mk h
          clear h hr ht h1
          go_enter Try.func47, Try.ntmps47
          go_wp2
          go_ret2
          rw [HODD.out]
          first | exact ⟨rfl, bs, HH.out, hw, rfl, Chg.refl _ _⟩ | exact ⟨bs, rfl, HH.out, hw, rfl, Chg.refl _ _⟩
      · have HODD := Aside0.mk (mkB_odd (blR bs) n tag l (by unfold oddB; rw [decide_eq_true (show tag < 0 by omega)]; simp))
        have d2 : tag < 0 := by omega
        have HH := Aside0.mk h
        clear h hr ht h0
        go_enter Try.func47, Try.ntmps47
        go_wp2
        go_ret2
        rw [HODD.out]
        first | exact ⟨rfl, bs, HH.out, hw, rfl, Chg.refl _ _⟩ | exact ⟨bs, rfl, HH.out, hw, rfl, Chg.refl _ _⟩
  · have HODD := Aside0.mk (mkB_odd (blR bs) n tag l (by unfold oddB; rw [decide_eq_true (show 60 < l.length by omega)]; simp))
    have hl7 : (l.length : Int) > 60 := by omega
    have HH := Aside0.mk h
    clear h hr
    by_cases h0 : tag < 0
    · go_enter Try.func47, Try.ntmps47
      go_wp2
      go_ret2
      rw [HODD.out]
      first | exact ⟨rfl, bs, HH.out, hw, rfl, Chg.refl _ _⟩ | exact ⟨bs, rfl, HH.out, hw, rfl, Chg.refl _ _⟩
    · by_cases h1 : tag > 201
      · go_enter Try.func47, Try.ntmps47
        go_wp2
        go_ret2
        rw [HODD.out]
        first | exact ⟨rfl, bs, HH.out, hw, rfl, Chg.refl _ _⟩ | exact ⟨bs, rfl, HH.out, hw, rfl, Chg.refl _ _⟩
      · go_enter Try.func47, Try.ntmps47
        go_wp2
        go_ret2
        rw [HODD.out]
        first | exact ⟨rfl, bs, HH.out, hw, rfl, Chg.refl _ _⟩ | exact ⟨bs, rfl, HH.out, hw, rfl, Chg.refl _ _⟩
end Go.Proofs.Ytkmoneccehbncaa.Heap
/- Texts as numbers, plainly: what the reference's Pack and Unpack come to. -/
namespace Go.Proofs.Ytkmoneccehbncaa.Heap
open Go.RowKit Go.Proofs.YtkmoneccehbncaaW.PrintWords Go.Proofs.YtkmoneccehbncaaW.PrintLast Go.Proofs.YtkmoneccehbncaaW.PrintMore Go.Proofs.Ytkmoneccehbncaa.Print Go.Proofs.Ytkmoneccehbncaa.Ints
set_option linter.unusedVariables false
set_option linter.unusedSimpArgs false

theorem pow6 {e : Nat} (h : e ≤ 6) : ((256 ^ e : Nat) : Int) ≤ 281474976710656 := by
  have h7 : 256 ^ e ≤ 256 ^ 6 := Nat.pow_le_pow_right (by decide) h
  have h6 : (256 : Nat) ^ 6 = 281474976710656 := by decide
  omega
theorem power_l0 (e : Nat) (he : e ≤ 6) : ∀ (m i k : Nat), i + m = e → m < k → selvageref03_power.l0 k (e : Int) ((256 ^ i : Nat) : Int) (i : Int) = some ((256 ^ e : Nat) : Int) := by
  intro m
  induction m with
  | zero =>
    intro i k h hk
    obtain ⟨k, rfl⟩ : ∃ p, k = p + 1 := ⟨k - 1, by omega⟩
    obtain rfl : i = e := by omega
    rw [selvageref03_power.l0, if_neg (by omega)]
  | succ m ih =>
    intro i k h hk
    obtain ⟨k, rfl⟩ : ∃ p, k = p + 1 := ⟨k - 1, by omega⟩
    have hp := pow6 (show i + 1 ≤ 6 by omega)
    have hs : 256 ^ (i + 1) = 256 ^ i * 256 := Nat.pow_succ 256 i
    have e1 : wrap64 (((256 ^ i : Nat) : Int) * 256) = ((256 ^ (i + 1) : Nat) : Int) := by
      rw [hs] at hp ⊢
      generalize 256 ^ i = P at *
      unfold wrap64
      omega
    rw [selvageref03_power.l0, if_pos (by omega), e1, show wrap64 ((i : Int) + 1) = ((i + 1 : Nat) : Int) by unfold wrap64; omega]
    exact ih (i + 1) k (by omega) (by omega)
theorem power_eq (e k : Nat) (he : e ≤ 6) (hk : e < k) : selvageref03_power.f k (e : Int) = some ((256 ^ e : Nat) : Int) := power_l0 e he e 0 k (by omega) hk
theorem set_last (pre : List Int) (x y : Int) (n : Nat) (h : n = pre.length) : (pre ++ [x]).set n y = pre ++ [y] := by
  subst h
  simp
theorem low_bound (s : ByteArray) (a e : Nat) (he : e < 7) : 0 ≤ low s a e + bt s ((a + e : Nat) : Int) * ((256 ^ e : Nat) : Int) ∧ low s a e + bt s ((a + e : Nat) : Int) * ((256 ^ e : Nat) : Int) < 72057594037927936 := by
  have h := low_range s a (e + 1)
  rw [low] at h
  have h7 : 256 ^ (e + 1) ≤ 256 ^ 7 := Nat.pow_le_pow_right (by decide) (by omega)
  have h6 : (256 : Nat) ^ 7 = 72057594037927936 := by decide
  exact ⟨h.1, by have := h.2; omega⟩
def pend (s : ByteArray) (j e : Nat) : List Int := if e = 0 then [] else [low s (7 * j) e]
theorem pend_zero (s : ByteArray) (j : Nat) (pre : List Int) : pre ++ pend s j 0 = pre := by unfold pend; simp
theorem pend_pos (s : ByteArray) (j e : Nat) (h : e ≠ 0) : pend s j e = [low s (7 * j) e] := by unfold pend; rw [if_neg h]
theorem wr_small (x : Int) (h0 : 0 ≤ x) (h1 : x < 72057594037927936) : wrap64 x = x := by unfold wrap64; omega
theorem pack_end (s : ByteArray) (j e : Nat) (pre : List Int) (he : e < 7) (hm : 7 * j + e = s.size) : pre ++ pend s j e = pre ++ chunks s j ((s.size + 6) / 7 - j) := by
  congr 1
  by_cases h0 : e = 0
  · subst h0
    rw [show (s.size + 6) / 7 - j = 0 by omega]
    rfl
  · rw [pend_pos s j e h0, show (s.size + 6) / 7 - j = 0 + 1 by omega, chunks, show min 7 (s.size - 7 * j) = e by omega]
    rfl
theorem nat_mod7 (j e : Nat) (he : e < 7) : (7 * j + e) % 7 = e := by omega
theorem nat_succ7 (j e : Nat) (he : e < 7) (hj : j ≤ 10) : wrap64 (((7 * j + e : Nat) : Int) + 1) = ((7 * j + (e + 1) : Nat) : Int) := by unfold wrap64; omega
theorem len_pred (pre : List Int) (x : Int) (hp : 1 ≤ pre.length) (hp2 : pre.length ≤ 1000) : wrap64 (((pre ++ [x] : List Int).length : Int) - 1) = (pre.length : Int) := by simp; unfold wrap64; omega
theorem len_lt (pre : List Int) (x : Int) : ((pre.length : Nat) : Int) < ((pre ++ [x] : List Int).length : Int) := by simp; omega
theorem rd_last (pre : List Int) (x : Int) : rd (pre ++ [x]) (pre.length : Int) = x := by unfold rd; simp
set_option maxHeartbeats 1000000 in
theorem pack_round (s : ByteArray) (pre : List Int) (j e k : Nat) (he : e < 7) (hs : s.size ≤ 60) (hlt : 7 * j + e < s.size) (hk : 20 < k) (hp : 1 ≤ pre.length) (hp2 : pre.length ≤ 100 + j) :
    selvageref03_Pack.l0 (k + 1) s (pre ++ pend s j e) ((7 * j + e : Nat) : Int) = selvageref03_Pack.l0 k s (pre ++ [low s (7 * j) (e + 1)]) ((7 * j + (e + 1) : Nat) : Int) := by
  have hpw := power_eq e k (by omega) (by omega)
  have hj : j ≤ 10 := by clear hpw; omega
  have hlt2 : ((7 * j + e : Nat) : Int) < (s.size : Int) := Int.ofNat_lt.2 hlt
  have hp3 : pre.length ≤ 1000 := by clear hpw; omega
  have hp4 : pre.length < 17592186044416 := by clear hpw; omega
  have e0i : (e : Int) = 0 ↔ e = 0 := by clear hpw; omega
  have hb := bt_range s ((7 * j + e : Nat) : Int)
  have hlb := low_bound s (7 * j) e he
  have ew : wrap64 (bt s ((7 * j + e : Nat) : Int)) = bt s ((7 * j + e : Nat) : Int) := wr_small _ hb.1 (by have := hb.2; omega)
  have hl0 := (low_range s (7 * j) e).1
  have em0 : 0 ≤ bt s ((7 * j + e : Nat) : Int) * ((256 ^ e : Nat) : Int) := Int.mul_nonneg hb.1 (Int.natCast_nonneg _)
  have em : wrap64 (bt s ((7 * j + e : Nat) : Int) * ((256 ^ e : Nat) : Int)) = bt s ((7 * j + e : Nat) : Int) * ((256 ^ e : Nat) : Int) := by
    refine wr_small _ em0 ?_
    have := hlb.2
    generalize bt s ((7 * j + e : Nat) : Int) * ((256 ^ e : Nat) : Int) = q at *
    generalize low s (7 * j) e = r at *
    omega
  have ef : wrap64 (low s (7 * j) e + bt s ((7 * j + e : Nat) : Int) * ((256 ^ e : Nat) : Int)) = low s (7 * j) (e + 1) := wr_small _ hlb.1 hlb.2
  have es : wrap64 (((7 * j + e : Nat) : Int) + 1) = ((7 * j + (e + 1) : Nat) : Int) := nat_succ7 j e he hj
  have et : Int.tmod ((7 * j + e : Nat) : Int) 7 = (e : Int) := by
    rw [tm7, nat_mod7 j e he]
  clear hb hlb em0 hl0
  rw [selvageref03_Pack.l0, if_pos hlt2, et]
  by_cases h0 : e = 0
  · have erd : rd (pre ++ [(0 : Int)]) (pre.length : Int) = low s (7 * j) e := by rw [rd_last, h0]; rfl
    rw [show pend s j e = [] by rw [h0]; rfl, List.append_nil, if_pos (e0i.2 h0), if_pos hp4]
    simp only [Option.bind_some]
    rw [len_pred pre 0 hp hp3, if_pos (Int.natCast_nonneg _), if_pos (len_lt pre 0), if_pos (Int.natCast_nonneg _), hpw]
    simp only [Option.bind_some]
    rw [ew, em, erd, es, ef, Int.toNat_natCast, set_last pre 0 _ pre.length rfl]
  · rw [pend_pos s j e h0, if_neg (fun h => h0 (e0i.1 h)), len_pred pre _ hp hp3, if_pos (Int.natCast_nonneg _), if_pos (len_lt pre _), if_pos (Int.natCast_nonneg _), hpw]
    simp only [Option.bind_some]
    rw [ew, em, rd_last, es, ef, Int.toNat_natCast, set_last pre _ _ pre.length rfl]
theorem refPack_l0 (s : ByteArray) (hs : s.size ≤ 60) : ∀ (m k j e : Nat) (pre : List Int), e < 7 → 7 * j + e + m = s.size → m + 30 < k → 1 ≤ pre.length → pre.length ≤ 100 + j →
    selvageref03_Pack.l0 k s (pre ++ pend s j e) ((7 * j + e : Nat) : Int) = some (pre ++ chunks s j ((s.size + 6) / 7 - j), 0) := by
  intro m
  induction m with
  | zero =>
    intro k j e pre he hm hk hp hp2
    obtain ⟨k, rfl⟩ : ∃ p, k = p + 1 := ⟨k - 1, by omega⟩
    rw [selvageref03_Pack.l0, if_neg (by omega), pack_end s j e pre he (by omega)]
  | succ m ih =>
    intro k j e pre he hm hk hp hp2
    obtain ⟨k, rfl⟩ : ∃ p, k = p + 1 := ⟨k - 1, by omega⟩
    rw [pack_round s pre j e k he hs (by omega) (by omega) hp hp2]
    by_cases h6 : e + 1 = 7
    · have := ih k (j + 1) 0 (pre ++ [low s (7 * j) (e + 1)]) (by decide) (by omega) (by omega) (by simp) (by simp; omega)
      rw [pend_zero, show 7 * (j + 1) + 0 = 7 * j + (e + 1) by omega] at this
      rw [this, show (s.size + 6) / 7 - j = ((s.size + 6) / 7 - (j + 1)) + 1 by omega, chunks, show min 7 (s.size - 7 * j) = e + 1 by omega, List.append_assoc, List.singleton_append]
    · have := ih k j (e + 1) pre (by omega) (by omega) (by omega) hp hp2
      rw [pend_pos s j (e + 1) (by omega)] at this
      exact this
theorem refPack_eq (s : ByteArray) : selvageref03_Pack.f 100 s = some (if s.size ≤ 60 then (pack s, 0) else ([], 12)) := by
  unfold selvageref03_Pack.f
  by_cases h : s.size ≤ 60
  · rw [if_neg (by omega), if_pos h]
    have := refPack_l0 s h s.size 100 0 0 [(s.size : Int)] (by omega) (by omega) (by omega) (by simp) (by simp)
    rw [pend_zero] at this
    exact this
  · rw [if_pos (by omega), if_neg h]


theorem strOfNums_get (L : List Int) (i : Nat) (hi : i < L.length) (h0 : 0 ≤ L[i]) (h1 : L[i] < 256) : bt (strOfNums L) (i : Int) = L.getD i 0 := by
  have hs : i < (strOfNums L).size := by rw [strOfNums_size]; exact hi
  unfold bt
  rw [dif_pos (by rw [Int.toNat_natCast]; exact hs), List.getD_eq_getElem?_getD, List.getElem?_eq_getElem hi, Option.getD_some]
  have e : ((strOfNums L)[(i : Int).toNat]'(by rw [Int.toNat_natCast]; exact hs)) = UInt8.ofNat (L[i]).toNat := by
    show (strOfNums L).data[i]'hs = _
    rw [← Array.getElem_toList]
    have := strOfNums_data L
    have h3 : (strOfNums L).data.toList[i]? = (L.map fun n : Int => UInt8.ofNat n.toNat)[i]? := by rw [this]
    rw [List.getElem?_map, List.getElem?_eq_getElem hi, List.getElem?_eq_getElem (by rw [Array.length_toList]; exact hs)] at h3
    exact Option.some.inj h3
  rw [e]
  generalize L[i] = x at *
  rw [UInt8.toNat_ofNat']
  omega
theorem emod_mul256 (x P : Int) (hP : 0 < P) : x % P + (x / P) % 256 * P = x % (P * 256) := by
  have h1 := Int.mul_ediv_add_emod x P
  have h2 := Int.mul_ediv_add_emod (x / P) 256
  have r1 := Int.emod_nonneg x (show P ≠ 0 by omega)
  have r2 := Int.emod_lt_of_pos x hP
  have s1 := Int.emod_nonneg (x / P) (show (256 : Int) ≠ 0 by decide)
  have s2 := Int.emod_lt_of_pos (x / P) (show (0 : Int) < 256 by decide)
  generalize x % P = r at *
  generalize x / P = q at *
  generalize q % 256 = v at *
  generalize q / 256 = u at *
  have e : x = (r + v * P) + P * 256 * u := by
    rw [← h1, ← h2, Int.mul_add, Int.mul_assoc, Int.mul_comm v P]
    omega
  have g1 : 0 ≤ v * P := Int.mul_nonneg s1 (by omega)
  have g2 : v * P ≤ 255 * P := Int.mul_le_mul_of_nonneg_right (by omega) (by omega)
  rw [e, Int.add_mul_emod_self_left, Int.emod_eq_of_lt (by omega) (by omega)]
theorem unb_mem (l : List Int) : ∀ (n i k : Nat) (h : k < (unb l i n).length), 0 ≤ (unb l i n)[k] ∧ (unb l i n)[k] < 256 := fun n i k h => by
  rw [unb_length] at h
  have h3 := unb_get l n i k h
  rw [List.getD_eq_getElem?_getD, List.getElem?_eq_getElem (by rw [unb_length]; exact h), Option.getD_some] at h3
  rw [h3]
  generalize rd l _ / _ = y
  omega
theorem textOf_bt (l : List Int) (i : Nat) (h : i < (rd l 0).toNat) : bt (textOf l) (i : Int) = (rd l ((1 + i / 7 : Nat) : Int) / ((256 ^ (i % 7) : Nat) : Int)) % 256 := by
  have hl : i < (unb l 0 (rd l 0).toNat).length := by rw [unb_length]; exact h
  have hm := unb_mem l (rd l 0).toNat 0 i hl
  unfold textOf
  rw [strOfNums_get _ i hl hm.1 hm.2, unb_get l _ 0 i h, Nat.zero_add]
theorem nat_div7 (j e : Nat) (he : e < 7) : (7 * j + e) / 7 = j := by omega
theorem textOf_low (l : List Int) (j : Nat) : ∀ c, c ≤ 7 → 7 * j + c ≤ (rd l 0).toNat → low (textOf l) (7 * j) c = rd l ((j + 1 : Nat) : Int) % ((256 ^ c : Nat) : Int)
  | 0, _, _ => by rw [low, Nat.pow_zero]; exact (Int.emod_one _).symm
  | c + 1, h, hn => by
    rw [low, textOf_low l j c (by omega) (by omega), textOf_bt l (7 * j + c) (by omega), nat_mod7 j c (by omega), nat_div7 j c (by omega), Nat.add_comm 1 j, Nat.pow_succ, Int.natCast_mul]
    exact emod_mul256 _ _ (by have := Nat.pow_pos (n := c) (show 0 < 256 by decide); omega)
/-- Is each of r numbers from word j on one of as many bytes as it has? -/
def good (l : List Int) (n j : Nat) : Prop := 0 ≤ rd l ((j + 1 : Nat) : Int) ∧ rd l ((j + 1 : Nat) : Int) < ((256 ^ (min 7 (n - 7 * j)) : Nat) : Int)
instance (l : List Int) (n j : Nat) : Decidable (good l n j) := by unfold good; infer_instance
def goods (l : List Int) (n : Nat) : Nat → Nat → Bool
  | _, 0 => true
  | j, r + 1 => decide (good l n j) && goods l n (j + 1) r
theorem textOf_size (l : List Int) : (textOf l).size = (rd l 0).toNat := by unfold textOf; rw [strOfNums_size, unb_length]
theorem rd_drop (l : List Int) (j : Nat) (h : j + 1 < l.length) : l.drop (j + 1) = rd l ((j + 1 : Nat) : Int) :: l.drop (j + 1 + 1) := by
  rw [List.drop_eq_getElem_cons h]
  congr 1
  unfold rd
  rw [Int.toNat_natCast, List.getD_eq_getElem?_getD, List.getElem?_eq_getElem h]
  rfl
theorem good_low (l : List Int) (j : Nat) (h7 : 7 * j < (rd l 0).toNat) : low (textOf l) (7 * j) (min 7 ((rd l 0).toNat - 7 * j)) = rd l ((j + 1 : Nat) : Int) ↔ good l (rd l 0).toNat j := by
  rw [textOf_low l j _ (by omega) (by omega)]
  unfold good
  have hp := Nat.pow_pos (n := min 7 ((rd l 0).toNat - 7 * j)) (show 0 < 256 by decide)
  generalize 256 ^ (min 7 ((rd l 0).toNat - 7 * j)) = P at *
  generalize rd l ((j + 1 : Nat) : Int) = x
  constructor
  · intro h
    rw [← h]
    exact ⟨Int.emod_nonneg _ (by omega), Int.emod_lt_of_pos _ (by omega)⟩
  · intro h
    exact Int.emod_eq_of_lt h.1 h.2
theorem goods_chunks (l : List Int) : ∀ (r j : Nat), r + j = ((rd l 0).toNat + 6) / 7 → ((rd l 0).toNat + 6) / 7 + 1 = l.length → (goods l (rd l 0).toNat j r = true ↔ chunks (textOf l) j r = l.drop (j + 1))
  | 0, j, h, hl => by
    rw [List.drop_eq_nil_of_le (by omega)]
    exact ⟨fun _ => rfl, fun _ => rfl⟩
  | r + 1, j, h, hl => by
    have ih := goods_chunks l r (j + 1) (by omega) hl
    have hg := good_low l j (by omega)
    rw [goods, chunks, rd_drop l j (by omega), textOf_size, Bool.and_eq_true, decide_eq_true_eq, ih, List.cons.injEq, hg]
theorem goods_pack (l : List Int) (h : fits l) : goods l (rd l 0).toNat 0 (((rd l 0).toNat + 6) / 7) = true ↔ pack (textOf l) = l := by
  obtain ⟨h0, h1, h2, h3⟩ := h
  rw [goods_chunks l _ 0 (by omega) h3, pack, textOf_size]
  obtain ⟨x, t, rfl⟩ : ∃ x t, l = x :: t := by cases l with | nil => exact absurd rfl h0 | cons x t => exact ⟨x, t, rfl⟩
  have hx : rd (x :: t) 0 = x := rfl
  rw [hx] at h1 ⊢
  rw [List.cons.injEq]
  constructor
  · intro e
    exact ⟨by omega, e⟩
  · intro e
    exact e.2

theorem unb_snoc (l : List Int) : ∀ (m i : Nat), unb l i (m + 1) = unb l i m ++ [(rd l ((1 + (i + m) / 7 : Nat) : Int) / ((256 ^ ((i + m) % 7) : Nat) : Int)) % 256]
  | 0, i => rfl
  | m + 1, i => by
    rw [unb, unb_snoc l m (i + 1), unb, List.cons_append, show i + 1 + m = i + (m + 1) by omega]
theorem unb_next (l : List Int) (j c : Nat) (hc : c < 7) : unb l 0 (7 * j + c) ++ [(rd l ((j + 1 : Nat) : Int) / ((256 ^ c : Nat) : Int)) % 256] = unb l 0 (7 * j + (c + 1)) := by
  have := unb_snoc l (7 * j + c) 0
  rw [Nat.zero_add, nat_div7 j c hc, nat_mod7 j c hc, Nat.add_comm 1 j] at this
  exact this.symm
def rest (l : List Int) (j c : Nat) : Int := rd l ((j + 1 : Nat) : Int) / ((256 ^ c : Nat) : Int)
theorem rest_zero (l : List Int) (j : Nat) : rest l j 0 = rd l ((j + 1 : Nat) : Int) := by unfold rest; rw [Nat.pow_zero]; exact Int.ediv_one _
theorem rest_succ (l : List Int) (j c : Nat) : rest l j (c + 1) = rest l j c / 256 := by
  unfold rest
  rw [Nat.pow_succ, Int.natCast_mul]
  exact (Int.ediv_ediv_of_nonneg (Int.natCast_nonneg _)).symm
theorem rest_nonneg (l : List Int) (j c : Nat) (h : 0 ≤ rd l ((j + 1 : Nat) : Int)) : 0 ≤ rest l j c := Int.ediv_nonneg h (Int.natCast_nonneg _)
theorem rest_le (l : List Int) (j c : Nat) (h : 0 ≤ rd l ((j + 1 : Nat) : Int)) : rest l j c ≤ rd l ((j + 1 : Nat) : Int) := Int.ediv_le_self _ h
theorem rest_eq_zero (l : List Int) (j c : Nat) (h : 0 ≤ rd l ((j + 1 : Nat) : Int)) : rest l j c = 0 ↔ rd l ((j + 1 : Nat) : Int) < ((256 ^ c : Nat) : Int) := by
  unfold rest
  have hp := Nat.pow_pos (n := c) (show 0 < 256 by decide)
  generalize 256 ^ c = P at *
  generalize rd l ((j + 1 : Nat) : Int) = x at *
  constructor
  · intro e
    have := Int.lt_mul_of_ediv_lt (a := x) (b := 1) (c := (P : Int)) (by omega) (by omega)
    omega
  · intro e
    exact Int.ediv_eq_zero_of_lt h e
theorem byte_eq (x : Int) (h0 : 0 ≤ x) : (Int.tmod x 256) % 256 = x % 256 := by rw [Int.tmod_eq_emod_of_nonneg h0]; omega
theorem div_eq (x : Int) (h0 : 0 ≤ x) (h1 : x ≤ 9223372036854775807) : wrap64 (Int.tdiv x 256) = x / 256 := by
  rw [Int.tdiv_eq_ediv_of_nonneg h0]
  unfold wrap64
  omega
theorem refUnp_l2 (l : List Int) (n j : Nat) (hn : rd l 0 = (n : Int)) (h60 : n ≤ 60) (h0 : 0 ≤ rd l ((j + 1 : Nat) : Int)) (h1 : rd l ((j + 1 : Nat) : Int) ≤ 9223372036854775807) (hl : 0 < l.length) : ∀ (m k c : Nat), c + m = min 7 (n - 7 * j) → 7 * j ≤ n → m < k →
    selvageref03_Unpack.l2 k l (unb l 0 (7 * j + c)) ((j + 1 : Nat) : Int) (rest l j c) (c : Int) = if rd l ((j + 1 : Nat) : Int) < ((256 ^ (c + m) : Nat) : Int) then selvageref03_Unpack.l1 (k - m - 1) l (unb l 0 (7 * j + (c + m))) ((j + 1 + 1 : Nat) : Int) else some (⟨#[]⟩, 1) := by
  intro m
  induction m with
  | zero =>
    intro k c hc hj hk
    obtain ⟨k, rfl⟩ : ∃ p, k = p + 1 := ⟨k - 1, by omega⟩
    have hb : ¬ ((c : Int) < 7 ∧ ((unb l 0 (7 * j + c)).length : Int) < rd l 0) := by
      rw [unb_length, hn]
      omega
    have hz := rest_eq_zero l j c h0
    have ew : wrap64 (((j + 1 : Nat) : Int) + 1) = ((j + 1 + 1 : Nat) : Int) := by
      clear hz h0 h1
      unfold wrap64
      omega
    rw [show k + 1 - 0 - 1 = k by omega]
    rw [show c + 0 = c from rfl, selvageref03_Unpack.l2]
    by_cases h7 : (c : Int) < 7
    · rw [if_pos h7, if_pos (show (0 : Int) < (l.length : Int) from Int.ofNat_lt.2 hl), if_neg (fun h => hb ⟨h7, h⟩), ew]
      by_cases hr : rest l j c = 0
      · rw [if_pos hr, if_pos (hz.1 hr)]
      · rw [if_neg hr, if_neg (fun h => hr (hz.2 h))]
    · rw [if_neg h7, ew]
      by_cases hr : rest l j c = 0
      · rw [if_pos hr, if_pos (hz.1 hr)]
      · rw [if_neg hr, if_neg (fun h => hr (hz.2 h))]
  | succ m ih =>
    intro k c hc hj hk
    obtain ⟨k, rfl⟩ : ∃ p, k = p + 1 := ⟨k - 1, by omega⟩
    have hcm : c + 1 + m = min 7 (n - 7 * j) := by clear h0 h1; omega
    have hmk : m < k := by clear h0 h1; omega
    have hc7 : c < 7 := by clear h0 h1; omega
    have hkk : k - m - 1 = k + 1 - (m + 1) - 1 := by clear h0 h1; omega
    have hce : c + 1 + m = c + (m + 1) := by clear h0 h1; omega
    have hb : (c : Int) < 7 ∧ ((unb l 0 (7 * j + c)).length : Int) < rd l 0 := by
      rw [unb_length, hn]
      omega
    have hb2 : (unb l 0 (7 * j + c)).length < 140737488355328 := by
      rw [unb_length]
      clear h0 h1
      omega
    have hr0 := rest_nonneg l j c h0
    have hr1 := Int.le_trans (rest_le l j c h0) h1
    have ec : wrap64 ((c : Int) + 1) = ((c + 1 : Nat) : Int) := by
      clear hr0 hr1 h0 h1
      unfold wrap64
      omega
    rw [selvageref03_Unpack.l2, if_pos hb.1, if_pos (show (0 : Int) < (l.length : Int) from Int.ofNat_lt.2 hl), if_pos hb.2, if_pos hb2, byte_eq _ hr0, div_eq _ hr0 hr1, ec, ← rest_succ]
    have hnx := unb_next l j c hc7
    rw [show rest l j c % 256 = rd l ((j + 1 : Nat) : Int) / ((256 ^ c : Nat) : Int) % 256 from rfl, hnx]
    have := ih k (c + 1) hcm hj hmk
    rw [hce] at this
    rw [this, hkk]
theorem refUnp_l1 (l : List Int) (n : Nat) (hn : rd l 0 = (n : Int)) (h60 : n ≤ 60) (hI : ∀ i : Int, rd l i ≤ 9223372036854775807) (hl : (n + 6) / 7 + 1 = l.length) : ∀ (r j k : Nat), r + j = (n + 6) / 7 → 9 * r < k →
    selvageref03_Unpack.l1 k l (unb l 0 (min n (7 * j))) ((j + 1 : Nat) : Int) = some (if goods l n j r = true then (strOfNums (unb l 0 n), 0) else (⟨#[]⟩, 1)) := by
  intro r
  induction r with
  | zero =>
    intro j k h hk
    obtain ⟨k, rfl⟩ : ∃ p, k = p + 1 := ⟨k - 1, by omega⟩
    rw [selvageref03_Unpack.l1, if_neg (by omega), show min n (7 * j) = n by omega, goods, if_pos rfl]
  | succ r ih =>
    intro j k h hk
    obtain ⟨k, rfl⟩ : ∃ p, k = p + 1 := ⟨k - 1, by omega⟩
    have hI1 := hI ((j + 1 : Nat) : Int)
    have hl0 : 0 < l.length := by clear hI1; omega
    rw [selvageref03_Unpack.l1, if_pos (by clear hI1; omega), if_pos (Int.natCast_nonneg _), goods]
    by_cases h0 : rd l ((j + 1 : Nat) : Int) < 0
    · have hg : ¬ good l n j := fun g => by have := g.1; omega
      rw [if_pos h0, decide_eq_false hg]
      rfl
    · have h0' : 0 ≤ rd l ((j + 1 : Nat) : Int) := by omega
      have hjn : 7 * j ≤ n := by clear hI1 h0 h0'; omega
      have h2 := refUnp_l2 l n j hn h60 h0' hI1 hl0 (min 7 (n - 7 * j)) k 0 (by omega) hjn (by clear hI1 h0 h0'; omega)
      rw [rest_zero, Nat.zero_add, Nat.add_zero] at h2
      have hm : min n (7 * j) = 7 * j := by clear hI1 h0 h0' h2; omega
      have hm2 : 7 * j + min 7 (n - 7 * j) = min n (7 * (j + 1)) := by clear hI1 h0 h0' h2; omega
      have hz : ((0 : Nat) : Int) = 0 := rfl
      rw [if_neg h0, hm]
      rw [hz] at h2
      rw [h2]
      by_cases hgd : rd l ((j + 1 : Nat) : Int) < ((256 ^ (min 7 (n - 7 * j)) : Nat) : Int)
      · have hg : good l n j := ⟨h0', hgd⟩
        rw [if_pos hgd, decide_eq_true hg, hm2, ih (j + 1) _ (by omega) (by clear hI1 h0 h0' h2 hgd; omega)]
        rfl
      · have hg : ¬ good l n j := fun g => hgd g.2
        rw [if_neg hgd, decide_eq_false hg]
        rfl
theorem refUnp_l0 (l : List Int) (n : Nat) (hn : rd l 0 = (n : Int)) (h60 : n ≤ 60) (hl : 0 < l.length) : ∀ (m k i : Nat), i + m = (n + 6) / 7 → m < k →
    selvageref03_Unpack.l0 k l ((i + 1 : Nat) : Int) = if (l.length : Int) = (((n + 6) / 7 + 1 : Nat) : Int) then selvageref03_Unpack.l1 (k - m - 1) l [] 1 else some (⟨#[]⟩, 1) := by
  intro m
  induction m with
  | zero =>
    intro k i h hk
    obtain ⟨k, rfl⟩ : ∃ p, k = p + 1 := ⟨k - 1, by omega⟩
    have e1 : wrap64 (7 * wrap64 (((i + 1 : Nat) : Int) - 1)) = ((7 * i : Nat) : Int) := by unfold wrap64; omega
    rw [selvageref03_Unpack.l0, if_pos (show (0 : Int) < (l.length : Int) from Int.ofNat_lt.2 hl), e1, hn, if_neg (by omega), show i = (n + 6) / 7 by omega, show k + 1 - 0 - 1 = k by omega]
  | succ m ih =>
    intro k i h hk
    obtain ⟨k, rfl⟩ : ∃ p, k = p + 1 := ⟨k - 1, by omega⟩
    have e1 : wrap64 (7 * wrap64 (((i + 1 : Nat) : Int) - 1)) = ((7 * i : Nat) : Int) := by unfold wrap64; omega
    have e2 : wrap64 (((i + 1 : Nat) : Int) + 1) = ((i + 1 + 1 : Nat) : Int) := by unfold wrap64; omega
    rw [selvageref03_Unpack.l0, if_pos (show (0 : Int) < (l.length : Int) from Int.ofNat_lt.2 hl), e1, hn, if_pos (by omega), e2, ih k (i + 1) (by omega) (by omega), show k - m - 1 = k + 1 - (m + 1) - 1 by omega]
theorem refUnp_eq (l : List Int) (hI : ∀ i : Int, rd l i ≤ 9223372036854775807) (hlen : l.length ≤ 100000) : selvageref03_Unpack.f 200 l = some (unp l) := by
  obtain ⟨K, hK⟩ : ∃ K : Nat, K = 199 := ⟨_, rfl⟩
  have hj : ∀ c, selvageref03_Unpack.j0 200 l c = if c = true then (some ((⟨#[]⟩ : ByteArray), 1)) else selvageref03_Unpack.l0 K l 1 := fun c => by rw [selvageref03_Unpack.j0, hK]
  unfold selvageref03_Unpack.f unp
  rw [hj, hj, if_pos rfl]
  by_cases h0 : l.length = 0
  · have : ¬ fits l := fun h => h.1 (List.length_eq_zero_iff.1 h0)
    rw [if_pos (by omega), if_neg (fun h => this h.1)]
  rw [if_neg (by omega), if_pos (by omega)]
  by_cases h1 : rd l 0 < 0
  · have : ¬ fits l := fun h => by have := h.2.1; omega
    rw [if_pos h1, if_neg (fun h => this h.1)]
  rw [if_neg h1]
  by_cases h2 : rd l 0 > 60
  · have : ¬ fits l := fun h => by have := h.2.2.1; omega
    rw [decide_eq_true h2, if_pos rfl, if_neg (fun h => this h.1)]
  rw [decide_eq_false h2, if_neg (by decide)]
  obtain ⟨n, hn⟩ := Int.eq_ofNat_of_zero_le (show 0 ≤ rd l 0 by omega)
  have h60 : n ≤ 60 := by omega
  have hl0 : 0 < l.length := by omega
  have hz : ((0 + 1 : Nat) : Int) = 1 := rfl
  have e0 := refUnp_l0 l n hn h60 hl0 ((n + 6) / 7) K 0 (by omega) (by omega)
  rw [hz] at e0
  rw [e0]
  have hnt : (rd l 0).toNat = n := by omega
  by_cases h3 : (n + 6) / 7 + 1 = l.length
  · have hf : fits l := ⟨fun h => h0 (by rw [h]; rfl), by omega, by omega, by rw [hnt]; exact h3⟩
    have hgp := goods_pack l hf
    rw [hnt] at hgp
    have e1 := refUnp_l1 l n hn h60 hI h3 ((n + 6) / 7) 0 (K - (n + 6) / 7 - 1) (by omega) (by omega)
    rw [hz, show min n (7 * 0) = 0 by omega] at e1
    have eu : unb l 0 0 = [] := rfl
    rw [eu] at e1
    rw [if_pos (by omega), e1]
    congr 1
    have et : strOfNums (unb l 0 n) = textOf l := by unfold textOf; rw [hnt]
    rw [et]
    by_cases h6 : pack (textOf l) = l
    · rw [if_pos (hgp.2 h6), if_pos ⟨hf, h6⟩]
    · rw [if_neg (fun h => h6 (hgp.1 h)), if_neg (fun h => h6 h.2)]
  · have : ¬ fits l := fun h => h3 (by have := h.2.2.2; rw [hnt] at this; exact this)
    rw [if_neg (by omega), if_neg (fun h => this h.1)]
end Go.Proofs.Ytkmoneccehbncaa.Heap
/- Chapter 16's reference over the reference's heap, as a list of blocks: Text, tag, Str, Join, Close, Open, Case; no condition but what each theorem states. -/
namespace Go.Proofs.Ytkmoneccehbncaa.Heap
open Go.RowKit Go.Proofs.YtkmoneccehbncaaW.PrintWords Go.Proofs.YtkmoneccehbncaaW.PrintLast Go.Proofs.YtkmoneccehbncaaW.PrintMore Go.Proofs.Ytkmoneccehbncaa.Print Go.Proofs.Ytkmoneccehbncaa.Ints
set_option linter.unusedVariables false
set_option linter.unusedSimpArgs false

/-- Block g is the reference's heap with room for n words, with these blocks. -/
def AtRB (W : World) (B : Nat) (ok : Nat → Prop) (g : Nat) (n : Int) (bl : List (Int × List Int)) : Prop := ∃ bs, AtR W B ok g n bs ∧ WfR n bs ∧ blR bs = bl
section
variable {W W1 : World} {B g : Nat} {ok : Nat → Prop} {n : Int} {bl : List (Int × List Int)}
theorem AtRB.below (h : AtRB W B ok g n bl) (hb : Below W.heap.size W W1) : AtRB W1 B ok g n bl := by
  obtain ⟨bs, h1, h2, h3⟩ := h
  exact ⟨bs, h1.below hb, h2, h3⟩
theorem AtRB.chg {S : Nat → Prop} (h : AtRB W B ok g n bl) (hc : Chg S W W1) (hg : ¬ S g) (hm : ∀ k, ok k → ¬ S k) : AtRB W1 B ok g n bl := by
  obtain ⟨bs, h1, h2, h3⟩ := h
  exact ⟨bs, h1.chg hc hg hm, h2, h3⟩
theorem AtRB.base (h : AtRB W B ok g n bl) : B ≤ g ∧ g < W.heap.size ∧ ¬ ok g := by
  obtain ⟨bs, ⟨v, h1, h2, h3, h4⟩, _⟩ := h
  exact ⟨h3, blk_lt h1, h4⟩
/-- What a call that makes blocks does. -/
def Made (W : World) (B : Nat) (ok : Nat → Prop) (g : Nat) (n : Int) (r : Int × Int × List (Int × List Int)) (e : Ending) (w' : World) : Prop := e = .returned (.tuple #[.int .i64 r.1, .int .i64 r.2.1]) ∧ AtRB w' B ok g n r.2.2 ∧ Chg (fun k => k = g ∨ ok k) W w'
theorem makeRB (tag : Int) (A : Option Addr) (c : Nat) (l : List Int) (hr : (Kd.int .i64).C W A l.length l) (hl : l.length ≤ 1000000) (h : AtRB W B ok g n bl) (hok : ∀ k, W.heap.size ≤ k → ok k) :
    Calls Try.prog 47 #[.pointer (some ⟨g, 0, none⟩), .int .i64 tag, .slice A l.length c] W (Made W B ok g n (makeB n bl tag l)) := by
  obtain ⟨bs, h1, h2, rfl⟩ := h
  have hB : B ≤ W.heap.size := by
    obtain ⟨v, a1, _, a3, _⟩ := h1
    have := blk_lt a1
    omega
  refine (makeRC tag A c l hr hl h2 h1 hok hB).mono ?_
  rintro e w' ⟨bs', e1, e2, e3, e4, e5⟩
  exact ⟨e1, ⟨bs', e2, e3, e4⟩, e5⟩
set_option maxHeartbeats 1000000 in
set_option maxRecDepth 100000 in
theorem textRB (s : ByteArray) (h : AtRB W B ok g n bl) (hok : ∀ k, W.heap.size ≤ k → ok k) :
    Calls Try.prog 43 #[.pointer (some ⟨g, 0, none⟩), .string s] W (Made W B ok g n (textB n bl s)) := by
  have hp := refPack_eq s
  have HH := Aside0.mk h
  have HOK := Aside0.mk hok
  unfold textB
  clear h hok
  by_cases h0 : s.size ≤ 60
  · rw [if_pos h0] at hp ⊢
    have HPC := Aside0.mk (fun w => selvageref03_Pack.calls 100 s (pack s) 0 w hp)
    have hlen := pack_length s
    have HLEN : Aside0 ((pack s).length ≤ 1000000) := ⟨by omega⟩
    clear hp hlen h0
    generalize pack s = l at *
    go_enter Try.func43, Try.ntmps43
    go_wp2_with (first
      | (go_at_call 70; (with_reducible refine (HPC.out _).mono ?_); rintro e w1 ⟨v, rfl, hr, hb⟩; obtain ⟨A, c, rfl⟩ := Kd.R_slice hr; have HR := Aside0.mk (Kd.R_reads' hr).2.2; have HB := Aside0.mk hb; clear hr hb)
      | (go_at_call 47; (refine (makeRB 201 A c l HR.out HLEN.out (HH.out.below HB.out) (fun k hk => HOK.out k (Nat.le_trans HB.out.size hk))).mono ?_); rintro e w2 ⟨rfl, ha, hc⟩; have HA := Aside0.mk ha; have HC := Aside0.mk hc; clear ha hc))
    go_ret2
    exact ⟨rfl, HA.out, (Chg.of_below _ HB.out).trans HC.out⟩
  · rw [if_neg h0] at hp ⊢
    have HPC := Aside0.mk (fun w => selvageref03_Pack.calls 100 s [] 12 w hp)
    clear hp h0
    go_enter Try.func43, Try.ntmps43
    go_wp2_with (go_at_call 70; (with_reducible refine (HPC.out _).mono ?_); rintro e w1 ⟨v, rfl, hr, hb⟩; obtain ⟨A, c, rfl⟩ := Kd.R_slice hr; have HB := Aside0.mk hb; clear hr hb)
    go_ret2
    exact ⟨rfl, HH.out.below HB.out, Chg.of_below _ HB.out⟩
theorem fieldsRB (bs : List S80) (k : Nat) (b : S80) (hb : bs[k]? = some b) (hw : WfR n bs) (h : AtR W B ok g n bs) (l : List Int) (hl : (toB bs b).2 = l) :
    Calls Try.prog 22 #[.pointer (some ⟨g, 0, none⟩), .int .i64 (k : Int)] W fun e w' => ∃ A c, e = .returned (.slice A l.length c) ∧ l.length ≤ c ∧ (Kd.int .i64).C w' A l.length l ∧ Below W.heap.size W w' := by
  subst hl
  exact fieldsRC k b hb hw h
set_option maxHeartbeats 2000000 in
set_option maxRecDepth 100000 in
theorem tagRB (z : Int) (h : AtRB W B ok g n bl) :
    Calls Try.prog 57 #[.pointer (some ⟨g, 0, none⟩), .int .i64 z] W fun e w' => ∃ A c, e = .returned (.tuple #[.int .i64 (tagB bl z), .slice A (fieldsB bl z).length c]) ∧ (fieldsB bl z).length ≤ c ∧ (Kd.int .i64).C w' A (fieldsB bl z).length (fieldsB bl z) ∧ Below W.heap.size W w' := by
  obtain ⟨bs, h1, h2, rfl⟩ := h
  have HF := Aside0.mk (findRC (W := W) z h2 h1)
  have HH := Aside0.mk h1
  have hu84 := Try.underlying84
  have hu80 := Try.underlying80
  unfold tagB fieldsB
  by_cases hz : (fndR bs z).1 = true
  · obtain ⟨i, b, e1, e2, e3⟩ := fnd_some h2 z hz
    rw [e1] at HF
    rw [e3]
    have hlt : i < bs.length := (List.getElem?_eq_some_iff.1 e2).1
    have hlen := h2.len
    have p1 : (0 ≤ (i : Int)) = True := eq_true (by omega)
    have p2 : ((i : Int) < (bs.length : Int)) = True := eq_true (by omega)
    obtain ⟨ad, c, A1, c1, A2, c2, q1, q2, _⟩ := h1.blk e2
    have HFI := Aside0.mk (fun (W2 : World) (h : AtR W2 B ok g n bs) => fieldsRB (W := W2) bs i b e2 h2 h _ rfl)
    have Q1 := Aside0.mk q1
    have Q2 := Aside0.mk q2
    have htg : (toB bs b).1 = b.f0 := rfl
    simp only [htg]
    clear e1 e3 hz e2 q1 q2 h1
    generalize (toB bs b).2 = l at *
    generalize b.f0 = t at *
    go_enter Try.func57, Try.ntmps57
    go_wp2_with (go_at_call 72; (with_reducible refine HF.out.mono ?_); rintro e w1 ⟨rfl, hb⟩; have HB := Aside0.mk hb; clear hb)
    have HB1 := Aside0.mk (below_drew1 (below_alloc HB.out (.cells #[.bool true, .int .i64 (i : Int)] 84)))
    have a1 := cell_below HB1.out Q1.out
    have a2 := cell_below HB1.out Q2.out
    have a3 := (blk_cell (blk_below (heap_alloc_new w1 (.cells #[.bool true, .int .i64 (i : Int)] 84)) (below_drew1 (Below.refl _ _))) 1).trans (rfl : _ = some (Value.int .i64 (i : Int)))
    have HKP := Aside0.mk (fun (w' : World) (hb : Below (w1.alloc (.cells #[.bool true, .int .i64 (i : Int)] 84)).drew.heap.size (w1.alloc (.cells #[.bool true, .int .i64 (i : Int)] 84)).drew w') => (show w'.cell? ⟨g, 1, none⟩ = some (.slice (some ad) bs.length c) ∧ w'.cell? (ad.add (i * 3)) = some (.int .i64 t) ∧ w'.cell? ⟨w1.heap.size, 1, none⟩ = some (.int .i64 (i : Int)) from ⟨cell_below hb a1, cell_below hb a2, cell_below hb a3⟩))
    have HR0 := Aside0.mk (Below.refl (w1.alloc (.cells #[.bool true, .int .i64 (i : Int)] 84)).drew.heap.size (w1.alloc (.cells #[.bool true, .int .i64 (i : Int)] 84)).drew)
    clear a1 a2 a3
    go_region_held3 (fun w' => w'.cell? ⟨g, 1, none⟩ = some (.slice (some ad) bs.length c) ∧ w'.cell? (ad.add (i * 3)) = some (.int .i64 t) ∧ w'.cell? ⟨w1.heap.size, 1, none⟩ = some (.int .i64 (i : Int)))
      (first | exact HKP.out _ HR0.out | exact HKP.out _ HB2.out)
      (first | (go_at_call 22; (with_reducible refine (HFI.out _ (HH.out.below HB1.out)).mono ?_); rintro e w2 ⟨A, ca, rfl, hca, hra, hb⟩; have HB2 := Aside0.mk hb; have HRA := Aside0.mk hra; have HCA := Aside0.mk hca; clear hb hra hca))
    go_wp2
    go_ret2
    exact ⟨A, ca, rfl, HCA.out, HRA.out, below_then HB1.out HB1.out.size HB2.out⟩
  · have hz2 : (fndR bs z).1 = false := by simpa using hz
    rw [fnd_none h2 z hz2]
    rw [hz2] at HF
    generalize (fndR bs z).2.1 = i1 at *
    generalize (fndR bs z).2.2 = b1 at *
    clear hz hz2 h1
    cases b1
    · go_enter Try.func57, Try.ntmps57
      go_wp2_with (go_at_call 72; (with_reducible refine HF.out.mono ?_); rintro e w1 ⟨rfl, hb⟩; have HB := Aside0.mk hb; clear hb)
      go_ret2
      exact ⟨none, 0, rfl, Nat.le_refl _, Kd.C_nil _ _, below_alloc HB.out _⟩
    · go_enter Try.func57, Try.ntmps57
      go_wp2_with (go_at_call 72; (with_reducible refine HF.out.mono ?_); rintro e w1 ⟨rfl, hb⟩; have HB := Aside0.mk hb; clear hb)
      go_ret2
      exact ⟨none, 0, rfl, Nat.le_refl _, Kd.C_nil _ _, below_alloc HB.out _⟩
end
end Go.Proofs.Ytkmoneccehbncaa.Heap
/- Chapter 16's reference over the reference's heap, as a list of blocks: Str, Join, Close, Open, Case; no condition but what each theorem states. -/
namespace Go.Proofs.Ytkmoneccehbncaa.Heap
open Go.RowKit Go.Proofs.YtkmoneccehbncaaW.PrintWords Go.Proofs.YtkmoneccehbncaaW.PrintLast Go.Proofs.YtkmoneccehbncaaW.PrintMore Go.Proofs.Ytkmoneccehbncaa.Print Go.Proofs.Ytkmoneccehbncaa.Ints
set_option linter.unusedVariables false
set_option linter.unusedSimpArgs false

/-- All numbers in the blocks are 64 bits wide, and no block is long. -/
def Wide (bl : List (Int × List Int)) : Prop := ∀ y ∈ bl, y.2.length ≤ 100000 ∧ ∀ z ∈ y.2, I64 z
theorem findB_mem {y : Int × List Int} {z : Int} : ∀ {bl : List (Int × List Int)} {a : Int}, findB a bl z = some y → y ∈ bl
  | [], a, h => by cases h
  | x :: r, a, h => by
    rw [findB] at h
    by_cases h1 : z = 2 * a
    · rw [if_pos h1] at h
      cases h
      exact List.mem_cons_self
    · rw [if_neg h1] at h
      exact List.mem_cons_of_mem _ (findB_mem h)
theorem Wide.fields {bl : List (Int × List Int)} (h : Wide bl) (z : Int) : (fieldsB bl z).length ≤ 100000 ∧ ∀ x ∈ fieldsB bl z, I64 x := by
  unfold fieldsB
  cases hf : findB 1 bl z with
  | none => exact ⟨by decide, fun x hx => by cases hx⟩
  | some y => exact h y (findB_mem hf)
theorem rd_wide {l : List Int} (h : ∀ x ∈ l, I64 x) (i : Int) : rd l i ≤ 9223372036854775807 := by
  unfold rd
  rw [List.getD_eq_getElem?_getD]
  rcases Nat.lt_or_ge i.toNat l.length with h1 | h1
  · rw [List.getElem?_eq_getElem h1]
    exact (h _ (List.getElem_mem h1)).2
  · rw [List.getElem?_eq_none h1]
    decide
theorem strB_eq (bl : List (Int × List Int)) (z : Int) : strB bl z = if tagB bl z = 201 then (if (unp (fieldsB bl z)).2 = 0 then ((unp (fieldsB bl z)).1, 0) else (⟨#[]⟩, 4)) else (⟨#[]⟩, 4) := by
  unfold strB tagB fieldsB
  cases findB 1 bl z <;> rfl
theorem openB_eq (bl : List (Int × List Int)) (z : Int) : openB bl z = if tagB bl z = 200 then openOf (fieldsB bl z) else (0, [], 4) := by
  unfold openB tagB fieldsB
  cases findB 1 bl z <;> rfl
theorem unp_size (l : List Int) : (unp l).1.size ≤ 60 := by
  unfold unp
  by_cases h : fits l ∧ pack (textOf l) = l
  · rw [if_pos h, textOf_size]
    have := h.1.2.2.1
    omega
  · rw [if_neg h]
    decide
theorem strB_size (bl : List (Int × List Int)) (z : Int) : (strB bl z).1.size ≤ 60 := by
  rw [strB_eq]
  have := unp_size (fieldsB bl z)
  split
  · split
    · exact this
    · decide
  · decide
theorem strB_err (bl : List (Int × List Int)) (z : Int) : (strB bl z).2 = 0 ∨ (strB bl z).2 = 4 := by
  rw [strB_eq]
  split
  · split
    · exact .inl rfl
    · exact .inr rfl
  · exact .inr rfl
section
variable {W W1 : World} {B g : Nat} {ok : Nat → Prop} {n : Int} {bl : List (Int × List Int)}
set_option maxHeartbeats 2000000 in
set_option maxRecDepth 100000 in
theorem strRB (z : Int) (hw : Wide bl) (h : AtRB W B ok g n bl) :
    Calls Try.prog 27 #[.pointer (some ⟨g, 0, none⟩), .int .i64 z] W fun e w' => e = .returned (.tuple #[.string (strB bl z).1, .int .i64 (strB bl z).2]) ∧ Below W.heap.size W w' := by
  have HT := Aside0.mk (tagRB (W := W) z h)
  have hf := hw.fields z
  have hu := refUnp_eq (fieldsB bl z) (rd_wide hf.2) hf.1
  have h2 := unp_two (fieldsB bl z)
  rw [strB_eq]
  clear hw h hf
  generalize tagB bl z = t at *
  generalize fieldsB bl z = l at *
  generalize unp l = r at *
  obtain ⟨s, e⟩ := r
  have HU := Aside0.mk (fun (A : Option Addr) (c : Nat) (w : World) hr hc => selvageref03_Unpack.calls 200 A c l s e w hr hc hu)
  clear hu
  simp only at h2 ⊢
  by_cases ht : t = 201
  · rw [if_pos ht]
    have d1 : (t != 201) = false := by rw [ht]; rfl
    clear ht
    rcases h2 with h2 | h2
    · subst h2
      rw [if_pos rfl]
      go_enter Try.func27, Try.ntmps27
      go_wp2_with (first
        | (go_at_call 57; (with_reducible refine HT.out.mono ?_); rintro e w1 ⟨A, c, rfl, hc, hr, hb⟩; have HB := Aside0.mk hb; have HR := Aside0.mk hr; have HC := Aside0.mk hc; clear hb hr hc)
        | (go_at_call 58; (with_reducible refine (HU.out A c _ HR.out HC.out).mono ?_); rintro e w2 ⟨rfl, hb⟩; have HB2 := Aside0.mk hb; clear hb))
      go_ret2
      exact ⟨rfl, below_then HB.out HB.out.size HB2.out⟩
    · subst h2
      rw [if_neg (by decide)]
      go_enter Try.func27, Try.ntmps27
      go_wp2_with (first
        | (go_at_call 57; (with_reducible refine HT.out.mono ?_); rintro e w1 ⟨A, c, rfl, hc, hr, hb⟩; have HB := Aside0.mk hb; have HR := Aside0.mk hr; have HC := Aside0.mk hc; clear hb hr hc)
        | (go_at_call 58; (with_reducible refine (HU.out A c _ HR.out HC.out).mono ?_); rintro e w2 ⟨rfl, hb⟩; have HB2 := Aside0.mk hb; clear hb))
      go_ret2
      exact ⟨rfl, below_then HB.out HB.out.size HB2.out⟩
  · rw [if_neg ht]
    have d1 : (t != 201) = true := bne_iff_ne.2 ht
    clear ht
    go_enter Try.func27, Try.ntmps27
    go_wp2_with (first
      | (go_at_call 57; (with_reducible refine HT.out.mono ?_); rintro e w1 ⟨A, c, rfl, hc, hr, hb⟩; have HB := Aside0.mk hb; have HR := Aside0.mk hr; have HC := Aside0.mk hc; clear hb hr hc)
      | (go_at_call 58; (with_reducible refine (HU.out A c _ HR.out HC.out).mono ?_); rintro e w2 ⟨rfl, hb⟩; have HB2 := Aside0.mk hb; clear hb))
    go_ret2
    exact ⟨rfl, below_then HB.out HB.out.size HB2.out⟩
set_option maxHeartbeats 2000000 in
set_option maxRecDepth 100000 in
theorem joinRB (x y : Int) (hw : Wide bl) (h : AtRB W B ok g n bl) (hok : ∀ k, W.heap.size ≤ k → ok k) :
    Calls Try.prog 44 #[.pointer (some ⟨g, 0, none⟩), .int .i64 x, .int .i64 y] W (Made W B ok g n (joinB n bl x y)) := by
  have HX := Aside0.mk (strRB (W := W) x hw h)
  have HY := Aside0.mk (fun (w : World) (hh : AtRB w B ok g n bl) => strRB (W := w) y hw hh)
  have HT := Aside0.mk (fun (w : World) (s : ByteArray) (hh : AtRB w B ok g n bl) hk => textRB (W := w) s hh hk)
  have HH := Aside0.mk h
  have HOK := Aside0.mk hok
  have sx := strB_size bl x
  have sy := strB_size bl y
  have ex := strB_err bl x
  have ey := strB_err bl y
  unfold joinB
  clear hw h hok
  generalize strB bl x = p at *
  generalize strB bl y = q at *
  obtain ⟨s, e⟩ := p
  obtain ⟨t, f⟩ := q
  simp only at *
  rcases ex with ex | ex
  · subst ex
    rw [if_pos rfl]
    rcases ey with ey | ey
    · subst ey
      rw [if_pos rfl]
      have hj : textB n bl (s ++ t) = if s.size + t.size ≤ 60 then textB n bl (s ++ t) else (0, 12, bl) := by
        by_cases h1 : s.size + t.size ≤ 60
        · rw [if_pos h1]
        · rw [if_neg h1]
          unfold textB
          rw [if_neg (by rw [ByteArray.size_append]; exact h1)]
      rw [← hj]
      clear hj
      go_enter Try.func44, Try.ntmps44
      go_wp2_with (first
        | (go_at_call 27; (with_reducible refine HX.out.mono ?_); rintro e w1 ⟨rfl, hb⟩; have HB := Aside0.mk hb; clear hb HX)
        | (go_at_call 27; (with_reducible refine (HY.out _ (HH.out.below HB.out)).mono ?_); rintro e w2 ⟨rfl, hb⟩; have HB2 := Aside0.mk (below_then HB.out HB.out.size hb); clear hb HY)
        | (go_at_call 43; (refine (HT.out _ (s ++ t) (HH.out.below HB2.out) (fun k hk => HOK.out k (Nat.le_trans HB2.out.size hk))).mono ?_); rintro e w3 ⟨rfl, ha, hc⟩; have HA := Aside0.mk ha; have HC := Aside0.mk hc; clear ha hc))
      go_ret2
      exact ⟨rfl, HA.out, (Chg.of_below _ HB2.out).trans HC.out⟩
    · subst ey
      rw [if_neg (by decide)]
      go_enter Try.func44, Try.ntmps44
      go_wp2_with (first
        | (go_at_call 27; (with_reducible refine HX.out.mono ?_); rintro e w1 ⟨rfl, hb⟩; have HB := Aside0.mk hb; clear hb HX)
        | (go_at_call 27; (with_reducible refine (HY.out _ (HH.out.below HB.out)).mono ?_); rintro e w2 ⟨rfl, hb⟩; have HB2 := Aside0.mk (below_then HB.out HB.out.size hb); clear hb HY))
      go_ret2
      exact ⟨rfl, HH.out.below HB2.out, Chg.of_below _ HB2.out⟩
  · subst ex
    rw [if_neg (by decide)]
    go_enter Try.func44, Try.ntmps44
    go_wp2_with (first
      | (go_at_call 27; (with_reducible refine HX.out.mono ?_); rintro e w1 ⟨rfl, hb⟩; have HB := Aside0.mk hb; clear hb HX)
      | (go_at_call 27; (with_reducible refine (HY.out _ (HH.out.below HB.out)).mono ?_); rintro e w2 ⟨rfl, hb⟩; have HB2 := Aside0.mk (below_then HB.out HB.out.size hb); clear hb HY))
    go_ret2
    exact ⟨rfl, HH.out.below HB2.out, Chg.of_below _ HB2.out⟩
set_option maxHeartbeats 2000000 in
set_option maxRecDepth 100000 in
theorem closeRB (fn : Int) (A : Option Addr) (c : Nat) (l : List Int) (hr : (Kd.int .i64).C W A l.length l) (hl : l.length ≤ 10000) (h : AtRB W B ok g n bl) (hok : ∀ k, W.heap.size ≤ k → ok k) :
    Calls Try.prog 45 #[.pointer (some ⟨g, 0, none⟩), .int .i64 fn, .slice A l.length c] W (Made W B ok g n (closeB n bl fn l)) := by
  have HH := Aside0.mk h
  have HOK := Aside0.mk hok
  have HR := Aside0.mk hr
  unfold closeB
  clear h hok hr
  by_cases h0 : fn < 0
  · rw [if_pos (.inl h0)]
    go_enter Try.func45, Try.ntmps45
    go_wp2
    go_ret2
    exact ⟨rfl, HH.out, Chg.refl _ _⟩
  by_cases h1 : fn > 2147483647
  · rw [if_pos (.inr h1)]
    go_enter Try.func45, Try.ntmps45
    go_wp2
    go_ret2
    exact ⟨rfl, HH.out, Chg.refl _ _⟩
  rw [if_neg (fun h => h.elim h0 h1)]
  have hs1 : IntKind.i64.wrap (2 * fn) = 2 * fn := IntWalk.i64_in _ (by omega)
  have hs2 : IntKind.i64.wrap (2 * fn + 1) = 2 * fn + 1 := IntWalk.i64_in _ (by omega)
  have HL := Aside0.mk hl
  have hll : ((2 * fn + 1) :: l).length = l.length + 1 := rfl
  have HLL := Aside0.mk hll
  clear hl hll
  go_enter Try.func45, Try.ntmps45
  go_wp2_with (first
    | ((with_reducible refine gate_builtin (b := .append) (xs := #[.tmp 19, .tmp 20]) rfl ?_); at_builtin; refine Kd.R_append_rows (Kd.int .i64) (w0 := W) W.heap.size rfl (.tmp 19) (.tmp 20) 36 3 (.int .i64 0) 8 rfl Try.underlying36 info3 rfl (by decide) (by omega) _ [2 * fn + 1] l A l.length c (fun _ => True) (fun _ => False) rfl rfl ?aO ?aR (fun _ _ h => h) (fun _ h => h.elim) (fun _ _ => trivial) ?aB ?aS ?aL ?_; (case aO => exact Kd.R_of_own (own_lit W W.heap.size 3 .i64 [2 * fn + 1] (Nat.le_refl _) (by simp)) (fun _ _ => trivial)); (case aR => exact Kd.C_below HR.out (below_alloc (Below.refl _ _) _)); (case aB => exact below_alloc (Below.refl _ _) _); (case aS => exact (below_alloc (Below.refl _ W) _).size); (case aL => have := HL.out; simp; omega); intro v6 w6 ho hb hg hat; obtain ⟨A6, c6, e6⟩ := Kd.R_slice ho; have HR6 := Aside0.mk (show (Kd.int .i64).C w6 A6 ((2 * fn + 1) :: l).length ((2 * fn + 1) :: l) by rw [e6] at ho; exact (Kd.R_reads' ho).2.2); rw [show ([2 * fn + 1] ++ l).length = ((2 * fn + 1) :: l).length from rfl, HLL.out] at e6; subst e6; have HB6 := Aside0.mk hb; clear ho hb hg hat)
    | (go_at_call 47; (refine (makeRB 200 A6 c6 ((2 * fn + 1) :: l) HR6.out (by have := HL.out; have := HLL.out; omega) (HH.out.below HB6.out) (fun k hk => HOK.out k (Nat.le_trans HB6.out.size hk))).mono ?_); rintro e w7 ⟨rfl, ha, hc⟩; have HA := Aside0.mk ha; have HC := Aside0.mk hc; clear ha hc))
  go_ret2
  exact ⟨rfl, HA.out, (Chg.of_below _ HB6.out).trans HC.out⟩
set_option maxHeartbeats 2000000 in
set_option maxRecDepth 100000 in
theorem caseRB (z : Int) (hz : I64 z) (h : AtRB W B ok g n bl) :
    Calls Try.prog 31 #[.pointer (some ⟨g, 0, none⟩), .int .i64 z] W fun e w' => e = .returned (.tuple #[.int .i64 (caseB bl z).1, .int .i64 (caseB bl z).2]) ∧ Below W.heap.size W w' := by
  have HT := Aside0.mk (tagRB (W := W) z h)
  have ht2 := tmod2_iff z
  unfold caseB
  by_cases h0 : z % 2 = 0
  · rw [if_pos h0]
    have d0 : (Int.tmod z 2 != 0) = false := by rw [ht2.2 h0]; rfl
    clear h h0 ht2 hz
    generalize fieldsB bl z = l at *
    generalize tagB bl z = t at *
    by_cases h1 : t < 0
    · rw [if_pos (.inl h1)]
      go_enter Try.func31, Try.ntmps31
      go_wp2_with (go_at_call 57; (with_reducible refine HT.out.mono ?_); rintro e w1 ⟨A, c, rfl, hc, hr, hb⟩; have HB := Aside0.mk hb; clear hb hr hc)
      go_ret2
      exact ⟨rfl, HB.out⟩
    · by_cases h2 : t > 199
      · rw [if_pos (.inr h2)]
        go_enter Try.func31, Try.ntmps31
        go_wp2_with (go_at_call 57; (with_reducible refine HT.out.mono ?_); rintro e w1 ⟨A, c, rfl, hc, hr, hb⟩; have HB := Aside0.mk hb; clear hb hr hc)
        go_ret2
        exact ⟨rfl, HB.out⟩
      · rw [if_neg (fun h => h.elim h1 h2)]
        go_enter Try.func31, Try.ntmps31
        go_wp2_with (go_at_call 57; (with_reducible refine HT.out.mono ?_); rintro e w1 ⟨A, c, rfl, hc, hr, hb⟩; have HB := Aside0.mk hb; clear hb hr hc)
        go_ret2
        exact ⟨rfl, HB.out⟩
  · rw [if_neg h0]
    have d0 : (Int.tmod z 2 != 0) = true := bne_iff_ne.2 (fun e => h0 (ht2.1 e))
    have HHF := Aside0.mk (fun w => selvageref16_half.calls z (z / 2) w (half_eq hz h0))
    clear h h0 ht2 hz HT
    go_enter Try.func31, Try.ntmps31
    go_wp2_with (go_at_call 38; (with_reducible refine (HHF.out _).mono ?_); rintro e w1 ⟨rfl, hd⟩; have HD := Aside0.mk hd; clear hd)
    go_ret2
    exact ⟨rfl, below_drawn (Below.refl _ _) HD.out⟩
end
end Go.Proofs.Ytkmoneccehbncaa.Heap
/- Chapter 16's reference over the reference's heap, as a list of blocks: Open; no condition but what each theorem states. -/
namespace Go.Proofs.Ytkmoneccehbncaa.Heap
open Go.RowKit Go.Proofs.YtkmoneccehbncaaW.PrintWords Go.Proofs.YtkmoneccehbncaaW.PrintLast Go.Proofs.YtkmoneccehbncaaW.PrintMore Go.Proofs.Ytkmoneccehbncaa.Print Go.Proofs.Ytkmoneccehbncaa.Ints
set_option linter.unusedVariables false
set_option linter.unusedSimpArgs false
def cutC (ad : Addr) (c : Nat) : Addr := if c = 1 then ad else ad.add 1
theorem cut2 (ad : Addr) (n c : Nat) (hc : n + 1 ≤ c) (w : World) :
    (Instr.slice 36 (.slice (some ad) (n + 1) c) (some (.int .i64 1)) none none).run Try.prog w = .ok (.slice (some (cutC ad c)) n (c - 1)) w := by
  have hu : Try.prog.underlying 36 = some (.slice (Try.prog.elem 36)) := by rw [show Try.prog.elem 36 = 3 by kernel_rfl]; exact Try.underlying36
  rw [run_slice_l w 36 (some ad) (n + 1) c hu .i64 1 (by omega) (by omega)]
  have hs : (sizeOf (Try.prog.elem 36)).run Try.prog w = .ok 1 w := by kernel_rfl
  rw [hs]
  have e1 : (1 : Int).toNat = 1 := rfl
  simp only [Result.andThen, sliced, e1, Nat.mul_one]
  unfold cutC
  by_cases h0 : c = 1
  · subst h0
    simp
  · simp only [if_neg h0]
    rfl
theorem cutC_reads {w : World} {ad : Addr} {c : Nat} {x : Int} {r : List Int} (h : (Kd.int .i64).C w (some ad) (x :: r).length (x :: r)) (hc : (x :: r).length ≤ c) : (Kd.int .i64).C w (some (cutC ad c)) r.length r := by
  have h1 := Kd.C_drop (m := 1) h (by simp) hc
  have e3 : (if c = 1 then some ad else (some ad).map (·.add (1 * (Kd.int .i64).sz))) = some (cutC ad c) := by
    unfold cutC
    by_cases h0 : c = 1
    · rw [if_pos h0, if_pos h0]
    · rw [if_neg h0, if_neg h0]; rfl
  rw [e3] at h1
  exact h1
section
variable {W W1 : World} {B g : Nat} {ok : Nat → Prop} {n : Int} {bl : List (Int × List Int)}
set_option maxHeartbeats 2000000 in
set_option maxRecDepth 100000 in
theorem openRB (z : Int) (hw : Wide bl) (h : AtRB W B ok g n bl) :
    Calls Try.prog 29 #[.pointer (some ⟨g, 0, none⟩), .int .i64 z] W fun e w' => ∃ A c, e = .returned (.tuple #[.int .i64 (openB bl z).1, .slice A (openB bl z).2.1.length c, .int .i64 (openB bl z).2.2]) ∧ (openB bl z).2.1.length ≤ c ∧ (Kd.int .i64).C w' A (openB bl z).2.1.length (openB bl z).2.1 ∧ Below W.heap.size W w' := by
  have HT := Aside0.mk (tagRB (W := W) z h)
  have hf := hw.fields z
  rw [openB_eq]
  clear hw h
  generalize tagB bl z = t at *
  generalize fieldsB bl z = l at *
  by_cases ht : t = 200
  · rw [if_pos ht]
    have d1 : (t != 200) = false := by rw [ht]; rfl
    clear ht
    cases l with
    | nil =>
      clear hf
      go_enter Try.func29, Try.ntmps29
      go_wp2_with (go_at_call 57; (with_reducible refine HT.out.mono ?_); rintro e w1 ⟨A, c, rfl, hc, hr, hb⟩; have HB := Aside0.mk hb; clear hb hr hc)
      go_ret3
      exact ⟨none, 0, rfl, Nat.le_refl _, Kd.C_nil _ _, HB.out⟩
    | cons x r =>
      have hx := hf.2 x List.mem_cons_self
      have hlr : r.length ≤ 100000 := by have := hf.1; simp at this; omega
      have hl0 : ((r.length : Int) + 1 == 0) = false := beq_eq_false_iff_ne.2 (by omega)
      have ht2 := tmod2_iff x
      unfold I64 at hx
      simp only [openOf]
      clear hf
      by_cases h2 : x % 2 = 0
      · rw [if_pos h2]
        have d2 : (Int.tmod x 2 == 0) = true := by rw [ht2.2 h2]; rfl
        clear h2 ht2
        go_enter Try.func29, Try.ntmps29
        go_wp2_with (go_at_call 57; (with_reducible refine HT.out.mono ?_); rintro e w1 ⟨A, c, rfl, hc, hr, hb⟩; obtain ⟨ad, rfl, hx0⟩ := Kd.at_int hr 0 (Int.le_refl _) (by simp); have hx1 : w1.cell? ad = some (.int .i64 x) := first_cell (r := r) hx0; have HB := Aside0.mk hb; have HR := Aside0.mk hr; have HC := Aside0.mk hc; clear hb hr hc hx0)
        go_ret3
        exact ⟨none, 0, rfl, Nat.le_refl _, Kd.C_nil _ _, HB.out⟩
      · rw [if_neg h2]
        have d2 : (Int.tmod x 2 == 0) = false := beq_eq_false_iff_ne.2 (fun e => h2 (ht2.1 e))
        have d3 : (x % 2 == 0) = false := beq_eq_false_iff_ne.2 h2
        clear ht2
        by_cases h3 : x < 0
        · rw [if_pos (by omega)]
          clear h2
          go_enter Try.func29, Try.ntmps29
          go_wp2_with (go_at_call 57; (with_reducible refine HT.out.mono ?_); rintro e w1 ⟨A, c, rfl, hc, hr, hb⟩; obtain ⟨ad, rfl, hx0⟩ := Kd.at_int hr 0 (Int.le_refl _) (by simp); have hx1 : w1.cell? ad = some (.int .i64 x) := first_cell (r := r) hx0; have HB := Aside0.mk hb; have HR := Aside0.mk hr; have HC := Aside0.mk hc; clear hb hr hc hx0)
          go_ret3
          exact ⟨none, 0, rfl, Nat.le_refl _, Kd.C_nil _ _, HB.out⟩
        · have e4 : wrap64 (Int.tdiv x 2) = x / 2 := by rw [Int.tdiv_eq_ediv_of_nonneg (by omega)]; unfold wrap64; omega
          have e5 : IntKind.i64.wrap (Int.tdiv x 2) = x / 2 := by rw [Int.tdiv_eq_ediv_of_nonneg (by omega)]; exact IntWalk.i64_in _ (by omega)
          by_cases h4 : x / 2 > 2147483647
          · rw [if_pos (by omega)]
            clear h2
            go_enter Try.func29, Try.ntmps29
            go_wp2_with (go_at_call 57; (with_reducible refine HT.out.mono ?_); rintro e w1 ⟨A, c, rfl, hc, hr, hb⟩; obtain ⟨ad, rfl, hx0⟩ := Kd.at_int hr 0 (Int.le_refl _) (by simp); have hx1 : w1.cell? ad = some (.int .i64 x) := first_cell (r := r) hx0; have HB := Aside0.mk hb; have HR := Aside0.mk hr; have HC := Aside0.mk hc; clear hb hr hc hx0)
            go_ret3
            exact ⟨none, 0, rfl, Nat.le_refl _, Kd.C_nil _ _, HB.out⟩
          · rw [if_neg (by omega)]
            clear h2
            go_enter Try.func29, Try.ntmps29
            go_wp2_with (go_at_call 57; (with_reducible refine HT.out.mono ?_); rintro e w1 ⟨A, c, rfl, hc, hr, hb⟩; obtain ⟨ad, rfl, hx0⟩ := Kd.at_int hr 0 (Int.le_refl _) (by simp); have hx1 : w1.cell? ad = some (.int .i64 x) := first_cell (r := r) hx0; have HB := Aside0.mk hb; have HR := Aside0.mk hr; have HC := Aside0.mk hc; clear hb hr hc hx0)
            have hcut := fun W => cut2 ad r.length c (by have := HC.out; simp at this; exact this) W
            go_region
            go_wp2
            go_ret3
            exact ⟨some (cutC ad c), c - 1, rfl, by have := HC.out; simp at this; omega, Kd.C_below (cutC_reads HR.out HC.out) (below_drew1 (Below.refl _ _)), below_drew1 HB.out⟩
  · rw [if_neg ht]
    have d1 : (t != 200) = true := bne_iff_ne.2 ht
    clear ht
    go_enter Try.func29, Try.ntmps29
    go_wp2_with (go_at_call 57; (with_reducible refine HT.out.mono ?_); rintro e w1 ⟨A, c, rfl, hc, hr, hb⟩; have HB := Aside0.mk hb; clear hb hr hc)
    go_ret3
    exact ⟨none, 0, rfl, Nat.le_refl _, Kd.C_nil _ _, HB.out⟩
end
end Go.Proofs.Ytkmoneccehbncaa.Heap
