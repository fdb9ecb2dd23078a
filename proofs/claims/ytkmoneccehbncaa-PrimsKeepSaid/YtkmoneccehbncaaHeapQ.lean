/- The heap of layer 2, plainly: a list of blocks, each a tag and its fields; what is made, and what is told of it. -/
import Derived.Test.YtkmoneccehbncaaHeapP
namespace Go.Proofs.Ytkmoneccehbncaa.Heap
open Go.RowKit Go.Proofs.YtkmoneccehbncaaW.PrintWords Go.Proofs.YtkmoneccehbncaaW.PrintLast Go.Proofs.YtkmoneccehbncaaW.PrintMore Go.Proofs.Ytkmoneccehbncaa.Print Go.Proofs.Ytkmoneccehbncaa.Ints
set_option linter.unusedVariables false
set_option linter.unusedSimpArgs false

/-- Blocks, from place a on: the block that word z points to. -/
def findB : Int → List (Int × List Int) → Int → Option (Int × List Int)
  | _, [], _ => none
  | a, x :: r, z => if z = 2 * a then some x else findB (a + 1 + x.2.length) r z
/-- The place behind the blocks. -/
def topB : Int → List (Int × List Int) → Int
  | a, [] => a
  | a, x :: r => topB (a + 1 + x.2.length) r
theorem topB_le : ∀ (bl : List (Int × List Int)) (a : Int), a ≤ topB a bl
  | [], a => Int.le_refl a
  | x :: r, a => by have := topB_le r (a + 1 + x.2.length); rw [topB]; omega
theorem topB_append (x : Int × List Int) : ∀ (bl : List (Int × List Int)) (a : Int), topB a (bl ++ [x]) = topB a bl + 1 + x.2.length
  | [], a => rfl
  | y :: r, a => by rw [List.cons_append, topB, topB, topB_append x r]
theorem findB_some {y : Int × List Int} {z : Int} : ∀ {bl : List (Int × List Int)} {a : Int}, findB a bl z = some y → ∃ q, z = 2 * q ∧ a ≤ q ∧ q + 1 + y.2.length ≤ topB a bl
  | [], a, h => by cases h
  | x :: r, a, h => by
    rw [findB] at h
    have ht := topB_le r (a + 1 + x.2.length)
    by_cases h1 : z = 2 * a
    · rw [if_pos h1] at h
      cases h
      exact ⟨a, h1, Int.le_refl _, by rw [topB]; omega⟩
    · rw [if_neg h1] at h
      obtain ⟨q, e, h2, h3⟩ := findB_some h
      exact ⟨q, e, by omega, by rw [topB]; exact h3⟩
theorem findB_append (x : Int × List Int) (z : Int) : ∀ (bl : List (Int × List Int)) (a : Int), findB a (bl ++ [x]) z = (findB a bl z).or (if z = 2 * topB a bl then some x else none)
  | [], a => by rw [List.nil_append, findB, findB, findB, topB]; rfl
  | y :: r, a => by
    rw [List.cons_append, findB, findB, topB]
    by_cases h : z = 2 * a
    · rw [if_pos h, if_pos h]; rfl
    · rw [if_neg h, if_neg h]
      exact findB_append x z r (a + 1 + y.2.length)

/-- May word z stand? -/
def mayB (bl : List (Int × List Int)) (z : Int) : Bool := decide (¬ z % 2 = 0) || (findB 1 bl z).isSome
def oddB (bl : List (Int × List Int)) (tag : Int) (l : List Int) : Bool := decide (tag < 0) || decide (201 < tag) || decide (60 < l.length) || (decide (tag ≠ 201) && l.any (fun z => !mayB bl z))
/-- A block is made, with room for n words. -/
def makeB (n : Int) (bl : List (Int × List Int)) (tag : Int) (l : List Int) : Int × Int × List (Int × List Int) :=
  if oddB bl tag l = true then (0, 1, bl) else if n < topB 1 bl + l.length then (0, 2, bl) else (2 * topB 1 bl, 0, bl ++ [(tag, l)])

/-- The heap's words lay these blocks. -/
structure Lays (H : PH) (n : Int) (bl : List (Int × List Int)) : Prop where
  wf : H.Wf
  room : (H.ws.length : Int) = n + 1
  top : H.top = topB 1 bl
  no : ∀ z, findB 1 bl z = none → H.place z = 0
  yes : ∀ z y, findB 1 bl z = some y → H.place z = z / 2 ∧ z / 2 ∈ H.ks ∧ 0 ≤ y.1 ∧ y.1 ≤ 201 ∧ rd H.ws (z / 2) = y.2.length * 256 + y.1 ∧ H.fields (z / 2) = y.2
theorem Lays.place_pos {H : PH} {n : Int} {bl : List (Int × List Int)} (h : Lays H n bl) (z : Int) : decide (0 < H.place z) = (findB 1 bl z).isSome := by
  cases hf : findB 1 bl z with
  | none => rw [h.no z hf]; rfl
  | some y =>
    obtain ⟨e, hk, _⟩ := h.yes z y hf
    have := h.wf.blk _ hk
    rw [e, decide_eq_true (by omega)]
    rfl
theorem Lays.odd {H : PH} {n : Int} {bl : List (Int × List Int)} (h : Lays H n bl) (tag : Int) (l : List Int) : H.odd tag l = oddB bl tag l := by
  unfold PH.odd oddB
  have e : (fun z => !H.may z) = fun z => !mayB bl z := by
    funext z
    unfold PH.may mayB
    rw [h.place_pos z]
  rw [e]
theorem Lays.tag {H : PH} {n : Int} {bl : List (Int × List Int)} (h : Lays H n bl) (z : Int) : H.tag z = match findB 1 bl z with | none => -1 | some y => y.1 := by
  unfold PH.tag
  cases hf : findB 1 bl z with
  | none => rw [h.no z hf]; rfl
  | some y =>
    obtain ⟨e, hk, h0, h1, hr, _⟩ := h.yes z y hf
    have := h.wf.blk _ hk
    rw [e, if_neg (by omega), hr, Int.tmod_eq_emod_of_nonneg (by omega)]
    show _ = y.1
    omega
theorem Lays.fields {H : PH} {n : Int} {bl : List (Int × List Int)} (h : Lays H n bl) (z : Int) : H.fields (H.place z) = match findB 1 bl z with | none => [] | some y => y.2 := by
  cases hf : findB 1 bl z with
  | none => rw [h.no z hf]; rfl
  | some y =>
    obtain ⟨e, hk, h0, h1, hr, hfi⟩ := h.yes z y hf
    rw [e, hfi]
theorem Lays.new (n : Nat) (h : n ≤ 65536) : Lays (PH.new n) n [] := by
  refine ⟨PH.new_wf n h, ?_, rfl, fun z _ => ?_, fun z y hf => by cases hf⟩
  · simp [PH.new]
  · unfold PH.place PH.new
    simp
theorem laid_take (ws : List Int) (t : Nat) (hdr : Int) (l : List Int) (p n : Nat) (h : p + n ≤ t) (ht : t ≤ ws.length) : ((laid ws t hdr l).drop p).take n = (ws.drop p).take n := by
  rw [List.take_drop, List.take_drop]
  congr 1
  unfold laid
  rw [List.append_assoc, List.take_append_of_le_length (by simp; omega), List.take_take]
  congr 1
  omega
theorem laid_at (ws : List Int) (t : Nat) (hdr : Int) (l : List Int) (ht : t ≤ ws.length) : ((laid ws t hdr l).drop (t + 1)).take l.length = l := by
  unfold laid
  have e : ws.take t ++ hdr :: l ++ ws.drop (t + 1 + l.length) = (ws.take t ++ [hdr]) ++ (l ++ ws.drop (t + 1 + l.length)) := by simp
  rw [e, List.drop_left' (by simp; omega), List.take_left' rfl]
theorem Lays.make {H : PH} {n : Int} {bl : List (Int × List Int)} (h : Lays H n bl) (tag : Int) (l : List Int) :
    (H.make tag l).1 = (makeB n bl tag l).1 ∧ (H.make tag l).2.1 = (makeB n bl tag l).2.1 ∧ Lays (H.make tag l).2.2 n (makeB n bl tag l).2.2 := by
  have hwf := PH.make_wf h.wf tag l
  have ho := h.odd tag l
  revert hwf
  unfold PH.make makeB
  rw [ho]
  by_cases h1 : oddB bl tag l = true
  · rw [if_pos h1, if_pos h1]
    exact fun _ => ⟨rfl, rfl, h⟩
  rw [if_neg h1, if_neg h1]
  have hodd := PH.odd_not (H := H) (tag := tag) (l := l) (by rw [ho]; exact h1)
  have hr := h.room
  have htop := h.top
  by_cases h2 : n < topB 1 bl + l.length
  · rw [if_pos (by omega), if_pos h2]
    exact fun _ => ⟨rfl, rfl, h⟩
  rw [if_neg (by omega), if_neg h2]
  intro hwf
  have t1 := h.wf.top1
  have t2 := h.wf.top2
  obtain ⟨t, ht⟩ := Int.eq_ofNat_of_zero_le (show 0 ≤ H.top by omega)
  have e1 : H.top.toNat = t := by omega
  have hf : t + 1 + l.length ≤ H.ws.length := by omega
  refine ⟨by rw [htop], rfl, hwf, ?_, ?_, ?_, ?_⟩
  · show (((laid H.ws H.top.toNat (l.length * 256 + tag) l).length : Nat) : Int) = n + 1
    rw [e1, laid_length _ _ _ _ hf]
    exact hr
  · show H.top + 1 + l.length = _
    rw [topB_append, htop]
  · intro z hz
    rw [findB_append] at hz
    have hz1 : findB 1 bl z = none := by
      cases hq : findB 1 bl z with
      | none => rfl
      | some y => rw [hq] at hz; cases hz
    rw [hz1] at hz
    have hz2 : ¬ z = 2 * topB 1 bl := fun e => by rw [if_pos e] at hz; cases hz
    have h0 := h.no z hz1
    show (if z ≤ 0 then (0 : Int) else if z % 2 = 0 then (if z / 2 ∈ H.ks ++ [H.top] then z / 2 else 0) else 0) = 0
    unfold PH.place at h0
    by_cases a1 : z ≤ 0
    · rw [if_pos a1]
    · rw [if_neg a1] at h0 ⊢
      by_cases a2 : z % 2 = 0
      · rw [if_pos a2] at h0 ⊢
        have a3 : ¬ z / 2 ∈ H.ks := fun a3 => by rw [if_pos a3] at h0; omega
        rw [if_neg]
        intro a4
        rcases List.mem_append.1 a4 with a5 | a5
        · exact a3 a5
        · have := List.mem_singleton.1 a5
          omega
      · rw [if_neg a2]
  · intro z y hz
    rw [findB_append] at hz
    show (if z ≤ 0 then (0 : Int) else if z % 2 = 0 then (if z / 2 ∈ H.ks ++ [H.top] then z / 2 else 0) else 0) = z / 2 ∧ z / 2 ∈ H.ks ++ [H.top] ∧ 0 ≤ y.1 ∧ y.1 ≤ 201 ∧ rd (laid H.ws H.top.toNat (l.length * 256 + tag) l) (z / 2) = y.2.length * 256 + y.1 ∧
      (if z / 2 = 0 then [] else ((laid H.ws H.top.toNat (l.length * 256 + tag) l).drop ((z / 2).toNat + 1)).take (rd (laid H.ws H.top.toNat (l.length * 256 + tag) l) (z / 2) / 256).toNat) = y.2
    rw [e1]
    have hpl : ∀ z, 0 < z → z % 2 = 0 → z / 2 ∈ H.ks ++ [H.top] → (if z ≤ 0 then (0 : Int) else if z % 2 = 0 then (if z / 2 ∈ H.ks ++ [H.top] then z / 2 else 0) else 0) = z / 2 := fun z b1 b2 b3 => by
      rw [if_neg (by omega), if_pos b2, if_pos b3]
    cases hq : findB 1 bl z with
    | some y' =>
      rw [hq] at hz
      obtain rfl : y' = y := by cases hz; rfl
      obtain ⟨c1, c2, c3, c4, c5, c6⟩ := h.yes z y' hq
      obtain ⟨q, rfl, q1, q2⟩ := findB_some hq
      have hq0 : 2 * q / 2 = q := by omega
      rw [hq0] at c1 c2 c5 c6 ⊢
      have hm : q ∈ H.ks ++ [H.top] := List.mem_append_left _ c2
      refine ⟨?_, hm, c3, c4, ?_⟩
      · have := hpl (2 * q) (by omega) (by omega) (by rw [hq0]; exact hm)
        rw [hq0] at this
        exact this
      · obtain ⟨b1, b2, b3, b4⟩ := h.wf.blk' q c2
        obtain ⟨p, rfl⟩ := Int.eq_ofNat_of_zero_le (show 0 ≤ q by omega)
        rw [rd_laid_lt _ _ _ _ _ (by omega) (by omega)]
        refine ⟨c5, ?_⟩
        unfold PH.fields at c6
        rw [laid_take _ _ _ _ _ _ (by rw [Int.toNat_natCast]; omega) (by omega)]
        exact c6
    | none =>
      rw [hq] at hz
      have hz2 : z = 2 * topB 1 bl := by
        by_cases e : z = 2 * topB 1 bl
        · exact e
        · simp [e] at hz
      rw [if_pos hz2] at hz
      obtain rfl : (tag, l) = y := by cases hz; rfl
      have hq0 : z / 2 = (t : Int) := by omega
      have hm : z / 2 ∈ H.ks ++ [H.top] := List.mem_append_right _ (List.mem_singleton.2 (by omega))
      refine ⟨hpl z (by omega) (by omega) hm, hm, hodd.1, hodd.2.1, ?_⟩
      rw [hq0, rd_laid_at _ _ _ _ (by omega), if_neg (by omega), Int.toNat_natCast, show ((l.length * 256 + tag) / 256).toNat = l.length by omega]
      exact ⟨rfl, laid_at _ _ _ _ (by omega)⟩
end Go.Proofs.Ytkmoneccehbncaa.Heap
