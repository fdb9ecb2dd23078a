/- The heap of layer 2, plainly: a block that is laid unasked, and a field that is written. -/
import Derived.Test.YtkmoneccehbncaaHeapT
namespace Go.Proofs.Ytkmoneccehbncaa.Heap
open Go.RowKit Go.Proofs.YtkmoneccehbncaaW.PrintWords Go.Proofs.YtkmoneccehbncaaW.PrintLast Go.Proofs.YtkmoneccehbncaaW.PrintMore Go.Proofs.Ytkmoneccehbncaa.Print Go.Proofs.Ytkmoneccehbncaa.Ints
set_option linter.unusedVariables false
set_option linter.unusedSimpArgs false

def PH.lay (H : PH) (tag : Int) (l : List Int) : PH := ⟨laid H.ws H.top.toNat (l.length * 256 + tag) l, H.top + 1 + l.length, H.ks ++ [H.top]⟩
theorem PH.lay_wf {H : PH} (h : H.Wf) (tag : Int) (l : List Int) (h0 : 0 ≤ tag) (h1 : tag ≤ 201) (hr : H.top + 1 + l.length ≤ H.ws.length) : (H.lay tag l).Wf := by
  have t1 := h.top1
  have t2 := h.top2
  obtain ⟨t, ht⟩ := Int.eq_ofNat_of_zero_le (show 0 ≤ H.top by omega)
  have e1 : H.top.toNat = t := by omega
  have hf : t + 1 + l.length ≤ H.ws.length := by omega
  refine ⟨?_, ?_, ?_, ?_⟩
  · show (laid H.ws H.top.toNat (l.length * 256 + tag) l).length ≤ 100000
    rw [e1, laid_length _ _ _ _ hf]; exact h.len
  · show 1 ≤ H.top + 1 + l.length
    omega
  · show H.top + 1 + l.length ≤ ((laid H.ws H.top.toNat (l.length * 256 + tag) l).length : Int)
    rw [e1, laid_length _ _ _ _ hf]; omega
  · intro k hk
    show 1 ≤ k ∧ k < H.top + 1 + l.length ∧ 0 ≤ rd (laid H.ws H.top.toNat (l.length * 256 + tag) l) k ∧ k + 1 + rd (laid H.ws H.top.toNat (l.length * 256 + tag) l) k / 256 ≤ H.top + 1 + l.length
    have hk' : k ∈ H.ks ∨ k = H.top := by
      have := hk
      simp only [PH.lay, List.mem_append, List.mem_singleton] at this
      exact this
    rw [e1]
    rcases hk' with hk' | hk'
    · obtain ⟨b1, b2, b3, b4⟩ := h.blk' k hk'
      obtain ⟨q, rfl⟩ := Int.eq_ofNat_of_zero_le (show 0 ≤ k by omega)
      rw [rd_laid_lt _ _ _ _ _ (by omega) (by omega)]
      omega
    · subst hk'
      rw [ht, rd_laid_at _ _ _ _ (by omega)]
      omega
theorem Lays.lay {H : PH} {n : Int} {bl : List (Int × List Int)} (h : Lays H n bl) (tag : Int) (l : List Int) (h0 : 0 ≤ tag) (h1 : tag ≤ 201) (hr0 : topB 1 bl + l.length ≤ n) : Lays (H.lay tag l) n (bl ++ [(tag, l)]) := by
  have hr := h.room
  have htop := h.top
  have hwf := PH.lay_wf h.wf tag l h0 h1 (by omega)
  have t1 := h.wf.top1
  have t2 := h.wf.top2
  obtain ⟨t, ht⟩ := Int.eq_ofNat_of_zero_le (show 0 ≤ H.top by omega)
  have e1 : H.top.toNat = t := by omega
  have hf : t + 1 + l.length ≤ H.ws.length := by omega
  refine ⟨hwf, ?_, ?_, ?_, ?_⟩
  · show (((laid H.ws H.top.toNat (l.length * 256 + tag) l).length : Nat) : Int) = n + 1
    rw [e1, laid_length _ _ _ _ hf]
    exact hr
  · show H.top + 1 + l.length = _
    rw [topB_append, htop]
  · intro z hz
    rw [findB_append] at hz
    have hz1 : findB 1 bl z = none := by
      cases hq : findB 1 bl z with
      | none => rfl
      | some y => rw [hq] at hz; cases hz
    rw [hz1] at hz
    have hz2 : ¬ z = 2 * topB 1 bl := fun e => by rw [if_pos e] at hz; cases hz
    have h0 := h.no z hz1
    show (if z ≤ 0 then (0 : Int) else if z % 2 = 0 then (if z / 2 ∈ H.ks ++ [H.top] then z / 2 else 0) else 0) = 0
    unfold PH.place at h0
    by_cases a1 : z ≤ 0
    · rw [if_pos a1]
    · rw [if_neg a1] at h0 ⊢
      by_cases a2 : z % 2 = 0
      · rw [if_pos a2] at h0 ⊢
        have a3 : ¬ z / 2 ∈ H.ks := fun a3 => by rw [if_pos a3] at h0; omega
        rw [if_neg]
        intro a4
        rcases List.mem_append.1 a4 with a5 | a5
        · exact a3 a5
        · have := List.mem_singleton.1 a5
          omega
      · rw [if_neg a2]
  · intro z y hz
    rw [findB_append] at hz
    show (if z ≤ 0 then (0 : Int) else if z % 2 = 0 then (if z / 2 ∈ H.ks ++ [H.top] then z / 2 else 0) else 0) = z / 2 ∧ z / 2 ∈ H.ks ++ [H.top] ∧ 0 ≤ y.1 ∧ y.1 ≤ 201 ∧ rd (laid H.ws H.top.toNat (l.length * 256 + tag) l) (z / 2) = y.2.length * 256 + y.1 ∧
      (if z / 2 = 0 then [] else ((laid H.ws H.top.toNat (l.length * 256 + tag) l).drop ((z / 2).toNat + 1)).take (rd (laid H.ws H.top.toNat (l.length * 256 + tag) l) (z / 2) / 256).toNat) = y.2
    rw [e1]
    have hpl : ∀ z, 0 < z → z % 2 = 0 → z / 2 ∈ H.ks ++ [H.top] → (if z ≤ 0 then (0 : Int) else if z % 2 = 0 then (if z / 2 ∈ H.ks ++ [H.top] then z / 2 else 0) else 0) = z / 2 := fun z b1 b2 b3 => by
      rw [if_neg (by omega), if_pos b2, if_pos b3]
    cases hq : findB 1 bl z with
    | some y' =>
      rw [hq] at hz
      obtain rfl : y' = y := by cases hz; rfl
      obtain ⟨c1, c2, c3, c4, c5, c6⟩ := h.yes z y' hq
      obtain ⟨q, rfl, q1, q2⟩ := findB_some hq
      have hq0 : 2 * q / 2 = q := by omega
      rw [hq0] at c1 c2 c5 c6 ⊢
      have hm : q ∈ H.ks ++ [H.top] := List.mem_append_left _ c2
      refine ⟨?_, hm, c3, c4, ?_⟩
      · have := hpl (2 * q) (by omega) (by omega) (by rw [hq0]; exact hm)
        rw [hq0] at this
        exact this
      · obtain ⟨b1, b2, b3, b4⟩ := h.wf.blk' q c2
        obtain ⟨p, rfl⟩ := Int.eq_ofNat_of_zero_le (show 0 ≤ q by omega)
        rw [rd_laid_lt _ _ _ _ _ (by omega) (by omega)]
        refine ⟨c5, ?_⟩
        unfold PH.fields at c6
        rw [laid_take _ _ _ _ _ _ (by rw [Int.toNat_natCast]; omega) (by omega)]
        exact c6
    | none =>
      rw [hq] at hz
      have hz2 : z = 2 * topB 1 bl := by
        by_cases e : z = 2 * topB 1 bl
        · exact e
        · simp [e] at hz
      rw [if_pos hz2] at hz
      obtain rfl : (tag, l) = y := by cases hz; rfl
      have hq0 : z / 2 = (t : Int) := by omega
      have hm : z / 2 ∈ H.ks ++ [H.top] := List.mem_append_right _ (List.mem_singleton.2 (by omega))
      refine ⟨hpl z (by omega) (by omega) hm, hm, h0, h1, ?_⟩
      rw [hq0, rd_laid_at _ _ _ _ (by omega), if_neg (by omega), Int.toNat_natCast, show ((l.length * 256 + tag) / 256).toNat = l.length by omega]
      exact ⟨rfl, laid_at _ _ _ _ (by omega)⟩

/-- Field i of the block at place p, written. -/
def setB : Int → List (Int × List Int) → Int → Nat → Int → List (Int × List Int)
  | _, [], _, _, _ => []
  | a, x :: r, p, i, v => if p = a then (x.1, x.2.set i v) :: r else x :: setB (a + 1 + x.2.length) r p i v
theorem topB_set (p : Int) (i : Nat) (v : Int) : ∀ (bl : List (Int × List Int)) (a : Int), topB a (setB a bl p i v) = topB a bl
  | [], a => rfl
  | x :: r, a => by
    rw [setB]
    by_cases h : p = a
    · rw [if_pos h, topB, topB]
      simp only [List.length_set]
    · rw [if_neg h, topB, topB, topB_set p i v r]
theorem findB_set (p : Int) (i : Nat) (v : Int) (z : Int) : ∀ (bl : List (Int × List Int)) (a : Int), findB a (setB a bl p i v) z = if z = 2 * p then (findB a bl z).map (fun y => (y.1, y.2.set i v)) else findB a bl z
  | [], a => by
    rw [setB, findB]
    split <;> rfl
  | x :: r, a => by
    rw [setB]
    by_cases h : p = a
    · rw [if_pos h, findB, findB]
      by_cases h2 : z = 2 * a
      · rw [if_pos h2, if_pos h2, if_pos (by omega)]
        rfl
      · rw [if_neg h2, if_neg h2, if_neg (by omega)]
        simp only [List.length_set]
    · rw [if_neg h, findB, findB]
      by_cases h2 : z = 2 * a
      · rw [if_pos h2, if_pos h2, if_neg (by omega)]
      · rw [if_neg h2, if_neg h2, findB_set p i v z r]
theorem findB_apart {y y' : Int × List Int} {z z' : Int} (hne : z ≠ z') : ∀ {bl : List (Int × List Int)} {a : Int}, findB a bl z = some y → findB a bl z' = some y' → z / 2 + 1 + y.2.length ≤ z' / 2 ∨ z' / 2 + 1 + y'.2.length ≤ z / 2
  | [], a, h, _ => by cases h
  | x :: r, a, h, h' => by
    have g := findB_some h
    have g' := findB_some h'
    rw [findB] at h h'
    by_cases h1 : z = 2 * a
    · rw [if_pos h1] at h
      rw [if_neg (by omega)] at h'
      cases h
      obtain ⟨q, e, k1, k2⟩ := findB_some h'
      left
      omega
    · rw [if_neg h1] at h
      by_cases h2 : z' = 2 * a
      · rw [if_pos h2] at h'
        cases h'
        obtain ⟨q, e, k1, k2⟩ := findB_some h
        right
        omega
      · rw [if_neg h2] at h'
        exact findB_apart hne h h'
theorem rd_set_ne (l : List Int) (j : Nat) (v h : Int) (h0 : 0 ≤ h) (hne : h ≠ j) : rd (l.set j v) h = rd l h := by
  unfold rd
  simp only [List.getD_eq_getElem?_getD]
  rw [List.getElem?_set_ne (by omega)]
theorem cut_set_out (l : List Int) (j a n : Nat) (v : Int) (h : j < a ∨ a + n ≤ j) : ((l.set j v).drop a).take n = (l.drop a).take n := by
  apply List.ext_getElem?
  intro i
  simp only [List.getElem?_take, List.getElem?_drop]
  by_cases hi : i < n
  · rw [if_pos hi, if_pos hi, List.getElem?_set_ne (by omega)]
  · rw [if_neg hi, if_neg hi]
theorem cut_set_in (l : List Int) (i a n : Nat) (v : Int) (h : i < n) (hl : a + n ≤ l.length) : ((l.set (a + i) v).drop a).take n = ((l.drop a).take n).set i v := by
  apply List.ext_getElem?
  intro q
  simp only [List.getElem?_take, List.getElem?_drop, List.getElem?_set]
  by_cases hq : q < n
  · rw [if_pos hq]
    by_cases he : i = q
    · subst he
      rw [if_pos rfl, if_pos rfl, if_pos (by omega), if_pos (by rw [List.length_take, List.length_drop]; omega)]
    · rw [if_neg (by omega), if_neg he, if_pos hq]
  · rw [if_neg hq]
    by_cases he : i = q
    · omega
    · rw [if_neg he, if_neg hq]
def PH.set (H : PH) (j : Nat) (v : Int) : PH := ⟨H.ws.set j v, H.top, H.ks⟩
theorem Lays.set {H : PH} {n : Int} {bl : List (Int × List Int)} (h : Lays H n bl) (p i : Nat) (y0 : Int × List Int) (hy : findB 1 bl (2 * (p : Int)) = some y0) (hi : i < y0.2.length) (v : Int) : Lays (H.set (p + 1 + i) v) n (setB 1 bl p i v) := by
  obtain ⟨c1, c2, c3, c4, c5, c6⟩ := h.yes _ _ hy
  have hp2 : 2 * (p : Int) / 2 = p := by omega
  rw [hp2] at c1 c2 c5 c6
  have hrd : ∀ k ∈ H.ks, ∃ y, findB 1 bl (2 * k) = some y := fun k hk => by
    cases hq : findB 1 bl (2 * k) with
    | some y => exact ⟨y, rfl⟩
    | none =>
      have := h.no _ hq
      have hb := h.wf.blk' k hk
      unfold PH.place at this
      rw [if_neg (by omega), if_pos (by omega), show 2 * k / 2 = k by omega, if_pos hk] at this
      omega
  have hhead : ∀ k ∈ H.ks, rd (H.ws.set (p + 1 + i) v) k = rd H.ws k := fun k hk => by
    have hb := h.wf.blk' k hk
    obtain ⟨y, hq⟩ := hrd k hk
    refine rd_set_ne _ _ _ _ (by omega) ?_
    by_cases e : 2 * k = 2 * (p : Int)
    · omega
    · have := findB_apart e hq hy
      omega
  refine ⟨⟨by simp only [PH.set, List.length_set]; exact h.wf.len, h.wf.top1, by simp only [PH.set, List.length_set]; exact h.wf.top2, fun k hk => ?_⟩, by simp only [PH.set, List.length_set]; exact h.room, by rw [topB_set]; exact h.top, ?_, ?_⟩
  · show 1 ≤ k ∧ k < H.top ∧ 0 ≤ rd (H.ws.set (p + 1 + i) v) k ∧ k + 1 + rd (H.ws.set (p + 1 + i) v) k / 256 ≤ H.top
    rw [hhead k hk]
    exact h.wf.blk' k hk
  · intro z hz
    rw [findB_set] at hz
    have : findB 1 bl z = none := by
      cases hq : findB 1 bl z with
      | none => rfl
      | some y => rw [hq] at hz; split at hz <;> simp at hz
    exact h.no z this
  · intro z y hz
    rw [findB_set] at hz
    show H.place z = z / 2 ∧ z / 2 ∈ H.ks ∧ 0 ≤ y.1 ∧ y.1 ≤ 201 ∧ rd (H.ws.set (p + 1 + i) v) (z / 2) = y.2.length * 256 + y.1 ∧ (if z / 2 = 0 then [] else ((H.ws.set (p + 1 + i) v).drop ((z / 2).toNat + 1)).take (rd (H.ws.set (p + 1 + i) v) (z / 2) / 256).toNat) = y.2
    have hb2 := h.wf.blk _ c2
    by_cases e : z = 2 * (p : Int)
    · rw [if_pos e, e, hy] at hz
      obtain rfl : (y0.1, y0.2.set i v) = y := by simpa using hz
      subst e
      rw [hp2, hhead _ c2]
      refine ⟨c1, c2, c3, c4, by simp only [List.length_set]; exact c5, ?_⟩
      rw [if_neg (by omega), Int.toNat_natCast]
      unfold PH.fields at c6
      rw [if_neg (by omega), Int.toNat_natCast] at c6
      rw [cut_set_in _ _ _ _ _ (by rw [c5]; omega) (by omega), c6]
    · rw [if_neg e] at hz
      obtain ⟨d1, d2, d3, d4, d5, d6⟩ := h.yes z y hz
      rw [hhead _ d2]
      refine ⟨d1, d2, d3, d4, d5, ?_⟩
      have ha := findB_apart e hz hy
      have hb := h.wf.blk' _ d2
      unfold PH.fields at d6
      rw [if_neg (by omega)] at d6 ⊢
      rw [cut_set_out _ _ _ _ _ (by omega), d6]
end Go.Proofs.Ytkmoneccehbncaa.Heap
