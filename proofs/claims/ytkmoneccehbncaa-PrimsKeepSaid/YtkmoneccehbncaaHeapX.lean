/- heap.Collect, plainly: what is copied in which order; and a field that is written in memory. -/
import Derived.Test.YtkmoneccehbncaaHeapW
namespace Go.Proofs.Ytkmoneccehbncaa.Heap
open Go.RowKit Go.Proofs.YtkmoneccehbncaaW.PrintWords Go.Proofs.YtkmoneccehbncaaW.PrintLast Go.Proofs.YtkmoneccehbncaaW.PrintMore Go.Proofs.Ytkmoneccehbncaa.Print Go.Proofs.Ytkmoneccehbncaa.Ints
set_option linter.unusedVariables false
set_option linter.unusedSimpArgs false

abbrev St := List (Int × List Int) × (Int → Int) × List Int
/-- move, where there is room. -/
def mvO (n : Int) (bl : List (Int × List Int)) (s : St) (w : Int) : Option (Int × St) :=
  match findB 1 bl w with
  | none => some (w, s)
  | some y => if w / 2 ∈ s.2.2 then some (2 * s.2.1 (w / 2), s) else if topB 1 s.1 + y.2.length ≤ n then some (2 * topB 1 s.1, (s.1 ++ [y], (fun k => if k = w / 2 then topB 1 s.1 else s.2.1 k), s.2.2 ++ [w / 2])) else none
theorem mvO_eq {n : Int} {bl : List (Int × List Int)} {s : St} {w : Int} {r : Int × St} (h : mvO n bl s w = some r) : mvB bl s w = r ∧ ∀ y, findB 1 bl w = some y → w / 2 ∉ s.2.2 → topB 1 s.1 + y.2.length ≤ n := by
  unfold mvO at h
  unfold mvB
  cases hf : findB 1 bl w with
  | none => rw [hf] at h; exact ⟨Option.some.inj h, fun y hy => by cases hy⟩
  | some y =>
    rw [hf] at h
    simp only at h ⊢
    by_cases h1 : w / 2 ∈ s.2.2
    · rw [if_pos h1] at h ⊢
      exact ⟨Option.some.inj h, fun y' _ h2 => absurd h1 h2⟩
    · rw [if_neg h1] at h ⊢
      by_cases h2 : topB 1 s.1 + y.2.length ≤ n
      · rw [if_pos h2] at h
        exact ⟨Option.some.inj h, fun y' hy _ => by cases hy; exact h2⟩
      · rw [if_neg h2] at h
        cases h
theorem mvB_find {bl : List (Int × List Int)} {s : St} {w z : Int} {y : Int × List Int} (h : findB 1 s.1 z = some y) : findB 1 (mvB bl s w).2.1 z = some y := by
  unfold mvB
  cases findB 1 bl w with
  | none => exact h
  | some y' =>
    simp only
    by_cases h1 : w / 2 ∈ s.2.2
    · rw [if_pos h1]; exact h
    · rw [if_neg h1]
      show findB 1 (s.1 ++ [y']) z = some y
      rw [findB_append, h]
      rfl
/-- Fields i, i+1 .. of the block at place p, m of them, are moved. -/
def fldO (n : Int) (bl : List (Int × List Int)) (p : Nat) (tag : Int) : Nat → Nat → St → Option St
  | 0, _, s => some s
  | m + 1, i, s => if tag = 201 then fldO n bl p tag m (i + 1) s else match findB 1 s.1 (2 * (p : Int)) with
    | none => none
    | some y => (mvO n bl s (rd y.2 (i : Int))).bind fun r => fldO n bl p tag m (i + 1) (setB 1 r.2.1 p i r.1, r.2.2)
/-- The blocks from place p on are gone through. -/
def scanO (n : Int) (bl : List (Int × List Int)) : Nat → Nat → St → Option St
  | 0, _, _ => none
  | k + 1, p, s => if (p : Int) < topB 1 s.1 then (match findB 1 s.1 (2 * (p : Int)) with
    | none => none
    | some y => (fldO n bl p y.1 y.2.length 0 s).bind fun s' => scanO n bl k (p + 1 + y.2.length) s') else some s
/-- A field is written in memory. -/
theorem AtB.set {W : World} {g b m : Nat} {n : Int} {bl : List (Int × List Int)} (h : AtB W g b m n bl) (p i : Nat) (y : Int × List Int) (hy : findB 1 bl (2 * (p : Int)) = some y) (hi : i < y.2.length) (v : Int) :
    AtB (W.setCell ⟨b, p + 1 + i, none⟩ (.int .i64 v)) g b m n (setB 1 bl p i v) ∧ W.frozen? ⟨b, p + 1 + i, none⟩ = false ∧ W.cell? ⟨b, p + 1 + i, none⟩ = some (.int .i64 (rd y.2 (i : Int))) := by
  have hrd := span_readsB hy h
  obtain ⟨H, a1, a2⟩ := h
  obtain ⟨es, cl, hm, hK⟩ := a1.places
  have hgb : g ≠ b := blk_ne a1.head a1.words (by decide)
  have hbm : b ≠ m := by rintro rfl; rw [a1.words] at hm; cases hm
  refine ⟨⟨H.set (p + 1 + i) v, ⟨?_, ?_, es, cl, ?_, hK⟩, a2.set p i y hy hi v⟩, blk_frozen a1.words _, ?_⟩
  · rw [Below.heap_setCell _ _ _ g hgb]
    have := a1.head
    simpa [PH.set] using this
  · rw [blk_set a1.words (p + 1 + i)]
    simp [nums, List.map_set, PH.set]
  · rw [Below.heap_setCell _ _ _ m (fun e => hbm e.symm)]
    exact hm
  · obtain ⟨ad, e, hc⟩ := hrd.at_ (i : Int) (by omega) (by omega)
    cases e
    have e2 : (cutAt b ((2 * (p : Int) / 2).toNat + 1) y.2.length).add (i : Int).toNat = ⟨b, p + 1 + i, none⟩ := by
      unfold cutAt
      rw [if_neg (by omega), show (2 * (p : Int) / 2).toNat = p by omega, Int.toNat_natCast]
      unfold Addr.add
      split <;> simp_all
    rw [e2] at hc
    exact hc
theorem Mv.set {W : World} {g b m : Nat} {n : Int} {bl : List (Int × List Int)} {g' b' m' : Nat} {n' : Int} {q ch cn ct : Nat} {s : St} (h : Mv W g b m n bl g' b' m' n' q ch cn ct s) (p i : Nat) (y : Int × List Int) (hy : findB 1 s.1 (2 * (p : Int)) = some y) (hi : i < y.2.length) (v : Int) :
    Mv (W.setCell ⟨b', p + 1 + i, none⟩ (.int .i64 v)) g b m n bl g' b' m' n' q ch cn ct (setB 1 s.1 p i v, s.2) := by
  obtain ⟨es, cl, e1, e2⟩ := h.map
  have hap := h.apart b' (by simp)
  have hal := h.alone
  have hs := (h.to_.set p i y hy hi v).1
  have hc : Chg (· = b') W (W.setCell ⟨b', p + 1 + i, none⟩ (.int .i64 v)) := Chg.set (S := (· = b')) (Chg.refl _ W) (p := ⟨b', p + 1 + i, none⟩) rfl _
  exact ⟨h.from_.chg hc (by omega) (by omega) (by omega), hs, ⟨es, cl, (hc.block q (blk_lt e1) (by omega)).trans e1, e2⟩, (hc.block ch (blk_lt h.h1) (by omega)).trans h.h1, (hc.block cn (blk_lt h.h2) (by omega)).trans h.h2, (hc.block ct (blk_lt h.h3) (by omega)).trans h.h3, h.apart, h.alone, h.went⟩
theorem reads_chg {S : Nat → Prop} {W W1 : World} {o : Nat} {n : Nat} {xs : List Int} (hc : Chg S W W1) (h : ReadsInt W .i64 (some ⟨o, 0, none⟩) n xs) (hl : o < W.heap.size) (hs : ¬ S o) : ReadsInt W1 .i64 (some ⟨o, 0, none⟩) n xs := by
  refine ⟨h.1, h.2.1, fun hn => ?_⟩
  obtain ⟨ad, e, hr⟩ := h.2.2 hn
  refine ⟨ad, e, fun j hj => ?_⟩
  cases e
  exact hc.cell (hr j hj) (by rw [add_block]; exact hl) (by rw [add_block]; exact hs)
end Go.Proofs.Ytkmoneccehbncaa.Heap
