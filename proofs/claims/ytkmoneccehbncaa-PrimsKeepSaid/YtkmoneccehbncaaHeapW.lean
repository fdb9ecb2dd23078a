/- heap.Collect's inner function move: what it hands back and what it changes; no condition but what each theorem states. -/
import Derived.Test.YtkmoneccehbncaaHeapV
import Derived.Outline
import Derived.Deep.RegionHeld3
namespace Go.Proofs.Ytkmoneccehbncaa.Heap
open Go.RowKit Go.Proofs.YtkmoneccehbncaaW.PrintWords Go.Proofs.YtkmoneccehbncaaW.PrintLast Go.Proofs.YtkmoneccehbncaaW.PrintMore Go.Proofs.Ytkmoneccehbncaa.Print Go.Proofs.Ytkmoneccehbncaa.Ints
set_option linter.unusedVariables false
set_option linter.unusedSimpArgs false

theorem put91 (q cl : Nat) (es : Array MapEntry) (ks : List Int) (f : Int → Int) (W : World) (hb : W.heap[q]? = some (.map es cl)) (hk : Keys (fun k => .int .i64 (f k)) es ks) (z : Int) (hz : z ∉ ks) (x : Int) :
    ∃ W', (Instr.mapUpdate 91 (.map (some q)) (.int .i64 z) (.int .i64 x)).run Try.prog W = .ok () W' ∧ (∃ es cl, W'.heap[q]? = some (.map es cl) ∧ Keys (fun k => .int .i64 ((fun k => if k = z then x else f k) k)) es (ks ++ [z])) ∧ Chg (· = q) W W' := by
  have hlt : q < W.heap.size := (Array.getElem?_eq_some_iff.1 hb).1
  have hx : (W.heap.setIfInBounds q (.map (es.push { key := .int .i64 z, val := .int .i64 x, born := cl }) (cl + 1)))[q]? = some (.map (es.push { key := .int .i64 z, val := .int .i64 x, born := cl }) (cl + 1)) := by
    rw [Array.getElem?_setIfInBounds_self_of_lt hlt]
  have hy : Keys (fun k => .int .i64 ((fun k => if k = z then x else f k) k)) (es.push { key := .int .i64 z, val := .int .i64 x, born := cl }) (ks ++ [z]) := by
    unfold Keys at *
    rw [Array.toList_push, List.map_append, List.map_append, hk]
    congr 1
    · apply List.map_congr_left
      intro k hk'
      have : k ≠ z := fun e => hz (e ▸ hk')
      simp [this]
    · simp
  exact ⟨_, run_put (P := Try.prog) 91 3 3 Try.underlying91 Try.underlying3 hb hk z hz (.int .i64 x), ⟨_, _, hx, hy⟩, ⟨rfl, rfl, rfl, by simp, fun k hk hs => by
    have hs' : q ≠ k := fun e => hs e.symm
    simp [Array.getElem?_setIfInBounds, hs']⟩⟩
theorem look91 (q cl : Nat) (es : Array MapEntry) (ks : List Int) (f : Int → Int) (W : World) (hb : W.heap[q]? = some (.map es cl)) (hk : Keys (fun k => .int .i64 (f k)) es ks) (z : Int) :
    (Instr.lookup 91 (.map (some q)) (.int .i64 z) false).run Try.prog W = .ok (.int .i64 (if z ∈ ks then f z else 0)) W := by
  rw [run_look (P := Try.prog) (W := W) 91 3 3 Try.underlying91 Try.underlying3 (zv := .int .i64 0) (by kernel_rfl) hb hk z]
  split <;> rfl
theorem AtB.chg {S : Nat → Prop} {W W1 : World} {g b m : Nat} {n : Int} {bl : List (Int × List Int)} (h : AtB W g b m n bl) (hc : Chg S W W1) (hg : ¬ S g) (hb : ¬ S b) (hm : ¬ S m) : AtB W1 g b m n bl := by
  obtain ⟨H, h1, h2⟩ := h
  obtain ⟨es, cl, h3, h4⟩ := h1.places
  exact ⟨H, ⟨(hc.block g (blk_lt h1.head) hg).trans h1.head, (hc.block b (blk_lt h1.words) hb).trans h1.words, es, cl, (hc.block m (blk_lt h3) hm).trans h3, h4⟩, h2⟩
theorem layC (g b m : Nat) (n : Int) (bl : List (Int × List Int)) (tag : Int) (A : Option Addr) (c : Nat) (l : List Int) (W : World) (h : AtB W g b m n bl) (h0 : 0 ≤ tag) (h1 : tag ≤ 201) (hroom : topB 1 bl + l.length ≤ n)
    (hr : ReadsInt W .i64 A l.length l) (hA : ∀ ad, A = some ad → 0 < l.length → ad.block ≠ b) :
    Calls Try.prog 65 #[.pointer (some ⟨g, 0, none⟩), .int .i64 tag, .slice A l.length c] W fun e w' => e = .returned (.int .i64 (topB 1 bl)) ∧ AtB w' g b m n (bl ++ [(tag, l)]) ∧ Chg (Its g b m) W w' := by
  obtain ⟨H, a1, a2⟩ := h
  have hwf := a2.wf
  have t1 := hwf.top1
  have t2 := hwf.top2
  have hr' := a2.room
  have htop := a2.top
  obtain ⟨t, ht⟩ := Int.eq_ofNat_of_zero_le (show 0 ≤ H.top by omega)
  refine (lay_calls g b m t H tag A c l W a1 ht (by omega) hwf.len (fun hk => by have := hwf.blk' _ hk; omega) h0 (by omega) hr hA).mono ?_
  rintro e w' ⟨rfl, ha, hc⟩
  refine ⟨by rw [← htop, ht], ⟨H.lay tag l, ?_, a2.lay tag l h0 h1 hroom⟩, hc⟩
  have e1 : H.lay tag l = ⟨laid H.ws t (l.length * 256 + tag) l, (t + 1 + l.length : Nat), H.ks ++ [(t : Int)]⟩ := by
    unfold PH.lay
    rw [ht, Int.toNat_natCast]
    congr 1
  rw [e1]
  exact ha
theorem placeC (g b m : Nat) (n : Int) (bl : List (Int × List Int)) (z : Int) (W : World) (h : AtB W g b m n bl) :
    Calls Try.prog 49 #[.pointer (some ⟨g, 0, none⟩), .int .i64 z] W fun e w' => e = .returned (.int .i64 (match findB 1 bl z with | none => 0 | some _ => z / 2)) ∧ Drawn0 W w' := by
  obtain ⟨H, a1, a2⟩ := h
  have e : H.place z = match findB 1 bl z with | none => 0 | some _ => z / 2 := by
    cases hf : findB 1 bl z with
    | none => exact a2.no z hf
    | some y => exact (a2.yes z y hf).1
  rw [← e]
  exact place_calls g b m H z W a1
/-- A block's fields, where they lie. -/
theorem spanC (g b m : Nat) (n : Int) (bl : List (Int × List Int)) (z : Int) (y : Int × List Int) (hy : findB 1 bl z = some y) (W : World) (h : AtB W g b m n bl) :
    Calls Try.prog 51 #[.pointer (some ⟨g, 0, none⟩), .int .i64 (z / 2)] W fun e w' => e = .returned (.slice (some (cutAt b ((z / 2).toNat + 1) y.2.length)) y.2.length y.2.length) ∧ Drawn0 W w' := by
  obtain ⟨H, a1, a2⟩ := h
  obtain ⟨c1, c2, c3, c4, c5, c6⟩ := a2.yes z y hy
  have hb := a2.wf.blk _ c2
  generalize z / 2 = p at *
  obtain ⟨q, rfl⟩ := Int.eq_ofNat_of_zero_le (show 0 ≤ p by omega)
  have := span_calls g b m H q W a1 (by omega) (by omega) (by omega) a2.wf.len
  rw [show (rd H.ws q / 256).toNat = y.2.length by omega] at this
  exact this
theorem span_readsB {W : World} {g b m : Nat} {n : Int} {bl : List (Int × List Int)} {z : Int} {y : Int × List Int} (hy : findB 1 bl z = some y) (h : AtB W g b m n bl) : ReadsInt W .i64 (some (cutAt b ((z / 2).toNat + 1) y.2.length)) y.2.length y.2 := by
  obtain ⟨H, a1, a2⟩ := h
  obtain ⟨c1, c2, c3, c4, c5, c6⟩ := a2.yes z y hy
  have hb := a2.wf.blk _ c2
  have := span_reads a1 (z / 2).toNat y.2.length (by omega) a2.wf.len
  unfold PH.fields at c6
  rw [if_neg (by omega), show (rd H.ws (z / 2) / 256).toNat = y.2.length by omega] at c6
  rw [c6] at this
  exact this
/-- A block's head word, as code finds it. -/
theorem headB {W : World} {g b m : Nat} {n : Int} {bl : List (Int × List Int)} {z : Int} {y : Int × List Int} (hy : findB 1 bl z = some y) (h : AtB W g b m n bl) : ∃ L v, W.cell? ⟨g, 0, none⟩ = some (.slice (some ⟨b, 0, none⟩) L L) ∧ W.cell? ⟨b, (z / 2).toNat, none⟩ = some (.int .i64 v) ∧ 0 ≤ z / 2 ∧ z / 2 < (L : Int) ∧ 1 ≤ z / 2 ∧ v.tmod 256 = y.1 ∧ 0 ≤ y.1 ∧ y.1 ≤ 201 := by
  obtain ⟨H, a1, a2⟩ := h
  obtain ⟨c1, c2, c3, c4, c5, c6⟩ := a2.yes z y hy
  have hb := a2.wf.blk _ c2
  refine ⟨H.ws.length, rd H.ws (z / 2), (blk_cell a1.head 0).trans rfl, word_cell a1 _ (by omega) (by omega), by omega, by omega, by omega, ?_, c3, c4⟩
  rw [c5, Int.tmod_eq_emod_of_nonneg (by omega)]
  omega

/-- While blocks are moved: the heap they come from, the heap they go to, where they went; and the boxes of these three. -/
structure Mv (W : World) (g b m : Nat) (n : Int) (bl : List (Int × List Int)) (g' b' m' : Nat) (n' : Int) (q ch cn ct : Nat) (s : List (Int × List Int) × (Int → Int) × List Int) : Prop where
  from_ : AtB W g b m n bl
  to_ : AtB W g' b' m' n' s.1
  map : ∃ es cl, W.heap[q]? = some (.map es cl) ∧ Keys (fun k => .int .i64 (s.2.1 k)) es s.2.2
  h1 : W.heap[ch]? = some (.cells #[.pointer (some ⟨g, 0, none⟩)] 31 (0, 0))
  h2 : W.heap[cn]? = some (.cells #[.map (some q)] 91 (0, 0))
  h3 : W.heap[ct]? = some (.cells #[.pointer (some ⟨g', 0, none⟩)] 31 (0, 0))
  apart : ∀ k, (k = g' ∨ k = b' ∨ k = m' ∨ k = q) → k ≠ g ∧ k ≠ b ∧ k ≠ m ∧ k ≠ ch ∧ k ≠ cn ∧ k ≠ ct
  alone : q ≠ g' ∧ q ≠ b' ∧ q ≠ m'
  went : ∀ k ∈ s.2.2, 1 ≤ s.2.1 k ∧ s.2.1 k ≤ 100000
abbrev Moves (g' b' m' q : Nat) : Nat → Prop := fun k => k = g' ∨ k = b' ∨ k = m' ∨ k = q
theorem moves_of {g' b' m' q k : Nat} (h : Its g' b' m' k) : Moves g' b' m' q k := by
  rcases h with h | h | h <;> simp [Moves, h]
section
variable {W W1 : World} {g b m : Nat} {n : Int} {bl : List (Int × List Int)} {g' b' m' : Nat} {n' : Int} {q ch cn ct : Nat} {s : List (Int × List Int) × (Int → Int) × List Int}
theorem Mv.drawn (h : Mv W g b m n bl g' b' m' n' q ch cn ct s) (hd : Drawn0 W W1) : Mv W1 g b m n bl g' b' m' n' q ch cn ct s := by
  obtain ⟨es, cl, e1, e2⟩ := h.map
  exact ⟨h.from_.drawn hd, h.to_.drawn hd, ⟨es, cl, blk_drawn e1 hd, e2⟩, blk_drawn h.h1 hd, blk_drawn h.h2 hd, blk_drawn h.h3 hd, h.apart, h.alone, h.went⟩
theorem Mv.below (h : Mv W g b m n bl g' b' m' n' q ch cn ct s) (hb : Below W.heap.size W W1) : Mv W1 g b m n bl g' b' m' n' q ch cn ct s := by
  obtain ⟨es, cl, e1, e2⟩ := h.map
  exact ⟨h.from_.below hb, h.to_.below hb, ⟨es, cl, blk_below e1 hb, e2⟩, blk_below h.h1 hb, blk_below h.h2 hb, blk_below h.h3 hb, h.apart, h.alone, h.went⟩
theorem Mv.cell1 (h : Mv W g b m n bl g' b' m' n' q ch cn ct s) : W.cell? ⟨ch, 0, none⟩ = some (.pointer (some ⟨g, 0, none⟩)) := (blk_cell h.h1 0).trans rfl
theorem Mv.cell2 (h : Mv W g b m n bl g' b' m' n' q ch cn ct s) : W.cell? ⟨cn, 0, none⟩ = some (.map (some q)) := (blk_cell h.h2 0).trans rfl
theorem Mv.cell3 (h : Mv W g b m n bl g' b' m' n' q ch cn ct s) : W.cell? ⟨ct, 0, none⟩ = some (.pointer (some ⟨g', 0, none⟩)) := (blk_cell h.h3 0).trans rfl
theorem Mv.look (h : Mv W g b m n bl g' b' m' n' q ch cn ct s) (z : Int) : (Instr.lookup 91 (.map (some q)) (.int .i64 z) false).run Try.prog W = .ok (.int .i64 (if z ∈ s.2.2 then s.2.1 z else 0)) W := by
  obtain ⟨es, cl, e1, e2⟩ := h.map
  exact look91 q cl es s.2.2 s.2.1 W e1 e2 z
/-- Behind a block that was laid. -/
theorem Mv.laid (h : Mv W g b m n bl g' b' m' n' q ch cn ct s) (hc : Chg (Its g' b' m') W W1) (bl2 : List (Int × List Int)) (h2 : AtB W1 g' b' m' n' bl2) : Mv W1 g b m n bl g' b' m' n' q ch cn ct (bl2, s.2) := by
  obtain ⟨es, cl, e1, e2⟩ := h.map
  have hap : ∀ k, Its g' b' m' k → k ≠ g ∧ k ≠ b ∧ k ≠ m ∧ k ≠ ch ∧ k ≠ cn ∧ k ≠ ct := fun k hk => h.apart k (by rcases hk with hk | hk | hk <;> simp [hk])
  have hal := h.alone
  refine ⟨h.from_.chg hc (fun s => (hap _ s).1 rfl) (fun s => (hap _ s).2.1 rfl) (fun s => (hap _ s).2.2.1 rfl), h2, ⟨es, cl, (hc.block q (blk_lt e1) (by simp only [Its]; omega)).trans e1, e2⟩,
    (hc.block ch (blk_lt h.h1) (fun s => (hap _ s).2.2.2.1 rfl)).trans h.h1, (hc.block cn (blk_lt h.h2) (fun s => (hap _ s).2.2.2.2.1 rfl)).trans h.h2, (hc.block ct (blk_lt h.h3) (fun s => (hap _ s).2.2.2.2.2 rfl)).trans h.h3, h.apart, h.alone, h.went⟩
/-- Behind a place that was noted. -/
theorem Mv.put (h : Mv W g b m n bl g' b' m' n' q ch cn ct s) (z : Int) (hz : z ∉ s.2.2) (x : Int) (h0 : 1 ≤ x) (h1 : x ≤ 100000) :
    ∃ W', (Instr.mapUpdate 91 (.map (some q)) (.int .i64 z) (.int .i64 x)).run Try.prog W = .ok () W' ∧ Mv W' g b m n bl g' b' m' n' q ch cn ct (s.1, (fun k => if k = z then x else s.2.1 k), s.2.2 ++ [z]) ∧ Chg (Moves g' b' m' q) W W' := by
  obtain ⟨es, cl, e1, e2⟩ := h.map
  obtain ⟨W', r1, r2, r3⟩ := put91 q cl es s.2.2 s.2.1 W e1 e2 z hz x
  have hap := h.apart q (by simp)
  have hal := h.alone
  refine ⟨W', r1, ⟨h.from_.chg r3 (by omega) (by omega) (by omega), h.to_.chg r3 (by omega) (by omega) (by omega), r2, (r3.block ch (blk_lt h.h1) (by omega)).trans h.h1, (r3.block cn (blk_lt h.h2) (by omega)).trans h.h2, (r3.block ct (blk_lt h.h3) (by omega)).trans h.h3, h.apart, h.alone, fun k hk => ?_⟩, r3.mono (fun k hk => .inr (.inr (.inr hk)))⟩
  show 1 ≤ (if k = z then x else s.2.1 k) ∧ (if k = z then x else s.2.1 k) ≤ 100000
  by_cases e : k = z
  · rw [if_pos e]
    exact ⟨h0, h1⟩
  · rw [if_neg e]
    rcases List.mem_append.1 hk with hk | hk
    · exact h.went k hk
    · exact absurd (List.mem_singleton.1 hk) e
end

theorem Chg.cell {S : Nat → Prop} {W W1 : World} (h : Chg S W W1) {a : Addr} {v : Value} (hc : W.cell? a = some v) (hl : a.block < W.heap.size) (hs : ¬ S a.block) : W1.cell? a = some v := (World.cell?_of_block (w := W) (h.block a.block hl hs)).trans hc
theorem AtB.sizes {W : World} {g b m : Nat} {n : Int} {bl : List (Int × List Int)} (h : AtB W g b m n bl) : g < W.heap.size ∧ b < W.heap.size := by
  obtain ⟨H, h1, h2⟩ := h
  exact ⟨blk_lt h1.head, blk_lt h1.words⟩
/-- The cells that move reads stay while blocks are laid. -/
theorem Mv.held {W W1 : World} {g b m : Nat} {n : Int} {bl : List (Int × List Int)} {g' b' m' : Nat} {n' : Int} {q ch cn ct : Nat} {s : List (Int × List Int) × (Int → Int) × List Int} (h : Mv W g b m n bl g' b' m' n' q ch cn ct s) (hc : Chg (Moves g' b' m' q) W W1)
    {L p : Nat} {v : Int} (c0 : W.cell? ⟨g, 0, none⟩ = some (.slice (some ⟨b, 0, none⟩) L L)) (c1 : W.cell? ⟨b, p, none⟩ = some (.int .i64 v)) :
    W1.cell? ⟨ch, 0, none⟩ = some (.pointer (some ⟨g, 0, none⟩)) ∧ W1.cell? ⟨cn, 0, none⟩ = some (.map (some q)) ∧ W1.cell? ⟨ct, 0, none⟩ = some (.pointer (some ⟨g', 0, none⟩)) ∧ W1.cell? ⟨g, 0, none⟩ = some (.slice (some ⟨b, 0, none⟩) L L) ∧ W1.cell? ⟨b, p, none⟩ = some (.int .i64 v) :=
  ⟨hc.cell h.cell1 (blk_lt h.h1) (fun s => (h.apart _ s).2.2.2.1 rfl), hc.cell h.cell2 (blk_lt h.h2) (fun s => (h.apart _ s).2.2.2.2.1 rfl), hc.cell h.cell3 (blk_lt h.h3) (fun s => (h.apart _ s).2.2.2.2.2 rfl),
    hc.cell c0 h.from_.sizes.1 (fun s => (h.apart _ s).1 rfl), hc.cell c1 h.from_.sizes.2 (fun s => (h.apart _ s).2.1 rfl)⟩

/-- What move does. -/
def mvB (bl : List (Int × List Int)) (s : List (Int × List Int) × (Int → Int) × List Int) (w : Int) : Int × (List (Int × List Int) × (Int → Int) × List Int) :=
  match findB 1 bl w with
  | none => (w, s)
  | some y => if w / 2 ∈ s.2.2 then (2 * s.2.1 (w / 2), s) else (2 * topB 1 s.1, (s.1 ++ [y], (fun k => if k = w / 2 then topB 1 s.1 else s.2.1 k), s.2.2 ++ [w / 2]))
theorem AtB.bound {W : World} {g b m : Nat} {n : Int} {bl : List (Int × List Int)} (h : AtB W g b m n bl) : 1 ≤ topB 1 bl ∧ topB 1 bl ≤ n + 1 ∧ n + 1 ≤ 100000 := by
  obtain ⟨H, a1, a2⟩ := h
  have t1 := a2.wf.top1
  have t2 := a2.wf.top2
  have hr' := a2.room
  have htop := a2.top
  have := a2.wf.len
  omega

set_option maxHeartbeats 4000000 in
set_option maxRecDepth 100000 in
theorem move_calls (g b m : Nat) (n : Int) (bl : List (Int × List Int)) (g' b' m' : Nat) (n' : Int) (q ch cn ct : Nat) (s : List (Int × List Int) × (Int → Int) × List Int) (w : Int) (W : World) (h : Mv W g b m n bl g' b' m' n' q ch cn ct s)
    (hroom : ∀ y, findB 1 bl w = some y → w / 2 ∉ s.2.2 → topB 1 s.1 + y.2.length ≤ n') :
    Calls Try.prog 64 #[.int .i64 w, .pointer (some ⟨ch, 0, none⟩), .pointer (some ⟨cn, 0, none⟩), .pointer (some ⟨ct, 0, none⟩)] W fun e w' => e = .returned (.int .i64 (mvB bl s w).1) ∧ Mv w' g b m n bl g' b' m' n' q ch cn ct (mvB bl s w).2 ∧ Chg (Moves g' b' m' q) W w' := by
  have HPL := Aside0.mk (placeC g b m n bl w W h.from_)
  have hc1 := h.cell1
  have HM := Aside0.mk h
  unfold mvB
  cases hf : findB 1 bl w with
  | none =>
    rw [hf] at HPL
    simp only at HPL ⊢
    clear hf hroom h
    go_enter Try.func64, Try.ntmps64
    go_wp2_with (go_at_call 49; (with_reducible refine HPL.out.mono ?_); rintro e w1 ⟨rfl, hd⟩; have HD := Aside0.mk hd; clear hd)
    go_ret
    exact ⟨rfl, HM.out.drawn HD.out, Chg.of_below _ (below_drawn (Below.refl _ _) HD.out)⟩
  | some y =>
    rw [hf] at HPL
    simp only at HPL ⊢
    have hbd := h.to_.bound
    have hneg := (headB hf h.from_)
    obtain ⟨_, _, _, _, hp0, hp1, hp2, _, ht0, ht1⟩ := hneg
    have hz0 : ((w / 2) == 0) = false := beq_eq_false_iff_ne.2 (by omega)
    by_cases hk : w / 2 ∈ s.2.2
    · rw [if_pos hk]
      have hw := h.went _ hk
      have HPT : Aside0 (ints_Point.f (s.2.1 (w / 2)) = some (2 * s.2.1 (w / 2))) := ⟨by rw [point_eq, if_pos ⟨by omega, by omega⟩]⟩
      have hn0 : (s.2.1 (w / 2) == 0) = false := beq_eq_false_iff_ne.2 (by omega)
      have HLK := Aside0.mk (fun W (h : Mv W g b m n bl g' b' m' n' q ch cn ct s) => by have := h.look (w / 2); rw [if_pos hk] at this; exact this)
      clear hk hw hbd hf hroom h
      generalize s.2.1 (w / 2) = v at *
      generalize w / 2 = p at *
      go_enter Try.func64, Try.ntmps64
      go_wp2_with (first | (go_at_call 49; (with_reducible refine HPL.out.mono ?_); rintro e w1 ⟨rfl, hd⟩; have HM1 := Aside0.mk (HM.out.drawn hd); have HD := Aside0.mk hd; clear hd; have hc12 := HM1.out.cell2; have hl1 := HLK.out _ HM1.out) | (go_at_call 66; (with_reducible refine (ints_Point.calls v (2 * v) _ HPT.out).mono ?_); rintro e w2 ⟨rfl, hd⟩; have HD2 := Aside0.mk hd; clear hd))
      go_ret
      exact ⟨rfl, HM1.out.drawn HD2.out, Chg.of_below _ (below_drawn (below_drawn (Below.refl _ _) HD.out) HD2.out)⟩
    · rw [if_neg hk]
      have hr := hroom y hf hk
      have HPT : Aside0 (ints_Point.f (topB 1 s.1) = some (2 * topB 1 s.1)) := ⟨by rw [point_eq, if_pos ⟨by omega, by omega⟩]⟩
      have HLK := Aside0.mk (fun W (h : Mv W g b m n bl g' b' m' n' q ch cn ct s) => by have := h.look (w / 2); rw [if_neg hk] at this; exact this)
      have HSP := Aside0.mk (fun W (h : AtB W g b m n bl) => spanC g b m n bl w y hf W h)
      have HHD := Aside0.mk (fun W (h : AtB W g b m n bl) => headB (W := W) hf h)
      have HRD := Aside0.mk (fun W (h : AtB W g b m n bl) => span_readsB (W := W) hf h)
      have hap := h.apart b' (by simp)
      have HLAY := Aside0.mk (fun W (h : AtB W g' b' m' n' s.1) hr' => layC g' b' m' n' s.1 y.1 (some (cutAt b ((w / 2).toNat + 1) y.2.length)) y.2.length y.2 W h ht0 ht1 hr hr' (fun ad e _ => by cases e; exact fun e => hap.2.1 e.symm))
      have HPUT := Aside0.mk (fun W (h : Mv W g b m n bl g' b' m' n' q ch cn ct (s.1 ++ [(y.1, y.2)], s.2)) => h.put (w / 2) hk (topB 1 s.1) hbd.1 (by omega))
      have HLK2 := Aside0.mk (fun W (h : Mv W g b m n bl g' b' m' n' q ch cn ct (s.1 ++ [(y.1, y.2)], (fun k => if k = w / 2 then topB 1 s.1 else s.2.1 k), s.2.2 ++ [w / 2])) => by have := h.look (w / 2); rw [if_pos (by simp)] at this; simpa using this)
      clear hk hbd hf hroom h hr hap
      generalize hv : topB 1 s.1 = v at *
      generalize w / 2 = p at *
      have hp0' : (0 : Int) ≤ p := hp0
      go_enter Try.func64, Try.ntmps64
      go_wp2_with (go_at_call 49; (with_reducible refine HPL.out.mono ?_); rintro e w1 ⟨rfl, hd⟩; have HM1 := Aside0.mk (HM.out.drawn hd); have HD := Aside0.mk hd; clear hd; have hc11 := HM1.out.cell1; have hc12 := HM1.out.cell2; have hc13 := HM1.out.cell3; have hl1 := HLK.out _ HM1.out; obtain ⟨L, hv0, hh0, hh1, _, hh2, _, hh3, _, _⟩ := HHD.out _ HM1.out.from_)
      have HMD := Aside0.mk (HM1.out.drawn (⟨⟨1, rfl⟩⟩ : Drawn0 w1 w1.drew))
      have HC1 := Aside0.mk (Chg.of_below (Moves g' b' m' q) (below_drawn (Below.refl w1.heap.size w1) (⟨⟨1, rfl⟩⟩ : Drawn0 w1 w1.drew)))
      have HK := Aside0.mk (fun W' (hc : Chg (Moves g' b' m' q) w1 W') => HM1.out.held hc hh0 hh1)
      go_region_held3 (fun w' => w'.cell? ⟨ch, 0, none⟩ = some (.pointer (some ⟨g, 0, none⟩)) ∧ w'.cell? ⟨cn, 0, none⟩ = some (.map (some q)) ∧ w'.cell? ⟨ct, 0, none⟩ = some (.pointer (some ⟨g', 0, none⟩)) ∧ w'.cell? ⟨g, 0, none⟩ = some (.slice (some ⟨b, 0, none⟩) L L) ∧ w'.cell? ⟨b, p.toNat, none⟩ = some (.int .i64 hv0))
        (first | exact HK.out _ HC1.out | exact HK.out _ HC2.out | exact HK.out _ HC3.out | exact HK.out _ HC4.out)
        (first | (go_at_call 51; (with_reducible refine (HSP.out _ HMD.out.from_).mono ?_); rintro e w2 ⟨rfl, hd⟩; have HM2 := Aside0.mk (HMD.out.drawn hd); have HC2 := Aside0.mk (HC1.out.trans (Chg.of_below (Moves g' b' m' q) (below_drawn (Below.refl _ _) hd))); clear hd) | (go_at_call 65; (with_reducible refine (HLAY.out _ HM2.out.to_ (HRD.out _ HM2.out.from_)).mono ?_); rintro e w3 ⟨rfl, ha, hc⟩; have HM3 := Aside0.mk (HM2.out.laid hc _ ha); have HC3 := Aside0.mk (HC2.out.trans (hc.mono (fun k hk => moves_of hk))); obtain ⟨w4, hrun, hm4, hc4⟩ := HPUT.out _ HM3.out; have hc42 := hm4.cell2; have hl4 := HLK2.out _ hm4; have HM4 := Aside0.mk hm4; have HC4 := Aside0.mk (HC3.out.trans hc4); clear ha hc hm4 hc4))
      go_wp2_with (go_at_call 66; (with_reducible refine (ints_Point.calls v (2 * v) _ HPT.out).mono ?_); rintro e w5 ⟨rfl, hd⟩; have HD5 := Aside0.mk hd; clear hd)
      go_ret
      exact ⟨rfl, HM4.out.drawn HD5.out, ((Chg.of_below _ (below_drawn (Below.refl _ _) HD.out)).trans HC4.out).trans (Chg.of_below _ (below_drawn (Below.refl _ _) HD5.out))⟩
end Go.Proofs.Ytkmoneccehbncaa.Heap
