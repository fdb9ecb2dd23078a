/- The walks of PrimsMake and PrimsTold, and deeds that came in; no condition but what each theorem states. -/
import Derived.Test.YtkmoneccehbncaaGC
import Derived.Test.YtkmoneccehbncaaPrint2
import Derived.WalkKit
import Derived.ProofKit
import Derived.OpenShut
import Derived.ShutString
import Derived.ChangeOld
import Derived.Below
import Derived.SizedLaws
/- selvagelaw16.does: a deed of both heaps answers alike; no condition but what each theorem states. -/
namespace Go.Proofs.Ytkmoneccehbncaa.Heap
open Go.RowKit Go.Proofs.YtkmoneccehbncaaW.PrintWords Go.Proofs.YtkmoneccehbncaaW.PrintLast Go.Proofs.YtkmoneccehbncaaW.PrintMore Go.Proofs.Ytkmoneccehbncaa.Print Go.Proofs.Ytkmoneccehbncaa.Ints
set_option linter.unusedVariables false
set_option linter.unusedSimpArgs false

/-- Which blocks the reference's heap may write. -/
abbrev Okr (B g b m r : Nat) : Nat → Prop := fun k => B ≤ k ∧ k ≠ r ∧ k ≠ g ∧ k ≠ b ∧ k ≠ m
/-- Both heaps, with the same blocks; B: which blocks are elder than both. -/
structure Both (W : World) (B g b m r : Nat) (bl : List (Int × List Int)) : Prop where
  hh : AtB W g b m 400 bl
  rr : AtRB W B (Okr B g b m r) r 400 bl
  wide : Wide bl
  ne : r ≠ g ∧ r ≠ b ∧ r ≠ m
  base : B ≤ g ∧ B ≤ b ∧ B ≤ m
  lt : g < W.heap.size ∧ b < W.heap.size ∧ m < W.heap.size
section
variable {W W1 : World} {B g b m r : Nat} {bl : List (Int × List Int)}
theorem Both.below (h : Both W B g b m r bl) (hb : Below W.heap.size W W1) : Both W1 B g b m r bl :=
  ⟨h.hh.below hb, h.rr.below hb, h.wide, h.ne, h.base, by have := hb.size; have := h.lt; omega⟩
theorem AtRB.its (h : AtRB W B (Okr B g b m r) r 400 bl) (hne : r ≠ g ∧ r ≠ b ∧ r ≠ m) (hc : Chg (Its g b m) W W1) : AtRB W1 B (Okr B g b m r) r 400 bl :=
  h.chg hc (by simp only [Its]; omega) (fun k hk hs => by simp only [Its, Okr] at hk hs; omega)
theorem AtB.okr {n : Int} (h : AtB W g b m n bl) (hne : r ≠ g ∧ r ≠ b ∧ r ≠ m) (hc : Chg (fun k => k = r ∨ Okr B g b m r k) W W1) : AtB W1 g b m n bl :=
  h.chg hc (by simp only [Okr]; omega) (by simp only [Okr]; omega) (by simp only [Okr]; omega)
theorem Both.fresh (h : Both W B g b m r bl) : ∀ k, W.heap.size ≤ k → Okr B g b m r k := fun k hk => by
  have := h.lt
  have := h.rr.base
  simp only [Okr]
  omega
theorem topB_take : ∀ (bl : List (Int × List Int)) (a : Int) (k : Nat), topB a (bl.take k) ≤ topB a bl
  | bl, a, 0 => topB_le bl a
  | [], a, k + 1 => Int.le_refl a
  | x :: t, a, k + 1 => by rw [List.take_succ_cons, topB, topB]; exact topB_take t _ k
theorem wordR_wide (h : Both W B g b m r bl) (z : Int) (hz : I64 z) : I64 (wordR bl z) := by
  unfold wordR
  split
  · have h1 := (h.hh.bound).2.1
    have h2 := topB_take bl 1 ((-(z + 1)) % bl.length).toNat
    have h3 := topB_le (bl.take ((-(z + 1)) % bl.length).toNat) 1
    unfold I64
    omega
  · exact hz
theorem Wide.make (h : Wide bl) (n tag : Int) (l : List Int) (hl : ∀ x ∈ l, I64 x) : Wide (makeB n bl tag l).2.2 := by
  unfold makeB
  by_cases h1 : oddB bl tag l = true
  · rw [if_pos h1]; exact h
  · rw [if_neg h1]
    have h3 : l.length ≤ 60 := by
      rcases Nat.lt_or_ge 60 l.length with h4 | h4
      · exact absurd (by unfold oddB; rw [decide_eq_true h4]; simp) h1
      · exact h4
    by_cases h2 : n < topB 1 bl + l.length
    · rw [if_pos h2]; exact h
    · rw [if_neg h2]
      intro y hy
      rcases List.mem_append.1 hy with hy | hy
      · exact h y hy
      · obtain rfl := List.mem_singleton.1 hy
        exact ⟨by simp only; omega, hl⟩
theorem chunks_wide (s : ByteArray) : ∀ (k j : Nat), ∀ x ∈ chunks s j k, I64 x
  | 0, j, x, h => by cases h
  | k + 1, j, x, h => by
    rw [chunks] at h
    rcases List.mem_cons.1 h with h | h
    · subst h
      have h1 := low_range s (7 * j) (min 7 (s.size - 7 * j))
      have h7 : 256 ^ (min 7 (s.size - 7 * j)) ≤ 256 ^ 7 := Nat.pow_le_pow_right (by decide) (by omega)
      have h6 : (256 : Nat) ^ 7 = 72057594037927936 := by decide
      rw [h6] at h7
      generalize 256 ^ (min 7 (s.size - 7 * j)) = P at *
      generalize low s (7 * j) (min 7 (s.size - 7 * j)) = y at *
      unfold I64
      omega
    · exact chunks_wide s k (j + 1) x h
theorem Wide.text (h : Wide bl) (n : Int) (s : ByteArray) : Wide (textB n bl s).2.2 := by
  unfold textB
  by_cases h1 : s.size ≤ 60
  · rw [if_pos h1]
    refine h.make n 201 _ (fun x hx => ?_)
    unfold pack at hx
    rcases List.mem_cons.1 hx with hx | hx
    · subst hx
      unfold I64
      omega
    · exact chunks_wide s _ _ x hx
  · rw [if_neg h1]; exact h
theorem Wide.join (h : Wide bl) (n x y : Int) : Wide (joinB n bl x y).2.2 := by
  unfold joinB
  split
  · split
    · split
      · exact h.text n _
      · exact h
    · exact h
  · exact h
theorem Wide.close (h : Wide bl) (n fn : Int) (l : List Int) (hl : ∀ x ∈ l, I64 x) : Wide (closeB n bl fn l).2.2 := by
  unfold closeB
  by_cases h1 : fn < 0 ∨ 2147483647 < fn
  · rw [if_pos h1]; exact h
  · rw [if_neg h1]
    refine h.make n 200 _ (fun x hx => ?_)
    rcases List.mem_cons.1 hx with hx | hx
    · subst hx
      unfold I64
      omega
    · exact hl x hx
theorem row_its {v : Value} {l : List Int} {W2 : World} (h : (Kd.int .i64).R 3 W W2.heap.size (fun _ => True) v l) (hl : g < W2.heap.size ∧ b < W2.heap.size ∧ m < W2.heap.size) (hc : Chg (Its g b m) W W1) : (Kd.int .i64).R 3 W1 W2.heap.size (fun _ => True) v l :=
  Kd.R_mono (Kd.R_step (Kd.R_mono (Kd.R_bound h) (fun k hk => hk.2.1)) (fun k hk hlt => hc.block k hlt (by simp only [Its]; omega))) (fun _ _ => trivial)
/-- Behind a deed of the program's heap and the same deed of the reference's. -/
theorem Both.both {W2 : World} {r1 : Int × Int × List (Int × List Int)} {e : Ending} (h : Both W B g b m r bl) (h1 : AtB W1 g b m 400 r1.2.2) (c1 : Chg (Its g b m) W W1) (h2 : Made W1 B (Okr B g b m r) r 400 r1 e W2) (hw : Wide r1.2.2) : Both W2 B g b m r r1.2.2 ∧ Chg (fun k => B ≤ k) W W2 ∧ e = .returned (.tuple #[.int .i64 r1.1, .int .i64 r1.2.1]) := by
  obtain ⟨e1, e2, e3⟩ := h2
  have hb := h.base
  have hr := h.rr.base
  refine ⟨⟨h1.okr h.ne e3, e2, hw, h.ne, h.base, by have := c1.size; have := e3.size; have := h.lt; omega⟩, ?_, e1⟩
  exact (c1.mono (fun k hk => by simp only [Its] at hk; omega)).trans (e3.mono (fun k hk => by simp only [Okr] at hk; omega))
/-- The words of a deed, as they are meant. -/
theorem words_wide (h : Both W B g b m r bl) (l : List Int) (hl : ∀ x ∈ l, I64 x) : ∀ x ∈ (l.take 61).map (wordR bl), I64 x := fun x hx => by
  obtain ⟨z, hz, rfl⟩ := List.mem_map.1 hx
  exact wordR_wide h z (hl z (List.mem_of_mem_take hz))
theorem wordB (z : Int) (hz : I64 z) (h : AtRB W B (Okr B g b m r) r 400 bl) :
    Calls Try.prog 26 #[.pointer (some ⟨r, 0, none⟩), .int .i64 z] W fun e w' => e = .returned (.int .i64 (wordR bl z)) ∧ Below W.heap.size W w' := by
  obtain ⟨bs, h1, h2, rfl⟩ := h
  exact wordRC z hz h2 h1
theorem wordsB (A : Option Addr) (c : Nat) (l : List Int) (hl : ∀ z ∈ l, I64 z) (hr : (Kd.int .i64).C W A l.length l) (hc : l.length ≤ c) (hA : ∀ ad, A = some ad → 0 < l.length → ad.block < B) (h : AtRB W B (Okr B g b m r) r 400 bl) :
    Calls Try.prog 42 #[.pointer (some ⟨r, 0, none⟩), .slice A l.length c] W fun e w' => ∃ v, e = .returned v ∧ Kd.R (Kd.int .i64) 3 w' W.heap.size (fun _ => True) v ((l.take 61).map (wordR bl)) ∧ Below W.heap.size W w' := by
  have hb := h.base
  obtain ⟨bs, h1, h2, rfl⟩ := h
  exact wordsRC A c l hl hr hc (fun ad e hp => by have := hA ad e hp; omega) h2 h1
end
theorem C_of_K {W : World} {A : Option Addr} {c : Nat} {L : List Int} {base : Nat} (h : (Kd.int .i64).R 3 W base (fun _ => True) (.slice A L.length c) L) : ReadsInt W .i64 A L.length L := by
  obtain ⟨A', c', e, _, _, hr, _⟩ := own_facts (Kd.own_of_R h)
  cases e
  exact hr
theorem row_ne {W W2 : World} {B g b m r : Nat} {bl : List (Int × List Int)} {A : Option Addr} {c : Nat} {L : List Int} (h : (Kd.int .i64).R 3 W W2.heap.size (fun _ => True) (.slice A L.length c) L) (hb : Both W2 B g b m r bl) (ad : Addr) (e : A = some ad) (hp : 0 < L.length) : ad.block ≠ b := by
  subst e
  obtain ⟨g0, cap, e, hge, _⟩ := Kd.R_form h hp
  cases e
  have := hb.lt
  simp only
  omega
set_option maxHeartbeats 8000000 in
set_option maxRecDepth 100000 in
theorem does0 {W : World} {B g b m r : Nat} {bl : List (Int × List Int)} (s : ByteArray) (a q : Int) (A : Option Addr) (c : Nat) (l : List Int) (h : Both W B g b m r bl) (hs : ¬ (s.size : Int) > 70) (ha : I64 a) (hq : I64 q) (hl : ∀ x ∈ l, I64 x) (hr : (Kd.int .i64).C W A l.length l) (hc : l.length ≤ c) (hA : ∀ ad, A = some ad → 0 < l.length → ad.block < B) :
    Calls Try.prog 16 #[.pointer (some ⟨g, 0, none⟩), .pointer (some ⟨r, 0, none⟩), .agg #[.int .i64 0, .string s, .int .i64 a, .int .i64 q, .slice A l.length c]] W fun e w' => e = .returned (.bool true) ∧ ∃ bl', Both w' B g b m r bl' ∧ Chg (fun k => B ≤ k) W w' := by
  have hu38 := Try.underlying38
  have HB0 := Aside0.mk (h.below (below_alloc (Below.refl W.heap.size W) (.cells #[.int .i64 0, .string s, .int .i64 a, .int .i64 q, .slice A l.length c] 38)))
  have HW0 := Aside0.mk (below_alloc (Below.refl W.heap.size W) (.cells #[.int .i64 0, .string s, .int .i64 a, .int .i64 q, .slice A l.length c] 38))
  have HWA := Aside0.mk (fun (W1 : World) h1 => wordB (W := W1) (B := B) (g := g) (b := b) (m := m) (r := r) (bl := bl) a ha h1)
  have HWQ := Aside0.mk (fun (W1 : World) h1 => wordB (W := W1) (B := B) (g := g) (b := b) (m := m) (r := r) (bl := bl) q hq h1)
  have HWL := Aside0.mk (fun (W1 : World) hr1 h1 => wordsB (W := W1) (B := B) (g := g) (b := b) (m := m) (r := r) (bl := bl) A c l hl hr1 hc hA h1)
  have HR := Aside0.mk hr
  have HPL : Aside0 (W.heap.size < (W.alloc (.cells #[.int .i64 0, .string s, .int .i64 a, .int .i64 q, .slice A l.length c] 38)).heap.size) := ⟨by rw [World.size_alloc]; omega⟩
  replace HPL := Aside0.mk (show W.heap.size < W.heap.size + 1 by omega)
  have HPN := Aside0.mk h.lt
  have HL := Aside0.mk (words_wide h l hl)
  have HLL := Aside0.mk (show ((l.take 61).map (wordR bl)).length ≤ 61 by simp; omega)
  have k0 := (blk_cell (heap_alloc_new W (.cells #[.int .i64 0, .string s, .int .i64 a, .int .i64 q, .slice A l.length c] 38)) 0).trans (rfl : _ = some (Value.int .i64 0))
  have k1 := (blk_cell (heap_alloc_new W (.cells #[.int .i64 0, .string s, .int .i64 a, .int .i64 q, .slice A l.length c] 38)) 1).trans (rfl : _ = some (Value.string s))
  have k2 := (blk_cell (heap_alloc_new W (.cells #[.int .i64 0, .string s, .int .i64 a, .int .i64 q, .slice A l.length c] 38)) 2).trans (rfl : _ = some (Value.int .i64 a))
  have k3 := (blk_cell (heap_alloc_new W (.cells #[.int .i64 0, .string s, .int .i64 a, .int .i64 q, .slice A l.length c] 38)) 3).trans (rfl : _ = some (Value.int .i64 q))
  have k4 := (blk_cell (heap_alloc_new W (.cells #[.int .i64 0, .string s, .int .i64 a, .int .i64 q, .slice A l.length c] 38)) 4).trans (rfl : _ = some (Value.slice A l.length c))
  have hwide := h.wide
  clear hr hc hA hl h ha hq
  generalize (l.take 61).map (wordR bl) = L at *
  have HP := Aside0.mk (fun W1 h1 => textC g b m 400 bl s W1 h1)
  have HQ := Aside0.mk (fun (W1 : World) h1 hk => textRB (W := W1) (B := B) (g := r) (ok := Okr B g b m r) (n := 400) (bl := bl) s h1 hk)
  have HWD := Aside0.mk (hwide.text 400 s)
  generalize textB 400 bl s = R at *
  have e1 : (R.1 == R.1) = true := beq_self_eq_true _
  have e2 : (R.2.1 == R.2.1) = true := beq_self_eq_true _
  go_enter Try.func16, Try.ntmps16
  go_wp2_with (first
    | (go_at_call 26; (refine (HWA.out _ HB0.out.rr).mono ?_); rintro e w1 ⟨rfl, hb⟩; have HB1 := Aside0.mk (HB0.out.below hb); have HW1 := Aside0.mk (below_then HW0.out HW0.out.size hb); have k0 := cell_below hb k0; have k1 := cell_below hb k1; have k2 := cell_below hb k2; have k3 := cell_below hb k3; have k4 := cell_below hb k4; clear hb HWA)
    | (go_at_call 26; (refine (HWQ.out _ HB1.out.rr).mono ?_); rintro e w2 ⟨rfl, hb⟩; have HB2 := Aside0.mk (HB1.out.below hb); have HW2 := Aside0.mk (below_then HW1.out HW1.out.size hb); have k0 := cell_below hb k0; have k1 := cell_below hb k1; have k2 := cell_below hb k2; have k3 := cell_below hb k3; have k4 := cell_below hb k4; clear hb HWQ)
    | (go_at_call 42; (refine (HWL.out _ (Kd.C_below HR.out HW2.out) HB2.out.rr).mono ?_); rintro e w3 ⟨v, rfl, hr, hb⟩; obtain ⟨A3, c3, e3⟩ := Kd.R_slice hr; subst e3; have HB3 := Aside0.mk (HB2.out.below hb); have HW3 := Aside0.mk (below_then HW2.out HW2.out.size hb); have HR3 := Aside0.mk hr; have k0 := cell_below hb k0; have k1 := cell_below hb k1; have k2 := cell_below hb k2; have k3 := cell_below hb k3; have k4 := cell_below hb k4; clear hb hr)
    | (go_at_call 23; (refine (HP.out _ HB3.out.hh).mono ?_); rintro e w4 ⟨rfl, hat, hc⟩; have HA4 := Aside0.mk hat; have HC4 := Aside0.mk hc; have HR4 := Aside0.mk (HB3.out.rr.its HB3.out.ne hc); have k1 := hc.cell k1 (World.block_lt_of_cell? _ _ k1) (fun hs => by have := HPN.out; simp only [Its] at hs; omega); have k2 := hc.cell k2 (World.block_lt_of_cell? _ _ k2) (fun hs => by have := HPN.out; simp only [Its] at hs; omega); clear hat hc)
    | (go_at_call 43; (refine (HQ.out _ HR4.out (fun k hk => HB3.out.fresh k (Nat.le_trans HC4.out.size hk))).mono ?_); rintro e w5 hm; obtain ⟨hB, hC, rfl⟩ := Both.both HB3.out HA4.out HC4.out hm HWD.out; have HB5 := Aside0.mk hB; have HC5 := Aside0.mk hC; clear hm hB hC))
  go_ret
  exact ⟨rfl, _, HB5.out, (Chg.of_below _ HW3.out).trans HC5.out⟩
set_option maxHeartbeats 8000000 in
set_option maxRecDepth 100000 in
theorem does1 {W : World} {B g b m r : Nat} {bl : List (Int × List Int)} (s : ByteArray) (a q : Int) (A : Option Addr) (c : Nat) (l : List Int) (h : Both W B g b m r bl) (hs : ¬ (s.size : Int) > 70) (ha : I64 a) (hq : I64 q) (hl : ∀ x ∈ l, I64 x) (hr : (Kd.int .i64).C W A l.length l) (hc : l.length ≤ c) (hA : ∀ ad, A = some ad → 0 < l.length → ad.block < B) :
    Calls Try.prog 16 #[.pointer (some ⟨g, 0, none⟩), .pointer (some ⟨r, 0, none⟩), .agg #[.int .i64 1, .string s, .int .i64 a, .int .i64 q, .slice A l.length c]] W fun e w' => e = .returned (.bool true) ∧ ∃ bl', Both w' B g b m r bl' ∧ Chg (fun k => B ≤ k) W w' := by
  have hu38 := Try.underlying38
  have HB0 := Aside0.mk (h.below (below_alloc (Below.refl W.heap.size W) (.cells #[.int .i64 1, .string s, .int .i64 a, .int .i64 q, .slice A l.length c] 38)))
  have HW0 := Aside0.mk (below_alloc (Below.refl W.heap.size W) (.cells #[.int .i64 1, .string s, .int .i64 a, .int .i64 q, .slice A l.length c] 38))
  have HWA := Aside0.mk (fun (W1 : World) h1 => wordB (W := W1) (B := B) (g := g) (b := b) (m := m) (r := r) (bl := bl) a ha h1)
  have HWQ := Aside0.mk (fun (W1 : World) h1 => wordB (W := W1) (B := B) (g := g) (b := b) (m := m) (r := r) (bl := bl) q hq h1)
  have HWL := Aside0.mk (fun (W1 : World) hr1 h1 => wordsB (W := W1) (B := B) (g := g) (b := b) (m := m) (r := r) (bl := bl) A c l hl hr1 hc hA h1)
  have HR := Aside0.mk hr
  have HPL : Aside0 (W.heap.size < (W.alloc (.cells #[.int .i64 1, .string s, .int .i64 a, .int .i64 q, .slice A l.length c] 38)).heap.size) := ⟨by rw [World.size_alloc]; omega⟩
  replace HPL := Aside0.mk (show W.heap.size < W.heap.size + 1 by omega)
  have HPN := Aside0.mk h.lt
  have HL := Aside0.mk (words_wide h l hl)
  have HLL := Aside0.mk (show ((l.take 61).map (wordR bl)).length ≤ 61 by simp; omega)
  have k0 := (blk_cell (heap_alloc_new W (.cells #[.int .i64 1, .string s, .int .i64 a, .int .i64 q, .slice A l.length c] 38)) 0).trans (rfl : _ = some (Value.int .i64 1))
  have k1 := (blk_cell (heap_alloc_new W (.cells #[.int .i64 1, .string s, .int .i64 a, .int .i64 q, .slice A l.length c] 38)) 1).trans (rfl : _ = some (Value.string s))
  have k2 := (blk_cell (heap_alloc_new W (.cells #[.int .i64 1, .string s, .int .i64 a, .int .i64 q, .slice A l.length c] 38)) 2).trans (rfl : _ = some (Value.int .i64 a))
  have k3 := (blk_cell (heap_alloc_new W (.cells #[.int .i64 1, .string s, .int .i64 a, .int .i64 q, .slice A l.length c] 38)) 3).trans (rfl : _ = some (Value.int .i64 q))
  have k4 := (blk_cell (heap_alloc_new W (.cells #[.int .i64 1, .string s, .int .i64 a, .int .i64 q, .slice A l.length c] 38)) 4).trans (rfl : _ = some (Value.slice A l.length c))
  have hwide := h.wide
  clear hr hc hA hl h ha hq
  generalize (l.take 61).map (wordR bl) = L at *
  generalize wordR bl a = a' at *
  generalize wordR bl q = q' at *
  have HP := Aside0.mk (fun W1 h1 => joinC g b m 400 bl a' q' W1 h1)
  have HQ := Aside0.mk (fun (W1 : World) h1 hk => joinRB (W := W1) (B := B) (g := r) (ok := Okr B g b m r) (n := 400) (bl := bl) a' q' hwide h1 hk)
  have HWD := Aside0.mk (hwide.join 400 a' q')
  generalize joinB 400 bl a' q' = R at *
  have e1 : (R.1 == R.1) = true := beq_self_eq_true _
  have e2 : (R.2.1 == R.2.1) = true := beq_self_eq_true _
  go_enter Try.func16, Try.ntmps16
  go_wp2_with (first
    | (go_at_call 26; (refine (HWA.out _ HB0.out.rr).mono ?_); rintro e w1 ⟨rfl, hb⟩; have HB1 := Aside0.mk (HB0.out.below hb); have HW1 := Aside0.mk (below_then HW0.out HW0.out.size hb); have k0 := cell_below hb k0; have k1 := cell_below hb k1; have k2 := cell_below hb k2; have k3 := cell_below hb k3; have k4 := cell_below hb k4; clear hb HWA)
    | (go_at_call 26; (refine (HWQ.out _ HB1.out.rr).mono ?_); rintro e w2 ⟨rfl, hb⟩; have HB2 := Aside0.mk (HB1.out.below hb); have HW2 := Aside0.mk (below_then HW1.out HW1.out.size hb); have k0 := cell_below hb k0; have k1 := cell_below hb k1; have k2 := cell_below hb k2; have k3 := cell_below hb k3; have k4 := cell_below hb k4; clear hb HWQ)
    | (go_at_call 42; (refine (HWL.out _ (Kd.C_below HR.out HW2.out) HB2.out.rr).mono ?_); rintro e w3 ⟨v, rfl, hr, hb⟩; obtain ⟨A3, c3, e3⟩ := Kd.R_slice hr; subst e3; have HB3 := Aside0.mk (HB2.out.below hb); have HW3 := Aside0.mk (below_then HW2.out HW2.out.size hb); have HR3 := Aside0.mk hr; have k0 := cell_below hb k0; have k1 := cell_below hb k1; have k2 := cell_below hb k2; have k3 := cell_below hb k3; have k4 := cell_below hb k4; clear hb hr)
    | (go_at_call 24; (refine (HP.out _ HB3.out.hh).mono ?_); rintro e w4 ⟨rfl, hat, hc⟩; have HA4 := Aside0.mk hat; have HC4 := Aside0.mk hc; have HR4 := Aside0.mk (HB3.out.rr.its HB3.out.ne hc); have k1 := hc.cell k1 (World.block_lt_of_cell? _ _ k1) (fun hs => by have := HPN.out; simp only [Its] at hs; omega); have k2 := hc.cell k2 (World.block_lt_of_cell? _ _ k2) (fun hs => by have := HPN.out; simp only [Its] at hs; omega); clear hat hc)
    | (go_at_call 44; (refine (HQ.out _ HR4.out (fun k hk => HB3.out.fresh k (Nat.le_trans HC4.out.size hk))).mono ?_); rintro e w5 hm; obtain ⟨hB, hC, rfl⟩ := Both.both HB3.out HA4.out HC4.out hm HWD.out; have HB5 := Aside0.mk hB; have HC5 := Aside0.mk hC; clear hm hB hC))
  go_ret
  exact ⟨rfl, _, HB5.out, (Chg.of_below _ HW3.out).trans HC5.out⟩
set_option maxHeartbeats 8000000 in
set_option maxRecDepth 100000 in
theorem does2 {W : World} {B g b m r : Nat} {bl : List (Int × List Int)} (s : ByteArray) (a q : Int) (A : Option Addr) (c : Nat) (l : List Int) (h : Both W B g b m r bl) (hs : ¬ (s.size : Int) > 70) (ha : I64 a) (hq : I64 q) (hl : ∀ x ∈ l, I64 x) (hr : (Kd.int .i64).C W A l.length l) (hc : l.length ≤ c) (hA : ∀ ad, A = some ad → 0 < l.length → ad.block < B) :
    Calls Try.prog 16 #[.pointer (some ⟨g, 0, none⟩), .pointer (some ⟨r, 0, none⟩), .agg #[.int .i64 2, .string s, .int .i64 a, .int .i64 q, .slice A l.length c]] W fun e w' => e = .returned (.bool true) ∧ ∃ bl', Both w' B g b m r bl' ∧ Chg (fun k => B ≤ k) W w' := by
  have hu38 := Try.underlying38
  have HB0 := Aside0.mk (h.below (below_alloc (Below.refl W.heap.size W) (.cells #[.int .i64 2, .string s, .int .i64 a, .int .i64 q, .slice A l.length c] 38)))
  have HW0 := Aside0.mk (below_alloc (Below.refl W.heap.size W) (.cells #[.int .i64 2, .string s, .int .i64 a, .int .i64 q, .slice A l.length c] 38))
  have HWA := Aside0.mk (fun (W1 : World) h1 => wordB (W := W1) (B := B) (g := g) (b := b) (m := m) (r := r) (bl := bl) a ha h1)
  have HWQ := Aside0.mk (fun (W1 : World) h1 => wordB (W := W1) (B := B) (g := g) (b := b) (m := m) (r := r) (bl := bl) q hq h1)
  have HWL := Aside0.mk (fun (W1 : World) hr1 h1 => wordsB (W := W1) (B := B) (g := g) (b := b) (m := m) (r := r) (bl := bl) A c l hl hr1 hc hA h1)
  have HR := Aside0.mk hr
  have HPL : Aside0 (W.heap.size < (W.alloc (.cells #[.int .i64 2, .string s, .int .i64 a, .int .i64 q, .slice A l.length c] 38)).heap.size) := ⟨by rw [World.size_alloc]; omega⟩
  replace HPL := Aside0.mk (show W.heap.size < W.heap.size + 1 by omega)
  have HPN := Aside0.mk h.lt
  have HL := Aside0.mk (words_wide h l hl)
  have HLL := Aside0.mk (show ((l.take 61).map (wordR bl)).length ≤ 61 by simp; omega)
  have k0 := (blk_cell (heap_alloc_new W (.cells #[.int .i64 2, .string s, .int .i64 a, .int .i64 q, .slice A l.length c] 38)) 0).trans (rfl : _ = some (Value.int .i64 2))
  have k1 := (blk_cell (heap_alloc_new W (.cells #[.int .i64 2, .string s, .int .i64 a, .int .i64 q, .slice A l.length c] 38)) 1).trans (rfl : _ = some (Value.string s))
  have k2 := (blk_cell (heap_alloc_new W (.cells #[.int .i64 2, .string s, .int .i64 a, .int .i64 q, .slice A l.length c] 38)) 2).trans (rfl : _ = some (Value.int .i64 a))
  have k3 := (blk_cell (heap_alloc_new W (.cells #[.int .i64 2, .string s, .int .i64 a, .int .i64 q, .slice A l.length c] 38)) 3).trans (rfl : _ = some (Value.int .i64 q))
  have k4 := (blk_cell (heap_alloc_new W (.cells #[.int .i64 2, .string s, .int .i64 a, .int .i64 q, .slice A l.length c] 38)) 4).trans (rfl : _ = some (Value.slice A l.length c))
  have hwide := h.wide
  clear hr hc hA hl h ha hq
  generalize (l.take 61).map (wordR bl) = L at *
  have HP := Aside0.mk (fun {A3 c3} W1 h1 hr1 => closeC g b m 400 bl a A3 c3 L W1 h1 hr1 (by have := HLL.out; omega))
  have HQ := Aside0.mk (fun {A3 c3} (W1 : World) h1 hk hr1 => closeRB (W := W1) (B := B) (g := r) (ok := Okr B g b m r) (n := 400) (bl := bl) a A3 c3 L hr1 (by have := HLL.out; omega) h1 hk)
  have HWD := Aside0.mk (hwide.close 400 a L HL.out)
  generalize closeB 400 bl a L = R at *
  have e1 : (R.1 == R.1) = true := beq_self_eq_true _
  have e2 : (R.2.1 == R.2.1) = true := beq_self_eq_true _
  go_enter Try.func16, Try.ntmps16
  go_wp2_with (first
    | (go_at_call 26; (refine (HWA.out _ HB0.out.rr).mono ?_); rintro e w1 ⟨rfl, hb⟩; have HB1 := Aside0.mk (HB0.out.below hb); have HW1 := Aside0.mk (below_then HW0.out HW0.out.size hb); have k0 := cell_below hb k0; have k1 := cell_below hb k1; have k2 := cell_below hb k2; have k3 := cell_below hb k3; have k4 := cell_below hb k4; clear hb HWA)
    | (go_at_call 26; (refine (HWQ.out _ HB1.out.rr).mono ?_); rintro e w2 ⟨rfl, hb⟩; have HB2 := Aside0.mk (HB1.out.below hb); have HW2 := Aside0.mk (below_then HW1.out HW1.out.size hb); have k0 := cell_below hb k0; have k1 := cell_below hb k1; have k2 := cell_below hb k2; have k3 := cell_below hb k3; have k4 := cell_below hb k4; clear hb HWQ)
    | (go_at_call 42; (refine (HWL.out _ (Kd.C_below HR.out HW2.out) HB2.out.rr).mono ?_); rintro e w3 ⟨v, rfl, hr, hb⟩; obtain ⟨A3, c3, e3⟩ := Kd.R_slice hr; subst e3; have HB3 := Aside0.mk (HB2.out.below hb); have HW3 := Aside0.mk (below_then HW2.out HW2.out.size hb); have HR3 := Aside0.mk hr; have k0 := cell_below hb k0; have k1 := cell_below hb k1; have k2 := cell_below hb k2; have k3 := cell_below hb k3; have k4 := cell_below hb k4; clear hb hr)
    | (go_at_call 32; (refine (HP.out _ HB3.out.hh (C_of_K HR3.out)).mono ?_); rintro e w4 ⟨rfl, hat, hc⟩; have HA4 := Aside0.mk hat; have HC4 := Aside0.mk hc; have HR4 := Aside0.mk (HB3.out.rr.its HB3.out.ne hc); have HRW := Aside0.mk (Kd.R_reads' (row_its HR3.out HB2.out.lt hc)).2.2; have k1 := hc.cell k1 (World.block_lt_of_cell? _ _ k1) (fun hs => by have := HPN.out; simp only [Its] at hs; omega); have k2 := hc.cell k2 (World.block_lt_of_cell? _ _ k2) (fun hs => by have := HPN.out; simp only [Its] at hs; omega); clear hat hc)
    | (go_at_call 45; (refine (HQ.out _ HR4.out (fun k hk => HB3.out.fresh k (Nat.le_trans HC4.out.size hk)) HRW.out).mono ?_); rintro e w5 hm; obtain ⟨hB, hC, rfl⟩ := Both.both HB3.out HA4.out HC4.out hm HWD.out; have HB5 := Aside0.mk hB; have HC5 := Aside0.mk hC; clear hm hB hC))
  go_ret
  exact ⟨rfl, _, HB5.out, (Chg.of_below _ HW3.out).trans HC5.out⟩
set_option maxHeartbeats 8000000 in
set_option maxRecDepth 100000 in
theorem does3 {W : World} {B g b m r : Nat} {bl : List (Int × List Int)} (s : ByteArray) (a q : Int) (A : Option Addr) (c : Nat) (l : List Int) (h : Both W B g b m r bl) (hs : ¬ (s.size : Int) > 70) (ha : I64 a) (hq : I64 q) (hl : ∀ x ∈ l, I64 x) (hr : (Kd.int .i64).C W A l.length l) (hc : l.length ≤ c) (hA : ∀ ad, A = some ad → 0 < l.length → ad.block < B) :
    Calls Try.prog 16 #[.pointer (some ⟨g, 0, none⟩), .pointer (some ⟨r, 0, none⟩), .agg #[.int .i64 3, .string s, .int .i64 a, .int .i64 q, .slice A l.length c]] W fun e w' => e = .returned (.bool true) ∧ ∃ bl', Both w' B g b m r bl' ∧ Chg (fun k => B ≤ k) W w' := by
  have hu38 := Try.underlying38
  have HB0 := Aside0.mk (h.below (below_alloc (Below.refl W.heap.size W) (.cells #[.int .i64 3, .string s, .int .i64 a, .int .i64 q, .slice A l.length c] 38)))
  have HW0 := Aside0.mk (below_alloc (Below.refl W.heap.size W) (.cells #[.int .i64 3, .string s, .int .i64 a, .int .i64 q, .slice A l.length c] 38))
  have HWA := Aside0.mk (fun (W1 : World) h1 => wordB (W := W1) (B := B) (g := g) (b := b) (m := m) (r := r) (bl := bl) a ha h1)
  have HWQ := Aside0.mk (fun (W1 : World) h1 => wordB (W := W1) (B := B) (g := g) (b := b) (m := m) (r := r) (bl := bl) q hq h1)
  have HWL := Aside0.mk (fun (W1 : World) hr1 h1 => wordsB (W := W1) (B := B) (g := g) (b := b) (m := m) (r := r) (bl := bl) A c l hl hr1 hc hA h1)
  have HR := Aside0.mk hr
  have HPL : Aside0 (W.heap.size < (W.alloc (.cells #[.int .i64 3, .string s, .int .i64 a, .int .i64 q, .slice A l.length c] 38)).heap.size) := ⟨by rw [World.size_alloc]; omega⟩
  replace HPL := Aside0.mk (show W.heap.size < W.heap.size + 1 by omega)
  have HPN := Aside0.mk h.lt
  have HL := Aside0.mk (words_wide h l hl)
  have HLL := Aside0.mk (show ((l.take 61).map (wordR bl)).length ≤ 61 by simp; omega)
  have k0 := (blk_cell (heap_alloc_new W (.cells #[.int .i64 3, .string s, .int .i64 a, .int .i64 q, .slice A l.length c] 38)) 0).trans (rfl : _ = some (Value.int .i64 3))
  have k1 := (blk_cell (heap_alloc_new W (.cells #[.int .i64 3, .string s, .int .i64 a, .int .i64 q, .slice A l.length c] 38)) 1).trans (rfl : _ = some (Value.string s))
  have k2 := (blk_cell (heap_alloc_new W (.cells #[.int .i64 3, .string s, .int .i64 a, .int .i64 q, .slice A l.length c] 38)) 2).trans (rfl : _ = some (Value.int .i64 a))
  have k3 := (blk_cell (heap_alloc_new W (.cells #[.int .i64 3, .string s, .int .i64 a, .int .i64 q, .slice A l.length c] 38)) 3).trans (rfl : _ = some (Value.int .i64 q))
  have k4 := (blk_cell (heap_alloc_new W (.cells #[.int .i64 3, .string s, .int .i64 a, .int .i64 q, .slice A l.length c] 38)) 4).trans (rfl : _ = some (Value.slice A l.length c))
  have hwide := h.wide
  clear hr hc hA hl h ha hq
  generalize (l.take 61).map (wordR bl) = L at *
  have HP := Aside0.mk (fun {A3 c3} W1 h1 hr1 hA1 => makeC g b m 400 bl a A3 c3 L W1 h1 hr1 (by have := HLL.out; omega) hA1)
  have HQ := Aside0.mk (fun {A3 c3} (W1 : World) h1 hk hr1 => makeRB (W := W1) (B := B) (g := r) (ok := Okr B g b m r) (n := 400) (bl := bl) a A3 c3 L hr1 (by have := HLL.out; omega) h1 hk)
  have HWD := Aside0.mk (hwide.make 400 a L HL.out)
  generalize makeB 400 bl a L = R at *
  have e1 : (R.1 == R.1) = true := beq_self_eq_true _
  have e2 : (R.2.1 == R.2.1) = true := beq_self_eq_true _
  go_enter Try.func16, Try.ntmps16
  go_wp2_with (first
    | (go_at_call 26; (refine (HWA.out _ HB0.out.rr).mono ?_); rintro e w1 ⟨rfl, hb⟩; have HB1 := Aside0.mk (HB0.out.below hb); have HW1 := Aside0.mk (below_then HW0.out HW0.out.size hb); have k0 := cell_below hb k0; have k1 := cell_below hb k1; have k2 := cell_below hb k2; have k3 := cell_below hb k3; have k4 := cell_below hb k4; clear hb HWA)
    | (go_at_call 26; (refine (HWQ.out _ HB1.out.rr).mono ?_); rintro e w2 ⟨rfl, hb⟩; have HB2 := Aside0.mk (HB1.out.below hb); have HW2 := Aside0.mk (below_then HW1.out HW1.out.size hb); have k0 := cell_below hb k0; have k1 := cell_below hb k1; have k2 := cell_below hb k2; have k3 := cell_below hb k3; have k4 := cell_below hb k4; clear hb HWQ)
    | (go_at_call 42; (refine (HWL.out _ (Kd.C_below HR.out HW2.out) HB2.out.rr).mono ?_); rintro e w3 ⟨v, rfl, hr, hb⟩; obtain ⟨A3, c3, e3⟩ := Kd.R_slice hr; subst e3; have HB3 := Aside0.mk (HB2.out.below hb); have HW3 := Aside0.mk (below_then HW2.out HW2.out.size hb); have HR3 := Aside0.mk hr; have k0 := cell_below hb k0; have k1 := cell_below hb k1; have k2 := cell_below hb k2; have k3 := cell_below hb k3; have k4 := cell_below hb k4; clear hb hr)
    | (go_at_call 46; (refine (HP.out _ HB3.out.hh (C_of_K HR3.out) (fun ad e hp => row_ne HR3.out HB2.out ad e hp)).mono ?_); rintro e w4 ⟨rfl, hat, hc⟩; have HA4 := Aside0.mk hat; have HC4 := Aside0.mk hc; have HR4 := Aside0.mk (HB3.out.rr.its HB3.out.ne hc); have HRW := Aside0.mk (Kd.R_reads' (row_its HR3.out HB2.out.lt hc)).2.2; have k1 := hc.cell k1 (World.block_lt_of_cell? _ _ k1) (fun hs => by have := HPN.out; simp only [Its] at hs; omega); have k2 := hc.cell k2 (World.block_lt_of_cell? _ _ k2) (fun hs => by have := HPN.out; simp only [Its] at hs; omega); clear hat hc)
    | (go_at_call 47; (refine (HQ.out _ HR4.out (fun k hk => HB3.out.fresh k (Nat.le_trans HC4.out.size hk)) HRW.out).mono ?_); rintro e w5 hm; obtain ⟨hB, hC, rfl⟩ := Both.both HB3.out HA4.out HC4.out hm HWD.out; have HB5 := Aside0.mk hB; have HC5 := Aside0.mk hC; clear hm hB hC))
  go_ret
  exact ⟨rfl, _, HB5.out, (Chg.of_below _ HW3.out).trans HC5.out⟩
set_option maxHeartbeats 8000000 in
set_option maxRecDepth 100000 in
theorem does4 {W : World} {B g b m r : Nat} {bl : List (Int × List Int)} (k : Int) (s : ByteArray) (a q : Int) (A : Option Addr) (c : Nat) (l : List Int) (h : Both W B g b m r bl) (hs : ¬ (s.size : Int) > 70) (ha : I64 a) (hq : I64 q) (hl : ∀ x ∈ l, I64 x) (hr : (Kd.int .i64).C W A l.length l) (hc : l.length ≤ c) (hA : ∀ ad, A = some ad → 0 < l.length → ad.block < B) (n0 : (k == 0) = false) (n1 : (k == 1) = false) (n2 : (k == 2) = false) (n3 : (k == 3) = false) :
    Calls Try.prog 16 #[.pointer (some ⟨g, 0, none⟩), .pointer (some ⟨r, 0, none⟩), .agg #[.int .i64 k, .string s, .int .i64 a, .int .i64 q, .slice A l.length c]] W fun e w' => e = .returned (.bool true) ∧ ∃ bl', Both w' B g b m r bl' ∧ Chg (fun k => B ≤ k) W w' := by
  have hu38 := Try.underlying38
  have HB0 := Aside0.mk (h.below (below_alloc (Below.refl W.heap.size W) (.cells #[.int .i64 k, .string s, .int .i64 a, .int .i64 q, .slice A l.length c] 38)))
  have HW0 := Aside0.mk (below_alloc (Below.refl W.heap.size W) (.cells #[.int .i64 k, .string s, .int .i64 a, .int .i64 q, .slice A l.length c] 38))
  have HWA := Aside0.mk (fun (W1 : World) h1 => wordB (W := W1) (B := B) (g := g) (b := b) (m := m) (r := r) (bl := bl) a ha h1)
  have HWQ := Aside0.mk (fun (W1 : World) h1 => wordB (W := W1) (B := B) (g := g) (b := b) (m := m) (r := r) (bl := bl) q hq h1)
  have HWL := Aside0.mk (fun (W1 : World) hr1 h1 => wordsB (W := W1) (B := B) (g := g) (b := b) (m := m) (r := r) (bl := bl) A c l hl hr1 hc hA h1)
  have HR := Aside0.mk hr
  have HPL : Aside0 (W.heap.size < (W.alloc (.cells #[.int .i64 k, .string s, .int .i64 a, .int .i64 q, .slice A l.length c] 38)).heap.size) := ⟨by rw [World.size_alloc]; omega⟩
  replace HPL := Aside0.mk (show W.heap.size < W.heap.size + 1 by omega)
  have HPN := Aside0.mk h.lt
  have HL := Aside0.mk (words_wide h l hl)
  have HLL := Aside0.mk (show ((l.take 61).map (wordR bl)).length ≤ 61 by simp; omega)
  have k0 := (blk_cell (heap_alloc_new W (.cells #[.int .i64 k, .string s, .int .i64 a, .int .i64 q, .slice A l.length c] 38)) 0).trans (rfl : _ = some (Value.int .i64 k))
  have k1 := (blk_cell (heap_alloc_new W (.cells #[.int .i64 k, .string s, .int .i64 a, .int .i64 q, .slice A l.length c] 38)) 1).trans (rfl : _ = some (Value.string s))
  have k2 := (blk_cell (heap_alloc_new W (.cells #[.int .i64 k, .string s, .int .i64 a, .int .i64 q, .slice A l.length c] 38)) 2).trans (rfl : _ = some (Value.int .i64 a))
  have k3 := (blk_cell (heap_alloc_new W (.cells #[.int .i64 k, .string s, .int .i64 a, .int .i64 q, .slice A l.length c] 38)) 3).trans (rfl : _ = some (Value.int .i64 q))
  have k4 := (blk_cell (heap_alloc_new W (.cells #[.int .i64 k, .string s, .int .i64 a, .int .i64 q, .slice A l.length c] 38)) 4).trans (rfl : _ = some (Value.slice A l.length c))
  have hwide := h.wide
  clear hr hc hA hl h ha hq
  generalize (l.take 61).map (wordR bl) = L at *
  go_enter Try.func16, Try.ntmps16
  go_wp2_with (first
    | (go_at_call 26; (refine (HWA.out _ HB0.out.rr).mono ?_); rintro e w1 ⟨rfl, hb⟩; have HB1 := Aside0.mk (HB0.out.below hb); have HW1 := Aside0.mk (below_then HW0.out HW0.out.size hb); have k0 := cell_below hb k0; have k1 := cell_below hb k1; have k2 := cell_below hb k2; have k3 := cell_below hb k3; have k4 := cell_below hb k4; clear hb HWA)
    | (go_at_call 26; (refine (HWQ.out _ HB1.out.rr).mono ?_); rintro e w2 ⟨rfl, hb⟩; have HB2 := Aside0.mk (HB1.out.below hb); have HW2 := Aside0.mk (below_then HW1.out HW1.out.size hb); have k0 := cell_below hb k0; have k1 := cell_below hb k1; have k2 := cell_below hb k2; have k3 := cell_below hb k3; have k4 := cell_below hb k4; clear hb HWQ)
    | (go_at_call 42; (refine (HWL.out _ (Kd.C_below HR.out HW2.out) HB2.out.rr).mono ?_); rintro e w3 ⟨v, rfl, hr, hb⟩; obtain ⟨A3, c3, e3⟩ := Kd.R_slice hr; subst e3; have HB3 := Aside0.mk (HB2.out.below hb); have HW3 := Aside0.mk (below_then HW2.out HW2.out.size hb); have HR3 := Aside0.mk hr; have k0 := cell_below hb k0; have k1 := cell_below hb k1; have k2 := cell_below hb k2; have k3 := cell_below hb k3; have k4 := cell_below hb k4; clear hb hr))
  go_ret
  exact ⟨rfl, _, HB3.out, Chg.of_below _ HW3.out⟩
set_option maxHeartbeats 8000000 in
set_option maxRecDepth 100000 in
theorem doesBig0 {W : World} {B g b m r : Nat} {bl : List (Int × List Int)} (s : ByteArray) (a q : Int) (A : Option Addr) (c : Nat) (l : List Int) (h : Both W B g b m r bl) (hs : (s.size : Int) > 70) (ha : I64 a) (hq : I64 q) (hl : ∀ x ∈ l, I64 x) (hr : (Kd.int .i64).C W A l.length l) (hc : l.length ≤ c) (hA : ∀ ad, A = some ad → 0 < l.length → ad.block < B) :
    Calls Try.prog 16 #[.pointer (some ⟨g, 0, none⟩), .pointer (some ⟨r, 0, none⟩), .agg #[.int .i64 0, .string s, .int .i64 a, .int .i64 q, .slice A l.length c]] W fun e w' => e = .returned (.bool true) ∧ ∃ bl', Both w' B g b m r bl' ∧ Chg (fun k => B ≤ k) W w' := by
  have hu38 := Try.underlying38
  have HB0 := Aside0.mk (h.below (below_alloc (Below.refl W.heap.size W) (.cells #[.int .i64 0, .string (s.extract 0 70), .int .i64 a, .int .i64 q, .slice A l.length c] 38)))
  have HW0 := Aside0.mk (below_alloc (Below.refl W.heap.size W) (.cells #[.int .i64 0, .string (s.extract 0 70), .int .i64 a, .int .i64 q, .slice A l.length c] 38))
  have HWA := Aside0.mk (fun (W1 : World) h1 => wordB (W := W1) (B := B) (g := g) (b := b) (m := m) (r := r) (bl := bl) a ha h1)
  have HWQ := Aside0.mk (fun (W1 : World) h1 => wordB (W := W1) (B := B) (g := g) (b := b) (m := m) (r := r) (bl := bl) q hq h1)
  have HWL := Aside0.mk (fun (W1 : World) hr1 h1 => wordsB (W := W1) (B := B) (g := g) (b := b) (m := m) (r := r) (bl := bl) A c l hl hr1 hc hA h1)
  have HR := Aside0.mk hr
  have HPL : Aside0 (W.heap.size < (W.alloc (.cells #[.int .i64 0, .string (s.extract 0 70), .int .i64 a, .int .i64 q, .slice A l.length c] 38)).heap.size) := ⟨by rw [World.size_alloc]; omega⟩
  replace HPL := Aside0.mk (show W.heap.size < W.heap.size + 1 by omega)
  have HPN := Aside0.mk h.lt
  have HL := Aside0.mk (words_wide h l hl)
  have HLL := Aside0.mk (show ((l.take 61).map (wordR bl)).length ≤ 61 by simp; omega)
  have k0 := (blk_cell (heap_alloc_new W (.cells #[.int .i64 0, .string (s.extract 0 70), .int .i64 a, .int .i64 q, .slice A l.length c] 38)) 0).trans (rfl : _ = some (Value.int .i64 0))
  have k1 := (blk_cell (heap_alloc_new W (.cells #[.int .i64 0, .string (s.extract 0 70), .int .i64 a, .int .i64 q, .slice A l.length c] 38)) 1).trans (rfl : _ = some (Value.string (s.extract 0 70)))
  have k2 := (blk_cell (heap_alloc_new W (.cells #[.int .i64 0, .string (s.extract 0 70), .int .i64 a, .int .i64 q, .slice A l.length c] 38)) 2).trans (rfl : _ = some (Value.int .i64 a))
  have k3 := (blk_cell (heap_alloc_new W (.cells #[.int .i64 0, .string (s.extract 0 70), .int .i64 a, .int .i64 q, .slice A l.length c] 38)) 3).trans (rfl : _ = some (Value.int .i64 q))
  have k4 := (blk_cell (heap_alloc_new W (.cells #[.int .i64 0, .string (s.extract 0 70), .int .i64 a, .int .i64 q, .slice A l.length c] 38)) 4).trans (rfl : _ = some (Value.slice A l.length c))
  have hwide := h.wide
  clear hr hc hA hl h ha hq
  generalize (l.take 61).map (wordR bl) = L at *
  have HP := Aside0.mk (fun W1 h1 => textC g b m 400 bl (s.extract 0 70) W1 h1)
  have HQ := Aside0.mk (fun (W1 : World) h1 hk => textRB (W := W1) (B := B) (g := r) (ok := Okr B g b m r) (n := 400) (bl := bl) (s.extract 0 70) h1 hk)
  have HWD := Aside0.mk (hwide.text 400 (s.extract 0 70))
  generalize textB 400 bl (s.extract 0 70) = R at *
  have e1 : (R.1 == R.1) = true := beq_self_eq_true _
  have e2 : (R.2.1 == R.2.1) = true := beq_self_eq_true _
  go_enter Try.func16, Try.ntmps16
  go_wp2_with (first
    | (go_at_call 26; (refine (HWA.out _ HB0.out.rr).mono ?_); rintro e w1 ⟨rfl, hb⟩; have HB1 := Aside0.mk (HB0.out.below hb); have HW1 := Aside0.mk (below_then HW0.out HW0.out.size hb); have k0 := cell_below hb k0; have k1 := cell_below hb k1; have k2 := cell_below hb k2; have k3 := cell_below hb k3; have k4 := cell_below hb k4; clear hb HWA)
    | (go_at_call 26; (refine (HWQ.out _ HB1.out.rr).mono ?_); rintro e w2 ⟨rfl, hb⟩; have HB2 := Aside0.mk (HB1.out.below hb); have HW2 := Aside0.mk (below_then HW1.out HW1.out.size hb); have k0 := cell_below hb k0; have k1 := cell_below hb k1; have k2 := cell_below hb k2; have k3 := cell_below hb k3; have k4 := cell_below hb k4; clear hb HWQ)
    | (go_at_call 42; (refine (HWL.out _ (Kd.C_below HR.out HW2.out) HB2.out.rr).mono ?_); rintro e w3 ⟨v, rfl, hr, hb⟩; obtain ⟨A3, c3, e3⟩ := Kd.R_slice hr; subst e3; have HB3 := Aside0.mk (HB2.out.below hb); have HW3 := Aside0.mk (below_then HW2.out HW2.out.size hb); have HR3 := Aside0.mk hr; have k0 := cell_below hb k0; have k1 := cell_below hb k1; have k2 := cell_below hb k2; have k3 := cell_below hb k3; have k4 := cell_below hb k4; clear hb hr)
    | (go_at_call 23; (refine (HP.out _ HB3.out.hh).mono ?_); rintro e w4 ⟨rfl, hat, hc⟩; have HA4 := Aside0.mk hat; have HC4 := Aside0.mk hc; have HR4 := Aside0.mk (HB3.out.rr.its HB3.out.ne hc); have k1 := hc.cell k1 (World.block_lt_of_cell? _ _ k1) (fun hs => by have := HPN.out; simp only [Its] at hs; omega); have k2 := hc.cell k2 (World.block_lt_of_cell? _ _ k2) (fun hs => by have := HPN.out; simp only [Its] at hs; omega); clear hat hc)
    | (go_at_call 43; (refine (HQ.out _ HR4.out (fun k hk => HB3.out.fresh k (Nat.le_trans HC4.out.size hk))).mono ?_); rintro e w5 hm; obtain ⟨hB, hC, rfl⟩ := Both.both HB3.out HA4.out HC4.out hm HWD.out; have HB5 := Aside0.mk hB; have HC5 := Aside0.mk hC; clear hm hB hC))
  go_ret
  exact ⟨rfl, _, HB5.out, (Chg.of_below _ HW3.out).trans HC5.out⟩
set_option maxHeartbeats 8000000 in
set_option maxRecDepth 100000 in
theorem doesBig1 {W : World} {B g b m r : Nat} {bl : List (Int × List Int)} (s : ByteArray) (a q : Int) (A : Option Addr) (c : Nat) (l : List Int) (h : Both W B g b m r bl) (hs : (s.size : Int) > 70) (ha : I64 a) (hq : I64 q) (hl : ∀ x ∈ l, I64 x) (hr : (Kd.int .i64).C W A l.length l) (hc : l.length ≤ c) (hA : ∀ ad, A = some ad → 0 < l.length → ad.block < B) :
    Calls Try.prog 16 #[.pointer (some ⟨g, 0, none⟩), .pointer (some ⟨r, 0, none⟩), .agg #[.int .i64 1, .string s, .int .i64 a, .int .i64 q, .slice A l.length c]] W fun e w' => e = .returned (.bool true) ∧ ∃ bl', Both w' B g b m r bl' ∧ Chg (fun k => B ≤ k) W w' := by
  have hu38 := Try.underlying38
  have HB0 := Aside0.mk (h.below (below_alloc (Below.refl W.heap.size W) (.cells #[.int .i64 1, .string (s.extract 0 70), .int .i64 a, .int .i64 q, .slice A l.length c] 38)))
  have HW0 := Aside0.mk (below_alloc (Below.refl W.heap.size W) (.cells #[.int .i64 1, .string (s.extract 0 70), .int .i64 a, .int .i64 q, .slice A l.length c] 38))
  have HWA := Aside0.mk (fun (W1 : World) h1 => wordB (W := W1) (B := B) (g := g) (b := b) (m := m) (r := r) (bl := bl) a ha h1)
  have HWQ := Aside0.mk (fun (W1 : World) h1 => wordB (W := W1) (B := B) (g := g) (b := b) (m := m) (r := r) (bl := bl) q hq h1)
  have HWL := Aside0.mk (fun (W1 : World) hr1 h1 => wordsB (W := W1) (B := B) (g := g) (b := b) (m := m) (r := r) (bl := bl) A c l hl hr1 hc hA h1)
  have HR := Aside0.mk hr
  have HPL : Aside0 (W.heap.size < (W.alloc (.cells #[.int .i64 1, .string (s.extract 0 70), .int .i64 a, .int .i64 q, .slice A l.length c] 38)).heap.size) := ⟨by rw [World.size_alloc]; omega⟩
  replace HPL := Aside0.mk (show W.heap.size < W.heap.size + 1 by omega)
  have HPN := Aside0.mk h.lt
  have HL := Aside0.mk (words_wide h l hl)
  have HLL := Aside0.mk (show ((l.take 61).map (wordR bl)).length ≤ 61 by simp; omega)
  have k0 := (blk_cell (heap_alloc_new W (.cells #[.int .i64 1, .string (s.extract 0 70), .int .i64 a, .int .i64 q, .slice A l.length c] 38)) 0).trans (rfl : _ = some (Value.int .i64 1))
  have k1 := (blk_cell (heap_alloc_new W (.cells #[.int .i64 1, .string (s.extract 0 70), .int .i64 a, .int .i64 q, .slice A l.length c] 38)) 1).trans (rfl : _ = some (Value.string (s.extract 0 70)))
  have k2 := (blk_cell (heap_alloc_new W (.cells #[.int .i64 1, .string (s.extract 0 70), .int .i64 a, .int .i64 q, .slice A l.length c] 38)) 2).trans (rfl : _ = some (Value.int .i64 a))
  have k3 := (blk_cell (heap_alloc_new W (.cells #[.int .i64 1, .string (s.extract 0 70), .int .i64 a, .int .i64 q, .slice A l.length c] 38)) 3).trans (rfl : _ = some (Value.int .i64 q))
  have k4 := (blk_cell (heap_alloc_new W (.cells #[.int .i64 1, .string (s.extract 0 70), .int .i64 a, .int .i64 q, .slice A l.length c] 38)) 4).trans (rfl : _ = some (Value.slice A l.length c))
  have hwide := h.wide
  clear hr hc hA hl h ha hq
  generalize (l.take 61).map (wordR bl) = L at *
  generalize wordR bl a = a' at *
  generalize wordR bl q = q' at *
  have HP := Aside0.mk (fun W1 h1 => joinC g b m 400 bl a' q' W1 h1)
  have HQ := Aside0.mk (fun (W1 : World) h1 hk => joinRB (W := W1) (B := B) (g := r) (ok := Okr B g b m r) (n := 400) (bl := bl) a' q' hwide h1 hk)
  have HWD := Aside0.mk (hwide.join 400 a' q')
  generalize joinB 400 bl a' q' = R at *
  have e1 : (R.1 == R.1) = true := beq_self_eq_true _
  have e2 : (R.2.1 == R.2.1) = true := beq_self_eq_true _
  go_enter Try.func16, Try.ntmps16
  go_wp2_with (first
    | (go_at_call 26; (refine (HWA.out _ HB0.out.rr).mono ?_); rintro e w1 ⟨rfl, hb⟩; have HB1 := Aside0.mk (HB0.out.below hb); have HW1 := Aside0.mk (below_then HW0.out HW0.out.size hb); have k0 := cell_below hb k0; have k1 := cell_below hb k1; have k2 := cell_below hb k2; have k3 := cell_below hb k3; have k4 := cell_below hb k4; clear hb HWA)
    | (go_at_call 26; (refine (HWQ.out _ HB1.out.rr).mono ?_); rintro e w2 ⟨rfl, hb⟩; have HB2 := Aside0.mk (HB1.out.below hb); have HW2 := Aside0.mk (below_then HW1.out HW1.out.size hb); have k0 := cell_below hb k0; have k1 := cell_below hb k1; have k2 := cell_below hb k2; have k3 := cell_below hb k3; have k4 := cell_below hb k4; clear hb HWQ)
    | (go_at_call 42; (refine (HWL.out _ (Kd.C_below HR.out HW2.out) HB2.out.rr).mono ?_); rintro e w3 ⟨v, rfl, hr, hb⟩; obtain ⟨A3, c3, e3⟩ := Kd.R_slice hr; subst e3; have HB3 := Aside0.mk (HB2.out.below hb); have HW3 := Aside0.mk (below_then HW2.out HW2.out.size hb); have HR3 := Aside0.mk hr; have k0 := cell_below hb k0; have k1 := cell_below hb k1; have k2 := cell_below hb k2; have k3 := cell_below hb k3; have k4 := cell_below hb k4; clear hb hr)
    | (go_at_call 24; (refine (HP.out _ HB3.out.hh).mono ?_); rintro e w4 ⟨rfl, hat, hc⟩; have HA4 := Aside0.mk hat; have HC4 := Aside0.mk hc; have HR4 := Aside0.mk (HB3.out.rr.its HB3.out.ne hc); have k1 := hc.cell k1 (World.block_lt_of_cell? _ _ k1) (fun hs => by have := HPN.out; simp only [Its] at hs; omega); have k2 := hc.cell k2 (World.block_lt_of_cell? _ _ k2) (fun hs => by have := HPN.out; simp only [Its] at hs; omega); clear hat hc)
    | (go_at_call 44; (refine (HQ.out _ HR4.out (fun k hk => HB3.out.fresh k (Nat.le_trans HC4.out.size hk))).mono ?_); rintro e w5 hm; obtain ⟨hB, hC, rfl⟩ := Both.both HB3.out HA4.out HC4.out hm HWD.out; have HB5 := Aside0.mk hB; have HC5 := Aside0.mk hC; clear hm hB hC))
  go_ret
  exact ⟨rfl, _, HB5.out, (Chg.of_below _ HW3.out).trans HC5.out⟩
set_option maxHeartbeats 8000000 in
set_option maxRecDepth 100000 in
theorem doesBig2 {W : World} {B g b m r : Nat} {bl : List (Int × List Int)} (s : ByteArray) (a q : Int) (A : Option Addr) (c : Nat) (l : List Int) (h : Both W B g b m r bl) (hs : (s.size : Int) > 70) (ha : I64 a) (hq : I64 q) (hl : ∀ x ∈ l, I64 x) (hr : (Kd.int .i64).C W A l.length l) (hc : l.length ≤ c) (hA : ∀ ad, A = some ad → 0 < l.length → ad.block < B) :
    Calls Try.prog 16 #[.pointer (some ⟨g, 0, none⟩), .pointer (some ⟨r, 0, none⟩), .agg #[.int .i64 2, .string s, .int .i64 a, .int .i64 q, .slice A l.length c]] W fun e w' => e = .returned (.bool true) ∧ ∃ bl', Both w' B g b m r bl' ∧ Chg (fun k => B ≤ k) W w' := by
  have hu38 := Try.underlying38
  have HB0 := Aside0.mk (h.below (below_alloc (Below.refl W.heap.size W) (.cells #[.int .i64 2, .string (s.extract 0 70), .int .i64 a, .int .i64 q, .slice A l.length c] 38)))
  have HW0 := Aside0.mk (below_alloc (Below.refl W.heap.size W) (.cells #[.int .i64 2, .string (s.extract 0 70), .int .i64 a, .int .i64 q, .slice A l.length c] 38))
  have HWA := Aside0.mk (fun (W1 : World) h1 => wordB (W := W1) (B := B) (g := g) (b := b) (m := m) (r := r) (bl := bl) a ha h1)
  have HWQ := Aside0.mk (fun (W1 : World) h1 => wordB (W := W1) (B := B) (g := g) (b := b) (m := m) (r := r) (bl := bl) q hq h1)
  have HWL := Aside0.mk (fun (W1 : World) hr1 h1 => wordsB (W := W1) (B := B) (g := g) (b := b) (m := m) (r := r) (bl := bl) A c l hl hr1 hc hA h1)
  have HR := Aside0.mk hr
  have HPL : Aside0 (W.heap.size < (W.alloc (.cells #[.int .i64 2, .string (s.extract 0 70), .int .i64 a, .int .i64 q, .slice A l.length c] 38)).heap.size) := ⟨by rw [World.size_alloc]; omega⟩
  replace HPL := Aside0.mk (show W.heap.size < W.heap.size + 1 by omega)
  have HPN := Aside0.mk h.lt
  have HL := Aside0.mk (words_wide h l hl)
  have HLL := Aside0.mk (show ((l.take 61).map (wordR bl)).length ≤ 61 by simp; omega)
  have k0 := (blk_cell (heap_alloc_new W (.cells #[.int .i64 2, .string (s.extract 0 70), .int .i64 a, .int .i64 q, .slice A l.length c] 38)) 0).trans (rfl : _ = some (Value.int .i64 2))
  have k1 := (blk_cell (heap_alloc_new W (.cells #[.int .i64 2, .string (s.extract 0 70), .int .i64 a, .int .i64 q, .slice A l.length c] 38)) 1).trans (rfl : _ = some (Value.string (s.extract 0 70)))
  have k2 := (blk_cell (heap_alloc_new W (.cells #[.int .i64 2, .string (s.extract 0 70), .int .i64 a, .int .i64 q, .slice A l.length c] 38)) 2).trans (rfl : _ = some (Value.int .i64 a))
  have k3 := (blk_cell (heap_alloc_new W (.cells #[.int .i64 2, .string (s.extract 0 70), .int .i64 a, .int .i64 q, .slice A l.length c] 38)) 3).trans (rfl : _ = some (Value.int .i64 q))
  have k4 := (blk_cell (heap_alloc_new W (.cells #[.int .i64 2, .string (s.extract 0 70), .int .i64 a, .int .i64 q, .slice A l.length c] 38)) 4).trans (rfl : _ = some (Value.slice A l.length c))
  have hwide := h.wide
  clear hr hc hA hl h ha hq
  generalize (l.take 61).map (wordR bl) = L at *
  have HP := Aside0.mk (fun {A3 c3} W1 h1 hr1 => closeC g b m 400 bl a A3 c3 L W1 h1 hr1 (by have := HLL.out; omega))
  have HQ := Aside0.mk (fun {A3 c3} (W1 : World) h1 hk hr1 => closeRB (W := W1) (B := B) (g := r) (ok := Okr B g b m r) (n := 400) (bl := bl) a A3 c3 L hr1 (by have := HLL.out; omega) h1 hk)
  have HWD := Aside0.mk (hwide.close 400 a L HL.out)
  generalize closeB 400 bl a L = R at *
  have e1 : (R.1 == R.1) = true := beq_self_eq_true _
  have e2 : (R.2.1 == R.2.1) = true := beq_self_eq_true _
  go_enter Try.func16, Try.ntmps16
  go_wp2_with (first
    | (go_at_call 26; (refine (HWA.out _ HB0.out.rr).mono ?_); rintro e w1 ⟨rfl, hb⟩; have HB1 := Aside0.mk (HB0.out.below hb); have HW1 := Aside0.mk (below_then HW0.out HW0.out.size hb); have k0 := cell_below hb k0; have k1 := cell_below hb k1; have k2 := cell_below hb k2; have k3 := cell_below hb k3; have k4 := cell_below hb k4; clear hb HWA)
    | (go_at_call 26; (refine (HWQ.out _ HB1.out.rr).mono ?_); rintro e w2 ⟨rfl, hb⟩; have HB2 := Aside0.mk (HB1.out.below hb); have HW2 := Aside0.mk (below_then HW1.out HW1.out.size hb); have k0 := cell_below hb k0; have k1 := cell_below hb k1; have k2 := cell_below hb k2; have k3 := cell_below hb k3; have k4 := cell_below hb k4; clear hb HWQ)
    | (go_at_call 42; (refine (HWL.out _ (Kd.C_below HR.out HW2.out) HB2.out.rr).mono ?_); rintro e w3 ⟨v, rfl, hr, hb⟩; obtain ⟨A3, c3, e3⟩ := Kd.R_slice hr; subst e3; have HB3 := Aside0.mk (HB2.out.below hb); have HW3 := Aside0.mk (below_then HW2.out HW2.out.size hb); have HR3 := Aside0.mk hr; have k0 := cell_below hb k0; have k1 := cell_below hb k1; have k2 := cell_below hb k2; have k3 := cell_below hb k3; have k4 := cell_below hb k4; clear hb hr)
    | (go_at_call 32; (refine (HP.out _ HB3.out.hh (C_of_K HR3.out)).mono ?_); rintro e w4 ⟨rfl, hat, hc⟩; have HA4 := Aside0.mk hat; have HC4 := Aside0.mk hc; have HR4 := Aside0.mk (HB3.out.rr.its HB3.out.ne hc); have HRW := Aside0.mk (Kd.R_reads' (row_its HR3.out HB2.out.lt hc)).2.2; have k1 := hc.cell k1 (World.block_lt_of_cell? _ _ k1) (fun hs => by have := HPN.out; simp only [Its] at hs; omega); have k2 := hc.cell k2 (World.block_lt_of_cell? _ _ k2) (fun hs => by have := HPN.out; simp only [Its] at hs; omega); clear hat hc)
    | (go_at_call 45; (refine (HQ.out _ HR4.out (fun k hk => HB3.out.fresh k (Nat.le_trans HC4.out.size hk)) HRW.out).mono ?_); rintro e w5 hm; obtain ⟨hB, hC, rfl⟩ := Both.both HB3.out HA4.out HC4.out hm HWD.out; have HB5 := Aside0.mk hB; have HC5 := Aside0.mk hC; clear hm hB hC))
  go_ret
  exact ⟨rfl, _, HB5.out, (Chg.of_below _ HW3.out).trans HC5.out⟩
set_option maxHeartbeats 8000000 in
set_option maxRecDepth 100000 in
theorem doesBig3 {W : World} {B g b m r : Nat} {bl : List (Int × List Int)} (s : ByteArray) (a q : Int) (A : Option Addr) (c : Nat) (l : List Int) (h : Both W B g b m r bl) (hs : (s.size : Int) > 70) (ha : I64 a) (hq : I64 q) (hl : ∀ x ∈ l, I64 x) (hr : (Kd.int .i64).C W A l.length l) (hc : l.length ≤ c) (hA : ∀ ad, A = some ad → 0 < l.length → ad.block < B) :
    Calls Try.prog 16 #[.pointer (some ⟨g, 0, none⟩), .pointer (some ⟨r, 0, none⟩), .agg #[.int .i64 3, .string s, .int .i64 a, .int .i64 q, .slice A l.length c]] W fun e w' => e = .returned (.bool true) ∧ ∃ bl', Both w' B g b m r bl' ∧ Chg (fun k => B ≤ k) W w' := by
  have hu38 := Try.underlying38
  have HB0 := Aside0.mk (h.below (below_alloc (Below.refl W.heap.size W) (.cells #[.int .i64 3, .string (s.extract 0 70), .int .i64 a, .int .i64 q, .slice A l.length c] 38)))
  have HW0 := Aside0.mk (below_alloc (Below.refl W.heap.size W) (.cells #[.int .i64 3, .string (s.extract 0 70), .int .i64 a, .int .i64 q, .slice A l.length c] 38))
  have HWA := Aside0.mk (fun (W1 : World) h1 => wordB (W := W1) (B := B) (g := g) (b := b) (m := m) (r := r) (bl := bl) a ha h1)
  have HWQ := Aside0.mk (fun (W1 : World) h1 => wordB (W := W1) (B := B) (g := g) (b := b) (m := m) (r := r) (bl := bl) q hq h1)
  have HWL := Aside0.mk (fun (W1 : World) hr1 h1 => wordsB (W := W1) (B := B) (g := g) (b := b) (m := m) (r := r) (bl := bl) A c l hl hr1 hc hA h1)
  have HR := Aside0.mk hr
  have HPL : Aside0 (W.heap.size < (W.alloc (.cells #[.int .i64 3, .string (s.extract 0 70), .int .i64 a, .int .i64 q, .slice A l.length c] 38)).heap.size) := ⟨by rw [World.size_alloc]; omega⟩
  replace HPL := Aside0.mk (show W.heap.size < W.heap.size + 1 by omega)
  have HPN := Aside0.mk h.lt
  have HL := Aside0.mk (words_wide h l hl)
  have HLL := Aside0.mk (show ((l.take 61).map (wordR bl)).length ≤ 61 by simp; omega)
  have k0 := (blk_cell (heap_alloc_new W (.cells #[.int .i64 3, .string (s.extract 0 70), .int .i64 a, .int .i64 q, .slice A l.length c] 38)) 0).trans (rfl : _ = some (Value.int .i64 3))
  have k1 := (blk_cell (heap_alloc_new W (.cells #[.int .i64 3, .string (s.extract 0 70), .int .i64 a, .int .i64 q, .slice A l.length c] 38)) 1).trans (rfl : _ = some (Value.string (s.extract 0 70)))
  have k2 := (blk_cell (heap_alloc_new W (.cells #[.int .i64 3, .string (s.extract 0 70), .int .i64 a, .int .i64 q, .slice A l.length c] 38)) 2).trans (rfl : _ = some (Value.int .i64 a))
  have k3 := (blk_cell (heap_alloc_new W (.cells #[.int .i64 3, .string (s.extract 0 70), .int .i64 a, .int .i64 q, .slice A l.length c] 38)) 3).trans (rfl : _ = some (Value.int .i64 q))
  have k4 := (blk_cell (heap_alloc_new W (.cells #[.int .i64 3, .string (s.extract 0 70), .int .i64 a, .int .i64 q, .slice A l.length c] 38)) 4).trans (rfl : _ = some (Value.slice A l.length c))
  have hwide := h.wide
  clear hr hc hA hl h ha hq
  generalize (l.take 61).map (wordR bl) = L at *
  have HP := Aside0.mk (fun {A3 c3} W1 h1 hr1 hA1 => makeC g b m 400 bl a A3 c3 L W1 h1 hr1 (by have := HLL.out; omega) hA1)
  have HQ := Aside0.mk (fun {A3 c3} (W1 : World) h1 hk hr1 => makeRB (W := W1) (B := B) (g := r) (ok := Okr B g b m r) (n := 400) (bl := bl) a A3 c3 L hr1 (by have := HLL.out; omega) h1 hk)
  have HWD := Aside0.mk (hwide.make 400 a L HL.out)
  generalize makeB 400 bl a L = R at *
  have e1 : (R.1 == R.1) = true := beq_self_eq_true _
  have e2 : (R.2.1 == R.2.1) = true := beq_self_eq_true _
  go_enter Try.func16, Try.ntmps16
  go_wp2_with (first
    | (go_at_call 26; (refine (HWA.out _ HB0.out.rr).mono ?_); rintro e w1 ⟨rfl, hb⟩; have HB1 := Aside0.mk (HB0.out.below hb); have HW1 := Aside0.mk (below_then HW0.out HW0.out.size hb); have k0 := cell_below hb k0; have k1 := cell_below hb k1; have k2 := cell_below hb k2; have k3 := cell_below hb k3; have k4 := cell_below hb k4; clear hb HWA)
    | (go_at_call 26; (refine (HWQ.out _ HB1.out.rr).mono ?_); rintro e w2 ⟨rfl, hb⟩; have HB2 := Aside0.mk (HB1.out.below hb); have HW2 := Aside0.mk (below_then HW1.out HW1.out.size hb); have k0 := cell_below hb k0; have k1 := cell_below hb k1; have k2 := cell_below hb k2; have k3 := cell_below hb k3; have k4 := cell_below hb k4; clear hb HWQ)
    | (go_at_call 42; (refine (HWL.out _ (Kd.C_below HR.out HW2.out) HB2.out.rr).mono ?_); rintro e w3 ⟨v, rfl, hr, hb⟩; obtain ⟨A3, c3, e3⟩ := Kd.R_slice hr; subst e3; have HB3 := Aside0.mk (HB2.out.below hb); have HW3 := Aside0.mk (below_then HW2.out HW2.out.size hb); have HR3 := Aside0.mk hr; have k0 := cell_below hb k0; have k1 := cell_below hb k1; have k2 := cell_below hb k2; have k3 := cell_below hb k3; have k4 := cell_below hb k4; clear hb hr)
    | (go_at_call 46; (refine (HP.out _ HB3.out.hh (C_of_K HR3.out) (fun ad e hp => row_ne HR3.out HB2.out ad e hp)).mono ?_); rintro e w4 ⟨rfl, hat, hc⟩; have HA4 := Aside0.mk hat; have HC4 := Aside0.mk hc; have HR4 := Aside0.mk (HB3.out.rr.its HB3.out.ne hc); have HRW := Aside0.mk (Kd.R_reads' (row_its HR3.out HB2.out.lt hc)).2.2; have k1 := hc.cell k1 (World.block_lt_of_cell? _ _ k1) (fun hs => by have := HPN.out; simp only [Its] at hs; omega); have k2 := hc.cell k2 (World.block_lt_of_cell? _ _ k2) (fun hs => by have := HPN.out; simp only [Its] at hs; omega); clear hat hc)
    | (go_at_call 47; (refine (HQ.out _ HR4.out (fun k hk => HB3.out.fresh k (Nat.le_trans HC4.out.size hk)) HRW.out).mono ?_); rintro e w5 hm; obtain ⟨hB, hC, rfl⟩ := Both.both HB3.out HA4.out HC4.out hm HWD.out; have HB5 := Aside0.mk hB; have HC5 := Aside0.mk hC; clear hm hB hC))
  go_ret
  exact ⟨rfl, _, HB5.out, (Chg.of_below _ HW3.out).trans HC5.out⟩
set_option maxHeartbeats 8000000 in
set_option maxRecDepth 100000 in
theorem doesBig4 {W : World} {B g b m r : Nat} {bl : List (Int × List Int)} (k : Int) (s : ByteArray) (a q : Int) (A : Option Addr) (c : Nat) (l : List Int) (h : Both W B g b m r bl) (hs : (s.size : Int) > 70) (ha : I64 a) (hq : I64 q) (hl : ∀ x ∈ l, I64 x) (hr : (Kd.int .i64).C W A l.length l) (hc : l.length ≤ c) (hA : ∀ ad, A = some ad → 0 < l.length → ad.block < B) (n0 : (k == 0) = false) (n1 : (k == 1) = false) (n2 : (k == 2) = false) (n3 : (k == 3) = false) :
    Calls Try.prog 16 #[.pointer (some ⟨g, 0, none⟩), .pointer (some ⟨r, 0, none⟩), .agg #[.int .i64 k, .string s, .int .i64 a, .int .i64 q, .slice A l.length c]] W fun e w' => e = .returned (.bool true) ∧ ∃ bl', Both w' B g b m r bl' ∧ Chg (fun k => B ≤ k) W w' := by
  have hu38 := Try.underlying38
  have HB0 := Aside0.mk (h.below (below_alloc (Below.refl W.heap.size W) (.cells #[.int .i64 k, .string (s.extract 0 70), .int .i64 a, .int .i64 q, .slice A l.length c] 38)))
  have HW0 := Aside0.mk (below_alloc (Below.refl W.heap.size W) (.cells #[.int .i64 k, .string (s.extract 0 70), .int .i64 a, .int .i64 q, .slice A l.length c] 38))
  have HWA := Aside0.mk (fun (W1 : World) h1 => wordB (W := W1) (B := B) (g := g) (b := b) (m := m) (r := r) (bl := bl) a ha h1)
  have HWQ := Aside0.mk (fun (W1 : World) h1 => wordB (W := W1) (B := B) (g := g) (b := b) (m := m) (r := r) (bl := bl) q hq h1)
  have HWL := Aside0.mk (fun (W1 : World) hr1 h1 => wordsB (W := W1) (B := B) (g := g) (b := b) (m := m) (r := r) (bl := bl) A c l hl hr1 hc hA h1)
  have HR := Aside0.mk hr
  have HPL : Aside0 (W.heap.size < (W.alloc (.cells #[.int .i64 k, .string (s.extract 0 70), .int .i64 a, .int .i64 q, .slice A l.length c] 38)).heap.size) := ⟨by rw [World.size_alloc]; omega⟩
  replace HPL := Aside0.mk (show W.heap.size < W.heap.size + 1 by omega)
  have HPN := Aside0.mk h.lt
  have HL := Aside0.mk (words_wide h l hl)
  have HLL := Aside0.mk (show ((l.take 61).map (wordR bl)).length ≤ 61 by simp; omega)
  have k0 := (blk_cell (heap_alloc_new W (.cells #[.int .i64 k, .string (s.extract 0 70), .int .i64 a, .int .i64 q, .slice A l.length c] 38)) 0).trans (rfl : _ = some (Value.int .i64 k))
  have k1 := (blk_cell (heap_alloc_new W (.cells #[.int .i64 k, .string (s.extract 0 70), .int .i64 a, .int .i64 q, .slice A l.length c] 38)) 1).trans (rfl : _ = some (Value.string (s.extract 0 70)))
  have k2 := (blk_cell (heap_alloc_new W (.cells #[.int .i64 k, .string (s.extract 0 70), .int .i64 a, .int .i64 q, .slice A l.length c] 38)) 2).trans (rfl : _ = some (Value.int .i64 a))
  have k3 := (blk_cell (heap_alloc_new W (.cells #[.int .i64 k, .string (s.extract 0 70), .int .i64 a, .int .i64 q, .slice A l.length c] 38)) 3).trans (rfl : _ = some (Value.int .i64 q))
  have k4 := (blk_cell (heap_alloc_new W (.cells #[.int .i64 k, .string (s.extract 0 70), .int .i64 a, .int .i64 q, .slice A l.length c] 38)) 4).trans (rfl : _ = some (Value.slice A l.length c))
  have hwide := h.wide
  clear hr hc hA hl h ha hq
  generalize (l.take 61).map (wordR bl) = L at *
  go_enter Try.func16, Try.ntmps16
  go_wp2_with (first
    | (go_at_call 26; (refine (HWA.out _ HB0.out.rr).mono ?_); rintro e w1 ⟨rfl, hb⟩; have HB1 := Aside0.mk (HB0.out.below hb); have HW1 := Aside0.mk (below_then HW0.out HW0.out.size hb); have k0 := cell_below hb k0; have k1 := cell_below hb k1; have k2 := cell_below hb k2; have k3 := cell_below hb k3; have k4 := cell_below hb k4; clear hb HWA)
    | (go_at_call 26; (refine (HWQ.out _ HB1.out.rr).mono ?_); rintro e w2 ⟨rfl, hb⟩; have HB2 := Aside0.mk (HB1.out.below hb); have HW2 := Aside0.mk (below_then HW1.out HW1.out.size hb); have k0 := cell_below hb k0; have k1 := cell_below hb k1; have k2 := cell_below hb k2; have k3 := cell_below hb k3; have k4 := cell_below hb k4; clear hb HWQ)
    | (go_at_call 42; (refine (HWL.out _ (Kd.C_below HR.out HW2.out) HB2.out.rr).mono ?_); rintro e w3 ⟨v, rfl, hr, hb⟩; obtain ⟨A3, c3, e3⟩ := Kd.R_slice hr; subst e3; have HB3 := Aside0.mk (HB2.out.below hb); have HW3 := Aside0.mk (below_then HW2.out HW2.out.size hb); have HR3 := Aside0.mk hr; have k0 := cell_below hb k0; have k1 := cell_below hb k1; have k2 := cell_below hb k2; have k3 := cell_below hb k3; have k4 := cell_below hb k4; clear hb hr))
  go_ret
  exact ⟨rfl, _, HB3.out, Chg.of_below _ HW3.out⟩
end Go.Proofs.Ytkmoneccehbncaa.Heap
/- Deeds in memory; what both heaps tell; no condition but what each theorem states. -/
namespace Go.Proofs.Ytkmoneccehbncaa.Heap
open Go.RowKit Go.Proofs.YtkmoneccehbncaaW.PrintWords Go.Proofs.YtkmoneccehbncaaW.PrintLast Go.Proofs.YtkmoneccehbncaaW.PrintMore Go.Proofs.Ytkmoneccehbncaa.Print Go.Proofs.Ytkmoneccehbncaa.Ints
set_option linter.unusedVariables false
set_option linter.unusedSimpArgs false

/-- A deed: its kind, a text, two words, words. -/
structure D38 where
  k : Int
  s : ByteArray
  a : Int
  q : Int
  l : List Int
def k38 : Kd D38 := Kd.iso (Kd.pair (Kd.int .i64) (Kd.pair Kd.string (Kd.pair (Kd.int .i64) (Kd.pair (Kd.int .i64) (Kd.slice 3 (Kd.int .i64)))))) (fun x : D38 => (x.k, x.s, x.a, x.q, x.l))
theorem k38_open {w : World} {x : D38} {cs : List Value} (h : k38.K w x cs) : ∃ A c, cs = [.int .i64 x.k, .string x.s, .int .i64 x.a, .int .i64 x.q, .slice A x.l.length c] ∧ x.l.length ≤ c ∧ (Kd.int .i64).C w A x.l.length x.l := by
  obtain ⟨_, _, rfl, rfl, ⟨_, _, rfl, rfl, ⟨_, _, rfl, rfl, ⟨_, _, rfl, rfl, ⟨A, c, rfl, hl, hr⟩⟩⟩⟩⟩ := h
  exact ⟨A, c, rfl, hl, hr⟩
theorem k38_mk {w : World} {x : D38} {A : Option Addr} {c : Nat} (hl : x.l.length ≤ c) (hr : (Kd.int .i64).C w A x.l.length x.l) : k38.K w x [.int .i64 x.k, .string x.s, .int .i64 x.a, .int .i64 x.q, .slice A x.l.length c] :=
  ⟨[_], _, rfl, rfl, ⟨[_], _, rfl, rfl, ⟨[_], _, rfl, rfl, ⟨[_], _, rfl, rfl, ⟨A, c, rfl, hl, hr⟩⟩⟩⟩⟩
def D38.Wide (d : D38) : Prop := I64 d.a ∧ I64 d.q ∧ ∀ x ∈ d.l, I64 x
section
variable {W W1 : World} {B g b m r : Nat} {bl : List (Int × List Int)}
theorem doesC (d : D38) (hd : d.Wide) (A : Option Addr) (c : Nat) (h : Both W B g b m r bl) (hr : (Kd.int .i64).C W A d.l.length d.l) (hc : d.l.length ≤ c) (hA : ∀ ad, A = some ad → 0 < d.l.length → ad.block < B) :
    Calls Try.prog 16 #[.pointer (some ⟨g, 0, none⟩), .pointer (some ⟨r, 0, none⟩), .agg #[.int .i64 d.k, .string d.s, .int .i64 d.a, .int .i64 d.q, .slice A d.l.length c]] W fun e w' => e = .returned (.bool true) ∧ ∃ bl', Both w' B g b m r bl' ∧ Chg (fun k => B ≤ k) W w' := by
  obtain ⟨k, s, a, q, l⟩ := d
  obtain ⟨ha, hq, hl⟩ := hd
  simp only at *
  by_cases hs : (s.size : Int) > 70
  · by_cases h0 : k = 0
    · subst h0; exact doesBig0 s a q A c l h hs ha hq hl hr hc hA
    by_cases h1 : k = 1
    · subst h1; exact doesBig1 s a q A c l h hs ha hq hl hr hc hA
    by_cases h2 : k = 2
    · subst h2; exact doesBig2 s a q A c l h hs ha hq hl hr hc hA
    by_cases h3 : k = 3
    · subst h3; exact doesBig3 s a q A c l h hs ha hq hl hr hc hA
    exact doesBig4 k s a q A c l h hs ha hq hl hr hc hA (beq_eq_false_iff_ne.2 h0) (beq_eq_false_iff_ne.2 h1) (beq_eq_false_iff_ne.2 h2) (beq_eq_false_iff_ne.2 h3)
  · by_cases h0 : k = 0
    · subst h0; exact does0 s a q A c l h hs ha hq hl hr hc hA
    by_cases h1 : k = 1
    · subst h1; exact does1 s a q A c l h hs ha hq hl hr hc hA
    by_cases h2 : k = 2
    · subst h2; exact does2 s a q A c l h hs ha hq hl hr hc hA
    by_cases h3 : k = 3
    · subst h3; exact does3 s a q A c l h hs ha hq hl hr hc hA
    exact does4 k s a q A c l h hs ha hq hl hr hc hA (beq_eq_false_iff_ne.2 h0) (beq_eq_false_iff_ne.2 h1) (beq_eq_false_iff_ne.2 h2) (beq_eq_false_iff_ne.2 h3)
/-- Deed i of a row. -/
theorem deed_at {A : Option Addr} {xs : List D38} (h : k38.C W A xs.length xs) (i : Nat) (hi : i < xs.length) :
    ∃ ad Aw cw, A = some ad ∧ W.cell? (ad.add (i * 5)) = some (.int .i64 xs[i].k) ∧ W.cell? ⟨(ad.add (i * 5)).block, (ad.add (i * 5)).off + 1, none⟩ = some (.string xs[i].s) ∧ W.cell? ⟨(ad.add (i * 5)).block, (ad.add (i * 5)).off + 2, none⟩ = some (.int .i64 xs[i].a) ∧
      W.cell? ⟨(ad.add (i * 5)).block, (ad.add (i * 5)).off + 3, none⟩ = some (.int .i64 xs[i].q) ∧ W.cell? ⟨(ad.add (i * 5)).block, (ad.add (i * 5)).off + 4, none⟩ = some (.slice Aw xs[i].l.length cw) ∧ xs[i].l.length ≤ cw ∧ (Kd.int .i64).C W Aw xs[i].l.length xs[i].l := by
  obtain ⟨ad, c, e, _, hK, hc0⟩ := Kd.C_get h ⟨0, ⟨#[]⟩, 0, 0, []⟩ (i : Int) (by omega) (by omega)
  have hg : xs.getD (i : Int).toNat ⟨0, ⟨#[]⟩, 0, 0, []⟩ = xs[i] := by rw [Int.toNat_natCast, List.getD_eq_getElem?_getD, List.getElem?_eq_getElem hi]; rfl
  rw [hg] at hK
  have hc : ∀ j u, c[j]? = some u → W.cell? (ad.add (i * 5 + j)) = some u := hc0
  obtain ⟨Aw, cw, rfl, hl, hr⟩ := k38_open hK
  exact ⟨ad, Aw, cw, e, hc 0 _ rfl, by rw [← add_field _ _ 1 (by omega)]; exact hc 1 _ rfl, by rw [← add_field _ _ 2 (by omega)]; exact hc 2 _ rfl, by rw [← add_field _ _ 3 (by omega)]; exact hc 3 _ rfl, by rw [← add_field _ _ 4 (by omega)]; exact hc 4 _ rfl, hl, hr⟩
theorem C_lt {A : Option Addr} {l : List Int} (h : (Kd.int .i64).C W A l.length l) : ∀ ad, A = some ad → 0 < l.length → ad.block < W.heap.size := fun ad e hp => by
  obtain ⟨ad', e', hc⟩ := Kd.at_int h 0 (Int.le_refl _) (by omega)
  rw [e] at e'
  cases e'
  have := World.block_lt_of_cell? W _ hc
  have e2 : (ad.add (Int.toNat 0)).block = ad.block := by unfold Addr.add; split <;> rfl
  rwa [e2] at this
theorem usedH (h : Both W B g b m r bl) : Calls Try.prog 17 #[.pointer (some ⟨g, 0, none⟩)] W fun e w' => e = .returned (.int .i64 (topB 1 bl - 1)) ∧ Below W.heap.size W w' :=
  (usedC g b m 400 bl W h.hh).mono fun _ _ hh => ⟨hh.1, below_drawn (Below.refl _ _) hh.2⟩
theorem usedR (h : Both W B g b m r bl) : Calls Try.prog 18 #[.pointer (some ⟨r, 0, none⟩)] W fun e w' => e = .returned (.int .i64 (topB 1 bl - 1)) ∧ Below W.heap.size W w' := by
  obtain ⟨bs, h1, h2, rfl⟩ := h.rr
  rw [h2.top]
  exact usedRC h2 h1
theorem blR_len (bs : List S80) : (blR bs).length = bs.length := by unfold blR; simp
theorem pointB (k : Nat) (hk : k < bl.length) (h : Both W B g b m r bl) : Calls Try.prog 21 #[.pointer (some ⟨r, 0, none⟩), .int .i64 (k : Int)] W fun e w' => e = .returned (.int .i64 (2 * topB 1 (bl.take k))) ∧ Below W.heap.size W w' := by
  obtain ⟨bs, h1, h2, rfl⟩ := h.rr
  rw [blR_len] at hk
  rw [h2.take k (by omega)]
  exact pointRC k (by omega) h2 h1
theorem fieldsBr (k : Nat) (hk : k < bl.length) (h : Both W B g b m r bl) : Calls Try.prog 22 #[.pointer (some ⟨r, 0, none⟩), .int .i64 (k : Int)] W fun e w' => ∃ A c, e = .returned (.slice A bl[k].2.length c) ∧ bl[k].2.length ≤ c ∧ (Kd.int .i64).C w' A bl[k].2.length bl[k].2 ∧ Below W.heap.size W w' := by
  obtain ⟨bs, h1, h2, rfl⟩ := h.rr
  have hk' := hk
  rw [blR_len] at hk'
  have e : (blR bs)[k] = toB bs bs[k] := List.getElem_map (toB bs)
  rw [e]
  exact fieldsRC k bs[k] (List.getElem?_eq_getElem hk') h2 h1
theorem find_take : ∀ (bl : List (Int × List Int)) (a : Int) (k : Nat) (hk : k < bl.length), findB a bl (2 * topB a (bl.take k)) = some bl[k]
  | [], a, k, h => by simp at h
  | x :: t, a, 0, h => by rw [List.take_zero, topB, findB, if_pos rfl]; rfl
  | x :: t, a, k + 1, h => by
    rw [List.take_succ_cons, topB, findB]
    have := topB_le (t.take k) (a + 1 + x.2.length)
    rw [if_neg (by omega), find_take t _ k (by simpa using h)]
    rfl
theorem fieldsBh (k : Nat) (hk : k < bl.length) (h : Both W B g b m r bl) : Calls Try.prog 20 #[.pointer (some ⟨g, 0, none⟩), .int .i64 (2 * topB 1 (bl.take k))] W fun e w' => ∃ A c, e = .returned (.slice A bl[k].2.length c) ∧ bl[k].2.length ≤ c ∧ (Kd.int .i64).C w' A bl[k].2.length bl[k].2 ∧ Below W.heap.size W w' := by
  have := fieldsC g b m 400 bl (2 * topB 1 (bl.take k)) W h.hh
  have e : fieldsB bl (2 * topB 1 (bl.take k)) = bl[k].2 := by unfold fieldsB; rw [find_take bl 1 k hk]
  rw [e] at this
  refine this.mono ?_
  rintro e w' ⟨v, rfl, ⟨A, c, rfl, hc, hr, _⟩, hb⟩
  exact ⟨A, c, rfl, hc, C_of hr, hb⟩
theorem Both.len_le (h : Both W B g b m r bl) : bl.length ≤ 65536 := by
  obtain ⟨bs, h1, h2, rfl⟩ := h.rr
  rw [blR_len]
  exact h2.len
theorem Both.row (h : Both W B g b m r bl) : ∃ A c, W.cell? ⟨r, 1, none⟩ = some (.slice A bl.length c) := by
  obtain ⟨bs, h1, h2, rfl⟩ := h.rr
  obtain ⟨A, c, h3, _⟩ := h1.state
  rw [blR_len]
  exact ⟨A, c, (blk_cell h3 1).trans rfl⟩
theorem same_l0 (l : List Int) (hl : l.length ≤ 1000000) : ∀ (d j k : Nat), j + d = l.length → d < k → selvageref02_SameInts.l0 k l l (j : Int) = some true := by
  intro d
  induction d with
  | zero =>
    intro j k h hk
    obtain ⟨k, rfl⟩ : ∃ p, k = p + 1 := ⟨k - 1, by omega⟩
    rw [selvageref02_SameInts.l0, if_neg (by omega)]
  | succ d ih =>
    intro j k h hk
    obtain ⟨k, rfl⟩ : ∃ p, k = p + 1 := ⟨k - 1, by omega⟩
    rw [selvageref02_SameInts.l0, if_pos (by omega), if_pos (by omega), if_pos (by omega), if_pos rfl, show wrap64 ((j : Int) + 1) = ((j + 1 : Nat) : Int) by unfold wrap64; omega]
    exact ih (j + 1) k (by omega) (by omega)
theorem same_eq (l : List Int) (hl : l.length ≤ 1000000) : selvageref02_SameInts.f (l.length + 1) l l = some true := by
  unfold selvageref02_SameInts.f
  rw [if_pos rfl]
  exact same_l0 l hl l.length 0 _ (by omega) (by omega)
theorem sameC (l : List Int) (hl : l.length ≤ 1000000) (A0 A1 : Option Addr) (c0 c1 : Nat) (h0 : (Kd.int .i64).C W A0 l.length l) (hc0 : l.length ≤ c0) (h1 : (Kd.int .i64).C W A1 l.length l) (hc1 : l.length ≤ c1) :
    Calls Try.prog 19 #[.slice A0 l.length c0, .slice A1 l.length c1] W fun e w' => e = .returned (.bool true) ∧ Below W.heap.size W w' :=
  (selvageref02_SameInts.calls _ A0 c0 l A1 c1 l true W h0 hc0 h1 hc1 (same_eq l hl)).mono fun _ _ hh => ⟨hh.1, below_drawn (Below.refl _ _) hh.2⟩
/-- Both heaps, anew. -/
theorem Both.start {W0 W W1 : World} {g b m : Nat} (h1 : AtB W g b m 400 []) (h2 : W0.heap.size ≤ g ∧ W0.heap.size ≤ b ∧ W0.heap.size ≤ m) (hb : Below W.heap.size W W1) (hle : W0.heap.size ≤ W.heap.size)
    (h3 : ∃ bs, AtR W1 W.heap.size (Okr W0.heap.size g b m W.heap.size) W.heap.size 400 bs ∧ bs = []) : Both W1 W0.heap.size g b m W.heap.size [] := by
  have hs := h1.sizes
  have hm : m < W.heap.size := by
    obtain ⟨H, a, _⟩ := h1
    obtain ⟨es, cl, e, _⟩ := a.places
    exact blk_lt e
  obtain ⟨bs, ⟨v, a1, a2, a3, a4⟩, rfl⟩ := h3
  refine ⟨h1.below hb, ⟨[], ⟨v, a1, Kd.R_lower a2 hle, hle, a4⟩, wf_nil 400 (by decide) (by decide), rfl⟩, (fun y hy => by cases hy), ⟨by omega, by omega, by omega⟩, h2, ?_⟩
  have := hb.size
  omega
end
end Go.Proofs.Ytkmoneccehbncaa.Heap
/- The walks of selvagelaw16.PrimsMake and PrimsTold: true, whatever deeds and word; no condition but what each theorem states. -/
namespace Go.Proofs.Ytkmoneccehbncaa.Heap
open Go.RowKit Go.Proofs.YtkmoneccehbncaaW.PrintWords Go.Proofs.YtkmoneccehbncaaW.PrintLast Go.Proofs.YtkmoneccehbncaaW.PrintMore Go.Proofs.Ytkmoneccehbncaa.Print Go.Proofs.Ytkmoneccehbncaa.Ints
set_option linter.unusedVariables false
set_option linter.unusedSimpArgs false

theorem newRB (W0 W : World) (g b m : Nat) (h1 : AtB W g b m 400 []) (h2 : W0.heap.size ≤ g ∧ W0.heap.size ≤ b ∧ W0.heap.size ≤ m) (hle : W0.heap.size ≤ W.heap.size) :
    Calls Try.prog 15 #[.int .i64 400] W fun e w' => e = .returned (.pointer (some ⟨W.heap.size, 0, none⟩)) ∧ Both w' W0.heap.size g b m W.heap.size [] ∧ Below W.heap.size W w' := by
  refine (newR 400 (Okr W0.heap.size g b m W.heap.size) W (by decide) (by decide) (by simp only [Okr]; omega)).mono ?_
  rintro e w' ⟨rfl, ha, hb⟩
  exact ⟨rfl, Both.start h1 h2 hb hle ⟨[], ha, rfl⟩, hb⟩

set_option maxHeartbeats 16000000 in
set_option maxRecDepth 100000 in
theorem primsMake_calls (A : Option Addr) (c : Nat) (l : List D38) (W : World) (hr : k38.C W A l.length l) (hl : l.length ≤ 9223372036854775807) (hd : ∀ d ∈ l, d.Wide) :
    Calls Try.prog 5 #[.slice A l.length c] W fun e w' => e = .returned (.bool true) ∧ Below W.heap.size W w' := by
  have HN := Aside0.mk (fun W => newB 400 W (by decide) (by decide))
  have HR := Aside0.mk hr
  have HD := Aside0.mk hd
  have hu38 := Try.underlying38
  clear hr hd
  go_enter Try.func5, Try.ntmps5
  go_wp2_with (first
    | (go_at_call 14; (refine (HN.out _).mono ?_); rintro e w1 ⟨g, b, m, rfl, hat, hg, hbb, hm, hb⟩; have HA := Aside0.mk hat; have HG := Aside0.mk (And.intro hg (And.intro hbb hm)); have HB1 := Aside0.mk hb; clear hat hg hbb hm hb)
    | (go_at_call 15; (refine (newRB W _ g b m HA.out HG.out HB1.out.size).mono ?_); rintro e w2 ⟨rfl, ht, hb⟩; have HT2 := Aside0.mk ht; have HB2 := Aside0.mk (below_then HB1.out HB1.out.size hb); clear ht hb))
  obtain ⟨r, hr⟩ : ∃ r, w1.heap.size = r := ⟨_, rfl⟩
  rw [hr] at HT2 ⊢
  clear HA HG HB1 hr
  go_loopg [5, 6] 20 (fun kq v5 v6 w' => ∃ (i : Nat) (bl : List (Int × List Int)), v5 = .int .i64 (i : Int) ∧ Aside0 (i + kq = 20) ∧ Aside0 (Both w' W.heap.size g b m r bl) ∧ Aside0 (Below W.heap.size W w'))
  case atStart => exact ⟨0, [], rfl, ⟨rfl⟩, HT2, HB2⟩
  case round =>
    clear HT2 HB2
    obtain ⟨i, bl, rfl, HI, HT, HB⟩ := hrel
    have hi := HI.out
    by_cases h1 : i < l.length
    · have d1 : ((i : Int) < (l.length : Int)) = True := eq_true (by omega)
      cases gk with
      | zero =>
        have d2 : ¬ (i : Int) < 20 := by omega
        have HL := Aside0.mk HT.out.len_le
        go_wp2
        go_loopg [7, 8] bl.length (fun kq v7 v8 w' => ∃ (k : Nat), v7 = .int .i64 (k : Int) ∧ Aside0 (k + kq = bl.length) ∧ Aside0 (Both w' W.heap.size g b m r bl) ∧ Aside0 (Below W.heap.size W w'))
        case atStart => exact ⟨0, rfl, ⟨by omega⟩, HT, HB⟩
        case round =>
          clear HT HB HI hi h1 d1
          obtain ⟨k, rfl, HK, HT, HB⟩ := hrel
          have hk := HK.out
          obtain ⟨AB, cB, hrow⟩ := HT.out.row
          have hlen := HL.out
          cases gk with
          | zero =>
            have d3 : ¬ (k : Int) < (bl.length : Int) := by omega
            go_wp2_with (go_at_call 11; (refine (lives_calls _).mono ?_); rintro e w10 ⟨rfl, hb⟩; have HB10 := Aside0.mk (below_then HB.out HB.out.size hb); clear hb)
            go_ret
            exact ⟨rfl, HB10.out⟩
          | succ k1 =>
            have hkl : k < bl.length := by omega
            have d3 : (k : Int) < (bl.length : Int) := by omega
            have HP := Aside0.mk (fun (W1 : World) h => pointB (W := W1) (B := W.heap.size) (g := g) (b := b) (m := m) (r := r) (bl := bl) k hkl h)
            have HF := Aside0.mk (fun (W1 : World) h => fieldsBr (W := W1) (B := W.heap.size) (g := g) (b := b) (m := m) (r := r) (bl := bl) k hkl h)
            have HH := Aside0.mk (fun (W1 : World) h => fieldsBh (W := W1) (B := W.heap.size) (g := g) (b := b) (m := m) (r := r) (bl := bl) k hkl h)
            have HW := Aside0.mk (HT.out.wide bl[k] (List.getElem_mem hkl)).1
            generalize bl[k].2 = f at *
            generalize 2 * topB 1 (bl.take k) = z at *
            go_wp2_with (first
              | (go_at_call 21; (with_reducible refine (HP.out _ HT.out).mono ?_); rintro e w5 ⟨rfl, hb⟩; have HT5 := Aside0.mk (HT.out.below hb); have HB5 := Aside0.mk (below_then HB.out HB.out.size hb); clear hb)
              | (go_at_call 20; (with_reducible refine (HH.out _ HT5.out).mono ?_); rintro e w6 ⟨A6, c6, rfl, hc, hr, hb⟩; have HT6 := Aside0.mk (HT5.out.below hb); have HB6 := Aside0.mk (below_then HB5.out HB5.out.size hb); have HR6 := Aside0.mk hr; have HC6 := Aside0.mk hc; clear hb hr hc)
              | (go_at_call 22; (with_reducible refine (HF.out _ HT6.out).mono ?_); rintro e w7 ⟨A7, c7, rfl, hc, hr, hb⟩; have HT7 := Aside0.mk (HT6.out.below hb); have HB7 := Aside0.mk (below_then HB6.out HB6.out.size hb); have HR7 := Aside0.mk hr; have HC7 := Aside0.mk hc; have HR67 := Aside0.mk (Kd.C_below HR6.out hb); clear hb hr hc)
              | (go_at_call 19; (with_reducible refine (sameC f (by have := HW.out; omega) A6 A7 c6 c7 HR67.out HC6.out HR7.out HC7.out).mono ?_); rintro e w8 ⟨rfl, hb⟩; have HT8 := Aside0.mk (HT7.out.below hb); have HB8 := Aside0.mk (below_then HB7.out HB7.out.size hb); clear hb))
            go_roundg k1
            case measure => omega
            case rel => exact ⟨k + 1, by go_num, ⟨by omega⟩, HT8, HB8⟩
      | succ k1 =>
        have d2 : (i : Int) < 20 := by omega
        obtain ⟨ad, Aw, cw, rfl, q0, q1, q2, q3, q4, q5, q6⟩ := deed_at HR.out i h1
        have hA := C_lt q6
        have hdd := HD.out _ (List.getElem_mem h1)
        generalize l[i] = d at *
        have HDO := Aside0.mk (fun (W1 : World) h hr => doesC (W := W1) (B := W.heap.size) (g := g) (b := b) (m := m) (r := r) (bl := bl) d hdd Aw cw h hr q5 hA)
        have HQ6 := Aside0.mk (Kd.C_below q6 HB.out)
        replace q0 := cell_below HB.out q0
        replace q1 := cell_below HB.out q1
        replace q2 := cell_below HB.out q2
        replace q3 := cell_below HB.out q3
        replace q4 := cell_below HB.out q4
        clear q5 q6 hA hdd
        obtain ⟨dk, ds, da, dq, dl⟩ := d
        simp only at *
        go_wp2_with (first
          | (go_at_call 16; (refine (HDO.out _ HT.out HQ6.out).mono ?_); rintro e w5 ⟨rfl, bl', ht, hc⟩; have HT5 := Aside0.mk ht; have HB5 := Aside0.mk (hc.below HB.out HB.out.size (fun k hk => hk)); have HUH := Aside0.mk (fun (W1 : World) h => usedH (W := W1) (B := W.heap.size) (g := g) (b := b) (m := m) (r := r) (bl := bl') h); have HUR := Aside0.mk (fun (W1 : World) h => usedR (W := W1) (B := W.heap.size) (g := g) (b := b) (m := m) (r := r) (bl := bl') h); have n1 : (topB 1 bl' - 1 != topB 1 bl' - 1) = false := bne_self_eq_false _; generalize topB 1 bl' - 1 = u at *; clear ht hc)
          | (go_at_call 17; (with_reducible refine (HUH.out _ HT5.out).mono ?_); rintro e w6 ⟨rfl, hb⟩; have HT6 := Aside0.mk (HT5.out.below hb); have HB6 := Aside0.mk (below_then HB5.out HB5.out.size hb); clear hb)
          | (go_at_call 18; (with_reducible refine (HUR.out _ HT6.out).mono ?_); rintro e w7 ⟨rfl, hb⟩; have HT7 := Aside0.mk (HT6.out.below hb); have HB7 := Aside0.mk (below_then HB6.out HB6.out.size hb); clear hb))
        go_roundg k1
        case measure => omega
        case rel => exact ⟨i + 1, _, by go_num, ⟨by omega⟩, HT7, HB7⟩
    · have d1 : ((i : Int) < (l.length : Int)) = False := eq_false (by omega)
      have HL := Aside0.mk HT.out.len_le
      go_wp2
      go_loopg [7, 8] bl.length (fun kq v7 v8 w' => ∃ (k : Nat), v7 = .int .i64 (k : Int) ∧ Aside0 (k + kq = bl.length) ∧ Aside0 (Both w' W.heap.size g b m r bl) ∧ Aside0 (Below W.heap.size W w'))
      case atStart => exact ⟨0, rfl, ⟨by omega⟩, HT, HB⟩
      case round =>
        clear HT HB HI hi h1 d1
        obtain ⟨k, rfl, HK, HT, HB⟩ := hrel
        have hk := HK.out
        obtain ⟨AB, cB, hrow⟩ := HT.out.row
        have hlen := HL.out
        cases gk with
        | zero =>
          have d3 : ¬ (k : Int) < (bl.length : Int) := by omega
          go_wp2_with (go_at_call 11; (refine (lives_calls _).mono ?_); rintro e w10 ⟨rfl, hb⟩; have HB10 := Aside0.mk (below_then HB.out HB.out.size hb); clear hb)
          go_ret
          exact ⟨rfl, HB10.out⟩
        | succ k1 =>
          have hkl : k < bl.length := by omega
          have d3 : (k : Int) < (bl.length : Int) := by omega
          have HP := Aside0.mk (fun (W1 : World) h => pointB (W := W1) (B := W.heap.size) (g := g) (b := b) (m := m) (r := r) (bl := bl) k hkl h)
          have HF := Aside0.mk (fun (W1 : World) h => fieldsBr (W := W1) (B := W.heap.size) (g := g) (b := b) (m := m) (r := r) (bl := bl) k hkl h)
          have HH := Aside0.mk (fun (W1 : World) h => fieldsBh (W := W1) (B := W.heap.size) (g := g) (b := b) (m := m) (r := r) (bl := bl) k hkl h)
          have HW := Aside0.mk (HT.out.wide bl[k] (List.getElem_mem hkl)).1
          generalize bl[k].2 = f at *
          generalize 2 * topB 1 (bl.take k) = z at *
          go_wp2_with (first
            | (go_at_call 21; (with_reducible refine (HP.out _ HT.out).mono ?_); rintro e w5 ⟨rfl, hb⟩; have HT5 := Aside0.mk (HT.out.below hb); have HB5 := Aside0.mk (below_then HB.out HB.out.size hb); clear hb)
            | (go_at_call 20; (with_reducible refine (HH.out _ HT5.out).mono ?_); rintro e w6 ⟨A6, c6, rfl, hc, hr, hb⟩; have HT6 := Aside0.mk (HT5.out.below hb); have HB6 := Aside0.mk (below_then HB5.out HB5.out.size hb); have HR6 := Aside0.mk hr; have HC6 := Aside0.mk hc; clear hb hr hc)
            | (go_at_call 22; (with_reducible refine (HF.out _ HT6.out).mono ?_); rintro e w7 ⟨A7, c7, rfl, hc, hr, hb⟩; have HT7 := Aside0.mk (HT6.out.below hb); have HB7 := Aside0.mk (below_then HB6.out HB6.out.size hb); have HR7 := Aside0.mk hr; have HC7 := Aside0.mk hc; have HR67 := Aside0.mk (Kd.C_below HR6.out hb); clear hb hr hc)
            | (go_at_call 19; (with_reducible refine (sameC f (by have := HW.out; omega) A6 A7 c6 c7 HR67.out HC6.out HR7.out HC7.out).mono ?_); rintro e w8 ⟨rfl, hb⟩; have HT8 := Aside0.mk (HT7.out.below hb); have HB8 := Aside0.mk (below_then HB7.out HB7.out.size hb); clear hb))
          go_roundg k1
          case measure => omega
          case rel => exact ⟨k + 1, by go_num, ⟨by omega⟩, HT8, HB8⟩

theorem wide_word {W : World} {B g b m r : Nat} {bl : List (Int × List Int)} (z : Int) (hz : I64 z) (h : Both W B g b m r bl) :
    Calls Try.prog 26 #[.pointer (some ⟨r, 0, none⟩), .int .i64 z] W fun e w' => e = .returned (.int .i64 (wordR bl z)) ∧ Below W.heap.size W w' := wordB z hz h.rr
theorem openBh {W : World} {B g b m r : Nat} {bl : List (Int × List Int)} (z : Int) (h : Both W B g b m r bl) : Calls Try.prog 28 #[.pointer (some ⟨g, 0, none⟩), .int .i64 z] W fun e w' => ∃ A c, e = .returned (.tuple #[.int .i64 (openB bl z).1, .slice A (openB bl z).2.1.length c, .int .i64 (openB bl z).2.2]) ∧ (openB bl z).2.1.length ≤ c ∧ (Kd.int .i64).C w' A (openB bl z).2.1.length (openB bl z).2.1 ∧ Below W.heap.size W w' := by
  refine (openC g b m 400 bl z W h.hh).mono ?_
  rintro e w' ⟨v, rfl, ⟨A, c, rfl, hc, hr, _⟩, hb⟩
  exact ⟨A, c, rfl, hc, C_of hr, hb⟩
theorem openB_len {bl : List (Int × List Int)} (hw : Wide bl) (z : Int) : (openB bl z).2.1.length ≤ 1000000 := by
  rw [openB_eq]
  have hf := (hw.fields z).1
  split
  · unfold openOf
    cases hl : fieldsB bl z with
    | nil => simp
    | cons x r =>
      rw [hl] at hf
      simp only [List.length_cons] at hf
      simp only
      split
      · simp
      · split
        · simp
        · simp only
          omega
  · simp
theorem caseBh {W : World} {B g b m r : Nat} {bl : List (Int × List Int)} (z : Int) (h : Both W B g b m r bl) : Calls Try.prog 30 #[.pointer (some ⟨g, 0, none⟩), .int .i64 z] W fun e w' => e = .returned (.tuple #[.int .i64 (caseB bl z).1, .int .i64 (caseB bl z).2]) ∧ Below W.heap.size W w' :=
  (caseC g b m 400 bl z W h.hh).mono fun _ _ hh => ⟨hh.1, below_drawn (Below.refl _ _) hh.2⟩

set_option maxHeartbeats 16000000 in
set_option maxRecDepth 100000 in
theorem primsTold_calls (A : Option Addr) (c : Nat) (l : List D38) (x : Int) (hx : I64 x) (W : World) (hr : k38.C W A l.length l) (hl : l.length ≤ 9223372036854775807) (hd : ∀ d ∈ l, d.Wide) :
    Calls Try.prog 7 #[.slice A l.length c, .int .i64 x] W fun e w' => e = .returned (.bool true) ∧ Below W.heap.size W w' := by
  have HN := Aside0.mk (fun W => newB 400 W (by decide) (by decide))
  have HR := Aside0.mk hr
  have HD := Aside0.mk hd
  have HX := Aside0.mk hx
  have hu38 := Try.underlying38
  clear hr hd hx
  go_enter Try.func7, Try.ntmps7
  go_wp2_with (first
    | (go_at_call 14; (refine (HN.out _).mono ?_); rintro e w1 ⟨g, b, m, rfl, hat, hg, hbb, hm, hb⟩; have HA := Aside0.mk hat; have HG := Aside0.mk (And.intro hg (And.intro hbb hm)); have HB1 := Aside0.mk hb; clear hat hg hbb hm hb)
    | (go_at_call 15; (refine (newRB W _ g b m HA.out HG.out HB1.out.size).mono ?_); rintro e w2 ⟨rfl, ht, hb⟩; have HT2 := Aside0.mk ht; have HB2 := Aside0.mk (below_then HB1.out HB1.out.size hb); clear ht hb))
  obtain ⟨r, hr⟩ : ∃ r, w1.heap.size = r := ⟨_, rfl⟩
  rw [hr] at HT2 ⊢
  clear HA HG HB1 hr
  go_loopg [7] 20 (fun kq v7 w' => ∃ (i : Nat) (bl : List (Int × List Int)), v7 = .int .i64 (i : Int) ∧ Aside0 (i + kq = 20) ∧ Aside0 (Both w' W.heap.size g b m r bl) ∧ Aside0 (Below W.heap.size W w'))
  case atStart => exact ⟨0, [], rfl, ⟨rfl⟩, HT2, HB2⟩
  case round =>
    clear HT2 HB2
    obtain ⟨i, bl, rfl, HI, HT, HB⟩ := hrel
    have hi := HI.out
    by_cases h1 : i < l.length
    · have d1 : ((i : Int) < (l.length : Int)) = True := eq_true (by omega)
      cases gk with
      | zero =>
        have d2 : ¬ (i : Int) < 20 := by omega
        have HWD := Aside0.mk (fun (W1 : World) h => wide_word (W := W1) (B := W.heap.size) (g := g) (b := b) (m := m) (r := r) (bl := bl) x HX.out h)
        have HZ := Aside0.mk (wordR_wide HT.out x HX.out)
        generalize wordR bl x = z at *
        have hwd := HT.out.wide
        have HS := Aside0.mk (fun (W1 : World) h => strC g b m 400 bl z W1 h)
        have HSR := Aside0.mk (fun (W1 : World) h => strRB (W := W1) (B := W.heap.size) (g := r) (ok := Okr W.heap.size g b m r) (n := 400) (bl := bl) z hwd h)
        have HO := Aside0.mk (fun (W1 : World) h => openBh (W := W1) (B := W.heap.size) (g := g) (b := b) (m := m) (r := r) (bl := bl) z h)
        have HOR := Aside0.mk (fun (W1 : World) h => openRB (W := W1) (B := W.heap.size) (g := r) (ok := Okr W.heap.size g b m r) (n := 400) (bl := bl) z hwd h)
        have HC := Aside0.mk (fun (W1 : World) h => caseBh (W := W1) (B := W.heap.size) (g := g) (b := b) (m := m) (r := r) (bl := bl) z h)
        have HCR := Aside0.mk (fun (W1 : World) h => caseRB (W := W1) (B := W.heap.size) (g := r) (ok := Okr W.heap.size g b m r) (n := 400) (bl := bl) z HZ.out h)
        have HOL := Aside0.mk (openB_len hwd z)
        clear hwd
        generalize strB bl z = s at *
        generalize openB bl z = o at *
        generalize caseB bl z = cc at *
        obtain ⟨s1, s2⟩ := s
        obtain ⟨o1, o2, o3⟩ := o
        obtain ⟨c1, c2⟩ := cc
        simp only at *
        have n1 : (s1.toList == s1.toList) = true := beq_self_eq_true _
        have n2 : (s2 == s2) = true := beq_self_eq_true _
        have n3 : (o1 == o1) = true := beq_self_eq_true _
        have n4 : (o3 == o3) = true := beq_self_eq_true _
        have n5 : (c1 == c1) = true := beq_self_eq_true _
        have n6 : (c2 == c2) = true := beq_self_eq_true _
        go_wp2_with (first
          | (go_at_call 26; (with_reducible refine (HWD.out _ HT.out).mono ?_); rintro e w2 ⟨rfl, hb⟩; have HT2 := Aside0.mk (HT.out.below hb); have HB2 := Aside0.mk (below_then HB.out HB.out.size hb); clear hb)
          | (go_at_call 25; (with_reducible refine (HS.out _ HT2.out.hh).mono ?_); rintro e w3 ⟨rfl, hb⟩; have HT3 := Aside0.mk (HT2.out.below hb); have HB3 := Aside0.mk (below_then HB2.out HB2.out.size hb); clear hb)
          | (go_at_call 27; (with_reducible refine (HSR.out _ HT3.out.rr).mono ?_); rintro e w4 ⟨rfl, hb⟩; have HT4 := Aside0.mk (HT3.out.below hb); have HB4 := Aside0.mk (below_then HB3.out HB3.out.size hb); clear hb)
          | (go_at_call 28; (with_reducible refine (HO.out _ HT4.out).mono ?_); rintro e w5 ⟨A5, c5, rfl, hc, hr, hb⟩; have HT5 := Aside0.mk (HT4.out.below hb); have HB5 := Aside0.mk (below_then HB4.out HB4.out.size hb); have HR5 := Aside0.mk hr; have HC5 := Aside0.mk hc; clear hb hr hc)
          | (go_at_call 29; (with_reducible refine (HOR.out _ HT5.out.rr).mono ?_); rintro e w6 ⟨A6, c6, rfl, hc, hr, hb⟩; have HT6 := Aside0.mk (HT5.out.below hb); have HB6 := Aside0.mk (below_then HB5.out HB5.out.size hb); have HR6 := Aside0.mk hr; have HC6 := Aside0.mk hc; have HR56 := Aside0.mk (Kd.C_below HR5.out hb); clear hb hr hc)
          | (go_at_call 30; (with_reducible refine (HC.out _ HT6.out).mono ?_); rintro e w7 ⟨rfl, hb⟩; have HT7 := Aside0.mk (HT6.out.below hb); have HB7 := Aside0.mk (below_then HB6.out HB6.out.size hb); have HR57 := Aside0.mk (Kd.C_below HR56.out hb); have HR67 := Aside0.mk (Kd.C_below HR6.out hb); clear hb)
          | (go_at_call 31; (with_reducible refine (HCR.out _ HT7.out.rr).mono ?_); rintro e w8 ⟨rfl, hb⟩; have HT8 := Aside0.mk (HT7.out.below hb); have HB8 := Aside0.mk (below_then HB7.out HB7.out.size hb); have HR58 := Aside0.mk (Kd.C_below HR57.out hb); have HR68 := Aside0.mk (Kd.C_below HR67.out hb); clear hb)
          | (go_at_call 19; (with_reducible refine (sameC o2 HOL.out A5 A6 c5 c6 HR58.out HC5.out HR68.out HC6.out).mono ?_); rintro e w9 ⟨rfl, hb⟩; have HB9 := Aside0.mk (below_then HB8.out HB8.out.size hb); clear hb)
          | (go_at_call 11; (refine (lives_calls _).mono ?_); rintro e w10 ⟨rfl, hb⟩; have HB10 := Aside0.mk (below_then HB9.out HB9.out.size hb); clear hb))
        go_ret
        exact ⟨rfl, HB10.out⟩
      | succ k1 =>
        have d2 : (i : Int) < 20 := by omega
        obtain ⟨ad, Aw, cw, rfl, q0, q1, q2, q3, q4, q5, q6⟩ := deed_at HR.out i h1
        have hA := C_lt q6
        have hdd := HD.out _ (List.getElem_mem h1)
        generalize l[i] = d at *
        have HDO := Aside0.mk (fun (W1 : World) h hr => doesC (W := W1) (B := W.heap.size) (g := g) (b := b) (m := m) (r := r) (bl := bl) d hdd Aw cw h hr q5 hA)
        have HQ6 := Aside0.mk (Kd.C_below q6 HB.out)
        replace q0 := cell_below HB.out q0
        replace q1 := cell_below HB.out q1
        replace q2 := cell_below HB.out q2
        replace q3 := cell_below HB.out q3
        replace q4 := cell_below HB.out q4
        clear q5 q6 hA hdd
        obtain ⟨dk, ds, da, dq, dl⟩ := d
        simp only at *
        go_wp2_with (go_at_call 16; (refine (HDO.out _ HT.out HQ6.out).mono ?_); rintro e w5 ⟨rfl, bl', ht, hc⟩; have HT5 := Aside0.mk ht; have HB5 := Aside0.mk (hc.below HB.out HB.out.size (fun k hk => hk)); clear ht hc)
        go_roundg k1
        case measure => omega
        case rel => exact ⟨i + 1, _, by go_num, ⟨by omega⟩, HT5, HB5⟩
    · have d1 : ((i : Int) < (l.length : Int)) = False := eq_false (by omega)
      have HWD := Aside0.mk (fun (W1 : World) h => wide_word (W := W1) (B := W.heap.size) (g := g) (b := b) (m := m) (r := r) (bl := bl) x HX.out h)
      have HZ := Aside0.mk (wordR_wide HT.out x HX.out)
      generalize wordR bl x = z at *
      have hwd := HT.out.wide
      have HS := Aside0.mk (fun (W1 : World) h => strC g b m 400 bl z W1 h)
      have HSR := Aside0.mk (fun (W1 : World) h => strRB (W := W1) (B := W.heap.size) (g := r) (ok := Okr W.heap.size g b m r) (n := 400) (bl := bl) z hwd h)
      have HO := Aside0.mk (fun (W1 : World) h => openBh (W := W1) (B := W.heap.size) (g := g) (b := b) (m := m) (r := r) (bl := bl) z h)
      have HOR := Aside0.mk (fun (W1 : World) h => openRB (W := W1) (B := W.heap.size) (g := r) (ok := Okr W.heap.size g b m r) (n := 400) (bl := bl) z hwd h)
      have HC := Aside0.mk (fun (W1 : World) h => caseBh (W := W1) (B := W.heap.size) (g := g) (b := b) (m := m) (r := r) (bl := bl) z h)
      have HCR := Aside0.mk (fun (W1 : World) h => caseRB (W := W1) (B := W.heap.size) (g := r) (ok := Okr W.heap.size g b m r) (n := 400) (bl := bl) z HZ.out h)
      have HOL := Aside0.mk (openB_len hwd z)
      clear hwd
      generalize strB bl z = s at *
      generalize openB bl z = o at *
      generalize caseB bl z = cc at *
      obtain ⟨s1, s2⟩ := s
      obtain ⟨o1, o2, o3⟩ := o
      obtain ⟨c1, c2⟩ := cc
      simp only at *
      have n1 : (s1.toList == s1.toList) = true := beq_self_eq_true _
      have n2 : (s2 == s2) = true := beq_self_eq_true _
      have n3 : (o1 == o1) = true := beq_self_eq_true _
      have n4 : (o3 == o3) = true := beq_self_eq_true _
      have n5 : (c1 == c1) = true := beq_self_eq_true _
      have n6 : (c2 == c2) = true := beq_self_eq_true _
      go_wp2_with (first
        | (go_at_call 26; (with_reducible refine (HWD.out _ HT.out).mono ?_); rintro e w2 ⟨rfl, hb⟩; have HT2 := Aside0.mk (HT.out.below hb); have HB2 := Aside0.mk (below_then HB.out HB.out.size hb); clear hb)
        | (go_at_call 25; (with_reducible refine (HS.out _ HT2.out.hh).mono ?_); rintro e w3 ⟨rfl, hb⟩; have HT3 := Aside0.mk (HT2.out.below hb); have HB3 := Aside0.mk (below_then HB2.out HB2.out.size hb); clear hb)
        | (go_at_call 27; (with_reducible refine (HSR.out _ HT3.out.rr).mono ?_); rintro e w4 ⟨rfl, hb⟩; have HT4 := Aside0.mk (HT3.out.below hb); have HB4 := Aside0.mk (below_then HB3.out HB3.out.size hb); clear hb)
        | (go_at_call 28; (with_reducible refine (HO.out _ HT4.out).mono ?_); rintro e w5 ⟨A5, c5, rfl, hc, hr, hb⟩; have HT5 := Aside0.mk (HT4.out.below hb); have HB5 := Aside0.mk (below_then HB4.out HB4.out.size hb); have HR5 := Aside0.mk hr; have HC5 := Aside0.mk hc; clear hb hr hc)
        | (go_at_call 29; (with_reducible refine (HOR.out _ HT5.out.rr).mono ?_); rintro e w6 ⟨A6, c6, rfl, hc, hr, hb⟩; have HT6 := Aside0.mk (HT5.out.below hb); have HB6 := Aside0.mk (below_then HB5.out HB5.out.size hb); have HR6 := Aside0.mk hr; have HC6 := Aside0.mk hc; have HR56 := Aside0.mk (Kd.C_below HR5.out hb); clear hb hr hc)
        | (go_at_call 30; (with_reducible refine (HC.out _ HT6.out).mono ?_); rintro e w7 ⟨rfl, hb⟩; have HT7 := Aside0.mk (HT6.out.below hb); have HB7 := Aside0.mk (below_then HB6.out HB6.out.size hb); have HR57 := Aside0.mk (Kd.C_below HR56.out hb); have HR67 := Aside0.mk (Kd.C_below HR6.out hb); clear hb)
        | (go_at_call 31; (with_reducible refine (HCR.out _ HT7.out.rr).mono ?_); rintro e w8 ⟨rfl, hb⟩; have HT8 := Aside0.mk (HT7.out.below hb); have HB8 := Aside0.mk (below_then HB7.out HB7.out.size hb); have HR58 := Aside0.mk (Kd.C_below HR57.out hb); have HR68 := Aside0.mk (Kd.C_below HR67.out hb); clear hb)
        | (go_at_call 19; (with_reducible refine (sameC o2 HOL.out A5 A6 c5 c6 HR58.out HC5.out HR68.out HC6.out).mono ?_); rintro e w9 ⟨rfl, hb⟩; have HB9 := Aside0.mk (below_then HB8.out HB8.out.size hb); clear hb)
        | (go_at_call 11; (refine (lives_calls _).mono ?_); rintro e w10 ⟨rfl, hb⟩; have HB10 := Aside0.mk (below_then HB9.out HB9.out.size hb); clear hb))
      go_ret
      exact ⟨rfl, HB10.out⟩
end Go.Proofs.Ytkmoneccehbncaa.Heap
/- A row of deeds that came in, opened; no condition but what the theorem states. -/
namespace Go.Proofs.Ytkmoneccehbncaa.Heap
open Go.ChangeShapes Go.WideShapes Go.ChangeAt Go.RowKit Go.Proofs.YtkmoneccehbncaaW.PrintWords Go.Proofs.Ytkmoneccehbncaa.Print Go.Proofs.Ytkmoneccehbncaa.Ints
set_option linter.unusedVariables false
set_option linter.unusedSimpArgs false
section
variable {H : Type} {enc : TypeId × Value → H} {w : World} {base : Nat} {spare : Nat → Bool} {held : Bool}
theorem reads_ints {A : Addr} {n : Nat} {zs : List Int} (hn : n ≤ zs.length) (hm : n ≤ maxLen) (hcell : ∀ i, i < zs.length → w.cell? (A.add i) = some (.int .i64 (zs.getD i 0))) : (Kd.int .i64).C w (some A) (zs.take n).length (zs.take n) := by
  have hl : (zs.take n).length = n := by simp; omega
  refine C_of ⟨rfl, by rw [hl]; exact hm, fun hp => ⟨A, rfl, fun j hj => ?_⟩⟩
  rw [hl] at hj
  rw [hcell j (by omega)]
  simp [List.getD_eq_getElem?_getD, hj]
theorem wide_int {n : Int} (h : (Lit.int .i64 n).wf = true) : I64 n := i64_of_wf h
/-- One deed. -/
theorem open_deed {fuel : Nat} {cs : List Value} {x : DataW H × List MemPlace} (h : DataW.trod enc Try.prog w base spare held fuel 38 cs = some x) : ∃ d : D38, k38.K w d cs ∧ d.Wide := by
  obtain ⟨xs, n, rfl, rfl, hl, hlen, hf⟩ := DataW.trod_struct Try.underlying38 h
  have hc : Try.prog.cellsOf 38 = 5 := by kernel_rfl
  have c3 : Try.prog.cellsOf 3 = 1 := by kernel_rfl
  have c9 : Try.prog.cellsOf 9 = 1 := by kernel_rfl
  have c36 : Try.prog.cellsOf 36 = 1 := by kernel_rfl
  rw [hc] at hl
  have hxs : xs.length = 5 := hlen
  obtain ⟨v0, v1, v2, v3, v4, rfl⟩ : ∃ v0 v1 v2 v3 v4, cs = [v0, v1, v2, v3, v4] := by
    match cs, hl with
    | [v0, v1, v2, v3, v4], _ => exact ⟨v0, v1, v2, v3, v4, rfl⟩
  obtain ⟨y0, y1, y2, y3, y4, rfl⟩ : ∃ y0 y1 y2 y3 y4, xs = [y0, y1, y2, y3, y4] := by
    match xs, hxs with
    | [y0, y1, y2, y3, y4], _ => exact ⟨y0, y1, y2, y3, y4, rfl⟩
  have h0 := hf 0 _ rfl
  have h1 := hf 1 _ rfl
  have h2 := hf 2 _ rfl
  have h3 := hf 3 _ rfl
  have h4 := hf 4 _ rfl
  have g0 : DataW.trod enc Try.prog w base spare held n 3 (([v0, v1, v2, v3, v4].drop 0).take (Try.prog.cellsOf 3)) = some y0 := h0
  rw [c3] at g0
  replace g0 : DataW.trod enc Try.prog w base spare held n 3 [v0] = some y0 := g0
  have g1 : DataW.trod enc Try.prog w base spare held n 9 (([v0, v1, v2, v3, v4].drop 1).take (Try.prog.cellsOf 9)) = some y1 := h1
  rw [c9] at g1
  replace g1 : DataW.trod enc Try.prog w base spare held n 9 [v1] = some y1 := g1
  have g2 : DataW.trod enc Try.prog w base spare held n 3 (([v0, v1, v2, v3, v4].drop 2).take (Try.prog.cellsOf 3)) = some y2 := h2
  rw [c3] at g2
  replace g2 : DataW.trod enc Try.prog w base spare held n 3 [v2] = some y2 := g2
  have g3 : DataW.trod enc Try.prog w base spare held n 3 (([v0, v1, v2, v3, v4].drop 3).take (Try.prog.cellsOf 3)) = some y3 := h3
  rw [c3] at g3
  replace g3 : DataW.trod enc Try.prog w base spare held n 3 [v3] = some y3 := g3
  have g4 : DataW.trod enc Try.prog w base spare held n 36 (([v0, v1, v2, v3, v4].drop 4).take (Try.prog.cellsOf 36)) = some y4 := h4
  rw [c36] at g4
  replace g4 : DataW.trod enc Try.prog w base spare held n 36 [v4] = some y4 := g4
  obtain ⟨m0, e0, _, w0⟩ := DataW.trod_int Try.underlying3 g0
  obtain ⟨s1, e1, _, _⟩ := DataW.trod_string Try.underlying9 g1
  obtain ⟨m2, e2, _, w2⟩ := DataW.trod_int Try.underlying3 g2
  obtain ⟨m3, e3, _, w3⟩ := DataW.trod_int Try.underlying3 g3
  cases e0
  cases e1
  cases e2
  cases e3
  rcases open_ints Try.underlying36 Try.underlying3 c3 g4 with ⟨e4, _⟩ | ⟨a, len, cap, zs, e4, _, hle, hm, hz, _, hcell, hw⟩
  · cases e4
    exact ⟨⟨m0, s1, m2, m3, []⟩, k38_mk (x := ⟨m0, s1, m2, m3, []⟩) (Nat.le_refl _) (Kd.C_nil _ _), wide_int w2, wide_int w3, fun z hz => by cases hz⟩
  · cases e4
    have hlz : len ≤ zs.length := by
      rw [hz]
      split
      · exact hle
      · exact Nat.le_refl _
    have hl2 : (zs.take len).length = len := by simp; omega
    refine ⟨⟨m0, s1, m2, m3, zs.take len⟩, ?_, wide_int w2, wide_int w3, fun z hz => wide_int (hw z (List.mem_of_mem_take hz))⟩
    have := k38_mk (w := w) (x := ⟨m0, s1, m2, m3, zs.take len⟩) (A := some a) (c := cap) (by simp only; omega) (reads_ints hlz (by omega) hcell)
    simp only [hl2] at this
    exact this
/-- A row of deeds. -/
theorem open_deeds {fuel : Nat} {cs : List Value} {x : DataW H × List MemPlace} (h : DataW.trod enc Try.prog w base spare held fuel 30 cs = some x) :
    ∃ (A : Option Addr) (c : Nat) (l : List D38), cs = [.slice A l.length c] ∧ l.length ≤ 9223372036854775807 ∧ k38.C w A l.length l ∧ ∀ d ∈ l, d.Wide := by
  have hc : Try.prog.cellsOf 38 = 5 := by kernel_rfl
  rcases DataW.trod_slice Try.underlying30 h with ⟨e, _⟩ | ⟨a, len, cap, elems, rest, n, _, rfl, _, hb, hl, hm, hlen, hel, _, _⟩
  · exact ⟨none, 0, [], e, by simp, Kd.C_nil _ _, fun d hd => by cases hd⟩
  · have each : ∀ i, i < len → ∃ d : D38, (∃ c, c.length = 5 ∧ k38.K w d c ∧ ∀ j u, c[j]? = some u → w.cell? (a.add (i * 5 + j)) = some u) ∧ d.Wide := by
      intro i hi
      have h1 := hel i hi
      rw [hc, List.getElem?_eq_getElem (by omega), Option.bind_eq_some_iff] at h1
      obtain ⟨cs', h2, h3⟩ := h1
      obtain ⟨d, hK, hw⟩ := open_deed h3
      obtain ⟨_, h5, h6⟩ := World.cells?_some h2
      refine ⟨d, ⟨cs', h5, hK, fun j u hj => ?_⟩, hw⟩
      have hj5 : j < 5 := by
        have := (List.getElem?_eq_some_iff.1 hj).1
        omega
      have := h6 j hj5
      rw [Go.Addr.add_add] at this
      rw [this, hj]
    have pick : ∃ f : Nat → D38, ∀ i, i < len → (∃ c, c.length = 5 ∧ k38.K w (f i) c ∧ ∀ j u, c[j]? = some u → w.cell? (a.add (i * 5 + j)) = some u) ∧ (f i).Wide := by
      refine ⟨fun i => if hi : i < len then Classical.choose (each i hi) else ⟨0, ⟨#[]⟩, 0, 0, []⟩, fun i hi => ?_⟩
      simp only
      rw [dif_pos hi]
      exact Classical.choose_spec (each i hi)
    obtain ⟨f, hf⟩ := pick
    have hll : ((List.range len).map f).length = len := by simp
    have hmx : len ≤ 9223372036854775807 := by
      have : maxLen = 9223372036854775807 := rfl
      omega
    refine ⟨some a, cap, (List.range len).map f, by rw [hll], by rw [hll]; exact hmx, ⟨rfl, by rw [hll]; exact hmx, fun hp => ⟨a, rfl, fun j p hj => ?_⟩⟩, fun d hd => ?_⟩
    · rw [List.getElem?_map] at hj
      obtain ⟨i, hi, rfl⟩ := Option.map_eq_some_iff.1 hj
      obtain ⟨hi1, rfl⟩ := List.getElem?_eq_some_iff.1 hi
      simp only [List.length_range] at hi1
      rw [List.getElem_range]
      exact (hf j hi1).1
    · obtain ⟨i, hi, rfl⟩ := List.mem_map.1 hd
      exact (hf i (List.mem_range.1 hi)).2
end
end Go.Proofs.Ytkmoneccehbncaa.Heap
