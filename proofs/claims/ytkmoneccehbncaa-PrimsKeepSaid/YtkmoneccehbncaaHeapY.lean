/- heap.Collect from one root; no condition but what each theorem states. -/
import Derived.Test.YtkmoneccehbncaaHeapX
import Derived.Outline
namespace Go.Proofs.Ytkmoneccehbncaa.Heap
open Go.RowKit Go.Proofs.YtkmoneccehbncaaW.PrintWords Go.Proofs.YtkmoneccehbncaaW.PrintLast Go.Proofs.YtkmoneccehbncaaW.PrintMore Go.Proofs.Ytkmoneccehbncaa.Print Go.Proofs.Ytkmoneccehbncaa.Ints
set_option linter.unusedVariables false
set_option linter.unusedSimpArgs false

theorem mayC (g b m : Nat) (n : Int) (bl : List (Int × List Int)) (z : Int) (W : World) (h : AtB W g b m n bl) :
    Calls Try.prog 62 #[.pointer (some ⟨g, 0, none⟩), .int .i64 z] W fun e w' => e = .returned (.bool (mayB bl z)) ∧ Drawn0 W w' := by
  obtain ⟨H, a1, a2⟩ := h
  have e : H.may z = mayB bl z := by
    unfold PH.may mayB
    rw [a2.place_pos z]
  rw [← e]
  exact may_calls g b m H z W a1
set_option maxHeartbeats 800000 in
set_option maxRecDepth 100000 in
theorem collect1_calls (g b m : Nat) (n : Int) (bl : List (Int × List Int)) (z : Int) (c : Nat) (W : World) (h : AtB W g b m n bl) (hc : W.cell? ⟨c, 0, none⟩ = some (.pointer (some ⟨g, 0, none⟩))) :
    Calls Try.prog 61 #[.int .i64 z, .pointer (some ⟨c, 0, none⟩)] W fun e w' => e = .returned (.bool (!mayB bl z)) ∧ Drawn0 W w' := by
  have HM := Aside0.mk (mayC g b m n bl z W h)
  go_enter Try.func61, Try.ntmps61
  go_wp2_with (go_at_call 62; (with_reducible refine HM.out.mono ?_); rintro e w' ⟨rfl, ⟨nd, rfl⟩⟩)
  go_ret
  exact ⟨rfl, by repeat (first | exact Drawn0.refl _ | apply Drawn0.step)⟩
theorem halfC (g b m : Nat) (n : Int) (bl : List (Int × List Int)) (W : World) (h : AtB W g b m n bl) :
    Calls Try.prog 63 #[.pointer (some ⟨g, 0, none⟩)] W fun e w' => e = .returned (.int .i64 n) ∧ Drawn0 W w' := by
  obtain ⟨H, a1, a2⟩ := h
  have := half_calls g b m H W a1 a2.wf.len
  have hr := a2.room
  rw [show (H.ws.length : Int) - 1 = n by omega] at this
  exact this
theorem drawn_n (W : World) (n : Nat) : Drawn0 W (W.drewN n) := ⟨⟨n, rfl⟩⟩

theorem Mv.start {w2 w3 : World} {g b m : Nat} {n : Int} {bl : List (Int × List Int)} {g' b' m' ch : Nat} (h : AtB w2 g b m n bl) (hch : w2.heap[ch]? = some (.cells #[.pointer (some ⟨g, 0, none⟩)] 31 (0, 0))) (hb : Below w2.heap.size w2 w3) (h' : AtB w3 g' b' m' n []) (a1 : w2.heap.size ≤ g') (a2 : w2.heap.size ≤ b') (a3 : w2.heap.size ≤ m') :
    Mv (((w3.alloc (.cells #[.pointer (some ⟨g', 0, none⟩)] 31)).alloc (.map #[] 0)).alloc (.cells #[.map (some (w3.heap.size + 1))] 91)) g b m n bl g' b' m' n (w3.heap.size + 1) ch (w3.heap.size + 1 + 1) w3.heap.size ([], (fun _ => 0), []) := by
  have hb3 : Below w3.heap.size w3 (((w3.alloc (.cells #[.pointer (some ⟨g', 0, none⟩)] 31)).alloc (.map #[] 0)).alloc (.cells #[.map (some (w3.heap.size + 1))] 91)) := below_alloc (below_alloc (below_alloc (Below.refl _ _) _) _) _
  have hs := hb.size
  have l1 := h.sizes
  have l2 := h'.sizes
  have l3 := blk_lt hch
  obtain ⟨H, k1, k2⟩ := id h
  obtain ⟨es, cl, e1, e2⟩ := k1.places
  have l4 := blk_lt e1
  obtain ⟨H', k1', k2'⟩ := id h'
  obtain ⟨es', cl', e1', e2'⟩ := k1'.places
  have l5 := blk_lt e1'
  have x1 := blk_new w3 (.cells #[.pointer (some ⟨g', 0, none⟩)] 31)
  have x2 := blk_new (w3.alloc (.cells #[.pointer (some ⟨g', 0, none⟩)] 31)) (.map #[] 0)
  have x3 := blk_new ((w3.alloc (.cells #[.pointer (some ⟨g', 0, none⟩)] 31)).alloc (.map #[] 0)) (.cells #[.map (some (w3.heap.size + 1))] 91)
  have z1 : (w3.alloc (.cells #[.pointer (some ⟨g', 0, none⟩)] 31)).heap.size = w3.heap.size + 1 := by simp
  have z2 : ((w3.alloc (.cells #[.pointer (some ⟨g', 0, none⟩)] 31)).alloc (.map #[] 0)).heap.size = w3.heap.size + 1 + 1 := by simp
  rw [z1] at x2
  rw [z2] at x3
  refine ⟨(h.below hb).below hb3, h'.below hb3, ⟨#[], 0, blk_alloc x2 _, rfl⟩, blk_below (blk_below hch hb) hb3, x3, blk_alloc (blk_alloc x1 _) _, fun k hk => ?_, ?_, fun k hk => by cases hk⟩
  · omega
  · omega
theorem Mv.small {W : World} {g b m : Nat} {n : Int} {bl : List (Int × List Int)} {g' b' m' : Nat} {n' : Int} {q ch cn ct : Nat} {s : St} (h : Mv W g b m n bl g' b' m' n' q ch cn ct s) : ∀ k, Moves g' b' m' q k → k < W.heap.size := by
  obtain ⟨H, k1, k2⟩ := h.to_
  obtain ⟨es, cl, e1, e2⟩ := k1.places
  obtain ⟨es', cl', e1', e2'⟩ := h.map
  have l1 := blk_lt k1.head
  have l2 := blk_lt k1.words
  have l3 := blk_lt e1
  have l4 := blk_lt e1'
  intro k hk
  simp only [Moves] at hk
  omega
theorem topC {W : World} {g b m : Nat} {n : Int} {bl : List (Int × List Int)} (h : AtB W g b m n bl) : W.cell? ⟨g, 1, none⟩ = some (.int .i64 (topB 1 bl)) := by
  obtain ⟨H, k1, k2⟩ := h
  rw [blk_cell k1.head 1, ← k2.top]
  rfl
theorem spanP (g b m : Nat) (n : Int) (bl : List (Int × List Int)) (p : Nat) (y : Int × List Int) (hy : findB 1 bl (2 * (p : Int)) = some y) (W : World) (h : AtB W g b m n bl) :
    Calls Try.prog 51 #[.pointer (some ⟨g, 0, none⟩), .int .i64 (p : Int)] W fun e w' => e = .returned (.slice (some (cutAt b (p + 1) y.2.length)) y.2.length y.2.length) ∧ Drawn0 W w' := by
  have := spanC g b m n bl (2 * (p : Int)) y hy W h
  rw [show 2 * (p : Int) / 2 = (p : Int) by omega, Int.toNat_natCast] at this
  exact this
theorem headP {W : World} {g b m : Nat} {n : Int} {bl : List (Int × List Int)} {p : Nat} {y : Int × List Int} (hy : findB 1 bl (2 * (p : Int)) = some y) (h : AtB W g b m n bl) : ∃ L v, W.cell? ⟨g, 0, none⟩ = some (.slice (some ⟨b, 0, none⟩) L L) ∧ W.cell? ⟨b, p, none⟩ = some (.int .i64 v) ∧ (p : Int) < (L : Int) ∧ v.tmod 256 = y.1 ∧ (p : Int) + 1 + y.2.length ≤ n + 1 := by
  obtain ⟨L, v, h1, h2, h3, h4, h5, h6, h7, h8⟩ := headB hy h
  have hb := h.bound
  obtain ⟨q, e, f1, f2⟩ := findB_some hy
  rw [show 2 * (p : Int) / 2 = (p : Int) by omega] at h2 h4
  rw [Int.toNat_natCast] at h2
  exact ⟨L, v, h1, h2, h4, h6, by omega⟩

theorem cell_below {W W1 : World} {a : Addr} {v : Value} (hb : Below W.heap.size W W1) (h : W.cell? a = some v) : W1.cell? a = some v := by
  rcases Nat.lt_or_ge a.block W.heap.size with hl | hl
  · exact (World.cell?_of_block (w := W) (hb.block a.block hl)).trans h
  · unfold World.cell? at h
    rw [Array.getElem?_eq_none hl] at h
    cases h
theorem reads_lt {W : World} {o : Nat} {x : Int} (h : ReadsInt W .i64 (some ⟨o, 0, none⟩) 1 [x]) : o < W.heap.size := by
  obtain ⟨ad, e, hc⟩ := h.at_ 0 (Int.le_refl _) (by simp)
  cases e
  have hc := first_cell (r := []) hc
  rcases Nat.lt_or_ge o W.heap.size with hl | hl
  · exact hl
  · unfold World.cell? at hc
    rw [Array.getElem?_eq_none hl] at hc
    cases hc
/-- What holds while blocks are gone through: the heaps, and the row of roots that were moved. -/
structure Go2 (W0 W : World) (g b m : Nat) (n : Int) (bl : List (Int × List Int)) (g' b' m' : Nat) (n' : Int) (q ch cn ct : Nat) (s : St) (o : Nat) (v : Int) : Prop where
  mv : Mv W g b m n bl g' b' m' n' q ch cn ct s
  below : Below W0.heap.size W0 W
  out : ReadsInt W .i64 (some ⟨o, 0, none⟩) 1 [v]
  away : ¬ Moves g' b' m' q o ∧ W0.heap.size ≤ o
  big : ∀ k, Moves g' b' m' q k → W0.heap.size ≤ k
theorem Go2.chg {W0 W W1 : World} {g b m : Nat} {n : Int} {bl : List (Int × List Int)} {g' b' m' : Nat} {n' : Int} {q ch cn ct : Nat} {s s' : St} {o : Nat} {v : Int} (h : Go2 W0 W g b m n bl g' b' m' n' q ch cn ct s o v) (hm : Mv W1 g b m n bl g' b' m' n' q ch cn ct s') (hc : Chg (Moves g' b' m' q) W W1) : Go2 W0 W1 g b m n bl g' b' m' n' q ch cn ct s' o v :=
  ⟨hm, hc.below h.below h.below.size h.big, reads_chg hc h.out (reads_lt h.out) h.away.1, h.away, h.big⟩
theorem Go2.drawn {W0 W W1 : World} {g b m : Nat} {n : Int} {bl : List (Int × List Int)} {g' b' m' : Nat} {n' : Int} {q ch cn ct : Nat} {s : St} {o : Nat} {v : Int} (h : Go2 W0 W g b m n bl g' b' m' n' q ch cn ct s o v) (hd : Drawn0 W W1) : Go2 W0 W1 g b m n bl g' b' m' n' q ch cn ct s o v :=
  ⟨h.mv.drawn hd, below_drawn h.below hd, reads_drawn h.out hd, h.away, h.big⟩
theorem put3 (W : World) (g : Nat) (x0 x1 x2 a0 a1 a2 : Value) (h : W.heap[g]? = some (.cells #[x0, x1, x2] 71 (0, 0))) :
    ((((W.setCell ⟨g, 0, none⟩ a0).setCell ⟨g, 1, none⟩ a1).setCell ⟨g, 2, none⟩ a2).drew).heap[g]? = some (.cells #[a0, a1, a2] 71 (0, 0)) ∧ Chg (· = g) W ((((W.setCell ⟨g, 0, none⟩ a0).setCell ⟨g, 1, none⟩ a1).setCell ⟨g, 2, none⟩ a2).drew) := by
  have h0 := blk_put h 0 a0 (rfl : _ = #[a0, x1, x2])
  have h1 := blk_put h0 1 a1 (rfl : _ = #[a0, a1, x2])
  have h2 := blk_put h1 2 a2 (rfl : _ = #[a0, a1, a2])
  refine ⟨h2, ?_⟩
  have hc := (((Chg.refl (· = g) W).set (p := ⟨g, 0, none⟩) rfl a0).set (p := ⟨g, 1, none⟩) rfl a1).set (p := ⟨g, 2, none⟩) rfl a2
  exact hc.trans (Chg.of_below _ (below_drew1 (Below.refl _ _)))
theorem Go2.done {W0 W : World} {g b m : Nat} {n : Int} {bl : List (Int × List Int)} {g' b' m' : Nat} {n' : Int} {q ch cn ct : Nat} {s : St} {o : Nat} {v : Int} (h : Go2 W0 W g b m n bl g' b' m' n' q ch cn ct s o v) (h0 : g < W0.heap.size) (H2 : PH) (m1 : At W g' b' m' H2) (m2 : Lays H2 n' s.1) :
    ReadsInt (((W.setCell ⟨g, 0, none⟩ (.slice (some ⟨b', 0, none⟩) H2.ws.length H2.ws.length)).setCell ⟨g, 1, none⟩ (.int .i64 (topB 1 s.1))).setCell ⟨g, 2, none⟩ (.map (some m'))).drew .i64 (some ⟨o, 0, none⟩) 1 [v] ∧
    AtB (((W.setCell ⟨g, 0, none⟩ (.slice (some ⟨b', 0, none⟩) H2.ws.length H2.ws.length)).setCell ⟨g, 1, none⟩ (.int .i64 (topB 1 s.1))).setCell ⟨g, 2, none⟩ (.map (some m'))).drew g b' m' n' s.1 ∧
    Chg (· = g) W0 (((W.setCell ⟨g, 0, none⟩ (.slice (some ⟨b', 0, none⟩) H2.ws.length H2.ws.length)).setCell ⟨g, 1, none⟩ (.int .i64 (topB 1 s.1))).setCell ⟨g, 2, none⟩ (.map (some m'))).drew := by
  obtain ⟨H, k1, k2⟩ := h.mv.from_
  obtain ⟨e1, e2⟩ := put3 W g _ _ _ (.slice (some ⟨b', 0, none⟩) H2.ws.length H2.ws.length) (.int .i64 (topB 1 s.1)) (.map (some m')) k1.head
  obtain ⟨es, cl, e3, e4⟩ := m1.places
  have hb' := h.mv.apart b' (by simp)
  have hm' := h.mv.apart m' (by simp)
  have hgo : o ≠ g := by have := h.away.2; omega
  refine ⟨reads_chg e2 h.out (reads_lt h.out) hgo, ⟨H2, ⟨?_, ?_, es, cl, ?_, e4⟩, m2⟩, (Chg.of_below _ h.below).trans e2⟩
  · rw [e1, m2.top]
  · exact (e2.block b' (blk_lt m1.words) (by omega)).trans m1.words
  · exact (e2.block m' (blk_lt e3) (by omega)).trans e3
theorem moveC (g b m : Nat) (n : Int) (bl : List (Int × List Int)) (g' b' m' : Nat) (n' : Int) (q ch cn ct : Nat) (s : St) (w : Int) (r : Int × St) (h0 : mvO n' bl s w = some r) (W : World) (h : Mv W g b m n bl g' b' m' n' q ch cn ct s) :
    Calls Try.prog 64 #[.int .i64 w, .pointer (some ⟨ch, 0, none⟩), .pointer (some ⟨cn, 0, none⟩), .pointer (some ⟨ct, 0, none⟩)] W fun e w' => e = .returned (.int .i64 r.1) ∧ Mv w' g b m n bl g' b' m' n' q ch cn ct r.2 ∧ Chg (Moves g' b' m' q) W w' := by
  obtain ⟨e, hroom⟩ := mvO_eq h0
  have := move_calls g b m n bl g' b' m' n' q ch cn ct s w W h hroom
  rw [e] at this
  exact this

set_option maxHeartbeats 16000000 in
set_option maxRecDepth 100000 in
theorem collect_calls (g b m : Nat) (n : Nat) (bl : List (Int × List Int)) (c v : Int) (A : Option Addr) (cap : Nat) (k : Nat) (s1 s2 : St) (W : World) (h : AtB W g b m n bl) (hr : ReadsInt W .i64 A [c].length [c]) (hmay : mayB bl c = true)
    (hn1 : 64 ≤ n) (hn2 : n ≤ 65536) (h1 : mvO n bl ([], (fun _ => 0), []) c = some (v, s1)) (h2 : scanO n bl k 1 s1 = some s2) :
    Calls Try.prog 33 #[.pointer (some ⟨g, 0, none⟩), .slice A [c].length cap] W fun e w' => ∃ o oc b' m', e = .returned (.tuple #[.slice (some ⟨o, 0, none⟩) 1 oc, .int .i64 0]) ∧ ReadsInt w' .i64 (some ⟨o, 0, none⟩) 1 [v] ∧ AtB w' g b' m' n s2.1 ∧ W.heap.size ≤ b' ∧ W.heap.size ≤ m' ∧ Chg (· = g) W w' := by
  have hb1 : Below W.heap.size W (W.alloc (.cells #[.pointer (some ⟨g, 0, none⟩)] 31)) := (Below.refl _ _).alloc (Nat.le_refl _) _
  have hat1 := h.below hb1
  have hcell : (W.alloc (.cells #[.pointer (some ⟨g, 0, none⟩)] 31)).cell? ⟨W.heap.size, 0, none⟩ = some (.pointer (some ⟨g, 0, none⟩)) := by
    rw [World.cell?_alloc_new]; rfl
  have HC := Aside0.mk (containsFunc61_calls (.pointer (some ⟨W.heap.size, 0, none⟩)) (fun z => !mayB bl z) A cap [c] (W.alloc (.cells #[.pointer (some ⟨g, 0, none⟩)] 31)) (hr.allocS _) (by simp)
    (fun n' z => collect1_calls g b m n bl z W.heap.size _ (hat1.drawn (drawn_n _ n')) hcell))
  have HA := Aside0.mk hat1
  have HG0 := Aside0.mk h.sizes.1
  have HN := Aside0.mk (fun W => newB n W hn1 hn2)
  have hmay2 : [c].any (fun z => !mayB bl z) = false := by simp [hmay]
  rw [hmay2] at HC
  clear hat1 hmay hmay2 h
  have hmm := @run_makeMap Try.prog 91
  go_enter Try.func33, Try.ntmps33
  go_wp2_with (first
    | (go_at_call 60; (refine HC.out.mono ?_); rintro e w1 ⟨rfl, hd⟩; have HD1 := Aside0.mk hd; have HA1 := Aside0.mk (HA.out.drawn hd); have hc1 := cell_drawn hcell hd; clear hd)
    | (go_at_call 63; (refine (halfC g b m n bl _ HA1.out).mono ?_); rintro e w2 ⟨rfl, hd⟩; have HD2 := Aside0.mk hd; have HA2 := Aside0.mk (HA1.out.drawn hd); have hc2 := cell_drawn hc1 hd; clear hd)
    | (go_at_call 14; (refine (HN.out _).mono ?_); rintro e w3 ⟨g', b', m', rfl, hat, hg, hb, hm, hbl⟩; have HT3 := Aside0.mk hat; have HG := Aside0.mk hg; have HBB := Aside0.mk hb; have HM := Aside0.mk hm; have HB3 := Aside0.mk hbl; clear hat hg hb hm hbl))
  have HM0 := Aside0.mk (Mv.start HA2.out (blk_drawn (blk_drawn (blk_new W (.cells #[.pointer (some ⟨g, 0, none⟩)] 31)) HD1.out) HD2.out) HB3.out HT3.out HG.out HBB.out HM.out)
  have HB0 := Aside0.mk (below_alloc (below_alloc (below_alloc (below_then (below_drawn (below_drawn hb1 HD1.out) HD2.out) (below_drawn (below_drawn hb1 HD1.out) HD2.out).size HB3.out) (.cells #[.pointer (some ⟨g', 0, none⟩)] 31)) (.map #[] 0)) (.cells #[.map (some (w3.heap.size + 1))] 91))
  have HBig : Aside0 (∀ k, Moves g' b' m' (w3.heap.size + 1) k → W.heap.size ≤ k) := ⟨fun k hk => by
    have a1 := HG.out
    have a2 := HBB.out
    have a3 := HM.out
    have a4 := (below_drawn (below_drawn hb1 HD1.out) HD2.out).size
    have a5 := HB3.out.size
    simp only [Moves] at hk
    omega⟩
  have H1 := Aside0.mk h1
  have H2 := Aside0.mk h2
  have HR := Aside0.mk ((hr.allocS (.cells #[.pointer (some ⟨g, 0, none⟩)] 31)))
  go_loopg [9, 25] 1 (fun kq v9 v25 w' => Aside0 (Below W.heap.size W w') ∧ ((Aside0 (kq = 1) ∧ v9 = .slice none 0 0 ∧ v25 = .int .i64 0 ∧ Aside0 (Mv w' g b m n bl g' b' m' n (w3.heap.size + 1) W.heap.size (w3.heap.size + 1 + 1) w3.heap.size ([], (fun _ => 0), []))) ∨ (Aside0 (kq = 0) ∧ v25 = .int .i64 1 ∧ ∃ o oc, v9 = .slice (some ⟨o, 0, none⟩) 1 oc ∧ Aside0 (Mv w' g b m n bl g' b' m' n (w3.heap.size + 1) W.heap.size (w3.heap.size + 1 + 1) w3.heap.size s1) ∧ Aside0 (ReadsInt w' .i64 (some ⟨o, 0, none⟩) 1 [v]) ∧ Aside0 (o < w'.heap.size ∧ ¬ Moves g' b' m' (w3.heap.size + 1) o ∧ W.heap.size ≤ o))))
  case atStart => exact ⟨HB0, .inl ⟨⟨rfl⟩, rfl, rfl, HM0⟩⟩
  case round =>
    obtain ⟨HB, hrel⟩ := hrel
    rcases hrel with ⟨⟨rfl⟩, rfl, rfl, HMV⟩ | ⟨⟨rfl⟩, rfl, o, oc, rfl, HMV, HRO, HO⟩
    · obtain ⟨ad, rfl, hca⟩ := hr.at_ 0 (Int.le_refl _) (by simp)
      have hcw := cell_below HB.out (first_cell (r := []) hca)
      clear hca
      go_wp2_with (first
        | (go_at_call 64; (refine (moveC g b m n bl g' b' m' n (w3.heap.size + 1) W.heap.size (w3.heap.size + 1 + 1) w3.heap.size ([], (fun _ => 0), []) c (v, s1) H1.out _ HMV.out).mono ?_); rintro e w5 ⟨rfl, hm, hc⟩; have HM5 := Aside0.mk hm; have HB5 := Aside0.mk (hc.below HB.out HB.out.size HBig.out); clear hm hc)
        | ((with_reducible refine gate_builtin (b := .append) (xs := #[.tmp 29, .tmp 33]) rfl ?_); at_builtin; refine Kd.R_append (Kd.int .i64) (w0 := w5) w5.heap.size rfl (.tmp 29) (.tmp 33) 36 3 (.int .i64 0) 8 rfl Try.underlying36 info3 rfl (by decide) (by omega) (.slice none 0 0) [] v [.int .i64 v] (fun _ => True) (fun _ => False) rfl rfl ?aP (fun _ hk => hk.elim) ?aF ?aO (Below.refl _ _) ?aS ?aL ?_; (case aP => exact rfl); (case aF => exact (fun _ _ => trivial)); (case aO => exact Kd.R_nil _ _ _ _ _); (case aS => exact Nat.le_refl _); (case aL => decide); intro v6 w6 ho hb hg hat; obtain ⟨o, oc, rfl, _, _, hoB, hro⟩ := own_form (l := [v]) (Kd.own_of_R ho) (by simp); have HRO := Aside0.mk hro; have HM6 := Aside0.mk (HM5.out.below hb); have HB6 := Aside0.mk (below_then HB5.out HB5.out.size hb); have HOB := Aside0.mk hoB; clear ho hb hg hat hro hoB))
      go_roundg 0
      case measure => omega
      case rel => exact ⟨HB6, .inr ⟨⟨rfl⟩, rfl, o, oc, rfl, HM6, HRO, ⟨⟨reads_lt HRO.out, fun hk => by have := HM5.out.small _ hk; have := HOB.out; omega, by have := HB5.out.size; have := HOB.out; omega⟩⟩⟩⟩
    · have HGO := Aside0.mk (Go2.mk HMV.out HB.out HRO.out HO.out.2 HBig.out)
      clear HMV HB HRO HO HM0 HB0
      generalize hch : W.heap.size = ch at HGO ⊢
      go_wp2
      go_loopg [12] k (fun kq v12 w' => ∃ (p : Nat) (s : St), v12 = .int .i64 (p : Int) ∧ Aside0 (1 ≤ p) ∧ Aside0 (scanO n bl kq p s = some s2) ∧ Aside0 (Go2 W w' g b m n bl g' b' m' n (w3.heap.size + 1) ch (w3.heap.size + 1 + 1) w3.heap.size s o v))
      case atStart => exact ⟨1, s1, rfl, ⟨Nat.le_refl _⟩, H2, HGO⟩
      case round =>
        obtain ⟨p, s, rfl, HP, HS, HGO⟩ := hrel
        cases gk with
        | zero => exact absurd HS.out (by simp [scanO])
        | succ k1 =>
          have hs := HS.out
          clear HS
          rw [scanO] at hs
          have hc3 := HGO.out.mv.cell3
          have htop := topC HGO.out.mv.to_
          have hbnd := HGO.out.mv.to_.bound
          by_cases hlt : (p : Int) < topB 1 s.1
          · rw [if_pos hlt] at hs
            cases hy : findB 1 s.1 (2 * (p : Int)) with
            | none => rw [hy] at hs; cases hs
            | some y =>
              rw [hy] at hs
              simp only at hs
              have HSP := Aside0.mk (fun W h => spanP g' b' m' n s.1 p y hy W h)
              have HFI : Aside0 (∃ l, findB 1 s.1 (2 * (p : Int)) = some (y.1, l) ∧ l.length = y.2.length) := ⟨⟨y.2, hy, rfl⟩⟩
              obtain ⟨_, _, _, _, _, _, hroomL⟩ := headP hy HGO.out.mv.to_
              clear hy
              generalize y.1 = tag at *
              generalize y.2.length = L at *
              obtain ⟨ad, had⟩ : ∃ ad, cutAt b' (p + 1) L = ad := ⟨_, rfl⟩
              rw [had] at HSP
              have HS := Aside0.mk hs
              have HAD := Aside0.mk had
              have hL : L ≤ 100000 := by omega
              have hp1 : 1 ≤ p := HP.out
              clear hs had y
              go_wp2_with (go_at_call 51; (with_reducible refine (HSP.out _ HGO.out.mv.to_).mono ?_); rintro e w7 ⟨rfl, hd⟩; have HG7 := Aside0.mk (HGO.out.drawn hd); clear hd)
              go_loopg [47] L (fun kq v47 w' => ∃ (i : Nat) (s' : St), v47 = .int .i64 (i : Int) ∧ Aside0 (i + kq = L) ∧ Aside0 ((fldO n bl p tag kq i s').bind (fun s'' => scanO n bl k1 (p + 1 + L) s'') = some s2) ∧ Aside0 (∃ l, findB 1 s'.1 (2 * (p : Int)) = some (tag, l) ∧ l.length = L) ∧ Aside0 (Go2 W w' g b m n bl g' b' m' n (w3.heap.size + 1) ch (w3.heap.size + 1 + 1) w3.heap.size s' o v))
              case atStart => exact ⟨0, s, rfl, ⟨by omega⟩, HS, HFI, HG7⟩
              case round =>
                clear HS HFI HG7 HSP HGO htop hc3 hlt
                obtain ⟨i, s', rfl, HI, HS, HFI, HGO⟩ := hrel
                cases gk with
                | zero =>
                  have hi := HI.out
                  have hs := HS.out
                  rw [fldO] at hs
                  have HS2 := Aside0.mk (show scanO n bl k1 (p + 1 + L) s' = some s2 from hs)
                  clear hs HS HFI
                  go_wp2
                  go_roundg k1
                  case measure => omega
                  case rel => exact ⟨p + 1 + L, s', by go_num, ⟨by omega⟩, HS2, HGO⟩
                | succ k2 =>
                  have hi := HI.out
                  obtain ⟨l, hfl, hll⟩ := HFI.out
                  obtain ⟨L2, hv, hh0, hh1, hh2, hh3, _⟩ := headP hfl HGO.out.mv.to_
                  have hc3 := HGO.out.mv.cell3
                  have hs := HS.out
                  rw [fldO] at hs
                  by_cases ht : tag = 201
                  · rw [if_pos ht] at hs
                    have HS2 := Aside0.mk hs
                    clear hs HS
                    rw [ht] at hh3
                    go_wp2
                    go_roundg k2
                    case measure => omega
                    case rel => exact ⟨i + 1, s', by go_num, ⟨by omega⟩, HS2, HFI, HGO⟩
                  · rw [if_neg ht, hfl] at hs
                    simp only at hs
                    cases hmv : mvO (n : Int) bl s' (rd l (i : Int)) with
                    | none => rw [hmv] at hs; cases hs
                    | some r =>
                      rw [hmv] at hs
                      simp only [Option.bind_some] at hs
                      have hnt : (tag != 201) = true := bne_iff_ne.2 ht
                      have hil : i < l.length := by omega
                      have hiL : i < L := by omega
                      have hE : ad.add i = ⟨b', p + 1 + i, none⟩ := by
                        rw [← HAD.out]
                        unfold cutAt
                        rw [if_neg (by omega)]
                        unfold Addr.add
                        split <;> simp_all
                      have hcl := (HGO.out.mv.to_.set p i (tag, l) hfl hil 0).2.2
                      rw [← hE] at hcl
                      simp only at hcl
                      have hfl2 : findB 1 r.2.1 (2 * (p : Int)) = some (tag, l) := by
                        have := mvB_find (bl := bl) (w := rd l (i : Int)) hfl
                        rw [(mvO_eq hmv).1] at this
                        exact this
                      have HF2 := Aside0.mk hfl2
                      have HE := Aside0.mk hE
                      have HMO := Aside0.mk (fun W h => moveC g b m n bl g' b' m' n (w3.heap.size + 1) ch (w3.heap.size + 1 + 1) w3.heap.size s' (rd l (i : Int)) r hmv W h)
                      have HST := Aside0.mk (fun W (h : AtB W g' b' m' n r.2.1) => h.set p i (tag, l) hfl2 hil r.1)
                      have HS2 := Aside0.mk hs
                      have HF3 : Aside0 (∃ l', findB 1 (setB 1 r.2.1 p i r.1) (2 * (p : Int)) = some (tag, l') ∧ l'.length = L) := ⟨⟨l.set i r.1, by rw [findB_set, if_pos rfl, hfl2]; rfl, by rw [List.length_set]; exact hll⟩⟩
                      clear hs HS hfl2 hE hmv
                      generalize hzz : rd l (i : Int) = z at *
                      clear hzz
                      go_wp2_with (go_at_call 64; (with_reducible refine (HMO.out _ HGO.out.mv).mono ?_); rintro e w8 ⟨rfl, hm, hc⟩; have HG8 := Aside0.mk (HGO.out.chg hm hc); have hst := (HST.out _ hm.to_).2; rw [← HE.out] at hst; obtain ⟨hfz8, hcl8⟩ := hst; clear hm hc)
                      go_roundg k2
                      case measure => omega
                      case rel => exact ⟨i + 1, _, by go_num, ⟨by omega⟩, HS2, HF3, ⟨by rw [HE.out]; exact HG8.out.chg (HG8.out.mv.set p i (tag, l) HF2.out hil r.1) (Chg.set (S := Moves g' b' m' (w3.heap.size + 1)) (Chg.refl _ _) (p := ⟨b', p + 1 + i, none⟩) (.inr (.inl rfl)) _)⟩⟩
          · rw [if_neg hlt] at hs
            obtain rfl := Option.some.inj hs
            obtain ⟨H1, k1', k2'⟩ := HGO.out.mv.from_
            obtain ⟨H2, m1, m2⟩ := HGO.out.mv.to_
            have hc1 := HGO.out.mv.cell1
            have hz0 := (blk_cell m1.head 0).trans (rfl : _ = some (Value.slice (some ⟨b', 0, none⟩) H2.ws.length H2.ws.length))
            have hz1 := (blk_cell m1.head 1).trans (rfl : _ = some (Value.int .i64 H2.top))
            have hz2 := (blk_cell m1.head 2).trans (rfl : _ = some (Value.map (some m')))
            have hy0 := (blk_cell k1'.head 0).trans (rfl : _ = some (Value.slice (some ⟨b, 0, none⟩) H1.ws.length H1.ws.length))
            have hy1 := (blk_cell k1'.head 1).trans (rfl : _ = some (Value.int .i64 H1.top))
            have hy2 := (blk_cell k1'.head 2).trans (rfl : _ = some (Value.map (some m)))
            have hf0 := blk_frozen k1'.head 0
            have hf1 := blk_frozen k1'.head 1
            have hf2 := blk_frozen k1'.head 2
            have hht := m2.top
            rw [← hht] at htop hlt
            go_wp2
            go_region
            have HDN := Aside0.mk (HGO.out.done HG0.out H2 m1 m2)
            have HBG := Aside0.mk (show W.heap.size ≤ b' ∧ W.heap.size ≤ m' from ⟨HGO.out.big _ (by simp [Moves]), HGO.out.big _ (by simp [Moves])⟩)
            clear m1 m2 k1' k2' HGO
            go_wp2
            go_ret2
            exact ⟨o, oc, b', m', rfl, HDN.out.1, HDN.out.2.1, HBG.out.1, HBG.out.2, HDN.out.2.2⟩
end Go.Proofs.Ytkmoneccehbncaa.Heap
