/- The walk of selvagelaw16.PrimsKeep: true, whatever two texts and number. -/
import Derived.Test.YtkmoneccehbncaaHeapZ
import Derived.Outline
namespace Go.Proofs.Ytkmoneccehbncaa.Heap
open Go.RowKit Go.Proofs.YtkmoneccehbncaaW.PrintWords Go.Proofs.YtkmoneccehbncaaW.PrintLast Go.Proofs.YtkmoneccehbncaaW.PrintMore Go.Proofs.Ytkmoneccehbncaa.Print Go.Proofs.Ytkmoneccehbncaa.Ints
set_option linter.unusedVariables false
set_option linter.unusedSimpArgs false

theorem kText (bl bl' : List (Int × List Int)) (s : ByteArray) (x e : Int) (h : textB 200 bl s = (x, e, bl')) (g b m : Nat) (W : World) (ha : AtB W g b m 200 bl) :
    Calls Try.prog 23 #[.pointer (some ⟨g, 0, none⟩), .string s] W fun e' w' => e' = .returned (.tuple #[.int .i64 x, .int .i64 e]) ∧ AtB w' g b m 200 bl' ∧ Chg (Its g b m) W w' := by
  have := textC g b m 200 bl s W ha
  rw [h] at this
  exact this
theorem kClose (s t : ByteArray) (h : s.size ≤ 60) (ht : t.size ≤ 60) (f : Int) (h0 : 0 ≤ f) (h1 : f ≤ 1000) (A : Option Addr) (c : Nat) (z1 : Int) (hz : kb s = z1) (g b m : Nat) (W : World) (ha : AtB W g b m 200 (k3 s t)) (hr : ReadsInt W .i64 A 3 [z1, 2, 9]) :
    Calls Try.prog 32 #[.pointer (some ⟨g, 0, none⟩), .int .i64 f, .slice A 3 c] W fun e' w' => e' = .returned (.tuple #[.int .i64 (kc s t), .int .i64 0]) ∧ AtB w' g b m 200 (k4 s t f) ∧ Chg (Its g b m) W w' := by
  subst hz
  have := closeC g b m 200 (k3 s t) f A c [kb s, 2, 9] W ha hr (by simp)
  rw [k_close s t h ht f h0 h1] at this
  exact this
theorem kCollect (s t : ByteArray) (h : s.size ≤ 60) (ht : t.size ≤ 60) (f : Int) (A : Option Addr) (c : Nat) (z2 : Int) (hz : kc s t = z2) (g b m : Nat) (W : World) (ha : AtB W g b m 200 (k4 s t f)) (hr : ReadsInt W .i64 A 1 [z2]) :
    Calls Try.prog 33 #[.pointer (some ⟨g, 0, none⟩), .slice A 1 c] W fun e' w' => ∃ o oc b' m', e' = .returned (.tuple #[.slice (some ⟨o, 0, none⟩) 1 oc, .int .i64 0]) ∧ w'.cell? ⟨o, 0, none⟩ = some (.int .i64 2) ∧ AtB w' g b' m' 200 (k5 s t f) ∧ Chg (· = g) W w' := by
  subst hz
  obtain ⟨s2, e1, e2⟩ := k_scan s t h ht f
  have hm : mayB (k4 s t f) (kc s t) = true := by unfold mayB; rw [f4_c]; simp
  refine (collect_calls g b m 200 (k4 s t f) (kc s t) 2 A c 4 _ s2 W ha hr hm (by decide) (by decide) (k_move s t f) e1).mono ?_
  rintro e w' ⟨o, oc, b', m', rfl, hro, hat, _, _, hc⟩
  rw [e2] at hat
  obtain ⟨ad, e, hc0⟩ := hro.at_ 0 (Int.le_refl _) (by simp)
  cases e
  exact ⟨o, oc, b', m', rfl, first_cell (r := []) hc0, hat, hc⟩
theorem kOpen (s t : ByteArray) (f : Int) (h0 : 0 ≤ f) (h1 : f ≤ 1000) (z3 : Int) (hz : kx t = z3) (g b m : Nat) (W : World) (ha : AtB W g b m 200 (k5 s t f)) :
    Calls Try.prog 28 #[.pointer (some ⟨g, 0, none⟩), .int .i64 2] W fun e w' => ∃ ad c, e = .returned (.tuple #[.int .i64 f, .slice (some ad) 3 c, .int .i64 0]) ∧ w'.cell? ad = some (.int .i64 12) ∧ w'.cell? ⟨ad.block, ad.off + 1, none⟩ = some (.int .i64 z3) ∧ w'.cell? ⟨ad.block, ad.off + 2, none⟩ = some (.int .i64 9) ∧ Below W.heap.size W w' := by
  subst hz
  have := openC g b m 200 (k5 s t f) 2 W ha
  rw [k_open s t f h0 h1] at this
  refine this.mono ?_
  rintro e w' ⟨v, rfl, ⟨A, c, rfl, _, hr, _⟩, hb⟩
  obtain ⟨ad, rfl, c0⟩ := hr.at_ 0 (Int.le_refl _) (by simp)
  obtain ⟨ad1, e1, c1⟩ := hr.at_ 1 (by decide) (by simp)
  obtain ⟨ad2, e2, c2⟩ := hr.at_ 2 (by decide) (by simp)
  cases e1
  cases e2
  exact ⟨ad, c, rfl, first_cell (r := [kx t, 9]) c0, c1, c2, hb⟩
theorem kStr (bl : List (Int × List Int)) (p : Int) (s : ByteArray) (e : Int) (h : strB bl p = (s, e)) (g b m : Nat) (W : World) (ha : AtB W g b m 200 bl) :
    Calls Try.prog 25 #[.pointer (some ⟨g, 0, none⟩), .int .i64 p] W fun e' w' => e' = .returned (.tuple #[.string s, .int .i64 e]) ∧ Below W.heap.size W w' := by
  have := strC g b m 200 bl p W ha
  rw [h] at this
  exact this
theorem cut60 (s : ByteArray) (h : 60 < s.size) : (s.extract 0 60).size = 60 := by rw [ByteArray.size_extract]; omega
theorem tmod_range (a : Int) (h : 0 ≤ a) : 0 ≤ a.tmod 1000 ∧ a.tmod 1000 ≤ 1000 := by rw [Int.tmod_eq_emod_of_nonneg h]; omega

set_option maxHeartbeats 16000000 in
set_option maxRecDepth 100000 in
theorem primsKeep_calls (s t : ByteArray) (f : Int) (hf : (Lit.int .i64 f).wf = true) (W : World) :
    Calls Try.prog 8 #[.string s, .string t, .int .i64 f] W fun e w' => e = .returned (.bool true) ∧ Below W.heap.size W w' := by
  have hi := i64_of_wf hf
  unfold I64 at hi
  obtain ⟨hi0, hi1⟩ := hi
  have HN := Aside0.mk (newB 200 W (by decide) (by decide))

  by_cases hs7 : 60 < s.size
  · have hs : (s.size : Int) > 60 := by omega
    have hs6 : (s.extract 0 60).size ≤ 60 := by rw [cut60 s hs7]; decide
    by_cases ht7 : 60 < t.size
    · have ht : (t.size : Int) > 60 := by omega
      have ht6 : (t.extract 0 60).size ≤ 60 := by rw [cut60 t ht7]; decide
      by_cases hneg : f < 0
      · have hw1 : (-(f + 1)) ≥ 0 := by omega
        have hf0 : 0 ≤ -((f + 1).tmod 1000) := by have := (tmod_range (-(f + 1)) (by omega)).1; rw [Int.neg_tmod] at this; exact this
        have hf1 : -((f + 1).tmod 1000) ≤ 1000 := by have := (tmod_range (-(f + 1)) (by omega)).2; rw [Int.neg_tmod] at this; exact this
        have n1 : (((s.extract 0 60)).toList == ((s.extract 0 60)).toList) = true := beq_self_eq_true _
        have n2 : (((t.extract 0 60)).toList == ((t.extract 0 60)).toList) = true := beq_self_eq_true _
        have HT1 := Aside0.mk (kt_1 (s.extract 0 60) hs6)
        have HT2 := Aside0.mk (kt_2 (s.extract 0 60) hs6)
        have HT3 := Aside0.mk (kt_3 (s.extract 0 60) (t.extract 0 60) hs6 ht6)
        obtain ⟨z1, hz1⟩ : ∃ z, kb (s.extract 0 60) = z := ⟨_, rfl⟩
        obtain ⟨z2, hz2⟩ : ∃ z, kc (s.extract 0 60) (t.extract 0 60) = z := ⟨_, rfl⟩
        obtain ⟨z3, hz3⟩ : ∃ z, kx (t.extract 0 60) = z := ⟨_, rfl⟩
        obtain ⟨z0, hz0⟩ : ∃ z, 2 * (1 + 1 + ((pack (s.extract 0 60)).length : Int)) = z := ⟨_, rfl⟩
        have HC := Aside0.mk (fun A c => kClose (s.extract 0 60) (t.extract 0 60) hs6 ht6 (-((f + 1).tmod 1000)) hf0 hf1 A c z1 hz1)
        rw [hz2] at HC
        have HCO := Aside0.mk (fun A c => kCollect (s.extract 0 60) (t.extract 0 60) hs6 ht6 (-((f + 1).tmod 1000)) A c z2 hz2)
        have HO := Aside0.mk (kOpen (s.extract 0 60) (t.extract 0 60) (-((f + 1).tmod 1000)) hf0 hf1 z3 hz3)
        have HX := Aside0.mk (kStr (k5 (s.extract 0 60) (t.extract 0 60) (-((f + 1).tmod 1000))) 12 (t.extract 0 60) 0 (k_str1 (s.extract 0 60) (t.extract 0 60) _ ht6))
        have HY := Aside0.mk (kStr (k5 (s.extract 0 60) (t.extract 0 60) (-((f + 1).tmod 1000))) z3 (s.extract 0 60) 0 (by rw [← hz3]; exact k_str2 (s.extract 0 60) (t.extract 0 60) _ hs6))
        have nf : ((-((f + 1).tmod 1000)) == (-((f + 1).tmod 1000))) = true := beq_self_eq_true _
        rw [hz0] at HT2
        rw [hz1] at HT3
        clear hz0 hz1 hz2 hz3
        go_enter Try.func8, Try.ntmps8
        go_wp2_with (first
          | (go_at_call 14; (refine HN.out.mono ?_); rintro e w1 ⟨g, b, m, rfl, hat, hg, hbb, hm, hb⟩; have HA := Aside0.mk hat; have HG := Aside0.mk hg; have HBB := Aside0.mk hbb; have HM := Aside0.mk hm; have HB := Aside0.mk hb; clear hat hg hbb hm hb)
          | (go_at_call 23; (refine (kText [] _ (s.extract 0 60) 2 0 HT1.out g b m _ HA.out).mono ?_); rintro e w2 ⟨rfl, hat, hc⟩; have HA2 := Aside0.mk hat; have HB2 := Aside0.mk (hc.below HB.out HB.out.size (fun k hk => by have := HG.out; have := HBB.out; have := HM.out; have hk' := hk; simp only [Its] at hk'; omega)); clear hat hc; clear HA)
          | (go_at_call 23; (refine (kText _ _ lost z0 0 HT2.out g b m _ HA2.out).mono ?_); rintro e w3 ⟨rfl, hat, hc⟩; have HA3 := Aside0.mk hat; have HB3 := Aside0.mk (hc.below HB2.out HB2.out.size (fun k hk => by have := HG.out; have := HBB.out; have := HM.out; have hk' := hk; simp only [Its] at hk'; omega)); clear hat hc; clear HA2)
          | (go_at_call 23; (refine (kText _ _ (t.extract 0 60) z1 0 HT3.out g b m _ HA3.out).mono ?_); rintro e w4 ⟨rfl, hat, hc⟩; have HA4 := Aside0.mk hat; have HB4 := Aside0.mk (hc.below HB3.out HB3.out.size (fun k hk => by have := HG.out; have := HBB.out; have := HM.out; have hk' := hk; simp only [Its] at hk'; omega)); clear hat hc; clear HA3)
          | (go_at_call 32; (refine (HC.out _ _ g b m _ (HA4.out.below (below_alloc (Below.refl _ _) _)) (lit_reads w4 [z1, 2, 9] (by simp))).mono ?_); rintro e w5 ⟨rfl, hat, hc⟩; have HA5 := Aside0.mk hat; have HB5 := Aside0.mk (hc.below (below_alloc HB4.out _) (below_alloc HB4.out _).size (fun k hk => by have := HG.out; have := HBB.out; have := HM.out; have hk' := hk; simp only [Its] at hk'; omega)); clear hat hc)
          | (go_at_call 33; (refine (HCO.out _ _ g b m _ (HA5.out.below (below_alloc (Below.refl _ _) _)) (lit_reads w5 [z2] (by simp))).mono ?_); rintro e w6 ⟨o, oc, b', m', rfl, hco, hat, hc⟩; have HA6 := Aside0.mk hat; have HB6 := Aside0.mk (hc.below (below_alloc HB5.out _) (below_alloc HB5.out _).size (fun k hk => by have := HG.out; omega)); clear hat hc)
          | (go_at_call 28; (refine (HO.out g b' m' _ HA6.out).mono ?_); rintro e w7 ⟨ad, kcap, rfl, q0, q1, q2, hb⟩; have HA7 := Aside0.mk (HA6.out.below hb); have HB7 := Aside0.mk (below_then HB6.out HB6.out.size hb); clear hb)
          | (go_at_call 25; (refine (HX.out g b' m' _ HA7.out).mono ?_); rintro e w8 ⟨rfl, hb⟩; have HA8 := Aside0.mk (HA7.out.below hb); have HB8 := Aside0.mk (below_then HB7.out HB7.out.size hb); have q18 := cell_below hb q1; have q28 := cell_below hb q2; clear hb HX)
          | (go_at_call 25; (refine (HY.out g b' m' _ HA8.out).mono ?_); rintro e w9 ⟨rfl, hb⟩; have HB9 := Aside0.mk (below_then HB8.out HB8.out.size hb); have q29 := cell_below hb q28; clear hb)
          | (go_at_call 11; (refine (lives_calls _).mono ?_); rintro e w10 ⟨rfl, hb⟩; have HB10 := Aside0.mk (below_then HB9.out HB9.out.size hb); clear hb))
        go_ret
        exact ⟨rfl, HB10.out⟩
      have hf0 : 0 ≤ f % 1000 := by omega
      have hf1 : f % 1000 ≤ 1000 := by omega
      have n1 : (((s.extract 0 60)).toList == ((s.extract 0 60)).toList) = true := beq_self_eq_true _
      have n2 : (((t.extract 0 60)).toList == ((t.extract 0 60)).toList) = true := beq_self_eq_true _
      have HT1 := Aside0.mk (kt_1 (s.extract 0 60) hs6)
      have HT2 := Aside0.mk (kt_2 (s.extract 0 60) hs6)
      have HT3 := Aside0.mk (kt_3 (s.extract 0 60) (t.extract 0 60) hs6 ht6)
      obtain ⟨z1, hz1⟩ : ∃ z, kb (s.extract 0 60) = z := ⟨_, rfl⟩
      obtain ⟨z2, hz2⟩ : ∃ z, kc (s.extract 0 60) (t.extract 0 60) = z := ⟨_, rfl⟩
      obtain ⟨z3, hz3⟩ : ∃ z, kx (t.extract 0 60) = z := ⟨_, rfl⟩
      obtain ⟨z0, hz0⟩ : ∃ z, 2 * (1 + 1 + ((pack (s.extract 0 60)).length : Int)) = z := ⟨_, rfl⟩
      have HC := Aside0.mk (fun A c => kClose (s.extract 0 60) (t.extract 0 60) hs6 ht6 (f % 1000) hf0 hf1 A c z1 hz1)
      rw [hz2] at HC
      have HCO := Aside0.mk (fun A c => kCollect (s.extract 0 60) (t.extract 0 60) hs6 ht6 (f % 1000) A c z2 hz2)
      have HO := Aside0.mk (kOpen (s.extract 0 60) (t.extract 0 60) (f % 1000) hf0 hf1 z3 hz3)
      have HX := Aside0.mk (kStr (k5 (s.extract 0 60) (t.extract 0 60) (f % 1000)) 12 (t.extract 0 60) 0 (k_str1 (s.extract 0 60) (t.extract 0 60) _ ht6))
      have HY := Aside0.mk (kStr (k5 (s.extract 0 60) (t.extract 0 60) (f % 1000)) z3 (s.extract 0 60) 0 (by rw [← hz3]; exact k_str2 (s.extract 0 60) (t.extract 0 60) _ hs6))
      have nf : ((f % 1000) == (f % 1000)) = true := beq_self_eq_true _
      rw [hz0] at HT2
      rw [hz1] at HT3
      clear hz0 hz1 hz2 hz3
      go_enter Try.func8, Try.ntmps8
      go_wp2_with (first
        | (go_at_call 14; (refine HN.out.mono ?_); rintro e w1 ⟨g, b, m, rfl, hat, hg, hbb, hm, hb⟩; have HA := Aside0.mk hat; have HG := Aside0.mk hg; have HBB := Aside0.mk hbb; have HM := Aside0.mk hm; have HB := Aside0.mk hb; clear hat hg hbb hm hb)
        | (go_at_call 23; (refine (kText [] _ (s.extract 0 60) 2 0 HT1.out g b m _ HA.out).mono ?_); rintro e w2 ⟨rfl, hat, hc⟩; have HA2 := Aside0.mk hat; have HB2 := Aside0.mk (hc.below HB.out HB.out.size (fun k hk => by have := HG.out; have := HBB.out; have := HM.out; have hk' := hk; simp only [Its] at hk'; omega)); clear hat hc; clear HA)
        | (go_at_call 23; (refine (kText _ _ lost z0 0 HT2.out g b m _ HA2.out).mono ?_); rintro e w3 ⟨rfl, hat, hc⟩; have HA3 := Aside0.mk hat; have HB3 := Aside0.mk (hc.below HB2.out HB2.out.size (fun k hk => by have := HG.out; have := HBB.out; have := HM.out; have hk' := hk; simp only [Its] at hk'; omega)); clear hat hc; clear HA2)
        | (go_at_call 23; (refine (kText _ _ (t.extract 0 60) z1 0 HT3.out g b m _ HA3.out).mono ?_); rintro e w4 ⟨rfl, hat, hc⟩; have HA4 := Aside0.mk hat; have HB4 := Aside0.mk (hc.below HB3.out HB3.out.size (fun k hk => by have := HG.out; have := HBB.out; have := HM.out; have hk' := hk; simp only [Its] at hk'; omega)); clear hat hc; clear HA3)
        | (go_at_call 32; (refine (HC.out _ _ g b m _ (HA4.out.below (below_alloc (Below.refl _ _) _)) (lit_reads w4 [z1, 2, 9] (by simp))).mono ?_); rintro e w5 ⟨rfl, hat, hc⟩; have HA5 := Aside0.mk hat; have HB5 := Aside0.mk (hc.below (below_alloc HB4.out _) (below_alloc HB4.out _).size (fun k hk => by have := HG.out; have := HBB.out; have := HM.out; have hk' := hk; simp only [Its] at hk'; omega)); clear hat hc)
        | (go_at_call 33; (refine (HCO.out _ _ g b m _ (HA5.out.below (below_alloc (Below.refl _ _) _)) (lit_reads w5 [z2] (by simp))).mono ?_); rintro e w6 ⟨o, oc, b', m', rfl, hco, hat, hc⟩; have HA6 := Aside0.mk hat; have HB6 := Aside0.mk (hc.below (below_alloc HB5.out _) (below_alloc HB5.out _).size (fun k hk => by have := HG.out; omega)); clear hat hc)
        | (go_at_call 28; (refine (HO.out g b' m' _ HA6.out).mono ?_); rintro e w7 ⟨ad, kcap, rfl, q0, q1, q2, hb⟩; have HA7 := Aside0.mk (HA6.out.below hb); have HB7 := Aside0.mk (below_then HB6.out HB6.out.size hb); clear hb)
        | (go_at_call 25; (refine (HX.out g b' m' _ HA7.out).mono ?_); rintro e w8 ⟨rfl, hb⟩; have HA8 := Aside0.mk (HA7.out.below hb); have HB8 := Aside0.mk (below_then HB7.out HB7.out.size hb); have q18 := cell_below hb q1; have q28 := cell_below hb q2; clear hb HX)
        | (go_at_call 25; (refine (HY.out g b' m' _ HA8.out).mono ?_); rintro e w9 ⟨rfl, hb⟩; have HB9 := Aside0.mk (below_then HB8.out HB8.out.size hb); have q29 := cell_below hb q28; clear hb)
        | (go_at_call 11; (refine (lives_calls _).mono ?_); rintro e w10 ⟨rfl, hb⟩; have HB10 := Aside0.mk (below_then HB9.out HB9.out.size hb); clear hb))
      go_ret
      exact ⟨rfl, HB10.out⟩
    have ht : ¬ (t.size : Int) > 60 := by omega
    have ht6 : t.size ≤ 60 := by omega
    by_cases hneg : f < 0
    · have hw1 : (-(f + 1)) ≥ 0 := by omega
      have hf0 : 0 ≤ -((f + 1).tmod 1000) := by have := (tmod_range (-(f + 1)) (by omega)).1; rw [Int.neg_tmod] at this; exact this
      have hf1 : -((f + 1).tmod 1000) ≤ 1000 := by have := (tmod_range (-(f + 1)) (by omega)).2; rw [Int.neg_tmod] at this; exact this
      have n1 : (((s.extract 0 60)).toList == ((s.extract 0 60)).toList) = true := beq_self_eq_true _
      have n2 : ((t).toList == (t).toList) = true := beq_self_eq_true _
      have HT1 := Aside0.mk (kt_1 (s.extract 0 60) hs6)
      have HT2 := Aside0.mk (kt_2 (s.extract 0 60) hs6)
      have HT3 := Aside0.mk (kt_3 (s.extract 0 60) t hs6 ht6)
      obtain ⟨z1, hz1⟩ : ∃ z, kb (s.extract 0 60) = z := ⟨_, rfl⟩
      obtain ⟨z2, hz2⟩ : ∃ z, kc (s.extract 0 60) t = z := ⟨_, rfl⟩
      obtain ⟨z3, hz3⟩ : ∃ z, kx t = z := ⟨_, rfl⟩
      obtain ⟨z0, hz0⟩ : ∃ z, 2 * (1 + 1 + ((pack (s.extract 0 60)).length : Int)) = z := ⟨_, rfl⟩
      have HC := Aside0.mk (fun A c => kClose (s.extract 0 60) t hs6 ht6 (-((f + 1).tmod 1000)) hf0 hf1 A c z1 hz1)
      rw [hz2] at HC
      have HCO := Aside0.mk (fun A c => kCollect (s.extract 0 60) t hs6 ht6 (-((f + 1).tmod 1000)) A c z2 hz2)
      have HO := Aside0.mk (kOpen (s.extract 0 60) t (-((f + 1).tmod 1000)) hf0 hf1 z3 hz3)
      have HX := Aside0.mk (kStr (k5 (s.extract 0 60) t (-((f + 1).tmod 1000))) 12 t 0 (k_str1 (s.extract 0 60) t _ ht6))
      have HY := Aside0.mk (kStr (k5 (s.extract 0 60) t (-((f + 1).tmod 1000))) z3 (s.extract 0 60) 0 (by rw [← hz3]; exact k_str2 (s.extract 0 60) t _ hs6))
      have nf : ((-((f + 1).tmod 1000)) == (-((f + 1).tmod 1000))) = true := beq_self_eq_true _
      rw [hz0] at HT2
      rw [hz1] at HT3
      clear hz0 hz1 hz2 hz3
      go_enter Try.func8, Try.ntmps8
      go_wp2_with (first
        | (go_at_call 14; (refine HN.out.mono ?_); rintro e w1 ⟨g, b, m, rfl, hat, hg, hbb, hm, hb⟩; have HA := Aside0.mk hat; have HG := Aside0.mk hg; have HBB := Aside0.mk hbb; have HM := Aside0.mk hm; have HB := Aside0.mk hb; clear hat hg hbb hm hb)
        | (go_at_call 23; (refine (kText [] _ (s.extract 0 60) 2 0 HT1.out g b m _ HA.out).mono ?_); rintro e w2 ⟨rfl, hat, hc⟩; have HA2 := Aside0.mk hat; have HB2 := Aside0.mk (hc.below HB.out HB.out.size (fun k hk => by have := HG.out; have := HBB.out; have := HM.out; have hk' := hk; simp only [Its] at hk'; omega)); clear hat hc; clear HA)
        | (go_at_call 23; (refine (kText _ _ lost z0 0 HT2.out g b m _ HA2.out).mono ?_); rintro e w3 ⟨rfl, hat, hc⟩; have HA3 := Aside0.mk hat; have HB3 := Aside0.mk (hc.below HB2.out HB2.out.size (fun k hk => by have := HG.out; have := HBB.out; have := HM.out; have hk' := hk; simp only [Its] at hk'; omega)); clear hat hc; clear HA2)
        | (go_at_call 23; (refine (kText _ _ t z1 0 HT3.out g b m _ HA3.out).mono ?_); rintro e w4 ⟨rfl, hat, hc⟩; have HA4 := Aside0.mk hat; have HB4 := Aside0.mk (hc.below HB3.out HB3.out.size (fun k hk => by have := HG.out; have := HBB.out; have := HM.out; have hk' := hk; simp only [Its] at hk'; omega)); clear hat hc; clear HA3)
        | (go_at_call 32; (refine (HC.out _ _ g b m _ (HA4.out.below (below_alloc (Below.refl _ _) _)) (lit_reads w4 [z1, 2, 9] (by simp))).mono ?_); rintro e w5 ⟨rfl, hat, hc⟩; have HA5 := Aside0.mk hat; have HB5 := Aside0.mk (hc.below (below_alloc HB4.out _) (below_alloc HB4.out _).size (fun k hk => by have := HG.out; have := HBB.out; have := HM.out; have hk' := hk; simp only [Its] at hk'; omega)); clear hat hc)
        | (go_at_call 33; (refine (HCO.out _ _ g b m _ (HA5.out.below (below_alloc (Below.refl _ _) _)) (lit_reads w5 [z2] (by simp))).mono ?_); rintro e w6 ⟨o, oc, b', m', rfl, hco, hat, hc⟩; have HA6 := Aside0.mk hat; have HB6 := Aside0.mk (hc.below (below_alloc HB5.out _) (below_alloc HB5.out _).size (fun k hk => by have := HG.out; omega)); clear hat hc)
        | (go_at_call 28; (refine (HO.out g b' m' _ HA6.out).mono ?_); rintro e w7 ⟨ad, kcap, rfl, q0, q1, q2, hb⟩; have HA7 := Aside0.mk (HA6.out.below hb); have HB7 := Aside0.mk (below_then HB6.out HB6.out.size hb); clear hb)
        | (go_at_call 25; (refine (HX.out g b' m' _ HA7.out).mono ?_); rintro e w8 ⟨rfl, hb⟩; have HA8 := Aside0.mk (HA7.out.below hb); have HB8 := Aside0.mk (below_then HB7.out HB7.out.size hb); have q18 := cell_below hb q1; have q28 := cell_below hb q2; clear hb HX)
        | (go_at_call 25; (refine (HY.out g b' m' _ HA8.out).mono ?_); rintro e w9 ⟨rfl, hb⟩; have HB9 := Aside0.mk (below_then HB8.out HB8.out.size hb); have q29 := cell_below hb q28; clear hb)
        | (go_at_call 11; (refine (lives_calls _).mono ?_); rintro e w10 ⟨rfl, hb⟩; have HB10 := Aside0.mk (below_then HB9.out HB9.out.size hb); clear hb))
      go_ret
      exact ⟨rfl, HB10.out⟩
    have hf0 : 0 ≤ f % 1000 := by omega
    have hf1 : f % 1000 ≤ 1000 := by omega
    have n1 : (((s.extract 0 60)).toList == ((s.extract 0 60)).toList) = true := beq_self_eq_true _
    have n2 : ((t).toList == (t).toList) = true := beq_self_eq_true _
    have HT1 := Aside0.mk (kt_1 (s.extract 0 60) hs6)
    have HT2 := Aside0.mk (kt_2 (s.extract 0 60) hs6)
    have HT3 := Aside0.mk (kt_3 (s.extract 0 60) t hs6 ht6)
    obtain ⟨z1, hz1⟩ : ∃ z, kb (s.extract 0 60) = z := ⟨_, rfl⟩
    obtain ⟨z2, hz2⟩ : ∃ z, kc (s.extract 0 60) t = z := ⟨_, rfl⟩
    obtain ⟨z3, hz3⟩ : ∃ z, kx t = z := ⟨_, rfl⟩
    obtain ⟨z0, hz0⟩ : ∃ z, 2 * (1 + 1 + ((pack (s.extract 0 60)).length : Int)) = z := ⟨_, rfl⟩
    have HC := Aside0.mk (fun A c => kClose (s.extract 0 60) t hs6 ht6 (f % 1000) hf0 hf1 A c z1 hz1)
    rw [hz2] at HC
    have HCO := Aside0.mk (fun A c => kCollect (s.extract 0 60) t hs6 ht6 (f % 1000) A c z2 hz2)
    have HO := Aside0.mk (kOpen (s.extract 0 60) t (f % 1000) hf0 hf1 z3 hz3)
    have HX := Aside0.mk (kStr (k5 (s.extract 0 60) t (f % 1000)) 12 t 0 (k_str1 (s.extract 0 60) t _ ht6))
    have HY := Aside0.mk (kStr (k5 (s.extract 0 60) t (f % 1000)) z3 (s.extract 0 60) 0 (by rw [← hz3]; exact k_str2 (s.extract 0 60) t _ hs6))
    have nf : ((f % 1000) == (f % 1000)) = true := beq_self_eq_true _
    rw [hz0] at HT2
    rw [hz1] at HT3
    clear hz0 hz1 hz2 hz3
    go_enter Try.func8, Try.ntmps8
    go_wp2_with (first
      | (go_at_call 14; (refine HN.out.mono ?_); rintro e w1 ⟨g, b, m, rfl, hat, hg, hbb, hm, hb⟩; have HA := Aside0.mk hat; have HG := Aside0.mk hg; have HBB := Aside0.mk hbb; have HM := Aside0.mk hm; have HB := Aside0.mk hb; clear hat hg hbb hm hb)
      | (go_at_call 23; (refine (kText [] _ (s.extract 0 60) 2 0 HT1.out g b m _ HA.out).mono ?_); rintro e w2 ⟨rfl, hat, hc⟩; have HA2 := Aside0.mk hat; have HB2 := Aside0.mk (hc.below HB.out HB.out.size (fun k hk => by have := HG.out; have := HBB.out; have := HM.out; have hk' := hk; simp only [Its] at hk'; omega)); clear hat hc; clear HA)
      | (go_at_call 23; (refine (kText _ _ lost z0 0 HT2.out g b m _ HA2.out).mono ?_); rintro e w3 ⟨rfl, hat, hc⟩; have HA3 := Aside0.mk hat; have HB3 := Aside0.mk (hc.below HB2.out HB2.out.size (fun k hk => by have := HG.out; have := HBB.out; have := HM.out; have hk' := hk; simp only [Its] at hk'; omega)); clear hat hc; clear HA2)
      | (go_at_call 23; (refine (kText _ _ t z1 0 HT3.out g b m _ HA3.out).mono ?_); rintro e w4 ⟨rfl, hat, hc⟩; have HA4 := Aside0.mk hat; have HB4 := Aside0.mk (hc.below HB3.out HB3.out.size (fun k hk => by have := HG.out; have := HBB.out; have := HM.out; have hk' := hk; simp only [Its] at hk'; omega)); clear hat hc; clear HA3)
      | (go_at_call 32; (refine (HC.out _ _ g b m _ (HA4.out.below (below_alloc (Below.refl _ _) _)) (lit_reads w4 [z1, 2, 9] (by simp))).mono ?_); rintro e w5 ⟨rfl, hat, hc⟩; have HA5 := Aside0.mk hat; have HB5 := Aside0.mk (hc.below (below_alloc HB4.out _) (below_alloc HB4.out _).size (fun k hk => by have := HG.out; have := HBB.out; have := HM.out; have hk' := hk; simp only [Its] at hk'; omega)); clear hat hc)
      | (go_at_call 33; (refine (HCO.out _ _ g b m _ (HA5.out.below (below_alloc (Below.refl _ _) _)) (lit_reads w5 [z2] (by simp))).mono ?_); rintro e w6 ⟨o, oc, b', m', rfl, hco, hat, hc⟩; have HA6 := Aside0.mk hat; have HB6 := Aside0.mk (hc.below (below_alloc HB5.out _) (below_alloc HB5.out _).size (fun k hk => by have := HG.out; omega)); clear hat hc)
      | (go_at_call 28; (refine (HO.out g b' m' _ HA6.out).mono ?_); rintro e w7 ⟨ad, kcap, rfl, q0, q1, q2, hb⟩; have HA7 := Aside0.mk (HA6.out.below hb); have HB7 := Aside0.mk (below_then HB6.out HB6.out.size hb); clear hb)
      | (go_at_call 25; (refine (HX.out g b' m' _ HA7.out).mono ?_); rintro e w8 ⟨rfl, hb⟩; have HA8 := Aside0.mk (HA7.out.below hb); have HB8 := Aside0.mk (below_then HB7.out HB7.out.size hb); have q18 := cell_below hb q1; have q28 := cell_below hb q2; clear hb HX)
      | (go_at_call 25; (refine (HY.out g b' m' _ HA8.out).mono ?_); rintro e w9 ⟨rfl, hb⟩; have HB9 := Aside0.mk (below_then HB8.out HB8.out.size hb); have q29 := cell_below hb q28; clear hb)
      | (go_at_call 11; (refine (lives_calls _).mono ?_); rintro e w10 ⟨rfl, hb⟩; have HB10 := Aside0.mk (below_then HB9.out HB9.out.size hb); clear hb))
    go_ret
    exact ⟨rfl, HB10.out⟩
  have hs : ¬ (s.size : Int) > 60 := by omega
  have hs6 : s.size ≤ 60 := by omega
  by_cases ht7 : 60 < t.size
  · have ht : (t.size : Int) > 60 := by omega
    have ht6 : (t.extract 0 60).size ≤ 60 := by rw [cut60 t ht7]; decide
    by_cases hneg : f < 0
    · have hw1 : (-(f + 1)) ≥ 0 := by omega
      have hf0 : 0 ≤ -((f + 1).tmod 1000) := by have := (tmod_range (-(f + 1)) (by omega)).1; rw [Int.neg_tmod] at this; exact this
      have hf1 : -((f + 1).tmod 1000) ≤ 1000 := by have := (tmod_range (-(f + 1)) (by omega)).2; rw [Int.neg_tmod] at this; exact this
      have n1 : ((s).toList == (s).toList) = true := beq_self_eq_true _
      have n2 : (((t.extract 0 60)).toList == ((t.extract 0 60)).toList) = true := beq_self_eq_true _
      have HT1 := Aside0.mk (kt_1 s hs6)
      have HT2 := Aside0.mk (kt_2 s hs6)
      have HT3 := Aside0.mk (kt_3 s (t.extract 0 60) hs6 ht6)
      obtain ⟨z1, hz1⟩ : ∃ z, kb s = z := ⟨_, rfl⟩
      obtain ⟨z2, hz2⟩ : ∃ z, kc s (t.extract 0 60) = z := ⟨_, rfl⟩
      obtain ⟨z3, hz3⟩ : ∃ z, kx (t.extract 0 60) = z := ⟨_, rfl⟩
      obtain ⟨z0, hz0⟩ : ∃ z, 2 * (1 + 1 + ((pack s).length : Int)) = z := ⟨_, rfl⟩
      have HC := Aside0.mk (fun A c => kClose s (t.extract 0 60) hs6 ht6 (-((f + 1).tmod 1000)) hf0 hf1 A c z1 hz1)
      rw [hz2] at HC
      have HCO := Aside0.mk (fun A c => kCollect s (t.extract 0 60) hs6 ht6 (-((f + 1).tmod 1000)) A c z2 hz2)
      have HO := Aside0.mk (kOpen s (t.extract 0 60) (-((f + 1).tmod 1000)) hf0 hf1 z3 hz3)
      have HX := Aside0.mk (kStr (k5 s (t.extract 0 60) (-((f + 1).tmod 1000))) 12 (t.extract 0 60) 0 (k_str1 s (t.extract 0 60) _ ht6))
      have HY := Aside0.mk (kStr (k5 s (t.extract 0 60) (-((f + 1).tmod 1000))) z3 s 0 (by rw [← hz3]; exact k_str2 s (t.extract 0 60) _ hs6))
      have nf : ((-((f + 1).tmod 1000)) == (-((f + 1).tmod 1000))) = true := beq_self_eq_true _
      rw [hz0] at HT2
      rw [hz1] at HT3
      clear hz0 hz1 hz2 hz3
      go_enter Try.func8, Try.ntmps8
      go_wp2_with (first
        | (go_at_call 14; (refine HN.out.mono ?_); rintro e w1 ⟨g, b, m, rfl, hat, hg, hbb, hm, hb⟩; have HA := Aside0.mk hat; have HG := Aside0.mk hg; have HBB := Aside0.mk hbb; have HM := Aside0.mk hm; have HB := Aside0.mk hb; clear hat hg hbb hm hb)
        | (go_at_call 23; (refine (kText [] _ s 2 0 HT1.out g b m _ HA.out).mono ?_); rintro e w2 ⟨rfl, hat, hc⟩; have HA2 := Aside0.mk hat; have HB2 := Aside0.mk (hc.below HB.out HB.out.size (fun k hk => by have := HG.out; have := HBB.out; have := HM.out; have hk' := hk; simp only [Its] at hk'; omega)); clear hat hc; clear HA)
        | (go_at_call 23; (refine (kText _ _ lost z0 0 HT2.out g b m _ HA2.out).mono ?_); rintro e w3 ⟨rfl, hat, hc⟩; have HA3 := Aside0.mk hat; have HB3 := Aside0.mk (hc.below HB2.out HB2.out.size (fun k hk => by have := HG.out; have := HBB.out; have := HM.out; have hk' := hk; simp only [Its] at hk'; omega)); clear hat hc; clear HA2)
        | (go_at_call 23; (refine (kText _ _ (t.extract 0 60) z1 0 HT3.out g b m _ HA3.out).mono ?_); rintro e w4 ⟨rfl, hat, hc⟩; have HA4 := Aside0.mk hat; have HB4 := Aside0.mk (hc.below HB3.out HB3.out.size (fun k hk => by have := HG.out; have := HBB.out; have := HM.out; have hk' := hk; simp only [Its] at hk'; omega)); clear hat hc; clear HA3)
        | (go_at_call 32; (refine (HC.out _ _ g b m _ (HA4.out.below (below_alloc (Below.refl _ _) _)) (lit_reads w4 [z1, 2, 9] (by simp))).mono ?_); rintro e w5 ⟨rfl, hat, hc⟩; have HA5 := Aside0.mk hat; have HB5 := Aside0.mk (hc.below (below_alloc HB4.out _) (below_alloc HB4.out _).size (fun k hk => by have := HG.out; have := HBB.out; have := HM.out; have hk' := hk; simp only [Its] at hk'; omega)); clear hat hc)
        | (go_at_call 33; (refine (HCO.out _ _ g b m _ (HA5.out.below (below_alloc (Below.refl _ _) _)) (lit_reads w5 [z2] (by simp))).mono ?_); rintro e w6 ⟨o, oc, b', m', rfl, hco, hat, hc⟩; have HA6 := Aside0.mk hat; have HB6 := Aside0.mk (hc.below (below_alloc HB5.out _) (below_alloc HB5.out _).size (fun k hk => by have := HG.out; omega)); clear hat hc)
        | (go_at_call 28; (refine (HO.out g b' m' _ HA6.out).mono ?_); rintro e w7 ⟨ad, kcap, rfl, q0, q1, q2, hb⟩; have HA7 := Aside0.mk (HA6.out.below hb); have HB7 := Aside0.mk (below_then HB6.out HB6.out.size hb); clear hb)
        | (go_at_call 25; (refine (HX.out g b' m' _ HA7.out).mono ?_); rintro e w8 ⟨rfl, hb⟩; have HA8 := Aside0.mk (HA7.out.below hb); have HB8 := Aside0.mk (below_then HB7.out HB7.out.size hb); have q18 := cell_below hb q1; have q28 := cell_below hb q2; clear hb HX)
        | (go_at_call 25; (refine (HY.out g b' m' _ HA8.out).mono ?_); rintro e w9 ⟨rfl, hb⟩; have HB9 := Aside0.mk (below_then HB8.out HB8.out.size hb); have q29 := cell_below hb q28; clear hb)
        | (go_at_call 11; (refine (lives_calls _).mono ?_); rintro e w10 ⟨rfl, hb⟩; have HB10 := Aside0.mk (below_then HB9.out HB9.out.size hb); clear hb))
      go_ret
      exact ⟨rfl, HB10.out⟩
    have hf0 : 0 ≤ f % 1000 := by omega
    have hf1 : f % 1000 ≤ 1000 := by omega
    have n1 : ((s).toList == (s).toList) = true := beq_self_eq_true _
    have n2 : (((t.extract 0 60)).toList == ((t.extract 0 60)).toList) = true := beq_self_eq_true _
    have HT1 := Aside0.mk (kt_1 s hs6)
    have HT2 := Aside0.mk (kt_2 s hs6)
    have HT3 := Aside0.mk (kt_3 s (t.extract 0 60) hs6 ht6)
    obtain ⟨z1, hz1⟩ : ∃ z, kb s = z := ⟨_, rfl⟩
    obtain ⟨z2, hz2⟩ : ∃ z, kc s (t.extract 0 60) = z := ⟨_, rfl⟩
    obtain ⟨z3, hz3⟩ : ∃ z, kx (t.extract 0 60) = z := ⟨_, rfl⟩
    obtain ⟨z0, hz0⟩ : ∃ z, 2 * (1 + 1 + ((pack s).length : Int)) = z := ⟨_, rfl⟩
    have HC := Aside0.mk (fun A c => kClose s (t.extract 0 60) hs6 ht6 (f % 1000) hf0 hf1 A c z1 hz1)
    rw [hz2] at HC
    have HCO := Aside0.mk (fun A c => kCollect s (t.extract 0 60) hs6 ht6 (f % 1000) A c z2 hz2)
    have HO := Aside0.mk (kOpen s (t.extract 0 60) (f % 1000) hf0 hf1 z3 hz3)
    have HX := Aside0.mk (kStr (k5 s (t.extract 0 60) (f % 1000)) 12 (t.extract 0 60) 0 (k_str1 s (t.extract 0 60) _ ht6))
    have HY := Aside0.mk (kStr (k5 s (t.extract 0 60) (f % 1000)) z3 s 0 (by rw [← hz3]; exact k_str2 s (t.extract 0 60) _ hs6))
    have nf : ((f % 1000) == (f % 1000)) = true := beq_self_eq_true _
    rw [hz0] at HT2
    rw [hz1] at HT3
    clear hz0 hz1 hz2 hz3
    go_enter Try.func8, Try.ntmps8
    go_wp2_with (first
      | (go_at_call 14; (refine HN.out.mono ?_); rintro e w1 ⟨g, b, m, rfl, hat, hg, hbb, hm, hb⟩; have HA := Aside0.mk hat; have HG := Aside0.mk hg; have HBB := Aside0.mk hbb; have HM := Aside0.mk hm; have HB := Aside0.mk hb; clear hat hg hbb hm hb)
      | (go_at_call 23; (refine (kText [] _ s 2 0 HT1.out g b m _ HA.out).mono ?_); rintro e w2 ⟨rfl, hat, hc⟩; have HA2 := Aside0.mk hat; have HB2 := Aside0.mk (hc.below HB.out HB.out.size (fun k hk => by have := HG.out; have := HBB.out; have := HM.out; have hk' := hk; simp only [Its] at hk'; omega)); clear hat hc; clear HA)
      | (go_at_call 23; (refine (kText _ _ lost z0 0 HT2.out g b m _ HA2.out).mono ?_); rintro e w3 ⟨rfl, hat, hc⟩; have HA3 := Aside0.mk hat; have HB3 := Aside0.mk (hc.below HB2.out HB2.out.size (fun k hk => by have := HG.out; have := HBB.out; have := HM.out; have hk' := hk; simp only [Its] at hk'; omega)); clear hat hc; clear HA2)
      | (go_at_call 23; (refine (kText _ _ (t.extract 0 60) z1 0 HT3.out g b m _ HA3.out).mono ?_); rintro e w4 ⟨rfl, hat, hc⟩; have HA4 := Aside0.mk hat; have HB4 := Aside0.mk (hc.below HB3.out HB3.out.size (fun k hk => by have := HG.out; have := HBB.out; have := HM.out; have hk' := hk; simp only [Its] at hk'; omega)); clear hat hc; clear HA3)
      | (go_at_call 32; (refine (HC.out _ _ g b m _ (HA4.out.below (below_alloc (Below.refl _ _) _)) (lit_reads w4 [z1, 2, 9] (by simp))).mono ?_); rintro e w5 ⟨rfl, hat, hc⟩; have HA5 := Aside0.mk hat; have HB5 := Aside0.mk (hc.below (below_alloc HB4.out _) (below_alloc HB4.out _).size (fun k hk => by have := HG.out; have := HBB.out; have := HM.out; have hk' := hk; simp only [Its] at hk'; omega)); clear hat hc)
      | (go_at_call 33; (refine (HCO.out _ _ g b m _ (HA5.out.below (below_alloc (Below.refl _ _) _)) (lit_reads w5 [z2] (by simp))).mono ?_); rintro e w6 ⟨o, oc, b', m', rfl, hco, hat, hc⟩; have HA6 := Aside0.mk hat; have HB6 := Aside0.mk (hc.below (below_alloc HB5.out _) (below_alloc HB5.out _).size (fun k hk => by have := HG.out; omega)); clear hat hc)
      | (go_at_call 28; (refine (HO.out g b' m' _ HA6.out).mono ?_); rintro e w7 ⟨ad, kcap, rfl, q0, q1, q2, hb⟩; have HA7 := Aside0.mk (HA6.out.below hb); have HB7 := Aside0.mk (below_then HB6.out HB6.out.size hb); clear hb)
      | (go_at_call 25; (refine (HX.out g b' m' _ HA7.out).mono ?_); rintro e w8 ⟨rfl, hb⟩; have HA8 := Aside0.mk (HA7.out.below hb); have HB8 := Aside0.mk (below_then HB7.out HB7.out.size hb); have q18 := cell_below hb q1; have q28 := cell_below hb q2; clear hb HX)
      | (go_at_call 25; (refine (HY.out g b' m' _ HA8.out).mono ?_); rintro e w9 ⟨rfl, hb⟩; have HB9 := Aside0.mk (below_then HB8.out HB8.out.size hb); have q29 := cell_below hb q28; clear hb)
      | (go_at_call 11; (refine (lives_calls _).mono ?_); rintro e w10 ⟨rfl, hb⟩; have HB10 := Aside0.mk (below_then HB9.out HB9.out.size hb); clear hb))
    go_ret
    exact ⟨rfl, HB10.out⟩
  have ht : ¬ (t.size : Int) > 60 := by omega
  have ht6 : t.size ≤ 60 := by omega
  by_cases hneg : f < 0
  · have hw1 : (-(f + 1)) ≥ 0 := by omega
    have hf0 : 0 ≤ -((f + 1).tmod 1000) := by have := (tmod_range (-(f + 1)) (by omega)).1; rw [Int.neg_tmod] at this; exact this
    have hf1 : -((f + 1).tmod 1000) ≤ 1000 := by have := (tmod_range (-(f + 1)) (by omega)).2; rw [Int.neg_tmod] at this; exact this
    have n1 : ((s).toList == (s).toList) = true := beq_self_eq_true _
    have n2 : ((t).toList == (t).toList) = true := beq_self_eq_true _
    have HT1 := Aside0.mk (kt_1 s hs6)
    have HT2 := Aside0.mk (kt_2 s hs6)
    have HT3 := Aside0.mk (kt_3 s t hs6 ht6)
    obtain ⟨z1, hz1⟩ : ∃ z, kb s = z := ⟨_, rfl⟩
    obtain ⟨z2, hz2⟩ : ∃ z, kc s t = z := ⟨_, rfl⟩
    obtain ⟨z3, hz3⟩ : ∃ z, kx t = z := ⟨_, rfl⟩
    obtain ⟨z0, hz0⟩ : ∃ z, 2 * (1 + 1 + ((pack s).length : Int)) = z := ⟨_, rfl⟩
    have HC := Aside0.mk (fun A c => kClose s t hs6 ht6 (-((f + 1).tmod 1000)) hf0 hf1 A c z1 hz1)
    rw [hz2] at HC
    have HCO := Aside0.mk (fun A c => kCollect s t hs6 ht6 (-((f + 1).tmod 1000)) A c z2 hz2)
    have HO := Aside0.mk (kOpen s t (-((f + 1).tmod 1000)) hf0 hf1 z3 hz3)
    have HX := Aside0.mk (kStr (k5 s t (-((f + 1).tmod 1000))) 12 t 0 (k_str1 s t _ ht6))
    have HY := Aside0.mk (kStr (k5 s t (-((f + 1).tmod 1000))) z3 s 0 (by rw [← hz3]; exact k_str2 s t _ hs6))
    have nf : ((-((f + 1).tmod 1000)) == (-((f + 1).tmod 1000))) = true := beq_self_eq_true _
    rw [hz0] at HT2
    rw [hz1] at HT3
    clear hz0 hz1 hz2 hz3
    go_enter Try.func8, Try.ntmps8
    go_wp2_with (first
      | (go_at_call 14; (refine HN.out.mono ?_); rintro e w1 ⟨g, b, m, rfl, hat, hg, hbb, hm, hb⟩; have HA := Aside0.mk hat; have HG := Aside0.mk hg; have HBB := Aside0.mk hbb; have HM := Aside0.mk hm; have HB := Aside0.mk hb; clear hat hg hbb hm hb)
      | (go_at_call 23; (refine (kText [] _ s 2 0 HT1.out g b m _ HA.out).mono ?_); rintro e w2 ⟨rfl, hat, hc⟩; have HA2 := Aside0.mk hat; have HB2 := Aside0.mk (hc.below HB.out HB.out.size (fun k hk => by have := HG.out; have := HBB.out; have := HM.out; have hk' := hk; simp only [Its] at hk'; omega)); clear hat hc; clear HA)
      | (go_at_call 23; (refine (kText _ _ lost z0 0 HT2.out g b m _ HA2.out).mono ?_); rintro e w3 ⟨rfl, hat, hc⟩; have HA3 := Aside0.mk hat; have HB3 := Aside0.mk (hc.below HB2.out HB2.out.size (fun k hk => by have := HG.out; have := HBB.out; have := HM.out; have hk' := hk; simp only [Its] at hk'; omega)); clear hat hc; clear HA2)
      | (go_at_call 23; (refine (kText _ _ t z1 0 HT3.out g b m _ HA3.out).mono ?_); rintro e w4 ⟨rfl, hat, hc⟩; have HA4 := Aside0.mk hat; have HB4 := Aside0.mk (hc.below HB3.out HB3.out.size (fun k hk => by have := HG.out; have := HBB.out; have := HM.out; have hk' := hk; simp only [Its] at hk'; omega)); clear hat hc; clear HA3)
      | (go_at_call 32; (refine (HC.out _ _ g b m _ (HA4.out.below (below_alloc (Below.refl _ _) _)) (lit_reads w4 [z1, 2, 9] (by simp))).mono ?_); rintro e w5 ⟨rfl, hat, hc⟩; have HA5 := Aside0.mk hat; have HB5 := Aside0.mk (hc.below (below_alloc HB4.out _) (below_alloc HB4.out _).size (fun k hk => by have := HG.out; have := HBB.out; have := HM.out; have hk' := hk; simp only [Its] at hk'; omega)); clear hat hc)
      | (go_at_call 33; (refine (HCO.out _ _ g b m _ (HA5.out.below (below_alloc (Below.refl _ _) _)) (lit_reads w5 [z2] (by simp))).mono ?_); rintro e w6 ⟨o, oc, b', m', rfl, hco, hat, hc⟩; have HA6 := Aside0.mk hat; have HB6 := Aside0.mk (hc.below (below_alloc HB5.out _) (below_alloc HB5.out _).size (fun k hk => by have := HG.out; omega)); clear hat hc)
      | (go_at_call 28; (refine (HO.out g b' m' _ HA6.out).mono ?_); rintro e w7 ⟨ad, kcap, rfl, q0, q1, q2, hb⟩; have HA7 := Aside0.mk (HA6.out.below hb); have HB7 := Aside0.mk (below_then HB6.out HB6.out.size hb); clear hb)
      | (go_at_call 25; (refine (HX.out g b' m' _ HA7.out).mono ?_); rintro e w8 ⟨rfl, hb⟩; have HA8 := Aside0.mk (HA7.out.below hb); have HB8 := Aside0.mk (below_then HB7.out HB7.out.size hb); have q18 := cell_below hb q1; have q28 := cell_below hb q2; clear hb HX)
      | (go_at_call 25; (refine (HY.out g b' m' _ HA8.out).mono ?_); rintro e w9 ⟨rfl, hb⟩; have HB9 := Aside0.mk (below_then HB8.out HB8.out.size hb); have q29 := cell_below hb q28; clear hb)
      | (go_at_call 11; (refine (lives_calls _).mono ?_); rintro e w10 ⟨rfl, hb⟩; have HB10 := Aside0.mk (below_then HB9.out HB9.out.size hb); clear hb))
    go_ret
    exact ⟨rfl, HB10.out⟩
  have hf0 : 0 ≤ f % 1000 := by omega
  have hf1 : f % 1000 ≤ 1000 := by omega
  have n1 : ((s).toList == (s).toList) = true := beq_self_eq_true _
  have n2 : ((t).toList == (t).toList) = true := beq_self_eq_true _
  have HT1 := Aside0.mk (kt_1 s hs6)
  have HT2 := Aside0.mk (kt_2 s hs6)
  have HT3 := Aside0.mk (kt_3 s t hs6 ht6)
  obtain ⟨z1, hz1⟩ : ∃ z, kb s = z := ⟨_, rfl⟩
  obtain ⟨z2, hz2⟩ : ∃ z, kc s t = z := ⟨_, rfl⟩
  obtain ⟨z3, hz3⟩ : ∃ z, kx t = z := ⟨_, rfl⟩
  obtain ⟨z0, hz0⟩ : ∃ z, 2 * (1 + 1 + ((pack s).length : Int)) = z := ⟨_, rfl⟩
  have HC := Aside0.mk (fun A c => kClose s t hs6 ht6 (f % 1000) hf0 hf1 A c z1 hz1)
  rw [hz2] at HC
  have HCO := Aside0.mk (fun A c => kCollect s t hs6 ht6 (f % 1000) A c z2 hz2)
  have HO := Aside0.mk (kOpen s t (f % 1000) hf0 hf1 z3 hz3)
  have HX := Aside0.mk (kStr (k5 s t (f % 1000)) 12 t 0 (k_str1 s t _ ht6))
  have HY := Aside0.mk (kStr (k5 s t (f % 1000)) z3 s 0 (by rw [← hz3]; exact k_str2 s t _ hs6))
  have nf : ((f % 1000) == (f % 1000)) = true := beq_self_eq_true _
  rw [hz0] at HT2
  rw [hz1] at HT3
  clear hz0 hz1 hz2 hz3
  go_enter Try.func8, Try.ntmps8
  go_wp2_with (first
    | (go_at_call 14; (refine HN.out.mono ?_); rintro e w1 ⟨g, b, m, rfl, hat, hg, hbb, hm, hb⟩; have HA := Aside0.mk hat; have HG := Aside0.mk hg; have HBB := Aside0.mk hbb; have HM := Aside0.mk hm; have HB := Aside0.mk hb; clear hat hg hbb hm hb)
    | (go_at_call 23; (refine (kText [] _ s 2 0 HT1.out g b m _ HA.out).mono ?_); rintro e w2 ⟨rfl, hat, hc⟩; have HA2 := Aside0.mk hat; have HB2 := Aside0.mk (hc.below HB.out HB.out.size (fun k hk => by have := HG.out; have := HBB.out; have := HM.out; have hk' := hk; simp only [Its] at hk'; omega)); clear hat hc; clear HA)
    | (go_at_call 23; (refine (kText _ _ lost z0 0 HT2.out g b m _ HA2.out).mono ?_); rintro e w3 ⟨rfl, hat, hc⟩; have HA3 := Aside0.mk hat; have HB3 := Aside0.mk (hc.below HB2.out HB2.out.size (fun k hk => by have := HG.out; have := HBB.out; have := HM.out; have hk' := hk; simp only [Its] at hk'; omega)); clear hat hc; clear HA2)
    | (go_at_call 23; (refine (kText _ _ t z1 0 HT3.out g b m _ HA3.out).mono ?_); rintro e w4 ⟨rfl, hat, hc⟩; have HA4 := Aside0.mk hat; have HB4 := Aside0.mk (hc.below HB3.out HB3.out.size (fun k hk => by have := HG.out; have := HBB.out; have := HM.out; have hk' := hk; simp only [Its] at hk'; omega)); clear hat hc; clear HA3)
    | (go_at_call 32; (refine (HC.out _ _ g b m _ (HA4.out.below (below_alloc (Below.refl _ _) _)) (lit_reads w4 [z1, 2, 9] (by simp))).mono ?_); rintro e w5 ⟨rfl, hat, hc⟩; have HA5 := Aside0.mk hat; have HB5 := Aside0.mk (hc.below (below_alloc HB4.out _) (below_alloc HB4.out _).size (fun k hk => by have := HG.out; have := HBB.out; have := HM.out; have hk' := hk; simp only [Its] at hk'; omega)); clear hat hc)
    | (go_at_call 33; (refine (HCO.out _ _ g b m _ (HA5.out.below (below_alloc (Below.refl _ _) _)) (lit_reads w5 [z2] (by simp))).mono ?_); rintro e w6 ⟨o, oc, b', m', rfl, hco, hat, hc⟩; have HA6 := Aside0.mk hat; have HB6 := Aside0.mk (hc.below (below_alloc HB5.out _) (below_alloc HB5.out _).size (fun k hk => by have := HG.out; omega)); clear hat hc)
    | (go_at_call 28; (refine (HO.out g b' m' _ HA6.out).mono ?_); rintro e w7 ⟨ad, kcap, rfl, q0, q1, q2, hb⟩; have HA7 := Aside0.mk (HA6.out.below hb); have HB7 := Aside0.mk (below_then HB6.out HB6.out.size hb); clear hb)
    | (go_at_call 25; (refine (HX.out g b' m' _ HA7.out).mono ?_); rintro e w8 ⟨rfl, hb⟩; have HA8 := Aside0.mk (HA7.out.below hb); have HB8 := Aside0.mk (below_then HB7.out HB7.out.size hb); have q18 := cell_below hb q1; have q28 := cell_below hb q2; clear hb HX)
    | (go_at_call 25; (refine (HY.out g b' m' _ HA8.out).mono ?_); rintro e w9 ⟨rfl, hb⟩; have HB9 := Aside0.mk (below_then HB8.out HB8.out.size hb); have q29 := cell_below hb q28; clear hb)
    | (go_at_call 11; (refine (lives_calls _).mono ?_); rintro e w10 ⟨rfl, hb⟩; have HB10 := Aside0.mk (below_then HB9.out HB9.out.size hb); clear hb))
  go_ret
  exact ⟨rfl, HB10.out⟩
end Go.Proofs.Ytkmoneccehbncaa.Heap
