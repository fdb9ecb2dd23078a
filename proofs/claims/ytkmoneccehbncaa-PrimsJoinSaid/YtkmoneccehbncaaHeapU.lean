/- The walk of selvagelaw16.PrimsJoin: true, whatever two texts; no condition. -/
import Derived.Test.YtkmoneccehbncaaHeapT
import Derived.Outline
namespace Go.Proofs.Ytkmoneccehbncaa.Heap
open Go.RowKit Go.Proofs.YtkmoneccehbncaaW.PrintWords Go.Proofs.YtkmoneccehbncaaW.PrintLast Go.Proofs.YtkmoneccehbncaaW.PrintMore Go.Proofs.Ytkmoneccehbncaa.Print Go.Proofs.Ytkmoneccehbncaa.Ints
set_option linter.unusedVariables false
set_option linter.unusedSimpArgs false


theorem t_long (n : Int) (bl : List (Int × List Int)) (s : ByteArray) (h : 60 < s.size) : textB n bl s = (0, 12, bl) := by unfold textB; rw [if_neg (by omega)]
def one (s : ByteArray) : List (Int × List Int) := [(201, pack s)]
def two (s t : ByteArray) : List (Int × List Int) := [(201, pack s), (201, pack t)]
def three (s t : ByteArray) : List (Int × List Int) := [(201, pack s), (201, pack t), (201, pack (s ++ t))]
theorem p_le (s : ByteArray) (h : s.size ≤ 60) : (pack s).length ≤ 10 := by rw [pack_length]; omega
def at2 (s : ByteArray) : Int := 2 * (1 + 1 + (pack s).length)
def at3 (s t : ByteArray) : Int := 2 * (1 + 1 + (pack s).length + 1 + (pack t).length)
theorem t_one (s : ByteArray) (h : s.size ≤ 60) : textB 400 [] s = (2, 0, one s) := text_ok 400 [] s h (by decide)
theorem t_two (s t : ByteArray) (hs : s.size ≤ 60) (ht : t.size ≤ 60) : textB 400 (one s) t = (at2 s, 0, two s t) := text_ok 400 (one s) t ht (by have := p_le s hs; show 1 + 1 + ((pack s).length : Int) + 10 ≤ 400; omega)
theorem t_three (s t : ByteArray) (hs : s.size ≤ 60) (ht : t.size ≤ 60) (hst : s.size + t.size ≤ 60) : textB 400 (two s t) (s ++ t) = (at3 s t, 0, three s t) :=
  text_ok 400 (two s t) (s ++ t) (by rw [ByteArray.size_append]; exact hst) (by have := p_le s hs; have := p_le t ht; show 1 + 1 + ((pack s).length : Int) + 1 + (pack t).length + 10 ≤ 400; omega)
theorem f_zero (bl : List (Int × List Int)) : findB 1 bl 0 = none := by
  cases h : findB 1 bl 0 with
  | none => rfl
  | some y => obtain ⟨q, e, h1, _⟩ := findB_some h; omega
theorem s_one (s : ByteArray) (r : List (Int × List Int)) (h : s.size ≤ 60) : strB ((201, pack s) :: r) 2 = (s, 0) := str_some rfl h
theorem s_two (s t : ByteArray) (r : List (Int × List Int)) (h : t.size ≤ 60) : strB ((201, pack s) :: (201, pack t) :: r) (at2 s) = (t, 0) := str_some (by
  rw [findB, if_neg (by unfold at2; omega), findB, if_pos (by unfold at2; rfl)]) h
theorem s_three (s t : ByteArray) (h : (s ++ t).size ≤ 60) : strB (three s t) (at3 s t) = (s ++ t, 0) := str_some (by
  unfold three
  rw [findB, if_neg (by unfold at3; omega), findB, if_neg (by unfold at3; simp only []; omega), findB, if_pos (by unfold at3; rfl)]) h
theorem s_zero (bl : List (Int × List Int)) : strB bl 0 = (⟨#[]⟩, 4) := str_none (f_zero bl)
theorem j_bad1 (n : Int) (bl : List (Int × List Int)) (y : Int) : joinB n bl 0 y = (0, 4, bl) := by unfold joinB; rw [s_zero]; rfl
theorem j_bad2 (n : Int) (bl : List (Int × List Int)) (x : Int) (s : ByteArray) (h : strB bl x = (s, 0)) : joinB n bl x 0 = (0, 4, bl) := by unfold joinB; rw [s_zero, h]; rfl
theorem j_long (s t : ByteArray) (hs : s.size ≤ 60) (ht : t.size ≤ 60) (h : 60 < s.size + t.size) : joinB 400 (two s t) 2 (at2 s) = (0, 12, two s t) := by
  unfold joinB two
  rw [s_one _ _ hs, s_two _ _ _ ht]
  simp only [if_true]
  rw [if_neg (by omega)]
theorem j_ok (s t : ByteArray) (hs : s.size ≤ 60) (ht : t.size ≤ 60) (h : s.size + t.size ≤ 60) : joinB 400 (two s t) 2 (at2 s) = (at3 s t, 0, three s t) := by
  unfold joinB
  have e1 : strB (two s t) 2 = (s, 0) := s_one _ _ hs
  have e2 : strB (two s t) (at2 s) = (t, 0) := s_two _ _ _ ht
  rw [e1, e2]
  simp only [if_true]
  rw [if_pos h, t_three s t hs ht h]


/-- The contracts at the blocks that this law makes. -/
theorem c_text (bl bl' : List (Int × List Int)) (s : ByteArray) (x e : Int) (h : textB 400 bl s = (x, e, bl')) (g b m : Nat) (W : World) (ha : AtB W g b m 400 bl) :
    Calls Try.prog 23 #[.pointer (some ⟨g, 0, none⟩), .string s] W fun e' w' => e' = .returned (.tuple #[.int .i64 x, .int .i64 e]) ∧ AtB w' g b m 400 bl' ∧ Chg (Its g b m) W w' := by
  have := textC g b m 400 bl s W ha
  rw [h] at this
  exact this
theorem c_join (bl bl' : List (Int × List Int)) (p q : Int) (x e : Int) (h : joinB 400 bl p q = (x, e, bl')) (g b m : Nat) (W : World) (ha : AtB W g b m 400 bl) :
    Calls Try.prog 24 #[.pointer (some ⟨g, 0, none⟩), .int .i64 p, .int .i64 q] W fun e' w' => e' = .returned (.tuple #[.int .i64 x, .int .i64 e]) ∧ AtB w' g b m 400 bl' ∧ Chg (Its g b m) W w' := by
  have := joinC g b m 400 bl p q W ha
  rw [h] at this
  exact this
theorem c_str (bl : List (Int × List Int)) (p : Int) (s : ByteArray) (e : Int) (h : strB bl p = (s, e)) (g b m : Nat) (W : World) (ha : AtB W g b m 400 bl) :
    Calls Try.prog 25 #[.pointer (some ⟨g, 0, none⟩), .int .i64 p] W fun e' w' => e' = .returned (.tuple #[.string s, .int .i64 e]) ∧ Below W.heap.size W w' := by
  have := strC g b m 400 bl p W ha
  rw [h] at this
  exact this
theorem cut_size (s : ByteArray) (h : 70 < s.size) : (s.extract 0 70).size = 70 := by rw [ByteArray.size_extract]; omega


set_option maxHeartbeats 16000000 in
set_option maxRecDepth 100000 in
theorem primsJoin_calls (s t : ByteArray) (W : World) :
    Calls Try.prog 6 #[.string s, .string t] W fun e w' => e = .returned (.bool true) ∧ Below W.heap.size W w' := by
  have HN := Aside0.mk (newB 400 W (by decide) (by decide))

  by_cases hs7 : 70 < s.size
  · have hs : (s.size : Int) > 70 := by omega
    have hs6 : 60 < (s.extract 0 70).size := by rw [cut_size s hs7]; decide
    have hsc : ((s.extract 0 70).size : Int) > 60 := by omega
    by_cases ht7 : 70 < t.size
    · have ht : (t.size : Int) > 70 := by omega
      have ht6 : 60 < (t.extract 0 70).size := by rw [cut_size t ht7]; decide
      have htc : ((t.extract 0 70).size : Int) > 60 := by omega
      have n1 : (((s.extract 0 70)).toList == ((s.extract 0 70)).toList) = true := beq_self_eq_true _
      have n2 : (((t.extract 0 70)).toList == ((t.extract 0 70)).toList) = true := beq_self_eq_true _
      have HT1 := Aside0.mk (t_long 400 [] (s.extract 0 70) hs6)
      have HT2 := Aside0.mk (t_long 400 [] (t.extract 0 70) ht6)
      have HJ := Aside0.mk (j_bad1 400 [] 0)
      skip
      go_enter Try.func6, Try.ntmps6
      go_wp2_with (first | (go_at_call 14; (refine HN.out.mono ?_); rintro e w1 ⟨g, b, m, rfl, hat, hg, hbb, hm, hb⟩; have HA := Aside0.mk hat; have HG := Aside0.mk hg; have HBB := Aside0.mk hbb; have HM := Aside0.mk hm; have HB := Aside0.mk hb; clear hat hg hbb hm hb) | (go_at_call 23; (refine ((c_text [] [] (s.extract 0 70) 0 12 HT1.out) g b m _ HA.out).mono ?_); rintro e w2 ⟨rfl, hat, hc⟩; have HA2 := Aside0.mk hat; have HB2 := Aside0.mk (hc.below HB.out HB.out.size (fun k hk => by have := HG.out; have := HBB.out; have := HM.out; have hk' := hk; simp only [Its] at hk'; omega)); clear hat hc; clear HA) | (go_at_call 23; (refine ((c_text [] [] (t.extract 0 70) 0 12 HT2.out) g b m _ HA2.out).mono ?_); rintro e w3 ⟨rfl, hat, hc⟩; have HA3 := Aside0.mk hat; have HB3 := Aside0.mk (hc.below HB2.out HB2.out.size (fun k hk => by have := HG.out; have := HBB.out; have := HM.out; have hk' := hk; simp only [Its] at hk'; omega)); clear hat hc) | (go_at_call 24; (refine ((c_join [] [] 0 0 0 4 HJ.out) g b m _ HA3.out).mono ?_); rintro e w4 ⟨rfl, hat, hc⟩; have HA4 := Aside0.mk hat; have HB4 := Aside0.mk (hc.below HB3.out HB3.out.size (fun k hk => by have := HG.out; have := HBB.out; have := HM.out; have hk' := hk; simp only [Its] at hk'; omega)); clear hat hc) | (go_at_call 11; (refine (lives_calls _).mono ?_); rintro e w9 ⟨rfl, hb⟩; have HB9 := Aside0.mk (below_then HB4.out HB4.out.size hb); clear hb))
      go_ret
      exact ⟨by first | rfl | (show Ending.returned (.bool (!decide ((60 : Int) < (((s.extract 0 70)).size : Int)))) = _; rw [decide_eq_false (by omega)]; rfl) | (show Ending.returned (.bool (!decide ((60 : Int) < (((t.extract 0 70)).size : Int)))) = _; rw [decide_eq_false (by omega)]; rfl), HB9.out⟩
    have ht : ¬ (t.size : Int) > 70 := by omega
    by_cases ht6 : 60 < t.size
    · have htc : (t.size : Int) > 60 := by omega
      have n1 : (((s.extract 0 70)).toList == ((s.extract 0 70)).toList) = true := beq_self_eq_true _
      have n2 : ((t).toList == (t).toList) = true := beq_self_eq_true _
      have HT1 := Aside0.mk (t_long 400 [] (s.extract 0 70) hs6)
      have HT2 := Aside0.mk (t_long 400 [] t ht6)
      have HJ := Aside0.mk (j_bad1 400 [] 0)
      skip
      go_enter Try.func6, Try.ntmps6
      go_wp2_with (first | (go_at_call 14; (refine HN.out.mono ?_); rintro e w1 ⟨g, b, m, rfl, hat, hg, hbb, hm, hb⟩; have HA := Aside0.mk hat; have HG := Aside0.mk hg; have HBB := Aside0.mk hbb; have HM := Aside0.mk hm; have HB := Aside0.mk hb; clear hat hg hbb hm hb) | (go_at_call 23; (refine ((c_text [] [] (s.extract 0 70) 0 12 HT1.out) g b m _ HA.out).mono ?_); rintro e w2 ⟨rfl, hat, hc⟩; have HA2 := Aside0.mk hat; have HB2 := Aside0.mk (hc.below HB.out HB.out.size (fun k hk => by have := HG.out; have := HBB.out; have := HM.out; have hk' := hk; simp only [Its] at hk'; omega)); clear hat hc; clear HA) | (go_at_call 23; (refine ((c_text [] [] t 0 12 HT2.out) g b m _ HA2.out).mono ?_); rintro e w3 ⟨rfl, hat, hc⟩; have HA3 := Aside0.mk hat; have HB3 := Aside0.mk (hc.below HB2.out HB2.out.size (fun k hk => by have := HG.out; have := HBB.out; have := HM.out; have hk' := hk; simp only [Its] at hk'; omega)); clear hat hc) | (go_at_call 24; (refine ((c_join [] [] 0 0 0 4 HJ.out) g b m _ HA3.out).mono ?_); rintro e w4 ⟨rfl, hat, hc⟩; have HA4 := Aside0.mk hat; have HB4 := Aside0.mk (hc.below HB3.out HB3.out.size (fun k hk => by have := HG.out; have := HBB.out; have := HM.out; have hk' := hk; simp only [Its] at hk'; omega)); clear hat hc) | (go_at_call 11; (refine (lives_calls _).mono ?_); rintro e w9 ⟨rfl, hb⟩; have HB9 := Aside0.mk (below_then HB4.out HB4.out.size hb); clear hb))
      go_ret
      exact ⟨by first | rfl | (show Ending.returned (.bool (!decide ((60 : Int) < (((s.extract 0 70)).size : Int)))) = _; rw [decide_eq_false (by omega)]; rfl) | (show Ending.returned (.bool (!decide ((60 : Int) < ((t).size : Int)))) = _; rw [decide_eq_false (by omega)]; rfl), HB9.out⟩
    replace ht6 : t.size ≤ 60 := by omega
    have htc : ¬ (t.size : Int) > 60 := by omega
    have n1 : (((s.extract 0 70)).toList == ((s.extract 0 70)).toList) = true := beq_self_eq_true _
    have n2 : ((t).toList == (t).toList) = true := beq_self_eq_true _
    have HT1 := Aside0.mk (t_long 400 [] (s.extract 0 70) hs6)
    have HT2 := Aside0.mk (t_one t ht6)
    have HJ := Aside0.mk (j_bad1 400 (one t) 2)
    skip
    go_enter Try.func6, Try.ntmps6
    go_wp2_with (first | (go_at_call 14; (refine HN.out.mono ?_); rintro e w1 ⟨g, b, m, rfl, hat, hg, hbb, hm, hb⟩; have HA := Aside0.mk hat; have HG := Aside0.mk hg; have HBB := Aside0.mk hbb; have HM := Aside0.mk hm; have HB := Aside0.mk hb; clear hat hg hbb hm hb) | (go_at_call 23; (refine ((c_text [] [] (s.extract 0 70) 0 12 HT1.out) g b m _ HA.out).mono ?_); rintro e w2 ⟨rfl, hat, hc⟩; have HA2 := Aside0.mk hat; have HB2 := Aside0.mk (hc.below HB.out HB.out.size (fun k hk => by have := HG.out; have := HBB.out; have := HM.out; have hk' := hk; simp only [Its] at hk'; omega)); clear hat hc; clear HA) | (go_at_call 23; (refine ((c_text [] (one t) t 2 0 HT2.out) g b m _ HA2.out).mono ?_); rintro e w3 ⟨rfl, hat, hc⟩; have HA3 := Aside0.mk hat; have HB3 := Aside0.mk (hc.below HB2.out HB2.out.size (fun k hk => by have := HG.out; have := HBB.out; have := HM.out; have hk' := hk; simp only [Its] at hk'; omega)); clear hat hc) | (go_at_call 24; (refine ((c_join (one t) (one t) 0 2 0 4 HJ.out) g b m _ HA3.out).mono ?_); rintro e w4 ⟨rfl, hat, hc⟩; have HA4 := Aside0.mk hat; have HB4 := Aside0.mk (hc.below HB3.out HB3.out.size (fun k hk => by have := HG.out; have := HBB.out; have := HM.out; have hk' := hk; simp only [Its] at hk'; omega)); clear hat hc) | (go_at_call 11; (refine (lives_calls _).mono ?_); rintro e w9 ⟨rfl, hb⟩; have HB9 := Aside0.mk (below_then HB4.out HB4.out.size hb); clear hb))
    go_ret
    exact ⟨by first | rfl | (show Ending.returned (.bool (!decide ((60 : Int) < (((s.extract 0 70)).size : Int)))) = _; rw [decide_eq_false (by omega)]; rfl) | (show Ending.returned (.bool (!decide ((60 : Int) < ((t).size : Int)))) = _; rw [decide_eq_false (by omega)]; rfl), HB9.out⟩
  have hs : ¬ (s.size : Int) > 70 := by omega
  by_cases hs6 : 60 < s.size
  · have hsc : (s.size : Int) > 60 := by omega
    by_cases ht7 : 70 < t.size
    · have ht : (t.size : Int) > 70 := by omega
      have ht6 : 60 < (t.extract 0 70).size := by rw [cut_size t ht7]; decide
      have htc : ((t.extract 0 70).size : Int) > 60 := by omega
      have n1 : ((s).toList == (s).toList) = true := beq_self_eq_true _
      have n2 : (((t.extract 0 70)).toList == ((t.extract 0 70)).toList) = true := beq_self_eq_true _
      have HT1 := Aside0.mk (t_long 400 [] s hs6)
      have HT2 := Aside0.mk (t_long 400 [] (t.extract 0 70) ht6)
      have HJ := Aside0.mk (j_bad1 400 [] 0)
      skip
      go_enter Try.func6, Try.ntmps6
      go_wp2_with (first | (go_at_call 14; (refine HN.out.mono ?_); rintro e w1 ⟨g, b, m, rfl, hat, hg, hbb, hm, hb⟩; have HA := Aside0.mk hat; have HG := Aside0.mk hg; have HBB := Aside0.mk hbb; have HM := Aside0.mk hm; have HB := Aside0.mk hb; clear hat hg hbb hm hb) | (go_at_call 23; (refine ((c_text [] [] s 0 12 HT1.out) g b m _ HA.out).mono ?_); rintro e w2 ⟨rfl, hat, hc⟩; have HA2 := Aside0.mk hat; have HB2 := Aside0.mk (hc.below HB.out HB.out.size (fun k hk => by have := HG.out; have := HBB.out; have := HM.out; have hk' := hk; simp only [Its] at hk'; omega)); clear hat hc; clear HA) | (go_at_call 23; (refine ((c_text [] [] (t.extract 0 70) 0 12 HT2.out) g b m _ HA2.out).mono ?_); rintro e w3 ⟨rfl, hat, hc⟩; have HA3 := Aside0.mk hat; have HB3 := Aside0.mk (hc.below HB2.out HB2.out.size (fun k hk => by have := HG.out; have := HBB.out; have := HM.out; have hk' := hk; simp only [Its] at hk'; omega)); clear hat hc) | (go_at_call 24; (refine ((c_join [] [] 0 0 0 4 HJ.out) g b m _ HA3.out).mono ?_); rintro e w4 ⟨rfl, hat, hc⟩; have HA4 := Aside0.mk hat; have HB4 := Aside0.mk (hc.below HB3.out HB3.out.size (fun k hk => by have := HG.out; have := HBB.out; have := HM.out; have hk' := hk; simp only [Its] at hk'; omega)); clear hat hc) | (go_at_call 11; (refine (lives_calls _).mono ?_); rintro e w9 ⟨rfl, hb⟩; have HB9 := Aside0.mk (below_then HB4.out HB4.out.size hb); clear hb))
      go_ret
      exact ⟨by first | rfl | (show Ending.returned (.bool (!decide ((60 : Int) < ((s).size : Int)))) = _; rw [decide_eq_false (by omega)]; rfl) | (show Ending.returned (.bool (!decide ((60 : Int) < (((t.extract 0 70)).size : Int)))) = _; rw [decide_eq_false (by omega)]; rfl), HB9.out⟩
    have ht : ¬ (t.size : Int) > 70 := by omega
    by_cases ht6 : 60 < t.size
    · have htc : (t.size : Int) > 60 := by omega
      have n1 : ((s).toList == (s).toList) = true := beq_self_eq_true _
      have n2 : ((t).toList == (t).toList) = true := beq_self_eq_true _
      have HT1 := Aside0.mk (t_long 400 [] s hs6)
      have HT2 := Aside0.mk (t_long 400 [] t ht6)
      have HJ := Aside0.mk (j_bad1 400 [] 0)
      skip
      go_enter Try.func6, Try.ntmps6
      go_wp2_with (first | (go_at_call 14; (refine HN.out.mono ?_); rintro e w1 ⟨g, b, m, rfl, hat, hg, hbb, hm, hb⟩; have HA := Aside0.mk hat; have HG := Aside0.mk hg; have HBB := Aside0.mk hbb; have HM := Aside0.mk hm; have HB := Aside0.mk hb; clear hat hg hbb hm hb) | (go_at_call 23; (refine ((c_text [] [] s 0 12 HT1.out) g b m _ HA.out).mono ?_); rintro e w2 ⟨rfl, hat, hc⟩; have HA2 := Aside0.mk hat; have HB2 := Aside0.mk (hc.below HB.out HB.out.size (fun k hk => by have := HG.out; have := HBB.out; have := HM.out; have hk' := hk; simp only [Its] at hk'; omega)); clear hat hc; clear HA) | (go_at_call 23; (refine ((c_text [] [] t 0 12 HT2.out) g b m _ HA2.out).mono ?_); rintro e w3 ⟨rfl, hat, hc⟩; have HA3 := Aside0.mk hat; have HB3 := Aside0.mk (hc.below HB2.out HB2.out.size (fun k hk => by have := HG.out; have := HBB.out; have := HM.out; have hk' := hk; simp only [Its] at hk'; omega)); clear hat hc) | (go_at_call 24; (refine ((c_join [] [] 0 0 0 4 HJ.out) g b m _ HA3.out).mono ?_); rintro e w4 ⟨rfl, hat, hc⟩; have HA4 := Aside0.mk hat; have HB4 := Aside0.mk (hc.below HB3.out HB3.out.size (fun k hk => by have := HG.out; have := HBB.out; have := HM.out; have hk' := hk; simp only [Its] at hk'; omega)); clear hat hc) | (go_at_call 11; (refine (lives_calls _).mono ?_); rintro e w9 ⟨rfl, hb⟩; have HB9 := Aside0.mk (below_then HB4.out HB4.out.size hb); clear hb))
      go_ret
      exact ⟨by first | rfl | (show Ending.returned (.bool (!decide ((60 : Int) < ((s).size : Int)))) = _; rw [decide_eq_false (by omega)]; rfl) | (show Ending.returned (.bool (!decide ((60 : Int) < ((t).size : Int)))) = _; rw [decide_eq_false (by omega)]; rfl), HB9.out⟩
    replace ht6 : t.size ≤ 60 := by omega
    have htc : ¬ (t.size : Int) > 60 := by omega
    have n1 : ((s).toList == (s).toList) = true := beq_self_eq_true _
    have n2 : ((t).toList == (t).toList) = true := beq_self_eq_true _
    have HT1 := Aside0.mk (t_long 400 [] s hs6)
    have HT2 := Aside0.mk (t_one t ht6)
    have HJ := Aside0.mk (j_bad1 400 (one t) 2)
    skip
    go_enter Try.func6, Try.ntmps6
    go_wp2_with (first | (go_at_call 14; (refine HN.out.mono ?_); rintro e w1 ⟨g, b, m, rfl, hat, hg, hbb, hm, hb⟩; have HA := Aside0.mk hat; have HG := Aside0.mk hg; have HBB := Aside0.mk hbb; have HM := Aside0.mk hm; have HB := Aside0.mk hb; clear hat hg hbb hm hb) | (go_at_call 23; (refine ((c_text [] [] s 0 12 HT1.out) g b m _ HA.out).mono ?_); rintro e w2 ⟨rfl, hat, hc⟩; have HA2 := Aside0.mk hat; have HB2 := Aside0.mk (hc.below HB.out HB.out.size (fun k hk => by have := HG.out; have := HBB.out; have := HM.out; have hk' := hk; simp only [Its] at hk'; omega)); clear hat hc; clear HA) | (go_at_call 23; (refine ((c_text [] (one t) t 2 0 HT2.out) g b m _ HA2.out).mono ?_); rintro e w3 ⟨rfl, hat, hc⟩; have HA3 := Aside0.mk hat; have HB3 := Aside0.mk (hc.below HB2.out HB2.out.size (fun k hk => by have := HG.out; have := HBB.out; have := HM.out; have hk' := hk; simp only [Its] at hk'; omega)); clear hat hc) | (go_at_call 24; (refine ((c_join (one t) (one t) 0 2 0 4 HJ.out) g b m _ HA3.out).mono ?_); rintro e w4 ⟨rfl, hat, hc⟩; have HA4 := Aside0.mk hat; have HB4 := Aside0.mk (hc.below HB3.out HB3.out.size (fun k hk => by have := HG.out; have := HBB.out; have := HM.out; have hk' := hk; simp only [Its] at hk'; omega)); clear hat hc) | (go_at_call 11; (refine (lives_calls _).mono ?_); rintro e w9 ⟨rfl, hb⟩; have HB9 := Aside0.mk (below_then HB4.out HB4.out.size hb); clear hb))
    go_ret
    exact ⟨by first | rfl | (show Ending.returned (.bool (!decide ((60 : Int) < ((s).size : Int)))) = _; rw [decide_eq_false (by omega)]; rfl) | (show Ending.returned (.bool (!decide ((60 : Int) < ((t).size : Int)))) = _; rw [decide_eq_false (by omega)]; rfl), HB9.out⟩
  replace hs6 : s.size ≤ 60 := by omega
  have hsc : ¬ (s.size : Int) > 60 := by omega
  by_cases ht7 : 70 < t.size
  · have ht : (t.size : Int) > 70 := by omega
    have ht6 : 60 < (t.extract 0 70).size := by rw [cut_size t ht7]; decide
    have htc : ((t.extract 0 70).size : Int) > 60 := by omega
    have n1 : ((s).toList == (s).toList) = true := beq_self_eq_true _
    have n2 : (((t.extract 0 70)).toList == ((t.extract 0 70)).toList) = true := beq_self_eq_true _
    have HT1 := Aside0.mk (t_one s hs6)
    have HT2 := Aside0.mk (t_long 400 (one s) (t.extract 0 70) ht6)
    have HJ := Aside0.mk (j_bad2 400 (one s) 2 s (s_one s [] hs6))
    skip
    go_enter Try.func6, Try.ntmps6
    go_wp2_with (first | (go_at_call 14; (refine HN.out.mono ?_); rintro e w1 ⟨g, b, m, rfl, hat, hg, hbb, hm, hb⟩; have HA := Aside0.mk hat; have HG := Aside0.mk hg; have HBB := Aside0.mk hbb; have HM := Aside0.mk hm; have HB := Aside0.mk hb; clear hat hg hbb hm hb) | (go_at_call 23; (refine ((c_text [] (one s) s 2 0 HT1.out) g b m _ HA.out).mono ?_); rintro e w2 ⟨rfl, hat, hc⟩; have HA2 := Aside0.mk hat; have HB2 := Aside0.mk (hc.below HB.out HB.out.size (fun k hk => by have := HG.out; have := HBB.out; have := HM.out; have hk' := hk; simp only [Its] at hk'; omega)); clear hat hc; clear HA) | (go_at_call 23; (refine ((c_text (one s) (one s) (t.extract 0 70) 0 12 HT2.out) g b m _ HA2.out).mono ?_); rintro e w3 ⟨rfl, hat, hc⟩; have HA3 := Aside0.mk hat; have HB3 := Aside0.mk (hc.below HB2.out HB2.out.size (fun k hk => by have := HG.out; have := HBB.out; have := HM.out; have hk' := hk; simp only [Its] at hk'; omega)); clear hat hc) | (go_at_call 24; (refine ((c_join (one s) (one s) 2 0 0 4 HJ.out) g b m _ HA3.out).mono ?_); rintro e w4 ⟨rfl, hat, hc⟩; have HA4 := Aside0.mk hat; have HB4 := Aside0.mk (hc.below HB3.out HB3.out.size (fun k hk => by have := HG.out; have := HBB.out; have := HM.out; have hk' := hk; simp only [Its] at hk'; omega)); clear hat hc) | (go_at_call 11; (refine (lives_calls _).mono ?_); rintro e w9 ⟨rfl, hb⟩; have HB9 := Aside0.mk (below_then HB4.out HB4.out.size hb); clear hb))
    go_ret
    exact ⟨by first | rfl | (show Ending.returned (.bool (!decide ((60 : Int) < ((s).size : Int)))) = _; rw [decide_eq_false (by omega)]; rfl) | (show Ending.returned (.bool (!decide ((60 : Int) < (((t.extract 0 70)).size : Int)))) = _; rw [decide_eq_false (by omega)]; rfl), HB9.out⟩
  have ht : ¬ (t.size : Int) > 70 := by omega
  by_cases ht6 : 60 < t.size
  · have htc : (t.size : Int) > 60 := by omega
    have n1 : ((s).toList == (s).toList) = true := beq_self_eq_true _
    have n2 : ((t).toList == (t).toList) = true := beq_self_eq_true _
    have HT1 := Aside0.mk (t_one s hs6)
    have HT2 := Aside0.mk (t_long 400 (one s) t ht6)
    have HJ := Aside0.mk (j_bad2 400 (one s) 2 s (s_one s [] hs6))
    skip
    go_enter Try.func6, Try.ntmps6
    go_wp2_with (first | (go_at_call 14; (refine HN.out.mono ?_); rintro e w1 ⟨g, b, m, rfl, hat, hg, hbb, hm, hb⟩; have HA := Aside0.mk hat; have HG := Aside0.mk hg; have HBB := Aside0.mk hbb; have HM := Aside0.mk hm; have HB := Aside0.mk hb; clear hat hg hbb hm hb) | (go_at_call 23; (refine ((c_text [] (one s) s 2 0 HT1.out) g b m _ HA.out).mono ?_); rintro e w2 ⟨rfl, hat, hc⟩; have HA2 := Aside0.mk hat; have HB2 := Aside0.mk (hc.below HB.out HB.out.size (fun k hk => by have := HG.out; have := HBB.out; have := HM.out; have hk' := hk; simp only [Its] at hk'; omega)); clear hat hc; clear HA) | (go_at_call 23; (refine ((c_text (one s) (one s) t 0 12 HT2.out) g b m _ HA2.out).mono ?_); rintro e w3 ⟨rfl, hat, hc⟩; have HA3 := Aside0.mk hat; have HB3 := Aside0.mk (hc.below HB2.out HB2.out.size (fun k hk => by have := HG.out; have := HBB.out; have := HM.out; have hk' := hk; simp only [Its] at hk'; omega)); clear hat hc) | (go_at_call 24; (refine ((c_join (one s) (one s) 2 0 0 4 HJ.out) g b m _ HA3.out).mono ?_); rintro e w4 ⟨rfl, hat, hc⟩; have HA4 := Aside0.mk hat; have HB4 := Aside0.mk (hc.below HB3.out HB3.out.size (fun k hk => by have := HG.out; have := HBB.out; have := HM.out; have hk' := hk; simp only [Its] at hk'; omega)); clear hat hc) | (go_at_call 11; (refine (lives_calls _).mono ?_); rintro e w9 ⟨rfl, hb⟩; have HB9 := Aside0.mk (below_then HB4.out HB4.out.size hb); clear hb))
    go_ret
    exact ⟨by first | rfl | (show Ending.returned (.bool (!decide ((60 : Int) < ((s).size : Int)))) = _; rw [decide_eq_false (by omega)]; rfl) | (show Ending.returned (.bool (!decide ((60 : Int) < ((t).size : Int)))) = _; rw [decide_eq_false (by omega)]; rfl), HB9.out⟩
  replace ht6 : t.size ≤ 60 := by omega
  have htc : ¬ (t.size : Int) > 60 := by omega
  by_cases hst : s.size + t.size ≤ 60
  · have hstc : ¬ (s.size : Int) + (t.size : Int) > 60 := by omega
    have n1 : ((s).toList == (s).toList) = true := beq_self_eq_true _
    have n2 : ((t).toList == (t).toList) = true := beq_self_eq_true _
    have HT1 := Aside0.mk (t_one s hs6)
    have HT2 := Aside0.mk (t_two s t hs6 ht6)
    have HJ := Aside0.mk (j_ok s t hs6 ht6 hst)
    have HS1 := Aside0.mk (show strB (three s t) 2 = (s, 0) from s_one _ _ hs6)
    have HS2 := Aside0.mk (show strB (three s t) (at2 s) = (t, 0) from s_two _ _ _ ht6)
    have HS3 := Aside0.mk (s_three s t (by rw [ByteArray.size_append]; exact hst))
    have n3 : ((s ++ t).toList == (s ++ t).toList) = true := beq_self_eq_true _
    generalize hz1 : at2 s = z1 at *
    generalize hz2 : at3 s t = z2 at *
    go_enter Try.func6, Try.ntmps6
    go_wp2_with (first | (go_at_call 14; (refine HN.out.mono ?_); rintro e w1 ⟨g, b, m, rfl, hat, hg, hbb, hm, hb⟩; have HA := Aside0.mk hat; have HG := Aside0.mk hg; have HBB := Aside0.mk hbb; have HM := Aside0.mk hm; have HB := Aside0.mk hb; clear hat hg hbb hm hb) | (go_at_call 23; (refine ((c_text [] (one s) s 2 0 HT1.out) g b m _ HA.out).mono ?_); rintro e w2 ⟨rfl, hat, hc⟩; have HA2 := Aside0.mk hat; have HB2 := Aside0.mk (hc.below HB.out HB.out.size (fun k hk => by have := HG.out; have := HBB.out; have := HM.out; have hk' := hk; simp only [Its] at hk'; omega)); clear hat hc; clear HA) | (go_at_call 23; (refine ((c_text (one s) (two s t) t z1 0 HT2.out) g b m _ HA2.out).mono ?_); rintro e w3 ⟨rfl, hat, hc⟩; have HA3 := Aside0.mk hat; have HB3 := Aside0.mk (hc.below HB2.out HB2.out.size (fun k hk => by have := HG.out; have := HBB.out; have := HM.out; have hk' := hk; simp only [Its] at hk'; omega)); clear hat hc) | (go_at_call 24; (refine ((c_join (two s t) (three s t) 2 z1 z2 0 HJ.out) g b m _ HA3.out).mono ?_); rintro e w4 ⟨rfl, hat, hc⟩; have HA4 := Aside0.mk hat; have HB4 := Aside0.mk (hc.below HB3.out HB3.out.size (fun k hk => by have := HG.out; have := HBB.out; have := HM.out; have hk' := hk; simp only [Its] at hk'; omega)); clear hat hc) | (go_at_call 25; (refine ((c_str (three s t) 2 s 0 HS1.out) g b m _ HA4.out).mono ?_); rintro e w5 ⟨rfl, hb⟩; have HA5 := Aside0.mk (HA4.out.below hb); have HB5 := Aside0.mk (below_then HB4.out HB4.out.size hb); clear hb HA4) | (go_at_call 25; (refine ((c_str (three s t) z1 t 0 HS2.out) g b m _ HA5.out).mono ?_); rintro e w6 ⟨rfl, hb⟩; have HA6 := Aside0.mk (HA5.out.below hb); have HB6 := Aside0.mk (below_then HB5.out HB5.out.size hb); clear hb HA5) | (go_at_call 25; (refine ((c_str (three s t) z2 (s ++ t) 0 HS3.out) g b m _ HA6.out).mono ?_); rintro e w7 ⟨rfl, hb⟩; have HA7 := Aside0.mk (HA6.out.below hb); have HB7 := Aside0.mk (below_then HB6.out HB6.out.size hb); clear hb HA6) | (go_at_call 11; (refine (lives_calls _).mono ?_); rintro e w9 ⟨rfl, hb⟩; have HB9 := Aside0.mk (below_then HB7.out HB7.out.size hb); clear hb))
    go_ret
    exact ⟨by first | rfl | (show Ending.returned (.bool (!decide ((60 : Int) < ((s).size : Int)))) = _; rw [decide_eq_false (by omega)]; rfl) | (show Ending.returned (.bool (!decide ((60 : Int) < ((t).size : Int)))) = _; rw [decide_eq_false (by omega)]; rfl), HB9.out⟩
  replace hst : 60 < s.size + t.size := by omega
  have hstc : (s.size : Int) + (t.size : Int) > 60 := by omega
  have n1 : ((s).toList == (s).toList) = true := beq_self_eq_true _
  have n2 : ((t).toList == (t).toList) = true := beq_self_eq_true _
  have HT1 := Aside0.mk (t_one s hs6)
  have HT2 := Aside0.mk (t_two s t hs6 ht6)
  have HJ := Aside0.mk (j_long s t hs6 ht6 hst)
  have HS1 := Aside0.mk (show strB (two s t) 2 = (s, 0) from s_one _ _ hs6)
  have HS2 := Aside0.mk (show strB (two s t) (at2 s) = (t, 0) from s_two _ _ _ ht6)
  generalize hz1 : at2 s = z1 at *
  go_enter Try.func6, Try.ntmps6
  go_wp2_with (first | (go_at_call 14; (refine HN.out.mono ?_); rintro e w1 ⟨g, b, m, rfl, hat, hg, hbb, hm, hb⟩; have HA := Aside0.mk hat; have HG := Aside0.mk hg; have HBB := Aside0.mk hbb; have HM := Aside0.mk hm; have HB := Aside0.mk hb; clear hat hg hbb hm hb) | (go_at_call 23; (refine ((c_text [] (one s) s 2 0 HT1.out) g b m _ HA.out).mono ?_); rintro e w2 ⟨rfl, hat, hc⟩; have HA2 := Aside0.mk hat; have HB2 := Aside0.mk (hc.below HB.out HB.out.size (fun k hk => by have := HG.out; have := HBB.out; have := HM.out; have hk' := hk; simp only [Its] at hk'; omega)); clear hat hc; clear HA) | (go_at_call 23; (refine ((c_text (one s) (two s t) t z1 0 HT2.out) g b m _ HA2.out).mono ?_); rintro e w3 ⟨rfl, hat, hc⟩; have HA3 := Aside0.mk hat; have HB3 := Aside0.mk (hc.below HB2.out HB2.out.size (fun k hk => by have := HG.out; have := HBB.out; have := HM.out; have hk' := hk; simp only [Its] at hk'; omega)); clear hat hc) | (go_at_call 24; (refine ((c_join (two s t) (two s t) 2 z1 0 12 HJ.out) g b m _ HA3.out).mono ?_); rintro e w4 ⟨rfl, hat, hc⟩; have HA4 := Aside0.mk hat; have HB4 := Aside0.mk (hc.below HB3.out HB3.out.size (fun k hk => by have := HG.out; have := HBB.out; have := HM.out; have hk' := hk; simp only [Its] at hk'; omega)); clear hat hc) | (go_at_call 25; (refine ((c_str (two s t) 2 s 0 HS1.out) g b m _ HA4.out).mono ?_); rintro e w5 ⟨rfl, hb⟩; have HA5 := Aside0.mk (HA4.out.below hb); have HB5 := Aside0.mk (below_then HB4.out HB4.out.size hb); clear hb HA4) | (go_at_call 25; (refine ((c_str (two s t) z1 t 0 HS2.out) g b m _ HA5.out).mono ?_); rintro e w6 ⟨rfl, hb⟩; have HA6 := Aside0.mk (HA5.out.below hb); have HB6 := Aside0.mk (below_then HB5.out HB5.out.size hb); clear hb HA5) | (go_at_call 11; (refine (lives_calls _).mono ?_); rintro e w9 ⟨rfl, hb⟩; have HB9 := Aside0.mk (below_then HB6.out HB6.out.size hb); clear hb))
  go_ret
  exact ⟨by first | rfl | (show Ending.returned (.bool (!decide ((60 : Int) < ((s).size : Int)))) = _; rw [decide_eq_false (by omega)]; rfl) | (show Ending.returned (.bool (!decide ((60 : Int) < ((t).size : Int)))) = _; rw [decide_eq_false (by omega)]; rfl), HB9.out⟩
end Go.Proofs.Ytkmoneccehbncaa.Heap
