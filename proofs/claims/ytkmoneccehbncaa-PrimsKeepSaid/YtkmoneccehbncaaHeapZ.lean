/- Close and Open over a list of blocks; what Collect comes to for PrimsKeep. -/
import Derived.Test.YtkmoneccehbncaaHeapY
namespace Go.Proofs.Ytkmoneccehbncaa.Heap
open Go.RowKit Go.Proofs.YtkmoneccehbncaaW.PrintWords Go.Proofs.YtkmoneccehbncaaW.PrintLast Go.Proofs.YtkmoneccehbncaaW.PrintMore Go.Proofs.Ytkmoneccehbncaa.Print Go.Proofs.Ytkmoneccehbncaa.Ints
set_option linter.unusedVariables false
set_option linter.unusedSimpArgs false

def closeB (n : Int) (bl : List (Int × List Int)) (fn : Int) (l : List Int) : Int × Int × List (Int × List Int) := if fn < 0 ∨ 2147483647 < fn then (0, 1, bl) else makeB n bl 200 ((2 * fn + 1) :: l)
def openB (bl : List (Int × List Int)) (z : Int) : Int × List Int × Int :=
  match findB 1 bl z with
  | none => (0, [], 4)
  | some y => if y.1 = 200 then openOf y.2 else (0, [], 4)
theorem Lays.close {H : PH} {n : Int} {bl : List (Int × List Int)} (h : Lays H n bl) (fn : Int) (l : List Int) :
    (H.close fn l).1 = (closeB n bl fn l).1 ∧ (H.close fn l).2.1 = (closeB n bl fn l).2.1 ∧ Lays (H.close fn l).2.2 n (closeB n bl fn l).2.2 := by
  unfold PH.close closeB
  by_cases h0 : fn < 0 ∨ 2147483647 < fn
  · rw [if_pos h0, if_pos h0]
    exact ⟨rfl, rfl, h⟩
  · rw [if_neg h0, if_neg h0]
    exact h.make 200 _
theorem Lays.open_ {H : PH} {n : Int} {bl : List (Int × List Int)} (h : Lays H n bl) (z : Int) : H.open_ z = openB bl z := by
  unfold PH.open_ openB
  rw [h.tag z, h.fields z]
  cases findB 1 bl z <;> rfl
theorem closeC (g b m : Nat) (n : Int) (bl : List (Int × List Int)) (fn : Int) (A : Option Addr) (c : Nat) (l : List Int) (W : World) (h : AtB W g b m n bl) (hr : ReadsInt W .i64 A l.length l) (hl : l.length ≤ 10000) :
    Calls Try.prog 32 #[.pointer (some ⟨g, 0, none⟩), .int .i64 fn, .slice A l.length c] W fun e' w' => e' = .returned (.tuple #[.int .i64 (closeB n bl fn l).1, .int .i64 (closeB n bl fn l).2.1]) ∧
      AtB w' g b m n (closeB n bl fn l).2.2 ∧ Chg (Its g b m) W w' := by
  obtain ⟨H, h1, h2⟩ := h
  obtain ⟨e1, e2, h3⟩ := h2.close fn l
  rw [← e1, ← e2]
  refine (close_calls g b m H fn A c l W h1 h2.wf hr hl).mono ?_
  rintro e w' ⟨rfl, ha, hc⟩
  exact ⟨rfl, ⟨_, ha, h3⟩, hc⟩
theorem openC (g b m : Nat) (n : Int) (bl : List (Int × List Int)) (z : Int) (W : World) (h : AtB W g b m n bl) :
    Calls Try.prog 28 #[.pointer (some ⟨g, 0, none⟩), .int .i64 z] W fun e w' => ∃ v, e = .returned (.tuple #[.int .i64 (openB bl z).1, v, .int .i64 (openB bl z).2.2]) ∧ Row w' W.heap.size v (openB bl z).2.1 ∧ Below W.heap.size W w' := by
  obtain ⟨H, h1, h2⟩ := h
  rw [← h2.open_ z]
  exact open_calls g b m H z W h1 h2.wf

/-- The blocks of PrimsKeep: two texts and one that is lost, and a closure that keeps the two. -/
def lost : ByteArray := ⟨#[108, 111, 115, 116]⟩
theorem lost_len : (pack lost).length = 2 := by decide +kernel
def kb (s : ByteArray) : Int := 2 * (1 + 1 + (pack s).length + 1 + (pack lost).length)
def kc (s t : ByteArray) : Int := 2 * (1 + 1 + (pack s).length + 1 + (pack lost).length + 1 + (pack t).length)
def k3 (s t : ByteArray) : List (Int × List Int) := [(201, pack s), (201, pack lost), (201, pack t)]
def k4 (s t : ByteArray) (f : Int) : List (Int × List Int) := [(201, pack s), (201, pack lost), (201, pack t), (200, [2 * f + 1, kb s, 2, 9])]
def kx (t : ByteArray) : Int := 2 * (1 + 1 + (4 : Nat) + 1 + (pack t).length)
def k5 (s t : ByteArray) (f : Int) : List (Int × List Int) := [(200, [2 * f + 1, 12, kx t, 9]), (201, pack t), (201, pack s)]
theorem p_le' (s : ByteArray) (h : s.size ≤ 60) : (pack s).length ≤ 10 := by rw [pack_length]; omega
theorem f_odd (bl : List (Int × List Int)) (z : Int) (h : z % 2 = 1) : findB 1 bl z = none := by
  cases hf : findB 1 bl z with
  | none => rfl
  | some y => obtain ⟨q, e, _⟩ := findB_some hf; omega
theorem kt_1 (s : ByteArray) (h : s.size ≤ 60) : textB 200 [] s = (2, 0, [(201, pack s)]) := text_ok 200 [] s h (by decide)
theorem kt_2 (s : ByteArray) (h : s.size ≤ 60) : textB 200 [(201, pack s)] lost = (2 * (1 + 1 + ((pack s).length : Int)), 0, [(201, pack s), (201, pack lost)]) := text_ok 200 [(201, pack s)] lost (by decide) (by have := p_le' s h; show 1 + 1 + ((pack s).length : Int) + 10 ≤ 200; omega)
theorem kt_3 (s t : ByteArray) (h : s.size ≤ 60) (ht : t.size ≤ 60) : textB 200 [(201, pack s), (201, pack lost)] t = (kb s, 0, k3 s t) := text_ok 200 [(201, pack s), (201, pack lost)] t ht (by have := p_le' s h; have := lost_len; show 1 + 1 + ((pack s).length : Int) + 1 + (pack lost).length + 10 ≤ 200; omega)
theorem f3_a (s t : ByteArray) (r : List (Int × List Int)) : findB 1 ((201, pack s) :: r) 2 = some (201, pack s) := rfl
theorem f3_b (s t : ByteArray) (r : List (Int × List Int)) : findB 1 ((201, pack s) :: (201, pack lost) :: (201, pack t) :: r) (kb s) = some (201, pack t) := by
  unfold kb
  rw [findB, if_neg (by omega), findB, if_neg (by simp only []; omega), findB, if_pos rfl]
theorem f4_c (s t : ByteArray) (f : Int) : findB 1 (k4 s t f) (kc s t) = some (200, [2 * f + 1, kb s, 2, 9]) := by
  unfold kc k4
  rw [findB, if_neg (by omega), findB, if_neg (by simp only []; omega), findB, if_neg (by simp only []; omega), findB, if_pos rfl]
theorem k_close (s t : ByteArray) (h : s.size ≤ 60) (ht : t.size ≤ 60) (f : Int) (h0 : 0 ≤ f) (h1 : f ≤ 1000) : closeB 200 (k3 s t) f [kb s, 2, 9] = (kc s t, 0, k4 s t f) := by
  unfold closeB makeB
  have e1 : mayB (k3 s t) (2 * f + 1) = true := by unfold mayB; rw [decide_eq_true (by omega)]; rfl
  have e2 : mayB (k3 s t) (kb s) = true := by unfold mayB k3; rw [f3_b]; simp
  have e3 : mayB (k3 s t) 2 = true := by unfold mayB k3; rw [f3_a s t]; simp
  have e4 : mayB (k3 s t) 9 = true := rfl
  have ho : oddB (k3 s t) 200 ((2 * f + 1) :: [kb s, 2, 9]) = false := by
    unfold oddB
    simp [e1, e2, e3, e4]
  have p1 := p_le' s h
  have p2 := p_le' t ht
  have p3 := lost_len
  rw [if_neg (by omega), ho, if_neg (by decide), if_neg (by show ¬ (200 : Int) < 1 + 1 + (pack s).length + 1 + (pack lost).length + 1 + (pack t).length + (4 : Nat); omega)]
  rfl
theorem fld201 (n : Int) (bl : List (Int × List Int)) (p : Nat) : ∀ (m i : Nat) (s : St), fldO n bl p 201 m i s = some s
  | 0, i, s => rfl
  | m + 1, i, s => by rw [fldO, if_pos rfl]; exact fld201 n bl p m (i + 1) s
theorem k_move (s t : ByteArray) (f : Int) : mvO 200 (k4 s t f) ([], (fun _ => 0), []) (kc s t) = some (2, ([(200, [2 * f + 1, kb s, 2, 9])], (fun k => if k = kc s t / 2 then 1 else 0), [kc s t / 2])) := by
  unfold mvO
  rw [f4_c]
  simp only
  have e : topB 1 [] + (([2 * f + 1, kb s, 2, 9] : List Int).length : Int) ≤ 200 := show (1 : Int) + (4 : Nat) ≤ 200 by decide
  rw [if_neg (by simp), if_pos e]
  rfl
theorem fld_none {n : Int} {bl : List (Int × List Int)} {p : Nat} {tag : Int} {m i : Nat} {s : St} {y : Int × List Int} (ht : tag ≠ 201) (hy : findB 1 s.1 (2 * (p : Int)) = some y) (w : Int) (hw : rd y.2 (i : Int) = w) (hn : findB 1 bl w = none) (b2 : List (Int × List Int)) (hb : setB 1 s.1 p i w = b2) :
    fldO n bl p tag (m + 1) i s = fldO n bl p tag m (i + 1) (b2, s.2) := by
  rw [fldO, if_neg ht, hy]
  simp only
  rw [hw]
  unfold mvO
  rw [hn]
  simp only [Option.bind_some]
  rw [hb]
theorem fld_new {n : Int} {bl : List (Int × List Int)} {p : Nat} {tag : Int} {m i : Nat} {s : St} {y : Int × List Int} (ht : tag ≠ 201) (hy : findB 1 s.1 (2 * (p : Int)) = some y) (w : Int) (hw : rd y.2 (i : Int) = w) (x : Int × List Int) (hn : findB 1 bl w = some x) (hk : w / 2 ∉ s.2.2) (hr : topB 1 s.1 + x.2.length ≤ n) (b2 : List (Int × List Int)) (hb : setB 1 (s.1 ++ [x]) p i (2 * topB 1 s.1) = b2) :
    fldO n bl p tag (m + 1) i s = fldO n bl p tag m (i + 1) (b2, (fun k => if k = w / 2 then topB 1 s.1 else s.2.1 k), s.2.2 ++ [w / 2]) := by
  rw [fldO, if_neg ht, hy]
  simp only
  rw [hw]
  unfold mvO
  rw [hn]
  simp only [Option.bind_some]
  rw [if_neg hk, if_pos hr]
  simp only [Option.bind_some]
  rw [hb]
theorem scan_go {n : Int} {bl : List (Int × List Int)} {k p : Nat} {s s' : St} {y : Int × List Int} (h1 : (p : Int) < topB 1 s.1) (hy : findB 1 s.1 (2 * (p : Int)) = some y) (hf : fldO n bl p y.1 y.2.length 0 s = some s') : scanO n bl (k + 1) p s = scanO n bl k (p + 1 + y.2.length) s' := by
  rw [scanO, if_pos h1, hy]
  simp only
  rw [hf]
  rfl
theorem k_scan (s t : ByteArray) (h : s.size ≤ 60) (ht : t.size ≤ 60) (f : Int) : ∃ s2, scanO 200 (k4 s t f) 4 1 ([(200, [2 * f + 1, kb s, 2, 9])], (fun k => if k = kc s t / 2 then 1 else 0), [kc s t / 2]) = some s2 ∧ s2.1 = k5 s t f := by
  have p1 := p_le' s h
  have p2 := p_le' t ht
  have p3 := lost_len
  have n1 : kb s / 2 ≠ kc s t / 2 := by unfold kb kc; omega
  have n2 : (2 : Int) / 2 ≠ kc s t / 2 := by unfold kc; omega
  have n3 : (2 : Int) / 2 ≠ kb s / 2 := by unfold kb; omega
  have g1 : findB 1 (k4 s t f) (2 * f + 1) = none := f_odd _ _ (by omega)
  have g2 : findB 1 (k4 s t f) (kb s) = some (201, pack t) := f3_b s t _
  have g3 : findB 1 (k4 s t f) 2 = some (201, pack s) := f3_a s t _
  have g4 : findB 1 (k4 s t f) 9 = none := f_odd _ _ (by decide)
  unfold k5 kx
  generalize k4 s t f = bl at *
  generalize kb s = b at *
  generalize kc s t / 2 = c at *
  generalize 2 * f + 1 = a at *
  clear h ht
  generalize hP : pack s = P at *
  generalize hR : pack t = R at *
  have hf := ((fld_none (n := 200) (p := 1) (tag := 200) (m := 3) (i := 0) (s := ([(200, [a, b, 2, 9])], (fun k => if k = c then 1 else 0), [c])) (y := (200, [a, b, 2, 9])) (by decide) rfl a rfl g1 [(200, [a, b, 2, 9])] rfl).trans
    ((fld_new (n := 200) (m := 2) (i := 0 + 1) (s := ([(200, [a, b, 2, 9])], (fun k => if k = c then 1 else 0), [c])) (y := (200, [a, b, 2, 9])) (by decide) rfl b rfl (201, R) g2 (by simpa using n1) (by show (1 : Int) + 1 + (4 : Nat) + R.length ≤ 200; omega) [(200, [a, 12, 2, 9]), (201, R)] rfl).trans
    ((fld_new (n := 200) (m := 1) (i := 0 + 1 + 1) (y := (200, [a, 12, 2, 9])) (by decide) rfl 2 rfl (201, P) g3 (by simp only [List.mem_append, List.mem_singleton, not_or]; exact ⟨n2, n3⟩) (by show (1 : Int) + 1 + (4 : Nat) + 1 + R.length + P.length ≤ 200; omega) [(200, [a, 12, 2 * (1 + 1 + (4 : Nat) + 1 + R.length), 9]), (201, R), (201, P)] rfl).trans
    (fld_none (n := 200) (m := 0) (i := 0 + 1 + 1 + 1) (y := (200, [a, 12, 2 * (1 + 1 + (4 : Nat) + 1 + R.length), 9])) (by decide) rfl 9 rfl g4 [(200, [a, 12, 2 * (1 + 1 + (4 : Nat) + 1 + R.length), 9]), (201, R), (201, P)] rfl))))
  rw [show ∀ x, fldO 200 bl 1 200 0 (0 + 1 + 1 + 1 + 1) x = some x from fun x => rfl] at hf
  have e1 := scan_go (k := 3) (p := 1) (y := (200, [a, b, 2, 9])) (by show ((1 : Nat) : Int) < 1 + 1 + (4 : Nat); decide) rfl hf
  have fin : ∀ S : St, S.1 = [(200, [a, 12, 2 * (1 + 1 + (4 : Nat) + 1 + R.length), 9]), (201, R), (201, P)] → scanO 200 bl 3 6 S = some S := fun S hS => by
    have t1 : topB 1 S.1 = 1 + 1 + (4 : Nat) + 1 + R.length + 1 + P.length := by rw [hS]; rfl
    have e2 := scan_go (n := 200) (bl := bl) (k := 2) (p := 6) (y := (201, R)) (s := S) (by rw [t1]; omega) (by rw [hS]; rfl) (fld201 _ _ _ _ _ _)
    have e3 := scan_go (n := 200) (bl := bl) (k := 1) (p := 6 + 1 + R.length) (y := (201, P)) (s := S) (by rw [t1]; omega) (by
      rw [hS, findB, if_neg (by omega), findB, if_neg (by simp only [List.length_cons, List.length_nil]; omega), findB, if_pos (by simp only [List.length_cons, List.length_nil]; omega)]) (fld201 _ _ _ _ _ _)
    refine e2.trans (e3.trans ?_)
    rw [scanO, if_neg (by rw [t1]; show ¬ ((6 + 1 + R.length + 1 + P.length : Nat) : Int) < _; omega)]
  have hfin := e1.trans (fin _ rfl)
  exact ⟨_, hfin, rfl⟩
theorem k_open (s t : ByteArray) (f : Int) (h0 : 0 ≤ f) (h1 : f ≤ 1000) : openB (k5 s t f) 2 = (f, [12, kx t, 9], 0) := by
  show openOf [2 * f + 1, 12, kx t, 9] = _
  unfold openOf
  simp only
  rw [if_neg (by omega), if_neg (by omega), show (2 * f + 1) / 2 = f by omega]
theorem k_str1 (s t : ByteArray) (f : Int) (ht : t.size ≤ 60) : strB (k5 s t f) 12 = (t, 0) := str_some rfl ht
theorem k_str2 (s t : ByteArray) (f : Int) (h : s.size ≤ 60) : strB (k5 s t f) (kx t) = (s, 0) := str_some (by
  unfold k5 kx
  rw [findB, if_neg (by omega), findB, if_neg (by simp only [List.length_cons, List.length_nil]; omega), findB, if_pos (by simp only [List.length_cons, List.length_nil])]) h
end Go.Proofs.Ytkmoneccehbncaa.Heap
