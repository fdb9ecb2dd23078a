/- The heap of layer 2 in memory: a block is made, or refused; no condition but what each theorem states. -/
import Derived.Test.YtkmoneccehbncaaHeapG
import Derived.Outline
namespace Go.Proofs.Ytkmoneccehbncaa.Heap
open Go.RowKit Go.Proofs.YtkmoneccehbncaaW.PrintWords Go.Proofs.YtkmoneccehbncaaW.PrintLast Go.Proofs.YtkmoneccehbncaaW.PrintMore Go.Proofs.Ytkmoneccehbncaa.Print Go.Proofs.Ytkmoneccehbncaa.Ints
set_option linter.unusedVariables false
set_option linter.unusedSimpArgs false

/-- What is refused whatever room there is. -/
def PH.odd (H : PH) (tag : Int) (l : List Int) : Bool := decide (tag < 0) || decide (201 < tag) || decide (60 < l.length) || (decide (tag ≠ 201) && l.any (fun z => !H.may z))
/-- What making a block hands back, and the heap behind it. -/
def PH.make (H : PH) (tag : Int) (l : List Int) : Int × Int × PH :=
  if H.odd tag l = true then (0, 1, H)
  else if (H.ws.length : Int) - 1 < H.top - 1 + 1 + l.length then (0, 2, H)
  else (2 * H.top, 0, ⟨laid H.ws H.top.toNat (l.length * 256 + tag) l, H.top + 1 + l.length, H.ks ++ [H.top]⟩)

theorem at_drawn {W W1 : World} {g b m : Nat} {H : PH} (h : At W g b m H) (hd : Drawn0 W W1) : At W1 g b m H := by
  obtain ⟨n, rfl⟩ := hd.out
  exact h.drewN n
theorem reads_drawn {W W1 : World} {k : IntKind} {A : Option Addr} {n : Nat} {xs : List Int} (h : ReadsInt W k A n xs) (hd : Drawn0 W W1) : ReadsInt W1 k A n xs := by
  obtain ⟨n, rfl⟩ := hd.out
  exact h.drewN n
theorem below_drawn {B : Nat} {W0 W W1 : World} (h : Below B W0 W) (hd : Drawn0 W W1) : Below B W0 W1 := by
  obtain ⟨n, rfl⟩ := hd.out
  exact pw_below_drewN h n
theorem cell_drawn {W W1 : World} {a : Addr} {v : Value} (h : W.cell? a = some v) (hd : Drawn0 W W1) : W1.cell? a = some v := by
  obtain ⟨n, rfl⟩ := hd.out
  exact h
theorem quiet17 (g b m : Nat) (H : PH) (W : World) (n : Nat) (h : At W g b m H) (h0 : 0 ≤ H.top) (h1 : H.top ≤ 100000) :
    Calls Try.prog 17 #[.pointer (some ⟨g, 0, none⟩)] (W.drewN n) fun e w'' => e = .returned (.int .i64 (H.top - 1)) ∧ ∃ m, w'' = W.drewN m :=
  Calls.quiet_of ((used_calls g b m H (W.drewN n) (h.drewN n) h0 h1).mono (fun e w' h => ⟨h.1, h.2.out⟩))
theorem quiet63 (g b m : Nat) (H : PH) (W : World) (n : Nat) (h : At W g b m H) (h1 : H.ws.length ≤ 100000) :
    Calls Try.prog 63 #[.pointer (some ⟨g, 0, none⟩)] (W.drewN n) fun e w'' => e = .returned (.int .i64 ((H.ws.length : Int) - 1)) ∧ ∃ m, w'' = W.drewN m :=
  Calls.quiet_of ((half_calls g b m H (W.drewN n) (h.drewN n) h1).mono (fun e w' h => ⟨h.1, h.2.out⟩))

set_option maxHeartbeats 4000000 in
set_option maxRecDepth 100000 in
theorem make_calls (g b m : Nat) (H : PH) (tag : Int) (A : Option Addr) (c : Nat) (l : List Int) (W : World) (h : At W g b m H) (hw : H.Wf)
    (hr : ReadsInt W .i64 A l.length l) (hl : l.length ≤ 100000) (hA : ∀ ad, A = some ad → 0 < l.length → ad.block ≠ b) :
    Calls Try.prog 46 #[.pointer (some ⟨g, 0, none⟩), .int .i64 tag, .slice A l.length c] W fun e w' => e = .returned (.tuple #[.int .i64 (H.make tag l).1, .int .i64 (H.make tag l).2.1]) ∧
      At w' g b m (H.make tag l).2.2 ∧ Chg (fun k => k = g ∨ k = b ∨ k = m) W w' := by
  have ht1 := hw.top1
  have ht2 := hw.top2
  have hlen := hw.len
  obtain ⟨t, ht⟩ := Int.eq_ofNat_of_zero_le (show 0 ≤ H.top by omega)
  have htk : (t : Int) ∉ H.ks := fun hk => by have := hw.blk' _ hk; omega
  -- the box of h
  have hb1 : Below W.heap.size W (W.alloc (.cells #[.pointer (some ⟨g, 0, none⟩)] 31)) := (Below.refl _ _).alloc (Nat.le_refl _) _
  have h1 := h.below hb1
  have hcell : (W.alloc (.cells #[.pointer (some ⟨g, 0, none⟩)] 31)).cell? ⟨W.heap.size, 0, none⟩ = some (.pointer (some ⟨g, 0, none⟩)) := by
    rw [World.cell?_alloc_new]; rfl
  have HC := Aside0.mk (containsFunc71_calls (.pointer (some ⟨W.heap.size, 0, none⟩)) (fun z => !H.may z) A c l (W.alloc (.cells #[.pointer (some ⟨g, 0, none⟩)] 31)) (hr.allocS _) hl
    (fun n z => make1_calls g b m H z W.heap.size _ (h1.drewN n) hcell))
  have HQ1 := Aside0.mk (fun W n (h : At W g b m H) => quiet17 g b m H W n h (by omega) (by omega))
  have HQ2 := Aside0.mk (fun W n (h : At W g b m H) => quiet63 g b m H W n h hlen)
  have HL := Aside0.mk (fun W h hf h0 h1 hr hA => lay_calls g b m t H tag A c l W h ht hf hlen htk h0 h1 hr hA)
  have HP : Aside0 (ints_Point.f (t : Int) = some (2 * (t : Int))) := ⟨by rw [point_eq, if_pos ⟨by omega, by omega⟩]⟩
  have HH := Aside0.mk h1
  have HR := Aside0.mk (hr.allocS (.cells #[.pointer (some ⟨g, 0, none⟩)] 31))
  have HA := Aside0.mk hA
  have HB := Aside0.mk hb1
  have HX := Aside0.mk hcell
  clear h hw hr hA hb1 h1 hcell htk
  unfold PH.make
  by_cases e201 : tag = 201
  · subst e201
    have h0 : (0 : Int) ≤ 201 := by decide
    have h255 : (201 : Int) ≤ 255 := by decide
    by_cases c3 : 60 < l.length
    · have eo : H.odd 201 l = true := by simp [PH.odd, c3]
      have c3b : decide ((60 : Int) < (l.length : Int)) = true := by simp; omega
      rw [eo, if_pos rfl]
      clear eo
      go_enter Try.func46, Try.ntmps46
      go_wp2
      go_ret2
      exact ⟨rfl, HH.out, Chg.of_below _ HB.out⟩
    · have eo : H.odd 201 l = false := by simp [PH.odd]; omega
      have c3b : decide ((60 : Int) < (l.length : Int)) = false := by simp; omega
      rw [eo, if_neg (by decide)]
      clear eo
      by_cases c4 : (H.ws.length : Int) - 1 < H.top - 1 + 1 + (l.length : Int)
      · rw [if_pos c4]
        go_enter Try.func46, Try.ntmps46
        go_wp2
        go_quiet ((first | (go_at_call 17; exact HQ1.out _ _ HH.out) | (go_at_call 63; exact HQ2.out _ _ HH.out)))
        go_wp2
        go_ret2
        exact ⟨rfl, HH.out.drewN _, Chg.of_below _ (pw_below_drewN HB.out _)⟩
      · rw [if_neg c4]
        have hf : t + 1 + l.length ≤ H.ws.length := by omega
        have e1 : H.top.toNat = t := by omega
        have e2 : 2 * H.top = 2 * (t : Int) := by rw [ht]
        have e3 : H.top + 1 + (l.length : Int) = ((t + 1 + l.length : Nat) : Int) := by omega
        rw [e1, e2, e3, show H.ks ++ [H.top] = H.ks ++ [(t : Int)] by rw [ht]]
        have HF := Aside0.mk hf
        have HHT := Aside0.mk ht
        clear hf e1 e2 e3 ht
        go_enter Try.func46, Try.ntmps46
        go_wp2
        go_quiet ((first | (go_at_call 17; exact HQ1.out _ _ HH.out) | (go_at_call 63; exact HQ2.out _ _ HH.out)))
        go_wp2_with (first | (go_at_call 65; (with_reducible refine (HL.out _ (HH.out.drewN _) HF.out h0 h255 (HR.out.drewN _) HA.out).mono ?_); rintro e w3 ⟨rfl, ha3, hc3⟩; have HA3 := Aside0.mk ha3; have HC3 := Aside0.mk hc3; clear ha3 hc3) | (go_at_call 66; (with_reducible refine (ints_Point.calls (t : Int) (2 * (t : Int)) _ HP.out).mono ?_); rintro e w' ⟨rfl, ⟨nd2, rfl⟩⟩))
        go_ret2
        exact ⟨rfl, HA3.out.drewN _, ((Chg.of_below _ (pw_below_drewN HB.out _)).trans HC3.out).trans (Chg.of_below _ (pw_below_drewN (Below.refl _ _) _))⟩
  · have n1 : (tag != 201) = true := bne_iff_ne.2 e201
    have n2 : (tag == 201) = false := beq_eq_false_iff_ne.2 e201
    have eo' : H.odd tag l = (decide (tag < 0) || decide (201 < tag) || decide (60 < l.length) || l.any (fun z => !H.may z)) := by simp [PH.odd, e201]
    generalize l.any (fun z => !H.may z) = o at *
    by_cases c1 : tag < 0
    · have eo : H.odd tag l = true := by rw [eo']; simp [c1]
      clear eo' e201
      rw [eo, if_pos rfl]
      clear eo
      go_enter Try.func46, Try.ntmps46
      go_wp2_with (go_at_call 60; (with_reducible refine HC.out.mono ?_); rintro e w' ⟨rfl, ⟨nd, rfl⟩⟩)
      go_ret2
      exact ⟨rfl, HH.out.drewN _, Chg.of_below _ (pw_below_drewN HB.out _)⟩
    by_cases c2 : 201 < tag
    · have eo : H.odd tag l = true := by rw [eo']; simp [c2]
      clear eo' e201
      rw [eo, if_pos rfl]
      clear eo
      go_enter Try.func46, Try.ntmps46
      go_wp2_with (go_at_call 60; (with_reducible refine HC.out.mono ?_); rintro e w' ⟨rfl, ⟨nd, rfl⟩⟩)
      go_ret2
      exact ⟨rfl, HH.out.drewN _, Chg.of_below _ (pw_below_drewN HB.out _)⟩
    by_cases c3 : 60 < l.length
    · have eo : H.odd tag l = true := by rw [eo']; simp [c3]
      have c3b : decide ((60 : Int) < (l.length : Int)) = true := by simp; omega
      clear eo' e201
      rw [eo, if_pos rfl]
      clear eo
      go_enter Try.func46, Try.ntmps46
      go_wp2_with (go_at_call 60; (with_reducible refine HC.out.mono ?_); rintro e w' ⟨rfl, ⟨nd, rfl⟩⟩)
      go_ret2
      exact ⟨rfl, HH.out.drewN _, Chg.of_below _ (pw_below_drewN HB.out _)⟩
    have c3b : decide ((60 : Int) < (l.length : Int)) = false := by simp; omega
    cases o with
    | true =>
      have eo : H.odd tag l = true := by rw [eo']; simp
      clear eo' e201
      rw [eo, if_pos rfl]
      clear eo
      go_enter Try.func46, Try.ntmps46
      go_wp2_with (go_at_call 60; (with_reducible refine HC.out.mono ?_); rintro e w' ⟨rfl, ⟨nd, rfl⟩⟩)
      go_ret2
      exact ⟨rfl, HH.out.drewN _, Chg.of_below _ (pw_below_drewN HB.out _)⟩
    | false =>
      have eo : H.odd tag l = false := by rw [eo']; simp; omega
      have h0 : 0 ≤ tag := by omega
      have h255 : tag ≤ 255 := by omega
      clear eo' e201
      rw [eo, if_neg (by decide)]
      clear eo
      by_cases c4 : (H.ws.length : Int) - 1 < H.top - 1 + 1 + (l.length : Int)
      · rw [if_pos c4]
        go_enter Try.func46, Try.ntmps46
        go_wp2_with (go_at_call 60; (with_reducible refine HC.out.mono ?_); rintro e w1 ⟨rfl, hd⟩; have HN := Aside0.mk (at_drawn HH.out hd); have HR1 := Aside0.mk (reads_drawn HR.out hd); have HB1 := Aside0.mk (below_drawn HB.out hd); have hbx := cell_drawn HX.out hd; clear hd)
        go_quiet ((first | (go_at_call 17; exact HQ1.out _ _ HN.out) | (go_at_call 63; exact HQ2.out _ _ HN.out)))
        go_wp2
        go_ret2
        exact ⟨rfl, HN.out.drewN _, Chg.of_below _ (pw_below_drewN HB1.out _)⟩
      · rw [if_neg c4]
        have hf : t + 1 + l.length ≤ H.ws.length := by omega
        have e1 : H.top.toNat = t := by omega
        have e2 : 2 * H.top = 2 * (t : Int) := by rw [ht]
        have e3 : H.top + 1 + (l.length : Int) = ((t + 1 + l.length : Nat) : Int) := by omega
        rw [e1, e2, e3, show H.ks ++ [H.top] = H.ks ++ [(t : Int)] by rw [ht]]
        have HF := Aside0.mk hf
        have HHT := Aside0.mk ht
        clear hf e1 e2 e3 ht
        go_enter Try.func46, Try.ntmps46
        go_wp2_with (go_at_call 60; (with_reducible refine HC.out.mono ?_); rintro e w1 ⟨rfl, hd⟩; have HN := Aside0.mk (at_drawn HH.out hd); have HR1 := Aside0.mk (reads_drawn HR.out hd); have HB1 := Aside0.mk (below_drawn HB.out hd); have hbx := cell_drawn HX.out hd; clear hd)
        go_quiet ((first | (go_at_call 17; exact HQ1.out _ _ HN.out) | (go_at_call 63; exact HQ2.out _ _ HN.out)))
        go_wp2_with (first | (go_at_call 65; (with_reducible refine (HL.out _ (HN.out.drewN _) HF.out h0 h255 (HR1.out.drewN _) HA.out).mono ?_); rintro e w3 ⟨rfl, ha3, hc3⟩; have HA3 := Aside0.mk ha3; have HC3 := Aside0.mk hc3; clear ha3 hc3) | (go_at_call 66; (with_reducible refine (ints_Point.calls (t : Int) (2 * (t : Int)) _ HP.out).mono ?_); rintro e w' ⟨rfl, ⟨nd2, rfl⟩⟩))
        go_ret2
        exact ⟨rfl, HA3.out.drewN _, ((Chg.of_below _ (pw_below_drewN HB1.out _)).trans HC3.out).trans (Chg.of_below _ (pw_below_drewN (Below.refl _ _) _))⟩
end Go.Proofs.Ytkmoneccehbncaa.Heap
