/- The heap of layer 2 in memory: May, Is, Half, Used, Tag, span, Clone and Fields; no condition but what each theorem states. -/
import Derived.Test.YtkmoneccehbncaaHeapB
namespace Go.Proofs.Ytkmoneccehbncaa.Heap
open Go.RowKit Go.Proofs.YtkmoneccehbncaaW.PrintWords Go.Proofs.YtkmoneccehbncaaW.PrintLast Go.Proofs.YtkmoneccehbncaaW.PrintMore Go.Proofs.Ytkmoneccehbncaa.Print Go.Proofs.Ytkmoneccehbncaa.Ints
set_option linter.unusedVariables false
set_option linter.unusedSimpArgs false

set_option maxHeartbeats 800000 in
set_option maxRecDepth 100000 in
theorem is_calls (g b m : Nat) (H : PH) (z : Int) (W : World) (h : At W g b m H) :
    Calls Try.prog 76 #[.pointer (some ⟨g, 0, none⟩), .int .i64 z] W fun e w' => e = .returned (.bool (decide (0 < H.place z))) ∧ Drawn0 W w' := by
  go_enter Try.func76, Try.ntmps76
  go_wp2_with (go_at_call 49; (with_reducible refine (place_calls g b m H z _ h).mono ?_); rintro e w' ⟨rfl, ⟨nd, rfl⟩⟩)
  go_ret
  exact ⟨rfl, by repeat (first | exact Drawn0.refl _ | apply Drawn0.step)⟩

/-- May a word stand? -/
def PH.may (H : PH) (z : Int) : Bool := decide (¬ z % 2 = 0) || decide (0 < H.place z)

set_option maxHeartbeats 800000 in
set_option maxRecDepth 100000 in
theorem may_calls (g b m : Nat) (H : PH) (z : Int) (W : World) (h : At W g b m H) :
    Calls Try.prog 62 #[.pointer (some ⟨g, 0, none⟩), .int .i64 z] W fun e w' => e = .returned (.bool (H.may z)) ∧ Drawn0 W w' := by
  have hu := untag_eq z
  unfold PH.may
  by_cases h1 : z % 2 = 0
  · rw [if_pos h1] at hu
    have e1 : decide (¬ z % 2 = 0) = false := by simp [h1]
    rw [e1]
    have HU := Aside0.mk hu
    have HH := Aside0.mk h
    clear hu h1 e1 h
    go_enter Try.func62, Try.ntmps62
    go_wp2_with (first | (go_at_call 35; (with_reducible refine (ints_Untag.calls z 0 false _ HU.out).mono ?_); rintro e w' ⟨rfl, ⟨nd, rfl⟩⟩) | (go_at_call 76; (with_reducible refine (is_calls g b m H z _ (HH.out.drewN _)).mono ?_); rintro e w' ⟨rfl, ⟨nd2, rfl⟩⟩))
    go_ret
    exact ⟨rfl, by repeat (first | exact Drawn0.refl _ | apply Drawn0.step)⟩
  · rw [if_neg h1] at hu
    have e1 : decide (¬ z % 2 = 0) = true := by simp [h1]
    rw [e1]
    have HU := Aside0.mk hu
    have HH := Aside0.mk h
    clear hu h1 e1 h
    go_enter Try.func62, Try.ntmps62
    go_wp2_with (first | (go_at_call 35; (with_reducible refine (ints_Untag.calls z (z / 2) true _ HU.out).mono ?_); rintro e w' ⟨rfl, ⟨nd, rfl⟩⟩))
    go_ret
    exact ⟨rfl, by repeat (first | exact Drawn0.refl _ | apply Drawn0.step)⟩

set_option maxHeartbeats 800000 in
set_option maxRecDepth 100000 in
theorem used_calls (g b m : Nat) (H : PH) (W : World) (h : At W g b m H) (h0 : 0 ≤ H.top) (h1 : H.top ≤ 100000) :
    Calls Try.prog 17 #[.pointer (some ⟨g, 0, none⟩)] W fun e w' => e = .returned (.int .i64 (H.top - 1)) ∧ Drawn0 W w' := by
  have hc := (blk_cell h.head 1).trans (rfl : _ = some (Value.int .i64 H.top))
  clear h
  go_enter Try.func17, Try.ntmps17
  go_wp2
  go_ret
  exact ⟨rfl, by repeat (first | exact Drawn0.refl _ | apply Drawn0.step)⟩

set_option maxHeartbeats 800000 in
set_option maxRecDepth 100000 in
theorem half_calls (g b m : Nat) (H : PH) (W : World) (h : At W g b m H) (h1 : H.ws.length ≤ 100000) :
    Calls Try.prog 63 #[.pointer (some ⟨g, 0, none⟩)] W fun e w' => e = .returned (.int .i64 ((H.ws.length : Int) - 1)) ∧ Drawn0 W w' := by
  have hc := (blk_cell h.head 0).trans (rfl : _ = some (Value.slice (some ⟨b, 0, none⟩) H.ws.length H.ws.length))
  clear h
  go_enter Try.func63, Try.ntmps63
  go_wp2
  go_ret
  exact ⟨rfl, by repeat (first | exact Drawn0.refl _ | apply Drawn0.step)⟩

theorem word_cell {W : World} {g b m : Nat} {H : PH} (h : At W g b m H) (i : Int) (h0 : 0 ≤ i) (h1 : i < H.ws.length) : W.cell? ⟨b, i.toNat, none⟩ = some (.int .i64 (rd H.ws i)) := by
  rw [blk_cell h.words i.toNat]
  have h2 : i.toNat < H.ws.length := by omega
  simp [nums, rd, List.getD, List.getElem?_eq_getElem h2]

set_option maxHeartbeats 800000 in
set_option maxRecDepth 100000 in
theorem tag_calls (g b m : Nat) (H : PH) (z : Int) (W : World) (h : At W g b m H) (hp : H.place z ≠ 0 → 0 ≤ H.place z ∧ H.place z < H.ws.length) :
    Calls Try.prog 55 #[.pointer (some ⟨g, 0, none⟩), .int .i64 z] W fun e w' => e = .returned (.int .i64 (if H.place z = 0 then -1 else (rd H.ws (H.place z)).tmod 256)) ∧ Drawn0 W w' := by
  have HP := Aside0.mk (fun w => place_calls g b m H z w)
  generalize H.place z = p at *
  by_cases h0 : p = 0
  · subst h0
    clear hp
    rw [if_pos rfl]
    go_enter Try.func55, Try.ntmps55
    go_wp2_with (go_at_call 49; (with_reducible refine (HP.out _ h).mono ?_); rintro e w' ⟨rfl, ⟨nd, rfl⟩⟩)
    go_ret
    exact ⟨rfl, by repeat (first | exact Drawn0.refl _ | apply Drawn0.step)⟩
  · obtain ⟨h1, h2⟩ := hp h0
    rw [if_neg h0]
    have hc := fun n => (blk_cell (w := W.drewN n) h.head 0).trans (rfl : _ = some (Value.slice (some ⟨b, 0, none⟩) H.ws.length H.ws.length))
    have hw := fun n => word_cell (h.drewN n) p h1 h2
    have HC := Aside0.mk hc
    have HW := Aside0.mk hw
    have hz : (p == 0) = false := beq_eq_false_iff_ne.2 h0
    clear hc hw h0 hp
    go_enter Try.func55, Try.ntmps55
    go_wp2_with (go_at_call 49; (with_reducible refine (HP.out _ h).mono ?_); rintro e w' ⟨rfl, ⟨nd, rfl⟩⟩; have hc := HC.out nd; have hw := HW.out nd)
    go_ret
    exact ⟨rfl, by repeat (first | exact Drawn0.refl _ | apply Drawn0.step)⟩
end Go.Proofs.Ytkmoneccehbncaa.Heap
