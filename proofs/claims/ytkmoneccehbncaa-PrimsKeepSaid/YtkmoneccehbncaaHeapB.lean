/- The heap of layer 2 in memory: what its readers come to; no condition but what each theorem states. -/
import Derived.Test.YtkmoneccehbncaaHeapA
import Derived.Test.YtkmoneccehbncaaIntsB
namespace Go.Proofs.Ytkmoneccehbncaa.Heap
open Go.RowKit Go.Proofs.YtkmoneccehbncaaW.PrintWords Go.Proofs.YtkmoneccehbncaaW.PrintLast Go.Proofs.YtkmoneccehbncaaW.PrintMore Go.Proofs.Ytkmoneccehbncaa.Print Go.Proofs.Ytkmoneccehbncaa.Ints
set_option linter.unusedVariables false
set_option linter.unusedSimpArgs false

/-- A heap: its words, the first place that is free, the places of blocks. -/
structure PH where
  ws : List Int
  top : Int
  ks : List Int
/-- Block g is a heap, its words in block b, the places of its blocks in the map m. -/
structure At (W : World) (g b m : Nat) (H : PH) : Prop where
  head : W.heap[g]? = some (.cells #[.slice (some ⟨b, 0, none⟩) H.ws.length H.ws.length, .int .i64 H.top, .map (some m)] 71 (0, 0))
  words : W.heap[b]? = some (.cells (nums .i64 H.ws).toArray 3 (0, 0))
  places : ∃ es cl, W.heap[m]? = some (.map es cl) ∧ Keys (fun _ => .bool true) es H.ks
theorem At.below {W W1 : World} {g b m : Nat} {H : PH} (h : At W g b m H) (hb : Below W.heap.size W W1) : At W1 g b m H := by
  obtain ⟨es, cl, h3, h4⟩ := h.places
  exact ⟨(hb.block g (blk_lt h.head)).trans h.head, (hb.block b (blk_lt h.words)).trans h.words, es, cl, (hb.block m (blk_lt h3)).trans h3, h4⟩
theorem At.drewN {W : World} {g b m : Nat} {H : PH} (h : At W g b m H) (n : Nat) : At (W.drewN n) g b m H := ⟨h.head, h.words, h.places⟩

/-- A block's place; 0: the word is no block's. -/
def PH.place (H : PH) (z : Int) : Int := if z ≤ 0 then 0 else if z % 2 = 0 then (if z / 2 ∈ H.ks then z / 2 else 0) else 0

set_option maxHeartbeats 800000 in
set_option maxRecDepth 100000 in
theorem place_calls (g b m : Nat) (H : PH) (z : Int) (W : World) (h : At W g b m H) :
    Calls Try.prog 49 #[.pointer (some ⟨g, 0, none⟩), .int .i64 z] W fun e w' => e = .returned (.int .i64 (H.place z)) ∧ Drawn0 W w' := by
  obtain ⟨es, cl, hm, hk⟩ := h.places
  have hc2 : ∀ n, (W.drewN n).cell? ⟨g, 2, none⟩ = some (.map (some m)) := fun n => (blk_cell (w := W.drewN n) h.head 2).trans rfl
  have hlook : ∀ n, (Instr.lookup 69 (.map (some m)) (.int .i64 (z / 2)) false).run Try.prog (W.drewN n) = .ok (.bool (decide (z / 2 ∈ H.ks))) (W.drewN n) := fun n => by
    rw [run_look (P := Try.prog) (W := W.drewN n) 69 3 4 Try.underlying69 Try.underlying3 (zv := .bool false) (by kernel_rfl) hm hk (z / 2)]
    by_cases hz : z / 2 ∈ H.ks <;> simp [hz]
  have HL := Aside0.mk hlook
  have HC := Aside0.mk hc2
  clear hlook hc2 hm hk
  have ha := at_eq z
  unfold PH.place
  by_cases h1 : z ≤ 0
  · rw [if_pos h1] at ha
    rw [if_pos h1]
    have HA := Aside0.mk ha
    clear ha h h1
    go_enter Try.func49, Try.ntmps49
    go_wp2_with (go_at_call 73; (with_reducible refine (ints_At.calls z 0 false _ HA.out).mono ?_); rintro e w' ⟨rfl, ⟨nd, rfl⟩⟩)
    go_ret
    exact ⟨rfl, by repeat (first | exact Drawn0.refl _ | apply Drawn0.step)⟩
  · rw [if_neg h1] at ha
    rw [if_neg h1]
    by_cases h2 : z % 2 = 0
    · rw [if_pos h2] at ha
      rw [if_pos h2]
      have HA := Aside0.mk ha
      clear ha h h1 h2
      generalize z / 2 = p at *
      by_cases h3 : p ∈ H.ks
      · rw [if_pos h3]
        have h3b : decide (p ∈ H.ks) = true := decide_eq_true h3
        rw [h3b] at HL
        clear h3 h3b
        go_enter Try.func49, Try.ntmps49
        go_wp2_with (go_at_call 73; (with_reducible refine (ints_At.calls z p true _ HA.out).mono ?_); rintro e w' ⟨rfl, ⟨nd, rfl⟩⟩; have hc := HC.out nd; have hl := HL.out nd)
        go_ret
        exact ⟨rfl, by repeat (first | exact Drawn0.refl _ | apply Drawn0.step)⟩
      · rw [if_neg h3]
        have h3b : decide (p ∈ H.ks) = false := decide_eq_false h3
        rw [h3b] at HL
        clear h3 h3b
        go_enter Try.func49, Try.ntmps49
        go_wp2_with (go_at_call 73; (with_reducible refine (ints_At.calls z p true _ HA.out).mono ?_); rintro e w' ⟨rfl, ⟨nd, rfl⟩⟩; have hc := HC.out nd; have hl := HL.out nd)
        go_ret
        exact ⟨rfl, by repeat (first | exact Drawn0.refl _ | apply Drawn0.step)⟩
    · rw [if_neg h2] at ha
      rw [if_neg h2]
      have HA := Aside0.mk ha
      clear ha h h1 h2
      go_enter Try.func49, Try.ntmps49
      go_wp2_with (go_at_call 73; (with_reducible refine (ints_At.calls z 0 false _ HA.out).mono ?_); rintro e w' ⟨rfl, ⟨nd, rfl⟩⟩)
      go_ret
      exact ⟨rfl, by repeat (first | exact Drawn0.refl _ | apply Drawn0.step)⟩
end Go.Proofs.Ytkmoneccehbncaa.Heap
