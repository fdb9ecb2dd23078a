/- The heap of layer 2 in memory, as a list of blocks: contracts of what makes and what tells; no condition but what each theorem states. -/
import Derived.Test.YtkmoneccehbncaaHeapR
namespace Go.Proofs.Ytkmoneccehbncaa.Heap
open Go.RowKit Go.Proofs.YtkmoneccehbncaaW.PrintWords Go.Proofs.YtkmoneccehbncaaW.PrintLast Go.Proofs.YtkmoneccehbncaaW.PrintMore Go.Proofs.Ytkmoneccehbncaa.Print Go.Proofs.Ytkmoneccehbncaa.Ints
set_option linter.unusedVariables false
set_option linter.unusedSimpArgs false

/-- Block g is a heap with room for n words, with these blocks. -/
def AtB (W : World) (g b m : Nat) (n : Int) (bl : List (Int × List Int)) : Prop := ∃ H, At W g b m H ∧ Lays H n bl
theorem AtB.below {W W1 : World} {g b m : Nat} {n : Int} {bl : List (Int × List Int)} (h : AtB W g b m n bl) (hb : Below W.heap.size W W1) : AtB W1 g b m n bl := by
  obtain ⟨H, h1, h2⟩ := h
  exact ⟨H, h1.below hb, h2⟩
theorem AtB.drawn {W W1 : World} {g b m : Nat} {n : Int} {bl : List (Int × List Int)} (h : AtB W g b m n bl) (hd : Drawn0 W W1) : AtB W1 g b m n bl := by
  obtain ⟨H, h1, h2⟩ := h
  exact ⟨H, at_drawn h1 hd, h2⟩
/-- What may change when a block is made. -/
abbrev Its (g b m : Nat) : Nat → Prop := fun k => k = g ∨ k = b ∨ k = m
theorem newB (n : Nat) (W : World) (h1 : 64 ≤ n) (h2 : n ≤ 65536) :
    Calls Try.prog 14 #[.int .i64 n] W fun e w' => ∃ g b m, e = .returned (.pointer (some ⟨g, 0, none⟩)) ∧ AtB w' g b m n [] ∧ W.heap.size ≤ g ∧ W.heap.size ≤ b ∧ W.heap.size ≤ m ∧ Below W.heap.size W w' := by
  refine (new_calls n W h1 h2).mono ?_
  rintro e w' ⟨g, b, m, rfl, ⟨ha, hw, hg, hb, hm⟩, hbl⟩
  exact ⟨g, b, m, rfl, ⟨_, ha, Lays.new n h2⟩, hg, hb, hm, hbl⟩
theorem textC (g b m : Nat) (n : Int) (bl : List (Int × List Int)) (s : ByteArray) (W : World) (h : AtB W g b m n bl) :
    Calls Try.prog 23 #[.pointer (some ⟨g, 0, none⟩), .string s] W fun e' w' => e' = .returned (.tuple #[.int .i64 (textB n bl s).1, .int .i64 (textB n bl s).2.1]) ∧
      AtB w' g b m n (textB n bl s).2.2 ∧ Chg (Its g b m) W w' := by
  obtain ⟨H, h1, h2⟩ := h
  obtain ⟨e1, e2, h3⟩ := h2.text s
  rw [← e1, ← e2]
  refine (textS_calls g b m H s W h1 h2.wf).mono ?_
  rintro e w' ⟨rfl, ha, hc⟩
  exact ⟨rfl, ⟨_, ha, h3⟩, hc⟩
theorem strC (g b m : Nat) (n : Int) (bl : List (Int × List Int)) (z : Int) (W : World) (h : AtB W g b m n bl) :
    Calls Try.prog 25 #[.pointer (some ⟨g, 0, none⟩), .int .i64 z] W fun e w' => e = .returned (.tuple #[.string (strB bl z).1, .int .i64 (strB bl z).2]) ∧ Below W.heap.size W w' := by
  obtain ⟨H, h1, h2⟩ := h
  rw [← h2.str z]
  exact str_calls g b m H z W h1 h2.wf
theorem joinC (g b m : Nat) (n : Int) (bl : List (Int × List Int)) (x y : Int) (W : World) (h : AtB W g b m n bl) :
    Calls Try.prog 24 #[.pointer (some ⟨g, 0, none⟩), .int .i64 x, .int .i64 y] W fun e' w' => e' = .returned (.tuple #[.int .i64 (joinB n bl x y).1, .int .i64 (joinB n bl x y).2.1]) ∧
      AtB w' g b m n (joinB n bl x y).2.2 ∧ Chg (Its g b m) W w' := by
  obtain ⟨H, h1, h2⟩ := h
  obtain ⟨e1, e2, h3⟩ := h2.join x y
  rw [← e1, ← e2]
  refine (join_calls g b m H x y W h1 h2.wf).mono ?_
  rintro e w' ⟨rfl, ha, hc⟩
  exact ⟨rfl, ⟨_, ha, h3⟩, hc⟩
end Go.Proofs.Ytkmoneccehbncaa.Heap
