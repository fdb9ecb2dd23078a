/- The heap of layer 2 in memory: a new heap; prims' Text; no condition but what each theorem states. -/
import Derived.Test.YtkmoneccehbncaaHeapH
import Derived.Outline
namespace Go.Proofs.Ytkmoneccehbncaa.Heap
open Go.RowKit Go.Proofs.YtkmoneccehbncaaW.PrintWords Go.Proofs.YtkmoneccehbncaaW.PrintLast Go.Proofs.YtkmoneccehbncaaW.PrintMore Go.Proofs.Ytkmoneccehbncaa.Print Go.Proofs.Ytkmoneccehbncaa.Ints
set_option linter.unusedVariables false
set_option linter.unusedSimpArgs false

/-- A heap without blocks. -/
def PH.new (n : Nat) : PH := ⟨List.replicate (n + 1) 0, 1, []⟩
theorem PH.new_wf (n : Nat) (h : n ≤ 65536) : (PH.new n).Wf := ⟨by simp [PH.new]; omega, by simp [PH.new], by simp [PH.new]; omega, by simp [PH.new]⟩
/-- A heap that is the call's own: all its blocks lie at B or behind. -/
def Mine (B : Nat) (W : World) (g b m : Nat) (H : PH) : Prop := At W g b m H ∧ H.Wf ∧ B ≤ g ∧ B ≤ b ∧ B ≤ m
theorem made_nums (n : Nat) : (madeCells #[Value.int .i64 0] n) = (nums .i64 (List.replicate n 0)).toArray := by
  apply Array.ext
  · simp [madeCells, nums]
  · intro i h1 h2
    simp [madeCells, nums, Nat.mod_one]

set_option maxHeartbeats 800000 in
set_option maxRecDepth 100000 in
theorem new_calls (n : Nat) (W : World) (h1 : 64 ≤ n) (h2 : n ≤ 65536) :
    Calls Try.prog 14 #[.int .i64 n] W fun e w' => ∃ g b m, e = .returned (.pointer (some ⟨g, 0, none⟩)) ∧ Mine W.heap.size w' g b m (PH.new n) ∧ Below W.heap.size W w' := by
  have hmk := print_make (P := Try.prog) 36 3 .i64 8 Try.underlying36 info3 (by decide) (n + 1) (by omega) W
  rw [made_nums] at hmk
  have em : ((n + 1 : Nat) : Int) = (n : Int) + 1 := by omega
  rw [em] at hmk
  have hmm := @run_makeMap Try.prog 69
  have hz : (PH.new n).ws = List.replicate (n + 1) (0 : Int) := rfl
  have hlen : (PH.new n).ws.length = n + 1 := by rw [hz]; simp
  rw [← hz] at hmk
  have AT : Aside0 (At (((W.alloc (.cells (nums .i64 (PH.new n).ws).toArray 3)).alloc (.map #[] 0)).alloc (.cells #[.slice (some ⟨W.heap.size, 0, none⟩) (n + 1) (n + 1), .int .i64 1, .map (some (W.heap.size + 1))] 71)) (W.heap.size + 1 + 1) W.heap.size (W.heap.size + 1) (PH.new n)) := by
    refine ⟨⟨?_, ?_, ?_⟩⟩
    · rw [hlen]
      have h := heap_alloc_new ((W.alloc (.cells (nums .i64 (PH.new n).ws).toArray 3)).alloc (.map #[] 0)) (.cells #[.slice (some ⟨W.heap.size, 0, none⟩) (n + 1) (n + 1), .int .i64 1, .map (some (W.heap.size + 1))] 71)
      simpa [PH.new] using h
    · rw [Below.heap_alloc _ _ _ (by simp; omega), Below.heap_alloc _ _ _ (by simp)]
      exact heap_alloc_new W _
    · refine ⟨#[], 0, ?_, rfl⟩
      rw [Below.heap_alloc _ _ _ (by simp)]
      have h := heap_alloc_new (W.alloc (.cells (nums .i64 (PH.new n).ws).toArray 3)) (.map #[] 0)
      simpa using h
  have hwf := PH.new_wf n h2
  clear em hz hlen
  generalize hzz : (PH.new n).ws = zs at *
  have HZ := Aside0.mk hzz
  clear hzz
  go_enter Try.func14, Try.ntmps14
  go_wp2
  go_ret
  exact ⟨_, _, _, rfl, ⟨AT.out, hwf, by omega, Nat.le_refl _, by omega⟩, below_alloc (below_alloc (below_alloc (Below.refl _ _) _) _) _⟩
end Go.Proofs.Ytkmoneccehbncaa.Heap
