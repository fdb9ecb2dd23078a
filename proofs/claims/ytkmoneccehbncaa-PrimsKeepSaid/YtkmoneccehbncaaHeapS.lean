/- Contracts of prims.Sum and of selvagelaw16.lives, each with a plain function of the same answers; no condition. -/
import Derived.Test.YtkmoneccehbncaaHeapM
namespace Go.Proofs.Ytkmoneccehbncaa.Print
open Go.RowKit Go.Proofs.YtkmoneccehbncaaW.PrintWords Go.Proofs.YtkmoneccehbncaaW.PrintLast Go.Proofs.YtkmoneccehbncaaW.PrintMore Go.Proofs.Ytkmoneccehbncaa.Heap
def prims_Sum.f (a0 a1 a2 : Int) : Option (Int × Int) := some (sumOf a0 a1 a2)
theorem prims_Sum.calls (a0 : Int) (a1 : Int) (a2 : Int) (r1 : Int) (r2 : Int) (w : World) (h : prims_Sum.f a0 a1 a2 = some (r1, r2)) :
    Calls Try.prog 9 #[.int .i64 a0, .int .i64 a1, .int .i64 a2] w fun e w' => e = .returned (.tuple #[.int .i64 r1, .int .i64 r2]) ∧ Below w.heap.size w w' := by
  have h1 := Option.some.inj h
  have := sum_calls a0 a1 a2 w
  rw [h1] at this
  exact this
def selvagelaw16_lives.f : Option Bool := some true
theorem selvagelaw16_lives.calls (r : Bool) (w : World) (h : selvagelaw16_lives.f = some r) :
    Calls Try.prog 11 #[] w fun e w' => e = .returned (.bool r) ∧ Below w.heap.size w w' := by
  have h1 := Option.some.inj h
  subst h1
  exact lives_calls w
end Go.Proofs.Ytkmoneccehbncaa.Print
