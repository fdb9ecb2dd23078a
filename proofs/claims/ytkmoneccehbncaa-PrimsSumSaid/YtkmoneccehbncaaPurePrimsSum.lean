/- selvagelaw16.PrimsSum returns true at any three words. -/
import Derived.Test.YtkmoneccehbncaaPlaw1
import Derived.Test.YtkmoneccehbncaaHeapN
namespace Go.Proofs.Ytkmoneccehbncaa.Pure
open Go.RowKit Go.Proofs.Ytkmoneccehbncaa.Plaw Go.Proofs.YtkmoneccehbncaaW.PrintWords Go.Proofs.YtkmoneccehbncaaW.PrintLast Go.Proofs.Ytkmoneccehbncaa.Print Go.Proofs.Ytkmoneccehbncaa.Heap Go.Proofs.Ytkmoneccehbncaa.Ints
set_option linter.unusedVariables false

theorem PrimsSum : selvagelaw16_PrimsSum.Pure := by
  intro t a b ht ha hb
  refine ⟨68, ?_⟩
  unfold selvagelaw16_PrimsSum.f
  rw [refSum_eq 0 (i64_of_wf ha) (i64_of_wf hb)]
  simp only [prims_Sum.f, selvagelaw16_lives.f, Option.bind_some, if_true]

end Go.Proofs.Ytkmoneccehbncaa.Pure
