/-
  No cell of these rows narrows 'for every input' (looked for: loops, veiled, ifaces, maps, wideKeys, modest, calm, conditions, laid).
  DERIVED. THE GIVEN ROWS OF THIS SEAT. 6 by the template 'for every input the law returns true; each argument reads behind the call as it read before'; 0 by the template 'total and deterministic' (their statements: YtkmoneccehbncaaTotals.lean).
  GIVEN WITH THE SEED: the statements are not yours to turn. If you find one false, say at which input.
  Laid BY PROGRAM, IN A SANDBOX (cutbox-rows.mjs): the forced cells as the released guide's own fill.sh prints them over the translation c5a19d275687bf00… (all of the seat's roots in one cut). By AI agents, Wed Nov 11 2026. No macro, syntax, notation, axiom, sorry.
-/
import Derived.Test.YtkmoneccehbncaaChecked
import GoSem.Claim
import GoSem.ClaimJoined
import GoSem.ClaimMapViews
import Derived.JoinedTies
import Derived.KernelRfl
namespace Go.Proofs.Ytkmoneccehbncaa
/- THE CELL 'sum', in the pinned program and in every row, IS THE sha256 OF THE DUMP (.gsa) THAT YtkmoneccehbncaaProg.lean LOADS. Nothing in Lean hashes anything: it is a label: what it is worth is what the hold of that sum in a sandbox is worth. -/
noncomputable def Try.pinned : Pinned := { name := "ytkmoneccehbncaa", sum := "c5a19d275687bf00b8c59bf193311c30fab1c9c1067af9f81b9c51f325c61504", checked := Try.checked }
namespace Rows
def none {H : Type} : Left H := { results := [], args := [] }

/-- 'selvagelaw16.PrimsSum': WHATEVER THE INPUT: true; the input reads as it did. -/
def primsSumSpec : ChangeSpec := { name := "primsSum", fn := fun _ => fun
  | [d1, d2, d3] => { results := [.lit (.bool true)], args := [d1, d2, d3] }
  | _ => none }
def primsSumRow : OpenClaim := { program := "ytkmoneccehbncaa", sum := "c5a19d275687bf00b8c59bf193311c30fab1c9c1067af9f81b9c51f325c61504", func := "selvage/selvagelaw16.PrimsSum", spec := "primsSum", unfollowed := true, recurses := true, apart := false }
def PrimsSumSaid : Prop := primsSumRow.holds Try.pinned (OpenSpec.ofChange primsSumSpec)

/-- ITS FALSE NEIGHBOUR: 'it returns false'. Refute it at one input. -/
def primsSumWrong : ChangeSpec := { name := "primsSum", fn := fun _ => fun
  | [d1, d2, d3] => { results := [.lit (.bool false)], args := [d1, d2, d3] }
  | _ => none }
def PrimsSumWrongFalsely : Prop := primsSumRow.holds Try.pinned (OpenSpec.ofChange primsSumWrong)

/-- 'selvagelaw16.PrimsTags': WHATEVER THE INPUT: true; the input reads as it did. -/
def primsTagsSpec : ChangeSpec := { name := "primsTags", fn := fun _ => fun
  | [d1, d2, d3] => { results := [.lit (.bool true)], args := [d1, d2, d3] }
  | _ => none }
def primsTagsRow : OpenClaim := { program := "ytkmoneccehbncaa", sum := "c5a19d275687bf00b8c59bf193311c30fab1c9c1067af9f81b9c51f325c61504", func := "selvage/selvagelaw16.PrimsTags", spec := "primsTags", unfollowed := true, recurses := true, apart := false }
def PrimsTagsSaid : Prop := primsTagsRow.holds Try.pinned (OpenSpec.ofChange primsTagsSpec)

/-- ITS FALSE NEIGHBOUR: 'it returns false'. Refute it at one input. -/
def primsTagsWrong : ChangeSpec := { name := "primsTags", fn := fun _ => fun
  | [d1, d2, d3] => { results := [.lit (.bool false)], args := [d1, d2, d3] }
  | _ => none }
def PrimsTagsWrongFalsely : Prop := primsTagsRow.holds Try.pinned (OpenSpec.ofChange primsTagsWrong)

/-- 'selvagelaw16.PrimsMake': WHATEVER THE INPUT: true; the input reads as it did. -/
def primsMakeSpec : ChangeSpec := { name := "primsMake", fn := fun _ => fun
  | [d] => { results := [.lit (.bool true)], args := [d] }
  | _ => none }
def primsMakeRow : OpenClaim := { program := "ytkmoneccehbncaa", sum := "c5a19d275687bf00b8c59bf193311c30fab1c9c1067af9f81b9c51f325c61504", func := "selvage/selvagelaw16.PrimsMake", spec := "primsMake", unfollowed := true, recurses := true, apart := false }
def PrimsMakeSaid : Prop := primsMakeRow.holds Try.pinned (OpenSpec.ofChange primsMakeSpec)

/-- ITS FALSE NEIGHBOUR: 'it returns false'. Refute it at one input. -/
def primsMakeWrong : ChangeSpec := { name := "primsMake", fn := fun _ => fun
  | [d] => { results := [.lit (.bool false)], args := [d] }
  | _ => none }
def PrimsMakeWrongFalsely : Prop := primsMakeRow.holds Try.pinned (OpenSpec.ofChange primsMakeWrong)

/-- 'selvagelaw16.PrimsJoin': WHATEVER THE INPUT: true; the input reads as it did. -/
def primsJoinSpec : ChangeSpec := { name := "primsJoin", fn := fun _ => fun
  | [d1, d2] => { results := [.lit (.bool true)], args := [d1, d2] }
  | _ => none }
def primsJoinRow : OpenClaim := { program := "ytkmoneccehbncaa", sum := "c5a19d275687bf00b8c59bf193311c30fab1c9c1067af9f81b9c51f325c61504", func := "selvage/selvagelaw16.PrimsJoin", spec := "primsJoin", unfollowed := true, recurses := true, apart := false }
def PrimsJoinSaid : Prop := primsJoinRow.holds Try.pinned (OpenSpec.ofChange primsJoinSpec)

/-- ITS FALSE NEIGHBOUR: 'it returns false'. Refute it at one input. -/
def primsJoinWrong : ChangeSpec := { name := "primsJoin", fn := fun _ => fun
  | [d1, d2] => { results := [.lit (.bool false)], args := [d1, d2] }
  | _ => none }
def PrimsJoinWrongFalsely : Prop := primsJoinRow.holds Try.pinned (OpenSpec.ofChange primsJoinWrong)

/-- 'selvagelaw16.PrimsTold': WHATEVER THE INPUT: true; the input reads as it did. -/
def primsToldSpec : ChangeSpec := { name := "primsTold", fn := fun _ => fun
  | [d1, d2] => { results := [.lit (.bool true)], args := [d1, d2] }
  | _ => none }
def primsToldRow : OpenClaim := { program := "ytkmoneccehbncaa", sum := "c5a19d275687bf00b8c59bf193311c30fab1c9c1067af9f81b9c51f325c61504", func := "selvage/selvagelaw16.PrimsTold", spec := "primsTold", unfollowed := true, recurses := true, apart := false }
def PrimsToldSaid : Prop := primsToldRow.holds Try.pinned (OpenSpec.ofChange primsToldSpec)

/-- ITS FALSE NEIGHBOUR: 'it returns false'. Refute it at one input. -/
def primsToldWrong : ChangeSpec := { name := "primsTold", fn := fun _ => fun
  | [d1, d2] => { results := [.lit (.bool false)], args := [d1, d2] }
  | _ => none }
def PrimsToldWrongFalsely : Prop := primsToldRow.holds Try.pinned (OpenSpec.ofChange primsToldWrong)

/-- 'selvagelaw16.PrimsKeep': WHATEVER THE INPUT: true; the input reads as it did. -/
def primsKeepSpec : ChangeSpec := { name := "primsKeep", fn := fun _ => fun
  | [d1, d2, d3] => { results := [.lit (.bool true)], args := [d1, d2, d3] }
  | _ => none }
def primsKeepRow : OpenClaim := { program := "ytkmoneccehbncaa", sum := "c5a19d275687bf00b8c59bf193311c30fab1c9c1067af9f81b9c51f325c61504", func := "selvage/selvagelaw16.PrimsKeep", spec := "primsKeep", unfollowed := true, recurses := true, apart := false }
def PrimsKeepSaid : Prop := primsKeepRow.holds Try.pinned (OpenSpec.ofChange primsKeepSpec)

/-- ITS FALSE NEIGHBOUR: 'it returns false'. Refute it at one input. -/
def primsKeepWrong : ChangeSpec := { name := "primsKeep", fn := fun _ => fun
  | [d1, d2, d3] => { results := [.lit (.bool false)], args := [d1, d2, d3] }
  | _ => none }
def PrimsKeepWrongFalsely : Prop := primsKeepRow.holds Try.pinned (OpenSpec.ofChange primsKeepWrong)

/- THE SECOND FORM. 'bulk': how many values and letters a reading holds, each counted each time it is reached (what is shared counts as often as it is met; a slice's spare places count too). A statement '..UptoSaid' is the law's where the arguments, and the package variables that the reading takes, are together of bulk at most 1048576: NARROWER than '..Said'. Prove '..Said' where nothing that the law and all that it calls make is longer than what came in: it says more and counts as full. Else prove '..UptoSaid'. A law counts once. -/
mutual
def uptoBulk {H : Type} : DataW H → Nat
  | .lit (.string bytes) => bytes.length + 1
  | .lit _ => 1
  | .nil => 1
  | .ptr d => uptoBulk d + 1
  | .slice elems spare => uptoBulkAll elems + uptoBulkAll spare + 1
  | .agg parts => uptoBulkAll parts + 1
  | .iface _ d => uptoBulk d + 1
  | .map entries => uptoBulkEntries entries + 1
  | .held _ => 1
def uptoBulkAll {H : Type} : List (DataW H) → Nat
  | [] => 0
  | d :: r => uptoBulk d + uptoBulkAll r
def uptoBulkEntries {H : Type} : List (Lit × DataW H) → Nat
  | [] => 0
  | x :: r => uptoBulkEntry x + uptoBulkEntries r
def uptoBulkEntry {H : Type} : Lit × DataW H → Nat
  | (.string bytes, d) => bytes.length + uptoBulk d + 1
  | (_, d) => uptoBulk d + 1
 end
def uptoSmall : (H : Type) → List (DataW H) → Bool := fun _ ds => decide (uptoBulkAll ds ≤ 1048576)
def OpenSpec.upto (s : _root_.Go.ChangeSpec) : _root_.Go.OpenSpec := { _root_.Go.OpenSpec.ofChange s with cond := some uptoSmall }

/-- 'selvagelaw16.PrimsSum', WHERE WHAT IT READS IS OF BULK AT MOST 1048576: true; the input reads as it did. -/
def primsSumUptoRow : OpenClaim := { program := "ytkmoneccehbncaa", sum := "c5a19d275687bf00b8c59bf193311c30fab1c9c1067af9f81b9c51f325c61504", func := "selvage/selvagelaw16.PrimsSum", spec := "primsSum", unfollowed := true, recurses := true, apart := false, narrowed := true }
def PrimsSumUptoSaid : Prop := primsSumUptoRow.holds Try.pinned (OpenSpec.upto primsSumSpec)

/-- 'selvagelaw16.PrimsTags', WHERE WHAT IT READS IS OF BULK AT MOST 1048576: true; the input reads as it did. -/
def primsTagsUptoRow : OpenClaim := { program := "ytkmoneccehbncaa", sum := "c5a19d275687bf00b8c59bf193311c30fab1c9c1067af9f81b9c51f325c61504", func := "selvage/selvagelaw16.PrimsTags", spec := "primsTags", unfollowed := true, recurses := true, apart := false, narrowed := true }
def PrimsTagsUptoSaid : Prop := primsTagsUptoRow.holds Try.pinned (OpenSpec.upto primsTagsSpec)

/-- 'selvagelaw16.PrimsMake', WHERE WHAT IT READS IS OF BULK AT MOST 1048576: true; the input reads as it did. -/
def primsMakeUptoRow : OpenClaim := { program := "ytkmoneccehbncaa", sum := "c5a19d275687bf00b8c59bf193311c30fab1c9c1067af9f81b9c51f325c61504", func := "selvage/selvagelaw16.PrimsMake", spec := "primsMake", unfollowed := true, recurses := true, apart := false, narrowed := true }
def PrimsMakeUptoSaid : Prop := primsMakeUptoRow.holds Try.pinned (OpenSpec.upto primsMakeSpec)

/-- 'selvagelaw16.PrimsJoin', WHERE WHAT IT READS IS OF BULK AT MOST 1048576: true; the input reads as it did. -/
def primsJoinUptoRow : OpenClaim := { program := "ytkmoneccehbncaa", sum := "c5a19d275687bf00b8c59bf193311c30fab1c9c1067af9f81b9c51f325c61504", func := "selvage/selvagelaw16.PrimsJoin", spec := "primsJoin", unfollowed := true, recurses := true, apart := false, narrowed := true }
def PrimsJoinUptoSaid : Prop := primsJoinUptoRow.holds Try.pinned (OpenSpec.upto primsJoinSpec)

/-- 'selvagelaw16.PrimsTold', WHERE WHAT IT READS IS OF BULK AT MOST 1048576: true; the input reads as it did. -/
def primsToldUptoRow : OpenClaim := { program := "ytkmoneccehbncaa", sum := "c5a19d275687bf00b8c59bf193311c30fab1c9c1067af9f81b9c51f325c61504", func := "selvage/selvagelaw16.PrimsTold", spec := "primsTold", unfollowed := true, recurses := true, apart := false, narrowed := true }
def PrimsToldUptoSaid : Prop := primsToldUptoRow.holds Try.pinned (OpenSpec.upto primsToldSpec)

/-- 'selvagelaw16.PrimsKeep', WHERE WHAT IT READS IS OF BULK AT MOST 1048576: true; the input reads as it did. -/
def primsKeepUptoRow : OpenClaim := { program := "ytkmoneccehbncaa", sum := "c5a19d275687bf00b8c59bf193311c30fab1c9c1067af9f81b9c51f325c61504", func := "selvage/selvagelaw16.PrimsKeep", spec := "primsKeep", unfollowed := true, recurses := true, apart := false, narrowed := true }
def PrimsKeepUptoSaid : Prop := primsKeepUptoRow.holds Try.pinned (OpenSpec.upto primsKeepSpec)

end Rows
end Go.Proofs.Ytkmoneccehbncaa
