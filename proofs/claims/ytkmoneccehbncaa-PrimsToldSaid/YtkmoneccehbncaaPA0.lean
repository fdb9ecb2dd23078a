/- Contracts of printed functions, each with a plain function of the same answers; no condition but the bounds that each theorem states. -/
import Derived.Test.YtkmoneccehbncaaProg
import Derived.Below
import Derived.Deep.Draws
import Derived.Deep.AppendLies
import Derived.Maps.AppendAt
import Derived.OwnWalk
import Derived.Laws.BytesArg
import Derived.Laws.MakeOwn
import Derived.Laws.OwnMore
import Derived.Deep.OwnRows
import Derived.Tactics
import Derived.Lib.ConvBytes
import Derived.Laws.Slices
import Derived.WalkKit
import Derived.KernelRfl
import Derived.RowKit3
import Derived.Deep.LoopGhost
import Derived.Deep.QuietTactic
import Derived.BigQuiet
import Derived.WideLaws
import Derived.Deep.DeepCutAuto
import Derived.Deep.CutBlock
import Derived.Deep.RegionHeld3
import Derived.Laws.Rows
import Derived.Lib.AppendStr
import Derived.ArgAppend
import Derived.Laws.IdiomCopy
import Derived.OrdersHeld
import Derived.Laws.BitsLemmas
import Derived.RowKit
import Derived.Test.YtkmoneccehbncaaGA
import Derived.Test.YtkmoneccehbncaaWWords
import Derived.Test.YtkmoneccehbncaaWLast
import Derived.Test.YtkmoneccehbncaaWTab
import Derived.Test.YtkmoneccehbncaaWFour
import Derived.Test.YtkmoneccehbncaaWQPut
import Derived.Test.YtkmoneccehbncaaWApart
import Derived.Test.YtkmoneccehbncaaWArr
import Derived.Test.YtkmoneccehbncaaWZeros
import Derived.Test.YtkmoneccehbncaaWFoot
import Derived.Test.YtkmoneccehbncaaWKept
import Derived.Test.YtkmoneccehbncaaWShare
import Derived.Test.YtkmoneccehbncaaWN
import Derived.Test.YtkmoneccehbncaaWFootNe
import Derived.Test.YtkmoneccehbncaaWAt
import Derived.Test.YtkmoneccehbncaaWEqStruct
import Derived.Test.YtkmoneccehbncaaWRepsOne
import Derived.Test.YtkmoneccehbncaaWInv
import Derived.Test.YtkmoneccehbncaaWInvWords
import Derived.Test.YtkmoneccehbncaaWGuard
import Derived.Test.YtkmoneccehbncaaWNEv
import Derived.Test.YtkmoneccehbncaaWMore
/- Contracts of the program's functions, each with a plain function of the same answers; written by a program of this session over the kit's print.py, with hand-written parts; no condition but the bounds that each theorem states. -/
namespace Go.Proofs.Ytkmoneccehbncaa.Plaw
open Go.RowKit Go.Proofs.Ytkmoneccehbncaa.Print Go.Proofs.YtkmoneccehbncaaW.PrintWords Go.Proofs.YtkmoneccehbncaaW.PrintLast Go.Proofs.YtkmoneccehbncaaW.PrintMore
attribute [local go_sem] max2_int min2_int max_two min_two max_three min_three max_four min_four   -- for this text's walks alone
set_option linter.unusedVariables false
set_option linter.unusedSimpArgs false



def errW : Option Int → Value
  | none => .nilIface
  | some c => .iface 0 (.int .i64 c)
theorem errW_none : errW none = .nilIface := rfl
theorem errW_some (c : Int) : errW (some c) = .iface 0 (.int .i64 c) := rfl

theorem info3 : (Try.prog.info? 3).map (fun i => (i.zero, i.size, i.bytes)) = some (some (.int .i64 0), 1, 8) := by kernel_rfl
theorem info9 : (Try.prog.info? 9).map (fun i => (i.zero, i.size, i.bytes)) = some (some (.string ⟨#[]⟩), 1, 16) := by kernel_rfl
-- the values' own types

end Go.Proofs.Ytkmoneccehbncaa.Plaw
