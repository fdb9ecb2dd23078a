/- Contracts of the program's functions, each with a plain function of the same answers; written by a program of this session over the kit's print.py, with hand-written parts; no condition but the bounds that each theorem states. -/
import Derived.Test.YtdbolkckbgacoaaProg
import Derived.Below
import Derived.Deep.Draws
import Derived.Deep.AppendLies
import Derived.Maps.AppendAt
import Derived.OwnWalk
import Derived.Laws.BytesArg
import Derived.Laws.MakeOwn
import Derived.Laws.OwnMore
import Derived.Deep.OwnRows
import Derived.Tactics
import Derived.Lib.ConvBytes
import Derived.Laws.Slices
import Derived.WalkKit
import Derived.KernelRfl
import Derived.RowKit3
import Derived.Deep.LoopGhost
import Derived.Deep.QuietTactic
import Derived.BigQuiet
import Derived.WideLaws
import Derived.Deep.DeepCutAuto
import Derived.Deep.CutBlock
import Derived.Deep.RegionHeld3
import Derived.Laws.Rows
import Derived.Lib.AppendStr
import Derived.ArgAppend
import Derived.Laws.IdiomCopy
import Derived.OrdersHeld
import Derived.Laws.BitsLemmas
import Derived.RowKit
import Derived.Test.YtdbolkckbgacoaaWWords
import Derived.Test.YtdbolkckbgacoaaWLast
import Derived.Test.YtdbolkckbgacoaaWTab
import Derived.Test.YtdbolkckbgacoaaWFour
import Derived.Test.YtdbolkckbgacoaaWQPut
import Derived.Test.YtdbolkckbgacoaaWApart
import Derived.Test.YtdbolkckbgacoaaWArr
import Derived.Test.YtdbolkckbgacoaaWZeros
import Derived.Test.YtdbolkckbgacoaaWFoot
import Derived.Test.YtdbolkckbgacoaaWKept
import Derived.Test.YtdbolkckbgacoaaWShare
import Derived.Test.YtdbolkckbgacoaaWN
import Derived.Test.YtdbolkckbgacoaaWFootNe
import Derived.Test.YtdbolkckbgacoaaWAt
import Derived.Test.YtdbolkckbgacoaaWEqStruct
import Derived.Test.YtdbolkckbgacoaaWRepsOne
import Derived.Test.YtdbolkckbgacoaaWInv
import Derived.Test.YtdbolkckbgacoaaWInvWords
import Derived.Test.YtdbolkckbgacoaaWGuard
import Derived.Test.YtdbolkckbgacoaaWNEv
import Derived.Test.YtdbolkckbgacoaaWMore
namespace Go.Proofs.Ytdbolkckbgacoaa.Print
open Go.RowKit Go.Proofs.YtdbolkckbgacoaaW.PrintWords Go.Proofs.YtdbolkckbgacoaaW.PrintLast Go.Proofs.YtdbolkckbgacoaaW.PrintMore
attribute [local go_sem] max2_int min2_int max_two min_two max_three min_three max_four min_four   -- for this text's walks alone
set_option linter.unusedVariables false
set_option linter.unusedSimpArgs false



def errW : Option Int → Value
  | none => .nilIface
  | some c => .iface 0 (.int .i64 c)
theorem errW_none : errW none = .nilIface := rfl
theorem errW_some (c : Int) : errW (some c) = .iface 0 (.int .i64 c) := rfl

theorem info5 : (Try.prog.info? 5).map (fun i => (i.zero, i.size, i.bytes)) = some (some (.int .u8 0), 1, 1) := by kernel_rfl
-- the values' own types

end Go.Proofs.Ytdbolkckbgacoaa.Print
