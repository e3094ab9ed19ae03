-- WRITTEN BY a program of this session (pp.sh)
import Derived.Test.YtppkdmocbhodpaaProg
import Derived.Below
import Derived.Deep.Draws
import Derived.Deep.AppendLies
import Derived.Maps.AppendAt
import Derived.OwnWalk
import Derived.Laws.BytesArg
import Derived.Laws.MakeOwn
import Derived.Laws.OwnMore
import Derived.Deep.OwnRows
import Derived.Tactics
import Derived.Lib.ConvBytes
import Derived.Laws.Slices
import Derived.WalkKit
import Derived.KernelRfl
import Derived.RowKit3
import Derived.Deep.LoopGhost
import Derived.Deep.QuietTactic
import Derived.BigQuiet
import Derived.WideLaws
import Derived.Deep.DeepCutAuto
import Derived.Deep.CutBlock
import Derived.Deep.RegionHeld3
import Derived.Laws.Rows
import Derived.Lib.AppendStr
import Derived.ArgAppend
import Derived.Laws.IdiomCopy
import Derived.OrdersHeld
import Derived.Laws.BitsLemmas
import Derived.RowKit
import Derived.Test.YtppkdmocbhodpaaWWords
import Derived.Test.YtppkdmocbhodpaaWLast
import Derived.Test.YtppkdmocbhodpaaWTab
import Derived.Test.YtppkdmocbhodpaaWFour
import Derived.Test.YtppkdmocbhodpaaWQPut
import Derived.Test.YtppkdmocbhodpaaWApart
import Derived.Test.YtppkdmocbhodpaaWArr
import Derived.Test.YtppkdmocbhodpaaWZeros
import Derived.Test.YtppkdmocbhodpaaWFoot
import Derived.Test.YtppkdmocbhodpaaWKept
import Derived.Test.YtppkdmocbhodpaaWShare
import Derived.Test.YtppkdmocbhodpaaWN
import Derived.Test.YtppkdmocbhodpaaWFootNe
import Derived.Test.YtppkdmocbhodpaaWAt
import Derived.Test.YtppkdmocbhodpaaWEqStruct
import Derived.Test.YtppkdmocbhodpaaWRepsOne
import Derived.Test.YtppkdmocbhodpaaWInv
import Derived.Test.YtppkdmocbhodpaaWInvWords
import Derived.Test.YtppkdmocbhodpaaWGuard
import Derived.Test.YtppkdmocbhodpaaWNEv
import Derived.Test.YtppkdmocbhodpaaWMore
import Derived.Test.YtppkdmocbhodpaaPlain
import Derived.Test.YtppkdmocbhodpaaShelf
namespace Go.Proofs.Ytppkdmocbhodpaa.PA
open Go.RowKit Go.Proofs.YtppkdmocbhodpaaW.PrintWords Go.Proofs.YtppkdmocbhodpaaW.PrintLast Go.Proofs.YtppkdmocbhodpaaW.PrintMore Go.Proofs.Ytppkdmocbhodpaa.Plain
attribute [local go_sem] max2_int min2_int max_two min_two max_three min_three max_four min_four   -- for this text's walks alone
set_option linter.unusedVariables false
set_option linter.unusedSimpArgs false



def errW : Option Int → Value
  | none => .nilIface
  | some c => .iface 0 (.int .i64 c)
theorem errW_none : errW none = .nilIface := rfl
theorem errW_some (c : Int) : errW (some c) = .iface 0 (.int .i64 c) := rfl

theorem info5 : (Try.prog.info? 5).map (fun i => (i.zero, i.size, i.bytes)) = some (some (.int .u8 0), 1, 1) := by kernel_rfl
-- the values' own types

end Go.Proofs.Ytppkdmocbhodpaa.PA
