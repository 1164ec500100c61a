-- Written by a program of this place's prover (wip/turn_print.py): not by hand.
import Derived.Test.YtdgmjhfkaplneaaProg
import Derived.Below
import Derived.Deep.Draws
import Derived.Deep.AppendLies
import Derived.Maps.AppendAt
import Derived.OwnWalk
import Derived.Laws.BytesArg
import Derived.Laws.MakeOwn
import Derived.Laws.OwnMore
import Derived.Deep.OwnRows
import Derived.Tactics
import Derived.Lib.ConvBytes
import Derived.Laws.Slices
import Derived.WalkKit
import Derived.KernelRfl
import Derived.RowKit3
import Derived.Deep.LoopGhost
import Derived.Deep.QuietTactic
import Derived.BigQuiet
import Derived.WideLaws
import Derived.Deep.DeepCutAuto
import Derived.Deep.CutBlock
import Derived.Deep.RegionHeld3
import Derived.Laws.Rows
import Derived.Lib.AppendStr
import Derived.ArgAppend
import Derived.Laws.IdiomCopy
import Derived.OrdersHeld
import Derived.Laws.BitsLemmas
import Derived.RowKit
import Derived.Test.YtdgmjhfkaplneaaWWords
import Derived.Test.YtdgmjhfkaplneaaWLast
import Derived.Test.YtdgmjhfkaplneaaWTab
import Derived.Test.YtdgmjhfkaplneaaWFour
import Derived.Test.YtdgmjhfkaplneaaWQPut
import Derived.Test.YtdgmjhfkaplneaaWApart
import Derived.Test.YtdgmjhfkaplneaaWArr
import Derived.Test.YtdgmjhfkaplneaaWZeros
import Derived.Test.YtdgmjhfkaplneaaWFoot
import Derived.Test.YtdgmjhfkaplneaaWKept
import Derived.Test.YtdgmjhfkaplneaaWShare
import Derived.Test.YtdgmjhfkaplneaaWN
import Derived.Test.YtdgmjhfkaplneaaWFootNe
import Derived.Test.YtdgmjhfkaplneaaWAt
import Derived.Test.YtdgmjhfkaplneaaWEqStruct
import Derived.Test.YtdgmjhfkaplneaaWRepsOne
import Derived.Test.YtdgmjhfkaplneaaWInv
import Derived.Test.YtdgmjhfkaplneaaWInvWords
import Derived.Test.YtdgmjhfkaplneaaWGuard
import Derived.Test.YtdgmjhfkaplneaaWNEv
import Derived.Test.YtdgmjhfkaplneaaWMore
namespace Go.Proofs.Ytdgmjhfkaplneaa.PAll
open Go.RowKit Go.Proofs.YtdgmjhfkaplneaaW.PrintWords Go.Proofs.YtdgmjhfkaplneaaW.PrintLast Go.Proofs.YtdgmjhfkaplneaaW.PrintMore
attribute [local go_sem] max2_int min2_int max_two min_two max_three min_three max_four min_four   -- for this text's walks alone
set_option linter.unusedVariables false
set_option linter.unusedSimpArgs false



def errW : Option Int → Value
  | none => .nilIface
  | some c => .iface 0 (.int .i64 c)
theorem errW_none : errW none = .nilIface := rfl
theorem errW_some (c : Int) : errW (some c) = .iface 0 (.int .i64 c) := rfl

theorem info5 : (Try.prog.info? 5).map (fun i => (i.zero, i.size, i.bytes)) = some (some (.int .u8 0), 1, 1) := by kernel_rfl
-- the values' own types

end Go.Proofs.Ytdgmjhfkaplneaa.PAll
