-- printed by a program of this session (wip/tools/pp.py) that runs the kit's printer over contracts proved by hand
import Derived.Test.YthdnaliahdohhaaProg
import Derived.Below
import Derived.Deep.Draws
import Derived.Deep.AppendLies
import Derived.Maps.AppendAt
import Derived.OwnWalk
import Derived.Laws.BytesArg
import Derived.Laws.MakeOwn
import Derived.Laws.OwnMore
import Derived.Deep.OwnRows
import Derived.Tactics
import Derived.Lib.ConvBytes
import Derived.Laws.Slices
import Derived.WalkKit
import Derived.KernelRfl
import Derived.RowKit3
import Derived.Deep.LoopGhost
import Derived.Deep.QuietTactic
import Derived.BigQuiet
import Derived.WideLaws
import Derived.Deep.DeepCutAuto
import Derived.Deep.CutBlock
import Derived.Deep.RegionHeld3
import Derived.Laws.Rows
import Derived.Lib.AppendStr
import Derived.ArgAppend
import Derived.Laws.IdiomCopy
import Derived.OrdersHeld
import Derived.Laws.BitsLemmas
import Derived.RowKit
import Derived.Test.YthdnaliahdohhaaWWords
import Derived.Test.YthdnaliahdohhaaWLast
import Derived.Test.YthdnaliahdohhaaWTab
import Derived.Test.YthdnaliahdohhaaWFour
import Derived.Test.YthdnaliahdohhaaWQPut
import Derived.Test.YthdnaliahdohhaaWApart
import Derived.Test.YthdnaliahdohhaaWArr
import Derived.Test.YthdnaliahdohhaaWZeros
import Derived.Test.YthdnaliahdohhaaWFoot
import Derived.Test.YthdnaliahdohhaaWKept
import Derived.Test.YthdnaliahdohhaaWShare
import Derived.Test.YthdnaliahdohhaaWN
import Derived.Test.YthdnaliahdohhaaWFootNe
import Derived.Test.YthdnaliahdohhaaWAt
import Derived.Test.YthdnaliahdohhaaWEqStruct
import Derived.Test.YthdnaliahdohhaaWRepsOne
import Derived.Test.YthdnaliahdohhaaWInv
import Derived.Test.YthdnaliahdohhaaWInvWords
import Derived.Test.YthdnaliahdohhaaWGuard
import Derived.Test.YthdnaliahdohhaaWNEv
import Derived.Test.YthdnaliahdohhaaWMore
namespace Go.Proofs.Ythdnaliahdohhaa.O
open Go.RowKit Go.Proofs.YthdnaliahdohhaaW.PrintWords Go.Proofs.YthdnaliahdohhaaW.PrintLast Go.Proofs.YthdnaliahdohhaaW.PrintMore
attribute [local go_sem] max2_int min2_int max_two min_two max_three min_three max_four min_four   -- for this text's walks alone
set_option linter.unusedVariables false
set_option linter.unusedSimpArgs false



def errW : Option Int → Value
  | none => .nilIface
  | some c => .iface 0 (.int .i64 c)
theorem errW_none : errW none = .nilIface := rfl
theorem errW_some (c : Int) : errW (some c) = .iface 0 (.int .i64 c) := rfl

-- the values' own types

theorem own_len (A : Option Addr) (n c : Nat) : (Value.slice A n c).ownBlock = A.map (fun a => a.block) := by cases A <;> rfl
end Go.Proofs.Ythdnaliahdohhaa.O
