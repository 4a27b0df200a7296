-- written by a program of this claim's session (wip/tools/hook.py turns the kit's print): Lean checks it
import Derived.Test.YtohbpgdhpfmlgaaDoorProg
import Derived.Below
import Derived.Deep.Draws
import Derived.Deep.AppendLies
import Derived.Maps.AppendAt
import Derived.OwnWalk
import Derived.Laws.BytesArg
import Derived.Laws.MakeOwn
import Derived.Laws.OwnMore
import Derived.Deep.OwnRows
import Derived.Tactics
import Derived.Lib.ConvBytes
import Derived.Laws.Slices
import Derived.WalkKit
import Derived.KernelRfl
import Derived.RowKit3
import Derived.Deep.LoopGhost
import Derived.Deep.QuietTactic
import Derived.BigQuiet
import Derived.WideLaws
import Derived.Deep.DeepCutAuto
import Derived.Deep.CutBlock
import Derived.Deep.RegionHeld3
import Derived.Laws.Rows
import Derived.Lib.AppendStr
import Derived.ArgAppend
import Derived.Laws.IdiomCopy
import Derived.OrdersHeld
import Derived.Laws.BitsLemmas
import Derived.RowKit
import Derived.Test.YtohbpgdhpfmlgaaDoorWWords
import Derived.Test.YtohbpgdhpfmlgaaDoorWLast
import Derived.Test.YtohbpgdhpfmlgaaDoorWTab
import Derived.Test.YtohbpgdhpfmlgaaDoorWFour
import Derived.Test.YtohbpgdhpfmlgaaDoorWQPut
import Derived.Test.YtohbpgdhpfmlgaaDoorWApart
import Derived.Test.YtohbpgdhpfmlgaaDoorWArr
import Derived.Test.YtohbpgdhpfmlgaaDoorWZeros
import Derived.Test.YtohbpgdhpfmlgaaDoorWFoot
import Derived.Test.YtohbpgdhpfmlgaaDoorWKept
import Derived.Test.YtohbpgdhpfmlgaaDoorWShare
import Derived.Test.YtohbpgdhpfmlgaaDoorWN
import Derived.Test.YtohbpgdhpfmlgaaDoorWFootNe
import Derived.Test.YtohbpgdhpfmlgaaDoorWAt
import Derived.Test.YtohbpgdhpfmlgaaDoorWEqStruct
import Derived.Test.YtohbpgdhpfmlgaaDoorWRepsOne
import Derived.Test.YtohbpgdhpfmlgaaDoorWInv
import Derived.Test.YtohbpgdhpfmlgaaDoorWInvWords
import Derived.Test.YtohbpgdhpfmlgaaDoorWGuard
import Derived.Test.YtohbpgdhpfmlgaaDoorWNEv
import Derived.Test.YtohbpgdhpfmlgaaDoorWMore
namespace Go.Proofs.YtohbpgdhpfmlgaaDoor.PA
open Go.RowKit Go.Proofs.YtohbpgdhpfmlgaaDoorW.PrintWords Go.Proofs.YtohbpgdhpfmlgaaDoorW.PrintLast Go.Proofs.YtohbpgdhpfmlgaaDoorW.PrintMore
attribute [local go_sem] max2_int min2_int max_two min_two max_three min_three max_four min_four   -- for this text's walks alone
set_option linter.unusedVariables false
set_option linter.unusedSimpArgs false



def errW : Option Int → Value
  | none => .nilIface
  | some c => .iface 0 (.int .i64 c)
theorem errW_none : errW none = .nilIface := rfl
theorem errW_some (c : Int) : errW (some c) = .iface 0 (.int .i64 c) := rfl

-- the values' own types

end Go.Proofs.YtohbpgdhpfmlgaaDoor.PA
