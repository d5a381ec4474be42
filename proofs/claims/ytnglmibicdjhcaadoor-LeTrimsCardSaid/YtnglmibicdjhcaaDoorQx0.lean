/- Go functions as Lean functions, each with a proof that the Go code comes to its answers; written by a program of this repository (mk.py, over the printer of the kit). Lean checks it. -/
import Derived.Test.YtnglmibicdjhcaaDoorProg
import Derived.Below
import Derived.Deep.Draws
import Derived.Deep.AppendLies
import Derived.Maps.AppendAt
import Derived.OwnWalk
import Derived.Laws.BytesArg
import Derived.Laws.MakeOwn
import Derived.Laws.OwnMore
import Derived.Deep.OwnRows
import Derived.Tactics
import Derived.Lib.ConvBytes
import Derived.Laws.Slices
import Derived.WalkKit
import Derived.KernelRfl
import Derived.RowKit3
import Derived.Deep.LoopGhost
import Derived.Deep.QuietTactic
import Derived.BigQuiet
import Derived.WideLaws
import Derived.Deep.DeepCutAuto
import Derived.Deep.CutBlock
import Derived.Deep.RegionHeld3
import Derived.Laws.Rows
import Derived.Lib.AppendStr
import Derived.ArgAppend
import Derived.Laws.IdiomCopy
import Derived.OrdersHeld
import Derived.Laws.BitsLemmas
import Derived.RowKit
import Derived.Test.YtnglmibicdjhcaaDoorWWords
import Derived.Test.YtnglmibicdjhcaaDoorWLast
import Derived.Test.YtnglmibicdjhcaaDoorWTab
import Derived.Test.YtnglmibicdjhcaaDoorWFour
import Derived.Test.YtnglmibicdjhcaaDoorWQPut
import Derived.Test.YtnglmibicdjhcaaDoorWApart
import Derived.Test.YtnglmibicdjhcaaDoorWArr
import Derived.Test.YtnglmibicdjhcaaDoorWZeros
import Derived.Test.YtnglmibicdjhcaaDoorWFoot
import Derived.Test.YtnglmibicdjhcaaDoorWKept
import Derived.Test.YtnglmibicdjhcaaDoorWShare
import Derived.Test.YtnglmibicdjhcaaDoorWN
import Derived.Test.YtnglmibicdjhcaaDoorWFootNe
import Derived.Test.YtnglmibicdjhcaaDoorWAt
import Derived.Test.YtnglmibicdjhcaaDoorWEqStruct
import Derived.Test.YtnglmibicdjhcaaDoorWRepsOne
import Derived.Test.YtnglmibicdjhcaaDoorWInv
import Derived.Test.YtnglmibicdjhcaaDoorWInvWords
import Derived.Test.YtnglmibicdjhcaaDoorWGuard
import Derived.Test.YtnglmibicdjhcaaDoorWNEv
import Derived.Test.YtnglmibicdjhcaaDoorWMore
namespace Go.Proofs.YtnglmibicdjhcaaDoor.Q
open Go.RowKit Go.Proofs.YtnglmibicdjhcaaDoorW.PrintWords Go.Proofs.YtnglmibicdjhcaaDoorW.PrintLast Go.Proofs.YtnglmibicdjhcaaDoorW.PrintMore
attribute [local go_sem] max2_int min2_int max_two min_two max_three min_three max_four min_four   -- for this text's walks alone
set_option linter.unusedVariables false
set_option linter.unusedSimpArgs false



def errW : Option Int → Value
  | none => .nilIface
  | some c => .iface 0 (.int .i64 c)
theorem errW_none : errW none = .nilIface := rfl
theorem errW_some (c : Int) : errW (some c) = .iface 0 (.int .i64 c) := rfl

theorem info5 : (Tryd.prog.info? 5).map (fun i => (i.zero, i.size, i.bytes)) = some (some (.int .u8 0), 1, 1) := by kernel_rfl
-- the values' own types

end Go.Proofs.YtnglmibicdjhcaaDoor.Q
