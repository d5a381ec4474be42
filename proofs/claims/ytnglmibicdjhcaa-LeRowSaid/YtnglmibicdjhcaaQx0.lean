/- Go functions as Lean functions, each with a proof that the Go code comes to its answers; written by a program of this repository (mk.py, over the printer of the kit). Lean checks it. -/
import Derived.Test.YtnglmibicdjhcaaProg
import Derived.Below
import Derived.Deep.Draws
import Derived.Deep.AppendLies
import Derived.Maps.AppendAt
import Derived.OwnWalk
import Derived.Laws.BytesArg
import Derived.Laws.MakeOwn
import Derived.Laws.OwnMore
import Derived.Deep.OwnRows
import Derived.Tactics
import Derived.Lib.ConvBytes
import Derived.Laws.Slices
import Derived.WalkKit
import Derived.KernelRfl
import Derived.RowKit3
import Derived.Deep.LoopGhost
import Derived.Deep.QuietTactic
import Derived.BigQuiet
import Derived.WideLaws
import Derived.Deep.DeepCutAuto
import Derived.Deep.CutBlock
import Derived.Deep.RegionHeld3
import Derived.Laws.Rows
import Derived.Lib.AppendStr
import Derived.ArgAppend
import Derived.Laws.IdiomCopy
import Derived.OrdersHeld
import Derived.Laws.BitsLemmas
import Derived.RowKit
import Derived.Test.YtnglmibicdjhcaaWWords
import Derived.Test.YtnglmibicdjhcaaWLast
import Derived.Test.YtnglmibicdjhcaaWTab
import Derived.Test.YtnglmibicdjhcaaWFour
import Derived.Test.YtnglmibicdjhcaaWQPut
import Derived.Test.YtnglmibicdjhcaaWApart
import Derived.Test.YtnglmibicdjhcaaWArr
import Derived.Test.YtnglmibicdjhcaaWZeros
import Derived.Test.YtnglmibicdjhcaaWFoot
import Derived.Test.YtnglmibicdjhcaaWKept
import Derived.Test.YtnglmibicdjhcaaWShare
import Derived.Test.YtnglmibicdjhcaaWN
import Derived.Test.YtnglmibicdjhcaaWFootNe
import Derived.Test.YtnglmibicdjhcaaWAt
import Derived.Test.YtnglmibicdjhcaaWEqStruct
import Derived.Test.YtnglmibicdjhcaaWRepsOne
import Derived.Test.YtnglmibicdjhcaaWInv
import Derived.Test.YtnglmibicdjhcaaWInvWords
import Derived.Test.YtnglmibicdjhcaaWGuard
import Derived.Test.YtnglmibicdjhcaaWNEv
import Derived.Test.YtnglmibicdjhcaaWMore
namespace Go.Proofs.Ytnglmibicdjhcaa.Q
open Go.RowKit Go.Proofs.YtnglmibicdjhcaaW.PrintWords Go.Proofs.YtnglmibicdjhcaaW.PrintLast Go.Proofs.YtnglmibicdjhcaaW.PrintMore
attribute [local go_sem] max2_int min2_int max_two min_two max_three min_three max_four min_four   -- for this text's walks alone
set_option linter.unusedVariables false
set_option linter.unusedSimpArgs false



def errW : Option Int → Value
  | none => .nilIface
  | some c => .iface 0 (.int .i64 c)
theorem errW_none : errW none = .nilIface := rfl
theorem errW_some (c : Int) : errW (some c) = .iface 0 (.int .i64 c) := rfl

theorem info5 : (Try.prog.info? 5).map (fun i => (i.zero, i.size, i.bytes)) = some (some (.int .u8 0), 1, 1) := by kernel_rfl
theorem info9 : (Try.prog.info? 9).map (fun i => (i.zero, i.size, i.bytes)) = some (some (.string ⟨#[]⟩), 1, 16) := by kernel_rfl
-- the values' own types

end Go.Proofs.Ytnglmibicdjhcaa.Q
