/- The kinds of the statements' parameters: what a row's data read as, type by type. -/
import Derived.Test.YtnglmibicdjhcaaDoorOpen
import Derived.Test.YtnglmibicdjhcaaDoorQx0
namespace Go.Proofs.YtnglmibicdjhcaaDoor.Q
open Go.RowKit Go.Proofs.YtnglmibicdjhcaaDoorW.PrintWords Go.Proofs.YtnglmibicdjhcaaDoorW.PrintLast Go.Proofs.YtnglmibicdjhcaaDoorW.PrintMore Go.Proofs.YtnglmibicdjhcaaDoor.Base
set_option linter.unusedVariables false
def zT9 : ByteArray → Prop := fun s => s.size ≤ 140737488351232
theorem opT9 : Opens Tryd.prog 9 Kd.string zT9 := opens_string Tryd.underlying9
def zT3 : Int → Prop := fun n => (Lit.int .i64 n).wf = true
theorem opT3 : Opens Tryd.prog 3 (Kd.int .i64) zT3 := opens_int Tryd.underlying3
def zT28 : Int → Prop := fun n => (Lit.int .u64 n).wf = true
theorem opT28 : Opens Tryd.prog 28 (Kd.int .u64) zT28 := opens_int Tryd.underlying28
end Go.Proofs.YtnglmibicdjhcaaDoor.Q
