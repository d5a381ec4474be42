/- The kinds of the statements' parameters: what a row's data read as, type by type. -/
import Derived.Test.YtnglmibicdjhcaaOpen
import Derived.Test.YtnglmibicdjhcaaQx0
namespace Go.Proofs.Ytnglmibicdjhcaa.Q
open Go.RowKit Go.Proofs.YtnglmibicdjhcaaW.PrintWords Go.Proofs.YtnglmibicdjhcaaW.PrintLast Go.Proofs.YtnglmibicdjhcaaW.PrintMore Go.Proofs.Ytnglmibicdjhcaa.Base
set_option linter.unusedVariables false
def zT22 : Int → Prop := fun n => (Lit.int .u64 n).wf = true
theorem opT22 : Opens Try.prog 22 (Kd.int .u64) zT22 := opens_int Try.underlying22
def zT3 : Int → Prop := fun n => (Lit.int .i64 n).wf = true
theorem opT3 : Opens Try.prog 3 (Kd.int .i64) zT3 := opens_int Try.underlying3
def zT9 : ByteArray → Prop := fun s => s.size ≤ 140737488351232
theorem opT9 : Opens Try.prog 9 Kd.string zT9 := opens_string Try.underlying9
def zT36 : List ByteArray → Prop := fun l => l.length * 16 ≤ 140737488351232 ∧ ∀ x ∈ l, zT9 x
theorem opT36 : Opens Try.prog 36 (Kd.slice 9 Kd.string) zT36 := opens_slice Try.underlying36 (by kernel_rfl) 16 (by kernel_rfl) opT9
end Go.Proofs.Ytnglmibicdjhcaa.Q
