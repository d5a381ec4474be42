/- What the statement LeRow says of the printed functions alone. -/
import Derived.Test.YtnglmibicdjhcaaOpenT
import Derived.Test.YtnglmibicdjhcaaQx7
namespace Go.Proofs.Ytnglmibicdjhcaa.Q
open Go.RowKit Go.Proofs.YtnglmibicdjhcaaW.PrintWords Go.Proofs.YtnglmibicdjhcaaW.PrintLast Go.Proofs.YtnglmibicdjhcaaW.PrintMore Go.Proofs.Ytnglmibicdjhcaa.Base
def doorwardlaw01_LeRow.Stm : Prop := ∀ (x0 : List ByteArray), zT36 x0 → ∃ k, doorwardlaw01_LeRow.f k x0 = some true
end Go.Proofs.Ytnglmibicdjhcaa.Q
