/- What the statement LeTexts says of the printed functions alone. -/
import Derived.Test.YtnglmibicdjhcaaOpenT
import Derived.Test.YtnglmibicdjhcaaQx5
namespace Go.Proofs.Ytnglmibicdjhcaa.Q
open Go.RowKit Go.Proofs.YtnglmibicdjhcaaW.PrintWords Go.Proofs.YtnglmibicdjhcaaW.PrintLast Go.Proofs.YtnglmibicdjhcaaW.PrintMore Go.Proofs.Ytnglmibicdjhcaa.Base
def doorwardlaw01_LeTexts.Stm : Prop := ∀ (x0 : ByteArray) (x1 : ByteArray) (x2 : Int), zT9 x0 → zT9 x1 → zT3 x2 → ∃ k, doorwardlaw01_LeTexts.f k x0 x1 x2 = some true
end Go.Proofs.Ytnglmibicdjhcaa.Q
