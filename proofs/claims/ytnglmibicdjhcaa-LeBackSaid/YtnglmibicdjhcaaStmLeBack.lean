/- What the statement LeBack says of the printed functions alone. -/
import Derived.Test.YtnglmibicdjhcaaOpenT
import Derived.Test.YtnglmibicdjhcaaQx6
namespace Go.Proofs.Ytnglmibicdjhcaa.Q
open Go.RowKit Go.Proofs.YtnglmibicdjhcaaW.PrintWords Go.Proofs.YtnglmibicdjhcaaW.PrintLast Go.Proofs.YtnglmibicdjhcaaW.PrintMore Go.Proofs.Ytnglmibicdjhcaa.Base
def doorwardlaw01_LeBack.Stm : Prop := ∀ (x0 : Int) (x1 : Int) (x2 : ByteArray) (x3 : ByteArray), zT22 x0 → zT3 x1 → zT9 x2 → zT9 x3 → ∃ k, doorwardlaw01_LeBack.f k x0 x1 x2 x3 = some true
end Go.Proofs.Ytnglmibicdjhcaa.Q
