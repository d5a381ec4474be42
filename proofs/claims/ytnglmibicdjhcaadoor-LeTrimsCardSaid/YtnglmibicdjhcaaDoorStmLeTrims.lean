/- What the statement LeTrims says of the printed functions alone. -/
import Derived.Test.YtnglmibicdjhcaaDoorOpenT
import Derived.Test.YtnglmibicdjhcaaDoorQx4
namespace Go.Proofs.YtnglmibicdjhcaaDoor.Q
open Go.RowKit Go.Proofs.YtnglmibicdjhcaaDoorW.PrintWords Go.Proofs.YtnglmibicdjhcaaDoorW.PrintLast Go.Proofs.YtnglmibicdjhcaaDoorW.PrintMore Go.Proofs.YtnglmibicdjhcaaDoor.Base
def doorwardlaw01_LeTrims.Stm : Prop := ∀ (x0 : ByteArray) (x1 : Int), zT9 x0 → zT3 x1 → ∃ k, doorwardlaw01_LeTrims.f k x0 x1 = some true
end Go.Proofs.YtnglmibicdjhcaaDoor.Q
