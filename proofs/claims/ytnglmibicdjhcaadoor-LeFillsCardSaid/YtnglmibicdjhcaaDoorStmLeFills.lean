/- What the statement LeFills says of the printed functions alone. -/
import Derived.Test.YtnglmibicdjhcaaDoorOpenT
import Derived.Test.YtnglmibicdjhcaaDoorQx3
namespace Go.Proofs.YtnglmibicdjhcaaDoor.Q
open Go.RowKit Go.Proofs.YtnglmibicdjhcaaDoorW.PrintWords Go.Proofs.YtnglmibicdjhcaaDoorW.PrintLast Go.Proofs.YtnglmibicdjhcaaDoorW.PrintMore Go.Proofs.YtnglmibicdjhcaaDoor.Base
def doorwardlaw01_LeFills.Stm : Prop := ∀ (x0 : ByteArray) (x1 : Int), zT9 x0 → zT3 x1 → ∃ k, doorwardlaw01_LeFills.f k x0 x1 = some true
end Go.Proofs.YtnglmibicdjhcaaDoor.Q
