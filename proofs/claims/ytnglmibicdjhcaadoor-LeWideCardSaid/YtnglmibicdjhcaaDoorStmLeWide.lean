/- What the statement LeWide says of the printed functions alone. -/
import Derived.Test.YtnglmibicdjhcaaDoorOpenT
import Derived.Test.YtnglmibicdjhcaaDoorQx5
namespace Go.Proofs.YtnglmibicdjhcaaDoor.Q
open Go.RowKit Go.Proofs.YtnglmibicdjhcaaDoorW.PrintWords Go.Proofs.YtnglmibicdjhcaaDoorW.PrintLast Go.Proofs.YtnglmibicdjhcaaDoorW.PrintMore Go.Proofs.YtnglmibicdjhcaaDoor.Base
def doorwardlaw01_LeWide.Stm : Prop := ∀ (x0 : Int) (x1 : Int) (x2 : Int) (x3 : ByteArray) (x4 : Int), zT28 x0 → zT3 x1 → zT3 x2 → zT9 x3 → zT3 x4 → ∃ k, doorwardlaw01_LeWide.f k x0 x1 x2 x3 x4 = some true
end Go.Proofs.YtnglmibicdjhcaaDoor.Q
