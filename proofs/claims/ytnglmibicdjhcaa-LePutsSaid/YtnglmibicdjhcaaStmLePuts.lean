/- What the statement LePuts says of the printed functions alone. -/
import Derived.Test.YtnglmibicdjhcaaOpenT
import Derived.Test.YtnglmibicdjhcaaQx3
namespace Go.Proofs.Ytnglmibicdjhcaa.Q
open Go.RowKit Go.Proofs.YtnglmibicdjhcaaW.PrintWords Go.Proofs.YtnglmibicdjhcaaW.PrintLast Go.Proofs.YtnglmibicdjhcaaW.PrintMore Go.Proofs.Ytnglmibicdjhcaa.Base
def doorwardlaw01_LePuts.Stm : Prop := ∀ (x0 : Int) (x1 : Int) (x2 : ByteArray) (x3 : Int), zT22 x0 → zT3 x1 → zT9 x2 → zT3 x3 → ∃ k, doorwardlaw01_LePuts.f k x0 x1 x2 x3 = some true
end Go.Proofs.Ytnglmibicdjhcaa.Q
