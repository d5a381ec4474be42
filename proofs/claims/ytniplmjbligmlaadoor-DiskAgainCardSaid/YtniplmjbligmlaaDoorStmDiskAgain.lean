/- What the statement DiskAgain says of the printed functions alone. -/
import Derived.Test.YtniplmjbligmlaaDoorOpenT
import Derived.Test.YtniplmjbligmlaaDoorQx10
namespace Go.Proofs.YtniplmjbligmlaaDoor.Q
open Go.RowKit Go.Proofs.YtniplmjbligmlaaDoorW.PrintWords Go.Proofs.YtniplmjbligmlaaDoorW.PrintLast Go.Proofs.YtniplmjbligmlaaDoorW.PrintMore Go.Proofs.YtniplmjbligmlaaDoor.Base
def doorwardlaw03_DiskAgain.Stm : Prop := ∀ (x0 : S25) (x1 : List Bool) (x2 : List Bool), zT25 x0 → zT33 x1 → zT33 x2 → ∃ k, doorwardlaw03_DiskAgain.f k x0.f0 x0.f1 x1 x2 = some true
end Go.Proofs.YtniplmjbligmlaaDoor.Q
