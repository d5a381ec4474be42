/- What the statement DiskRights says of the printed functions alone. -/
import Derived.Test.YtniplmjbligmlaaDoorOpenT
import Derived.Test.YtniplmjbligmlaaDoorQx5
namespace Go.Proofs.YtniplmjbligmlaaDoor.Q
open Go.RowKit Go.Proofs.YtniplmjbligmlaaDoorW.PrintWords Go.Proofs.YtniplmjbligmlaaDoorW.PrintLast Go.Proofs.YtniplmjbligmlaaDoorW.PrintMore Go.Proofs.YtniplmjbligmlaaDoor.Base
def doorwardlaw03_DiskRights.Stm : Prop := ∀ (x0 : Int) (x1 : S25), zT3 x0 → zT25 x1 → ∃ k, doorwardlaw03_DiskRights.f k x0 x1.f0 x1.f1 = some true
end Go.Proofs.YtniplmjbligmlaaDoor.Q
