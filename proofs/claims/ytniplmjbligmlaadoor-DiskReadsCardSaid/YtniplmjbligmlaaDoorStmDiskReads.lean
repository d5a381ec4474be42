/- What the statement DiskReads says of the printed functions alone. -/
import Derived.Test.YtniplmjbligmlaaDoorOpenT
import Derived.Test.YtniplmjbligmlaaDoorQx8
namespace Go.Proofs.YtniplmjbligmlaaDoor.Q
open Go.RowKit Go.Proofs.YtniplmjbligmlaaDoorW.PrintWords Go.Proofs.YtniplmjbligmlaaDoorW.PrintLast Go.Proofs.YtniplmjbligmlaaDoorW.PrintMore Go.Proofs.YtniplmjbligmlaaDoor.Base
def doorwardlaw03_DiskReads.Stm : Prop := ∀ (x0 : S25) (x1 : Int) (x2 : List Bool), zT25 x0 → zT3 x1 → zT33 x2 → ∃ k, doorwardlaw03_DiskReads.f k x0.f0 x0.f1 x1 x2 = some true
end Go.Proofs.YtniplmjbligmlaaDoor.Q
