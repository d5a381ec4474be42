/- Layer 3 in plain words: which disks may be, what a sector tells, what a crash leaves. No program in it but the printed structures. -/
import Derived.Test.YtniplmjbligmlaaDoorTrimPlain
import Derived.Test.YtniplmjbligmlaaDoorQx0
namespace Go.Proofs.YtniplmjbligmlaaDoor.Q
open Go.RowKit Go.Proofs.YtniplmjbligmlaaDoorW.PrintWords Go.Proofs.YtniplmjbligmlaaDoorW.PrintLast Go.Proofs.YtniplmjbligmlaaDoorW.PrintMore Go.Proofs.YtniplmjbligmlaaDoor.Base
set_option linter.unusedVariables false
def standsB (s : ByteArray) : Bool := decide (s.size ≤ 512) && decide (trimS s = s)
def hasB (n : Nat) (a : Int) : Bool := decide (0 ≤ a) && decide (a < (n : Int))
def badW (n : Nat) (x : S42) : Bool := !(hasB n x.f0) || !(standsB x.f1)
def rightB (l0 : List ByteArray) (l1 : List S42) : Bool := decide (1 ≤ l0.length) && decide (l0.length ≤ 256) && l0.all standsB && !(l1.any (badW l0.length))
end Go.Proofs.YtniplmjbligmlaaDoor.Q
