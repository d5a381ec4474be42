/- Layer 1's statements' own helpers: what 'short' and 'alive' answer. -/
import Derived.Test.YtnglmibicdjhcaaDoorLeA
import Derived.Test.YtnglmibicdjhcaaDoorQx1
import Derived.Test.YtnglmibicdjhcaaDoorQx2
namespace Go.Proofs.YtnglmibicdjhcaaDoor.Q
open Go.RowKit Go.Proofs.YtnglmibicdjhcaaDoorW.PrintWords Go.Proofs.YtnglmibicdjhcaaDoorW.PrintLast Go.Proofs.YtnglmibicdjhcaaDoorW.PrintMore Go.Proofs.YtnglmibicdjhcaaDoor.Base
set_option linter.unusedVariables false
theorem short_eq (a : ByteArray) : doorwardlaw01_short.f a = some (shortS a) := by
  unfold doorwardlaw01_short.f shortS mn
  by_cases h : 70000 < (a.size : Int)
  · rw [if_pos h, if_pos (by omega), if_pos (by omega), show min (a.size : Int) 70000 = 70000 by omega]
  · rw [if_neg h, if_pos (by omega), if_pos (by omega), show min (a.size : Int) 70000 = a.size by omega]
theorem shortS_size (a : ByteArray) : (shortS a).size ≤ 70000 := by
  unfold shortS; rw [size_L, L_extract]; simp; omega
theorem alive_ev : Ev (fun k => doorwardlaw01_alive.f k) true := by
  unfold doorwardlaw01_alive.f
  refine ev_bind (put_ev 258 2 (by decide) (by decide)) ?_
  exact ev_now (by decide +kernel)
end Go.Proofs.YtnglmibicdjhcaaDoor.Q
