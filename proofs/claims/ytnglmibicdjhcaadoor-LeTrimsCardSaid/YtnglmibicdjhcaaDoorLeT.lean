/- le.Trim and le.Fill (zero bytes at the end) answer what the plain words say. -/
import Derived.Test.YtnglmibicdjhcaaDoorHTrim
import Derived.Test.YtnglmibicdjhcaaDoorQx1
import Derived.Test.YtnglmibicdjhcaaDoorQx3
namespace Go.Proofs.YtnglmibicdjhcaaDoor.Q
open Go.RowKit Go.Proofs.YtnglmibicdjhcaaDoorW.PrintWords Go.Proofs.YtnglmibicdjhcaaDoorW.PrintLast Go.Proofs.YtnglmibicdjhcaaDoorW.PrintMore Go.Proofs.YtnglmibicdjhcaaDoor.Base
set_option linter.unusedVariables false
theorem trim_eq (s : ByteArray) (h : s.size ≤ 9223372036854775807) : le_Trim.f s = some (trimS s) := by
  unfold le_Trim.f strings_TrimRight.f; rw [if_pos ⟨rfl, h⟩]; rfl
theorem L_zeros (n : Nat) : L (strOfNums (List.replicate n 0)) = List.replicate n 0 := by
  rw [L_strOfNums]; simp
theorem fill_eq (s : ByteArray) (size : Int) (h1 : -9223372036854775808 ≤ size) (h : size ≤ 281474976710656) (hs : s.size ≤ 140737488355328) : le_Fill.f s size = some (fillS s size) := by
  unfold le_Fill.f fillS
  by_cases c : (s.size : Int) > size
  · rw [if_pos c, if_pos c]
  · have hw : wrap64 (size - (s.size : Int)) = size - s.size := wrap64_id (by omega) (by omega)
    rw [if_neg c, if_neg c, hw, if_pos (by omega), if_pos (by omega), Option.bind_some, show (size - (s.size : Int)).toNat = size.toNat - s.size by omega]
    have hz : (strOfNums (List.replicate (size.toNat - s.size) 0)).size = size.toNat - s.size := by rw [size_L, L_zeros, List.length_replicate]
    rw [if_pos (by rw [hz]; omega)]
    simp only [Option.some.injEq, Prod.mk.injEq, and_true]
    apply L_inj; rw [L_append, L_zeros, L_B]
end Go.Proofs.YtnglmibicdjhcaaDoor.Q
