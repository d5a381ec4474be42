/- What the printed and the proved functions of layer 3 answer, one by one. -/
import Derived.Test.YtniplmjbligmlaaDoorDiskLaw
import Derived.Test.YtniplmjbligmlaaDoorDiskFew
namespace Go.Proofs.YtniplmjbligmlaaDoor.Pure
open Go.RowKit Go.Proofs.YtniplmjbligmlaaDoorW.PrintWords Go.Proofs.YtniplmjbligmlaaDoorW.PrintLast Go.Proofs.YtniplmjbligmlaaDoorW.PrintMore Go.Proofs.YtniplmjbligmlaaDoor.Base Go.Proofs.YtniplmjbligmlaaDoor.Q
set_option linter.unusedVariables false
theorem empty_toList : (⟨#[]⟩ : ByteArray).toList = [] := by rw [toList_L]
theorem crash_ok (l0 : List ByteArray) (l1 : List S42) (keep : List Bool) (h : rightB l0 l1 = true) (hl : l1.length ≤ 4294967295) : Ev (fun k => disk_Crash.f k l0 l1 keep) (crashL l1 keep l0, [], 0) :=
  ev_from (l1.length + 1) fun k hk => crash_right k l0 l1 keep h hl (by omega)
theorem crash_no (l0 : List ByteArray) (l1 : List S42) (keep : List Bool) (h : rightB l0 l1 = false) : Ev (fun k => disk_Crash.f k l0 l1 keep) ([], [], 1) :=
  ev_from 0 fun k _ => crash_wrong k l0 l1 keep h
theorem read_no (l0 : List ByteArray) (l1 : List S42) (a : Int) (h : rightB l0 l1 = false) : disk_Read.f l0 l1 a = some (⟨#[]⟩, 1) := by unfold disk_Read.f; rw [h]; rfl
theorem read_none (l0 : List ByteArray) (l1 : List S42) (a : Int) (h : rightB l0 l1 = true) (h2 : hasB l0.length a = false) : disk_Read.f l0 l1 a = some (⟨#[]⟩, 20) := by unfold disk_Read.f; rw [h, h2]; rfl
theorem read_ok (l0 : List ByteArray) (l1 : List S42) (a : Int) (h : rightB l0 l1 = true) (h2 : hasB l0.length a = true) : disk_Read.f l0 l1 a = some (lastW l1 a (rdOf ByteArray.empty l0 a), 0) := by unfold disk_Read.f; rw [h, h2]; rfl
end Go.Proofs.YtniplmjbligmlaaDoor.Pure
