/- disk.New, a disk of few sectors, a disk that may be. -/
import Derived.Test.YtniplmjbligmlaaDoorRefDisk
import Derived.Test.YtniplmjbligmlaaDoorHDiskA
import Derived.Test.YtniplmjbligmlaaDoorQx2
import Derived.Test.YtniplmjbligmlaaDoorQx4
namespace Go.Proofs.YtniplmjbligmlaaDoor.Pure
open Go.RowKit Go.Proofs.YtniplmjbligmlaaDoorW.PrintWords Go.Proofs.YtniplmjbligmlaaDoorW.PrintLast Go.Proofs.YtniplmjbligmlaaDoorW.PrintMore Go.Proofs.YtniplmjbligmlaaDoor.Base Go.Proofs.YtniplmjbligmlaaDoor.Q
set_option linter.unusedVariables false
theorem new_bad (n : Int) (h : n < 1 ∨ n > 256) : disk_New.f n = some ([], [], 1) := by
  unfold disk_New.f
  by_cases c : n < 1
  · rw [if_pos c]
  · rw [if_neg c, if_pos (by omega)]
theorem new_ok (n : Int) (h : ¬ (n < 1 ∨ n > 256)) : disk_New.f n = some (List.replicate n.toNat (⟨#[]⟩ : ByteArray), [], 0) := by
  unfold disk_New.f
  rw [if_neg (by omega), if_neg (by omega), if_pos (by omega), if_pos (by omega)]
theorem empty_stands : standsB (⟨#[]⟩ : ByteArray) = true := by decide +kernel
theorem new_right (n : Nat) (h : 1 ≤ n) (h2 : n ≤ 256) : rightB (List.replicate n (⟨#[]⟩ : ByteArray)) [] = true := by
  unfold rightB
  simp only [List.length_replicate, List.any_nil, Bool.not_false, Bool.and_true]
  rw [decide_eq_true h, decide_eq_true h2]
  simp only [Bool.true_and]
  rw [List.all_eq_true]
  intro x hx
  rw [List.eq_of_mem_replicate hx]; exact empty_stands
theorem alive3 : doorwardlaw03_alive.f = some true := by
  unfold doorwardlaw03_alive.f
  rw [new_ok 3 (by omega)]
  simp only [Option.bind_some]
  rw [if_pos trivial]
  unfold disk_Right.f
  rw [new_right (3 : Int).toNat (by decide) (by decide)]
  simp
theorem few_eq (l : List ByteArray) (m : List S42) : doorwardlaw03_few.f l m = some (l.take 300, m.take 40) := by
  unfold doorwardlaw03_few.f
  simp only [mn_eq]
  rw [if_pos (by omega), if_pos (by omega), if_pos (by omega), if_pos (by omega)]
  have h1 : l.take (min (l.length : Int) 300).toNat = l.take 300 := by
    rw [show (min (l.length : Int) 300).toNat = min 300 l.length by omega, ← List.take_take, List.take_length]
  have h2 : m.take (min (m.length : Int) 40).toNat = m.take 40 := by
    rw [show (min (m.length : Int) 40).toNat = min 40 m.length by omega, ← List.take_take, List.take_length]
  rw [h1, h2]
end Go.Proofs.YtniplmjbligmlaaDoor.Pure
