/- DiskRights in plain words: a new disk, and which disks may be, is as the reference says. No condition. -/
import Derived.Test.YtniplmjbligmlaaDoorRefDisk
import Derived.Test.YtniplmjbligmlaaDoorHDiskA
import Derived.Test.YtniplmjbligmlaaDoorStmDiskRights
import Derived.Test.YtniplmjbligmlaaDoorQx2
import Derived.Test.YtniplmjbligmlaaDoorQx4
namespace Go.Proofs.YtniplmjbligmlaaDoor.Pure
open Go.RowKit Go.Proofs.YtniplmjbligmlaaDoorW.PrintWords Go.Proofs.YtniplmjbligmlaaDoorW.PrintLast Go.Proofs.YtniplmjbligmlaaDoorW.PrintMore Go.Proofs.YtniplmjbligmlaaDoor.Base Go.Proofs.YtniplmjbligmlaaDoor.Q
set_option linter.unusedVariables false
theorem new_bad (n : Int) (h : n < 1 ∨ n > 256) : disk_New.f n = some ([], [], 1) := by
  unfold disk_New.f
  by_cases c : n < 1
  · rw [if_pos c]
  · rw [if_neg c, if_pos (by omega)]
theorem new_ok (n : Int) (h : ¬ (n < 1 ∨ n > 256)) : disk_New.f n = some (List.replicate n.toNat (⟨#[]⟩ : ByteArray), [], 0) := by
  unfold disk_New.f
  rw [if_neg (by omega), if_neg (by omega), if_pos (by omega), if_pos (by omega)]
theorem empty_stands : standsB (⟨#[]⟩ : ByteArray) = true := by decide +kernel
theorem new_right (n : Nat) (h : 1 ≤ n) (h2 : n ≤ 256) : rightB (List.replicate n (⟨#[]⟩ : ByteArray)) [] = true := by
  unfold rightB
  simp only [List.length_replicate, List.any_nil, Bool.not_false, Bool.and_true]
  rw [decide_eq_true h, decide_eq_true h2]
  simp only [Bool.true_and]
  rw [List.all_eq_true]
  intro x hx
  rw [List.eq_of_mem_replicate hx]; exact empty_stands
theorem alive3 : doorwardlaw03_alive.f = some true := by
  unfold doorwardlaw03_alive.f
  rw [new_ok 3 (by omega)]
  simp only [Option.bind_some]
  rw [if_pos trivial]
  unfold disk_Right.f
  rw [new_right (3 : Int).toNat (by decide) (by decide)]
  simp
theorem few_eq (l : List ByteArray) (m : List S42) : doorwardlaw03_few.f l m = some (l.take 300, m.take 40) := by
  unfold doorwardlaw03_few.f
  simp only [mn_eq]
  rw [if_pos (by omega), if_pos (by omega), if_pos (by omega), if_pos (by omega)]
  have h1 : l.take (min (l.length : Int) 300).toNat = l.take 300 := by
    rw [show (min (l.length : Int) 300).toNat = min 300 l.length by omega, ← List.take_take, List.take_length]
  have h2 : m.take (min (m.length : Int) 40).toNat = m.take 40 := by
    rw [show (min (m.length : Int) 40).toNat = min 40 m.length by omega, ← List.take_take, List.take_length]
  rw [h1, h2]
theorem rights_l0 (z : List ByteArray) (l : List ByteArray) (m : List S42) (hm : m.length ≤ 140737488355328) (hz : ∀ x ∈ z, x = (⟨#[]⟩ : ByteArray)) (hz2 : rightB z [] = true) (hl : z.length ≤ 256) (d : Nat) : ∀ i : Nat, z.length - i = d → i ≤ z.length →
    Ev (fun k => doorwardlaw03_DiskRights.l0 k z (z.length : Int) (i : Int) l m z []) true := by
  induction d with
  | zero =>
    intro i hd hi
    obtain rfl : i = z.length := by omega
    refine ev_succ (g := fun k => doorwardlaw03_DiskRights.l0 k z (z.length : Int) ((z.length : Nat) : Int) l m z []) ?_
    simp only [doorwardlaw03_DiskRights.l0]
    refine ev_neg (by omega) (ev_some alive3 (ev_pos rfl ?_))
    refine ev_some (show disk_Right.f z [] = some true by unfold disk_Right.f; rw [hz2]) (ev_pos rfl ?_)
    refine ev_some (show disk_Right.f l m = some (rightB l m) from rfl) ?_
    exact ev_bind (refright_ev l m hm) (ev_now (by simp))
  | succ d ih =>
    intro i hd hi
    have hlt : i < z.length := by omega
    refine ev_succ (g := fun k => doorwardlaw03_DiskRights.l0 k z (z.length : Int) ((i : Nat) : Int) l m z []) ?_
    simp only [doorwardlaw03_DiskRights.l0]
    have e3 : wrap64 ((i : Int) + 1) = ((i + 1 : Nat) : Int) := by rw [wrap64_id (by omega) (by omega)]; omega
    have hE := ih (i + 1) (by omega) (by omega)
    refine ev_pos (by omega) (ev_pos (by omega) (ev_pos (by omega) (ev_pos ?_ ?_)))
    · rw [rdOf_at z i hlt, hz _ (List.getElem_mem _), toList_L]
    · simp only [e3]; exact hE
theorem DiskRights : doorwardlaw03_DiskRights.Stm := by
  intro n d hn hd
  refine ev_ex ?_
  unfold doorwardlaw03_DiskRights.f
  refine ev_some (few_eq d.f0 d.f1) ?_
  have hm : (d.f1.take 40).length ≤ 140737488355328 := by rw [List.length_take]; omega
  by_cases c : n < 1 ∨ n > 256
  · refine ev_some (new_bad n c) ?_
    have J : Ev (fun k => doorwardlaw03_DiskRights.j0 k n 1 true (d.f0.take 300) (d.f1.take 40) [] []) true := by
      refine ev_succ (g := fun k => doorwardlaw03_DiskRights.j0 k n 1 true (d.f0.take 300) (d.f1.take 40) [] []) ?_
      simp only [doorwardlaw03_DiskRights.j0]
      refine ev_pos trivial (ev_some alive3 (ev_pos rfl (ev_pos trivial (ev_pos rfl ?_))))
      refine ev_some (show disk_Right.f (d.f0.take 300) (d.f1.take 40) = some _ from rfl) ?_
      exact ev_bind (refright_ev _ _ hm) (ev_now (by simp))
    by_cases c1 : n < 1
    · exact ev_pos c1 J
    · refine ev_neg c1 ?_
      rw [decide_eq_true (by omega : n > 256)]; exact J
  · refine ev_some (new_ok n c) ?_
    refine ev_neg (by omega) ?_
    rw [decide_eq_false (by omega : ¬ n > 256)]
    refine ev_succ (g := fun k => doorwardlaw03_DiskRights.j0 k n 0 false (d.f0.take 300) (d.f1.take 40) (List.replicate n.toNat (⟨#[]⟩ : ByteArray)) []) ?_
    simp only [doorwardlaw03_DiskRights.j0]
    refine ev_neg (by decide) (ev_pos trivial (ev_pos (by rw [List.length_replicate]; omega) ?_))
    refine ev_succ (g := fun k => doorwardlaw03_DiskRights.j1 k _ (d.f0.take 300) (d.f1.take 40) (List.replicate n.toNat (⟨#[]⟩ : ByteArray)) []) ?_
    simp only [doorwardlaw03_DiskRights.j1]
    refine ev_neg (by decide) ?_
    exact rights_l0 _ _ _ hm (fun x hx => List.eq_of_mem_replicate hx) (new_right n.toNat (by omega) (by omega)) (by rw [List.length_replicate]; omega) _ 0 rfl (by omega)
end Go.Proofs.YtniplmjbligmlaaDoor.Pure
