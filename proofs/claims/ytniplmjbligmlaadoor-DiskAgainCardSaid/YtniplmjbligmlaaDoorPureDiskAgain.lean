/- DiskAgain in plain words: what a crash left is left by another one as it is. No condition. -/
import Derived.Test.YtniplmjbligmlaaDoorDiskFew2
import Derived.Test.YtniplmjbligmlaaDoorStmDiskAgain
namespace Go.Proofs.YtniplmjbligmlaaDoor.Pure
open Go.RowKit Go.Proofs.YtniplmjbligmlaaDoorW.PrintWords Go.Proofs.YtniplmjbligmlaaDoorW.PrintLast Go.Proofs.YtniplmjbligmlaaDoorW.PrintMore Go.Proofs.YtniplmjbligmlaaDoor.Base Go.Proofs.YtniplmjbligmlaaDoor.Q
set_option linter.unusedVariables false
theorem again_l0 (c : List ByteArray) (hc : rightB c [] = true) (d : Nat) : ∀ i : Nat, c.length - i = d → i ≤ c.length → Ev (fun k => doorwardlaw03_DiskAgain.l0 k c (c.length : Int) (i : Int) c []) true := by
  have hl := (right_parts hc).2.1
  induction d with
  | zero =>
    intro i hd hi
    obtain rfl : i = c.length := by omega
    refine ev_succ (g := fun k => doorwardlaw03_DiskAgain.l0 k c (c.length : Int) ((c.length : Nat) : Int) c []) ?_
    simp only [doorwardlaw03_DiskAgain.l0]
    exact ev_neg (by omega) (ev_some alive3 (ev_now rfl))
  | succ d ih =>
    intro i hd hi
    have hlt : i < c.length := by omega
    refine ev_succ (g := fun k => doorwardlaw03_DiskAgain.l0 k c (c.length : Int) ((i : Nat) : Int) c []) ?_
    simp only [doorwardlaw03_DiskAgain.l0]
    refine ev_pos (by omega) (ev_pos (by omega) (ev_pos (by omega) ?_))
    refine ev_some (read_ok c [] (i : Int) hc (by unfold hasB; rw [decide_eq_true (by omega : (0 : Int) ≤ i), decide_eq_true (by omega : (i : Int) < (c.length : Int))]; rfl)) (ev_pos rfl (ev_pos rfl ?_))
    rw [step64 hlt (by omega)]
    exact ih (i + 1) (by omega) (by omega)
theorem DiskAgain : doorwardlaw03_DiskAgain.Stm := by
  intro d keep more hd hk hm2
  refine ev_ex ?_
  unfold doorwardlaw03_DiskAgain.f
  refine ev_some (few_eq d.f0 d.f1) ?_
  obtain ⟨l0, hl0⟩ : ∃ l0, d.f0.take 300 = l0 := ⟨_, rfl⟩
  obtain ⟨l1, hl1⟩ : ∃ l1, d.f1.take 40 = l1 := ⟨_, rfl⟩
  have hm : l1.length ≤ 40 := by rw [← hl1, List.length_take]; omega
  simp only [hl0, hl1]
  cases hr : rightB l0 l1 with
  | false =>
    refine ev_bind (crash_no l0 l1 keep hr) (ev_bind (crash_no [] [] more (by rfl)) (ev_bind (ev_eq (refright_ev l0 l1 (by omega)) hr) ?_))
    exact ev_neg (by decide) (ev_some alive3 (ev_pos rfl (ev_now rfl)))
  | true =>
    obtain ⟨h1, h2, h3, h4⟩ := right_parts hr
    have hlen : (crashL l1 keep l0).length = l0.length := crashL_length _ _ _
    have hc := crash_still hr keep
    refine ev_bind (crash_ok l0 l1 keep hr (by omega)) (ev_bind (crash_ok _ [] more hc (by simp)) (ev_bind (ev_eq (refright_ev l0 l1 (by omega)) hr) ?_))
    refine ev_pos rfl (ev_pos rfl (ev_pos rfl (ev_bind (like_refl _ _ (by rw [hlen]; omega) (Nat.zero_le _)) (ev_pos rfl ?_))))
    refine ev_succ (g := fun k => doorwardlaw03_DiskAgain.j0 k (((([] : List S42).length : Int)) != 0) (crashL l1 keep l0) []) ?_
    simp only [doorwardlaw03_DiskAgain.j0]
    refine ev_neg (by decide) ?_
    exact again_l0 _ hc _ 0 rfl (Nat.zero_le _)
end Go.Proofs.YtniplmjbligmlaaDoor.Pure
