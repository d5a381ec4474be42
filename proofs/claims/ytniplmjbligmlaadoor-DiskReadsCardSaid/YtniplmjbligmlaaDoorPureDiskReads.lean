/- DiskReads in plain words: what any sector tells, and what a crash leaves. No condition. -/
import Derived.Test.YtniplmjbligmlaaDoorDiskFew2
import Derived.Test.YtniplmjbligmlaaDoorStmDiskReads
namespace Go.Proofs.YtniplmjbligmlaaDoor.Pure
open Go.RowKit Go.Proofs.YtniplmjbligmlaaDoorW.PrintWords Go.Proofs.YtniplmjbligmlaaDoorW.PrintLast Go.Proofs.YtniplmjbligmlaaDoorW.PrintMore Go.Proofs.YtniplmjbligmlaaDoor.Base Go.Proofs.YtniplmjbligmlaaDoor.Q
set_option linter.unusedVariables false
theorem DiskReads : doorwardlaw03_DiskReads.Stm := by
  intro d a keep hd ha hk
  refine ev_ex ?_
  unfold doorwardlaw03_DiskReads.f
  refine ev_some (few_eq d.f0 d.f1) ?_
  obtain ⟨l0, hl0⟩ : ∃ l0, d.f0.take 300 = l0 := ⟨_, rfl⟩
  obtain ⟨l1, hl1⟩ : ∃ l1, d.f1.take 40 = l1 := ⟨_, rfl⟩
  have hm : l1.length ≤ 40 := by rw [← hl1, List.length_take]; omega
  simp only [hl0, hl1]
  cases hr : rightB l0 l1 with
  | false =>
    refine ev_some (read_no l0 l1 a hr) (ev_bind (crash_no l0 l1 keep hr) (ev_bind (ev_eq (refright_ev l0 l1 (by omega)) hr) ?_))
    refine ev_neg (by decide) (ev_some alive3 (ev_pos rfl (ev_pos rfl (ev_pos rfl (ev_pos empty_toList ?_)))))
    exact ev_bind (like_refl [] [] (by decide) (by decide)) (ev_now rfl)
  | true =>
    obtain ⟨h1, h2, h3, h4⟩ := right_parts hr
    have hlen : (crashL l1 keep l0).length = l0.length := crashL_length _ _ _
    cases hh : hasB l0.length a with
    | false =>
      refine ev_some (read_none l0 l1 a hr hh) (ev_bind (crash_ok l0 l1 keep hr (by omega)) (ev_bind (ev_eq (refright_ev l0 l1 (by omega)) hr) ?_))
      refine ev_pos rfl (ev_pos rfl (ev_bind (refcrash_ev false keep l1 l0 (by omega) h2) ?_))
      rw [refcrash_some keep hr]
      refine ev_bind (like_refl _ _ (by rw [hlen]; omega) (Nat.zero_le _)) ?_
      refine ev_succ (g := fun k => doorwardlaw03_DiskReads.j0 k a ⟨#[]⟩ 20 (!true) l0 l1) ?_
      simp only [doorwardlaw03_DiskReads.j0]
      refine ev_neg (by decide) ?_
      have J : Ev (fun k => doorwardlaw03_DiskReads.j1 k a ⟨#[]⟩ 20 true l0 l1) true := by
        refine ev_succ (g := fun k => doorwardlaw03_DiskReads.j1 k a ⟨#[]⟩ 20 true l0 l1) ?_
        simp only [doorwardlaw03_DiskReads.j1]
        exact ev_pos trivial (ev_some alive3 (ev_pos rfl (ev_pos trivial (ev_now (by rw [empty_toList]; rfl)))))
      unfold hasB at hh
      simp only [Bool.and_eq_false_iff, decide_eq_false_iff_not] at hh
      by_cases c : a < 0
      · exact ev_pos c J
      · refine ev_neg c ?_
        rw [decide_eq_true (by omega : a ≥ (l0.length : Int))]; exact J
    | true =>
      have h5 : 0 ≤ a ∧ a < (l0.length : Int) := by unfold hasB at hh; simpa using hh
      refine ev_some (read_ok l0 l1 a hr hh) (ev_bind (crash_ok l0 l1 keep hr (by omega)) (ev_bind (ev_eq (refright_ev l0 l1 (by omega)) hr) ?_))
      refine ev_pos rfl (ev_pos rfl (ev_bind (refcrash_ev false keep l1 l0 (by omega) h2) ?_))
      rw [refcrash_some keep hr]
      refine ev_bind (like_refl _ _ (by rw [hlen]; omega) (Nat.zero_le _)) ?_
      refine ev_succ (g := fun k => doorwardlaw03_DiskReads.j0 k a (lastW l1 a (rdOf ByteArray.empty l0 a)) 0 (!true) l0 l1) ?_
      simp only [doorwardlaw03_DiskReads.j0]
      refine ev_neg (by decide) (ev_neg (by omega) ?_)
      rw [decide_eq_false (by omega : ¬ a ≥ (l0.length : Int))]
      refine ev_succ (g := fun k => doorwardlaw03_DiskReads.j1 k a (lastW l1 a (rdOf ByteArray.empty l0 a)) 0 false l0 l1) ?_
      simp only [doorwardlaw03_DiskReads.j1]
      refine ev_neg (by decide) (ev_some alive3 (ev_pos rfl (ev_pos trivial ?_)))
      exact ev_bind (tells_ev l0 l1 a (by omega) h5.1 h5.2) (ev_now (by simp))
end Go.Proofs.YtniplmjbligmlaaDoor.Pure
