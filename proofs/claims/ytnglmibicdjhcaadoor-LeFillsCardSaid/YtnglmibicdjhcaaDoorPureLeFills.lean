/- LeFills in plain words: what is trimmed, filled to as many bytes, is as it was; filled and trimmed it has no zero byte at its end. No condition. -/
import Derived.Test.YtnglmibicdjhcaaDoorLeS
import Derived.Test.YtnglmibicdjhcaaDoorLeT
import Derived.Test.YtnglmibicdjhcaaDoorStmLeFills
namespace Go.Proofs.YtnglmibicdjhcaaDoor.Pure
open Go.RowKit Go.Proofs.YtnglmibicdjhcaaDoorW.PrintWords Go.Proofs.YtnglmibicdjhcaaDoorW.PrintLast Go.Proofs.YtnglmibicdjhcaaDoorW.PrintMore Go.Proofs.YtnglmibicdjhcaaDoor.Base Go.Proofs.YtnglmibicdjhcaaDoor.Q
set_option linter.unusedVariables false
theorem LeFills : doorwardlaw01_LeFills.Stm := by
  intro s0 more hz hm
  refine ev_ex ?_
  unfold doorwardlaw01_LeFills.f
  simp only [mn_eq, mx_eq]
  refine ev_pos (by omega) (ev_pos (by omega) ?_)
  obtain ⟨s, ht⟩ : ∃ t, s0.extract 0 (min (s0.size : Int) 3000).toNat = t := ⟨_, rfl⟩
  have hs : s.size ≤ 3000 := by rw [← ht, size_L, L_extract]; simp; omega
  simp only [ht]
  obtain ⟨y, hy⟩ : ∃ y : Nat, min (max more 0) 3000 = (y : Int) := ⟨(min (max more 0) 3000).toNat, by omega⟩
  simp only [hy]
  have hy2 : y ≤ 3000 := by omega
  have hw : wrap64 ((s.size : Int) + (y : Int)) = ((s.size + y : Nat) : Int) := by rw [wrap64_id (by omega) (by omega)]; omega
  simp only [hw]
  have hsp := trimL_split (L s)
  have hts : (trimS s).size ≤ s.size := trimS_size s
  refine ev_some (trim_eq s (by omega)) ?_
  have f1 : fillS (trimS s) (s.size : Int) = (s, 0) := by
    unfold fillS
    rw [if_neg (by omega)]
    refine Prod.ext ?_ rfl
    apply L_inj
    rw [L_B]
    have : L (trimS s) = trimL (L s) := by unfold trimS; rw [L_B]
    have h2 : (trimS s).size = (trimL (L s)).length := by rw [size_L, this]
    rw [this, h2, Int.toNat_natCast]
    have h3 := hsp.1
    rw [← size_L] at h3
    exact h3.symm
  have f2 : fillS s ((s.size + y : Nat) : Int) = (B (L s ++ List.replicate y 0), 0) := by
    unfold fillS
    rw [if_neg (by omega), Int.toNat_natCast, show s.size + y - s.size = y by omega]
  have bsz : (B (L s ++ List.replicate y 0)).size = s.size + y := by rw [size_B, List.length_append, List.length_replicate, ← size_L]
  have e4 : trimS (B (L s ++ List.replicate y 0)) = trimS s := by unfold trimS; rw [L_B, trimL_zeros]
  refine ev_some ((fill_eq _ _ (by omega) (by omega) (by omega)).trans (congrArg some f1)) ?_
  refine ev_some ((fill_eq _ _ (by omega) (by omega) (by omega)).trans (congrArg some f2)) ?_
  refine ev_pos rfl (ev_pos rfl (ev_pos rfl (ev_pos (by rw [bsz]) ?_)))
  refine ev_some (trim_eq _ (by rw [bsz]; omega)) ?_
  refine ev_pos (by rw [e4]) ?_
  refine ev_some (trim_eq _ (by omega)) ?_
  rw [trimS_idem]
  have hne : ((trimS s).toList != (trimS s).toList) = false := by simp
  rw [hne]
  refine ev_succ (g := fun k => doorwardlaw01_LeFills.j0 k s (trimS s) false) ?_
  simp only [doorwardlaw01_LeFills.j0]
  refine ev_neg (by decide) (ev_pos (by omega) ?_)
  have hx : (s ++ (⟨#[120]⟩ : ByteArray)).size = s.size + 1 := by rw [size_L, L_append, List.length_append, ← size_L]; rfl
  have f3 : fillS (s ++ (⟨#[120]⟩ : ByteArray)) (s.size : Int) = (⟨#[]⟩, 2) := by
    unfold fillS; rw [if_pos (by rw [hx]; omega)]
  refine ev_some ((fill_eq _ _ (by omega) (by omega) (by rw [hx]; omega)).trans (congrArg some f3)) ?_
  refine ev_bind alive_ev ?_
  refine ev_pos rfl (ev_pos rfl (ev_pos (by omega) (ev_pos (by omega) (ev_pos ?_ ?_))))
  · rw [toList_L, toList_L, L_extract, List.drop_zero, Nat.sub_zero, Int.toNat_natCast]
    have : L (trimS s) = trimL (L s) := by unfold trimS; rw [L_B]
    have h2 : (trimS s).size = (trimL (L s)).length := by rw [size_L, this]
    rw [this, h2]
    have h3 : ∀ (a b c : List UInt8), a = b ++ c → a.take b.length = b := fun a b c e => by rw [e, List.take_left]
    exact h3 _ _ _ hsp.1
  · by_cases c : (trimS s).toList = ([] : List UInt8)
    · exact ev_pos c (ev_now rfl)
    · refine ev_neg c ?_
      have h4 : trimL (L s) ≠ [] := by
        intro h; apply c; rw [toList_L]; unfold trimS; rw [L_B, h]
      obtain ⟨m, b, h5, h6⟩ := trimL_last (L s) h4
      have h7 : L (trimS s) = m ++ [b] := by unfold trimS; rw [L_B, h5]
      have h8 : (trimS s).size = m.length + 1 := by rw [size_L, h7]; simp
      have hw2 : wrap64 (((trimS s).size : Int) - 1) = ((trimS s).size : Int) - 1 := wrap64_id (by omega) (by omega)
      simp only [hw2]
      refine ev_pos (by omega) (ev_pos (by omega) (ev_now ?_))
      rw [(L_take_pred (trimS s) m b h7).2]
      simp only [Option.some.injEq, bne_iff_ne, ne_eq]
      exact fun h => h6 ((byte_zero b).1 h)
end Go.Proofs.YtnglmibicdjhcaaDoor.Pure
