/- LeWide in plain words: a number in more bytes has zero bytes behind it; it is got at any place as at the beginning of what stands there. No condition. -/
import Derived.Test.YtnglmibicdjhcaaDoorLeS
import Derived.Test.YtnglmibicdjhcaaDoorLeT
import Derived.Test.YtnglmibicdjhcaaDoorStmLeWide
namespace Go.Proofs.YtnglmibicdjhcaaDoor.Pure
open Go.RowKit Go.Proofs.YtnglmibicdjhcaaDoorW.PrintWords Go.Proofs.YtnglmibicdjhcaaDoorW.PrintLast Go.Proofs.YtnglmibicdjhcaaDoorW.PrintMore Go.Proofs.YtnglmibicdjhcaaDoor.Base Go.Proofs.YtnglmibicdjhcaaDoor.Q
set_option linter.unusedVariables false
theorem putL_add (n s m : Nat) : putL n (s + m) = putL n s ++ putL (n / 256 ^ s) m := by
  induction s generalizing n with
  | zero => simp [putL]
  | succ s ih => rw [Nat.add_right_comm, putL_succ, ih, putL_succ, List.cons_append, Nat.div_div_eq_div_mul, Nat.pow_succ, Nat.mul_comm 256]
theorem putL_zero (m : Nat) : putL 0 m = List.replicate m 0 := by
  induction m with
  | zero => rfl
  | succ m ih => rw [putL_succ, List.replicate_succ]; simp [ih]
theorem putL_wide (n s m : Nat) (h : n < 256 ^ s) : putL n (s + m) = putL n s ++ List.replicate m 0 := by
  rw [putL_add, Nat.div_eq_of_lt h, putL_zero]
theorem LeWide : doorwardlaw01_LeWide.Stm := by
  intro n size more s a hn hs hm hz ha
  obtain ⟨n0, n1⟩ := u64_wf hn
  obtain ⟨a0, a1⟩ := i64_wf ha
  have hs3 : mn (s.size : Int) 3000 = min (s.size : Int) 3000 := mn_eq _ _
  refine ev_ex ?_
  unfold doorwardlaw01_LeWide.f
  simp only [mn_eq, mx_eq]
  have m1 : 0 ≤ min (s.size : Int) 3000 := by omega
  have m2 : min (s.size : Int) 3000 ≤ s.size := by omega
  refine ev_pos m1 (ev_pos m2 ?_)
  obtain ⟨t, ht⟩ : ∃ t, s.extract 0 (min (s.size : Int) 3000).toNat = t := ⟨_, rfl⟩
  have htz : t.size ≤ 3000 := by rw [← ht, size_L, L_extract]; simp; omega
  simp only [ht]
  obtain ⟨z, hz1⟩ : ∃ z : Nat, min (max size 1) 8 = (z : Int) := ⟨(min (max size 1) 8).toNat, by omega⟩
  obtain ⟨y, hy1⟩ : ∃ y : Nat, min ((z : Int) + min (max more 0) 8) 8 = (y : Int) := ⟨(min ((z : Int) + min (max more 0) 8) 8).toNat, by omega⟩
  simp only [hz1, hy1]
  have hz2 : 1 ≤ z ∧ z ≤ 8 ∧ z ≤ y ∧ y ≤ 8 := by omega
  obtain ⟨b, hb1⟩ : ∃ b : Nat, min (max a 0) (t.size : Int) = (b : Int) := ⟨(min (max a 0) (t.size : Int)).toNat, by omega⟩
  have hb2 : b ≤ t.size := by omega
  -- the second half: a place, and the beginning of what stands there
  have J : Ev (fun k => doorwardlaw01_LeWide.j0 k (z : Int) t a false) true := by
    refine ev_succ (g := fun k => doorwardlaw01_LeWide.j0 k (z : Int) t a false) ?_
    simp only [doorwardlaw01_LeWide.j0, mn_eq, mx_eq, hb1]
    refine ev_neg (by decide) ?_
    have hl : L (t.extract b t.size) = (L t).drop b := by rw [L_extract, List.take_of_length_le (by rw [List.length_drop, ← size_L]; omega)]
    have hls : (t.extract b t.size).size = t.size - b := by rw [size_L, hl, List.length_drop, ← size_L]
    by_cases c : (t.size : Int) - b < z
    · refine ev_bind (ev_eq (get_ev t b z (by omega) (by omega) (by omega)) (getS_short (by omega) (.inr c))) ?_
      refine ev_pos (by omega) (ev_pos (by omega) ?_)
      refine ev_bind (ev_eq (get_ev _ 0 z (by omega) (by omega) (by rw [Int.toNat_natCast, hls]; omega)) (getS_short (by omega) (by rw [Int.toNat_natCast, hls]; omega))) ?_
      exact ev_now (by simp)
    · refine ev_bind (ev_eq (get_ev t b z (by omega) (by omega) (by omega)) (getS_ok (by omega) (by omega))) ?_
      refine ev_pos (by omega) (ev_pos (by omega) ?_)
      refine ev_bind (ev_eq (get_ev _ 0 z (by omega) (by omega) (by rw [Int.toNat_natCast, hls]; omega)) (getS_ok (by omega) (by rw [Int.toNat_natCast, hls]; omega))) ?_
      refine ev_now ?_
      have hw : wrap64 (0 + (z : Int) + (b : Int)) = (b : Int) + z := by rw [wrap64_id (by omega) (by omega)]; omega
      simp only [Int.toNat_natCast, hl, Int.toNat_zero, List.drop_zero, hw, if_true, beq_self_eq_true]
  by_cases c : n.toNat ≥ 256 ^ z
  · have e1 : putS n (z : Int) = (⟨#[]⟩, 1) := by unfold putS; rw [if_pos (.inr (.inr (by rw [Int.toNat_natCast]; exact c)))]
    refine ev_bind (ev_eq (put_ev n z n0 n1) e1) ?_
    refine ev_bind (put_ev n y n0 n1) ?_
    refine ev_neg (by decide) ?_
    exact ev_bind alive_ev J
  · have hlt : n.toNat < 256 ^ z := Nat.not_le.1 c
    have hle : 256 ^ z ≤ 256 ^ y := Nat.pow_le_pow_right (by decide) hz2.2.2.1
    have e1 : putS n (z : Int) = (B (putL n.toNat z), 0) := by
      unfold putS; rw [if_neg (by rw [Int.toNat_natCast]; rintro (h | h | h); · omega
                                  · omega
                                  · exact c h)]; rfl
    have e2 : putS n (y : Int) = (B (putL n.toNat y), 0) := by
      unfold putS; rw [if_neg (by rw [Int.toNat_natCast]; rintro (h | h | h); · omega
                                  · omega
                                  · exact absurd (Nat.lt_of_lt_of_le hlt hle) (Nat.not_lt.2 h))]; rfl
    refine ev_bind (ev_eq (put_ev n z n0 n1) e1) ?_
    refine ev_bind (ev_eq (put_ev n y n0 n1) e2) ?_
    refine ev_pos rfl (ev_pos rfl ?_)
    have q1 : (B (putL n.toNat z)).size = z := by rw [size_B, putL_length]
    have q2 : (B (putL n.toNat y)).size = y := by rw [size_B, putL_length]
    refine ev_some (trim_eq _ (by rw [q1]; omega)) ?_
    refine ev_some (trim_eq _ (by rw [q2]; omega)) ?_
    have e3 : trimS (B (putL n.toNat y)) = trimS (B (putL n.toNat z)) := by
      unfold trimS
      rw [L_B, L_B, show y = z + (y - z) by omega, putL_wide _ _ _ hlt, trimL_zeros]
    refine ev_pos (by rw [e3]) (ev_pos (by rw [q2]) ?_)
    exact ev_bind alive_ev J
end Go.Proofs.YtnglmibicdjhcaaDoor.Pure
