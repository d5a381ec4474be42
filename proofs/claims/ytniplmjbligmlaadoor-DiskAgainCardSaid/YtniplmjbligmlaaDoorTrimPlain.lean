/- Zero bytes taken off the end, and put there, in plain words. No program in it. -/
import Derived.Test.YtniplmjbligmlaaDoorLePlain
namespace Go.Proofs.YtniplmjbligmlaaDoor.Base
open Go.RowKit Go.Proofs.YtniplmjbligmlaaDoorW.PrintWords Go.Proofs.YtniplmjbligmlaaDoorW.PrintLast Go.Proofs.YtniplmjbligmlaaDoorW.PrintMore
set_option linter.unusedVariables false

def trimL (l : List UInt8) : List UInt8 := (l.reverse.dropWhile (· == 0)).reverse
def trimS (s : ByteArray) : ByteArray := B (trimL (L s))
/-- 'le.Fill' -/
def fillS (s : ByteArray) (size : Int) : ByteArray × Int := if (s.size : Int) > size then (⟨#[]⟩, 2) else (B (L s ++ List.replicate (size.toNat - s.size) 0), 0)
theorem trimL_nil : trimL [] = [] := rfl
theorem trimL_zero (l : List UInt8) : trimL (l ++ [0]) = trimL l := by simp [trimL]
theorem trimL_other (l : List UInt8) (b : UInt8) (h : b ≠ 0) : trimL (l ++ [b]) = l ++ [b] := by simp [trimL, h]
theorem trimL_zeros (l : List UInt8) (n : Nat) : trimL (l ++ List.replicate n 0) = trimL l := by
  induction n with
  | zero => simp
  | succ n ih => rw [List.replicate_succ', ← List.append_assoc, trimL_zero, ih]
theorem snoc_cases {α : Type} (l : List α) : l = [] ∨ ∃ m b, l = m ++ [b] := by
  rcases List.eq_nil_or_concat l with h | ⟨m, b, h⟩
  · exact .inl h
  · exact .inr ⟨m, b, by simpa using h⟩
theorem trimL_idem (l : List UInt8) : trimL (trimL l) = trimL l := by
  generalize hn : l.length = n
  induction n generalizing l with
  | zero => rw [List.eq_nil_of_length_eq_zero hn]; rfl
  | succ n ih =>
    rcases snoc_cases l with rfl | ⟨m, b, rfl⟩
    · rfl
    by_cases hb : b = 0
    · subst hb; rw [trimL_zero]; exact ih m (by simpa using hn)
    · rw [trimL_other m b hb, trimL_other m b hb]
/-- what is trimmed is the beginning, and behind it stand zero bytes -/
theorem trimL_split (l : List UInt8) : l = trimL l ++ List.replicate (l.length - (trimL l).length) 0 ∧ (trimL l).length ≤ l.length := by
  generalize hn : l.length = n
  induction n generalizing l with
  | zero => rw [List.eq_nil_of_length_eq_zero hn]; simp [trimL]
  | succ n ih =>
    rcases snoc_cases l with rfl | ⟨m, b, rfl⟩
    · simp at hn
    have hm : m.length = n := by simpa using hn
    by_cases hb : b = 0
    · subst hb
      obtain ⟨h1, h2⟩ := ih m hm
      rw [trimL_zero]
      refine ⟨?_, by omega⟩
      rw [show n + 1 - (trimL m).length = (n - (trimL m).length) + 1 by omega, List.replicate_succ', ← List.append_assoc, ← h1]
    · rw [trimL_other m b hb]; simp [hm]
theorem trimL_last (l : List UInt8) (h : trimL l ≠ []) : ∃ m b, trimL l = m ++ [b] ∧ b ≠ 0 := by
  generalize hn : l.length = n
  induction n generalizing l with
  | zero => rw [List.eq_nil_of_length_eq_zero hn] at h; exact absurd rfl h
  | succ n ih =>
    rcases snoc_cases l with rfl | ⟨m, b, rfl⟩
    · exact absurd rfl h
    by_cases hb : b = 0
    · subst hb; rw [trimL_zero] at h ⊢; exact ih m h (by simpa using hn)
    · exact ⟨m, b, trimL_other m b hb, hb⟩
theorem trimS_size (s : ByteArray) : (trimS s).size ≤ s.size := by
  unfold trimS; rw [size_B, size_L]; exact (trimL_split (L s)).2
theorem trimS_idem (s : ByteArray) : trimS (trimS s) = trimS s := by unfold trimS; rw [L_B, trimL_idem]
theorem byte_zero (b : UInt8) : (b.toNat : Int) = 0 ↔ b = 0 := by
  constructor
  · intro h; apply UInt8.toNat_inj.1; simpa using h
  · rintro rfl; rfl
theorem L_take_pred (s : ByteArray) (m : List UInt8) (b : UInt8) (h : L s = m ++ [b]) : L (s.extract 0 (s.size - 1)) = m ∧ bt s ((s.size : Int) - 1) = (b.toNat : Int) := by
  have hsz : s.size = m.length + 1 := by rw [size_L, h]; simp
  refine ⟨?_, ?_⟩
  · rw [L_extract, h, List.drop_zero, Nat.sub_zero, hsz, Nat.add_sub_cancel, List.take_left]
  · have hlt : ((s.size : Int) - 1).toNat < s.size := by omega
    rw [bt_L s _ hlt]
    have e : ((s.size : Int) - 1).toNat = m.length := by omega
    congr 2
    simp only [e, h]
    simp
end Go.Proofs.YtniplmjbligmlaaDoor.Base
