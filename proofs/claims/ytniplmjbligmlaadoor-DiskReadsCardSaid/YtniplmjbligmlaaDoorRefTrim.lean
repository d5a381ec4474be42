/- The reference's Trim answers what the plain words say. -/
import Derived.Test.YtniplmjbligmlaaDoorTrimPlain
import Derived.Test.YtniplmjbligmlaaDoorQx4
namespace Go.Proofs.YtniplmjbligmlaaDoor.Q
open Go.RowKit Go.Proofs.YtniplmjbligmlaaDoorW.PrintWords Go.Proofs.YtniplmjbligmlaaDoorW.PrintLast Go.Proofs.YtniplmjbligmlaaDoorW.PrintMore Go.Proofs.YtniplmjbligmlaaDoor.Base
set_option linter.unusedVariables false
theorem reftrim_l0 (s : ByteArray) (hz : s.size ≤ 140737488355328) (n : Nat) : ∀ (k : Nat), n ≤ s.size → n < k → trimL ((L s).take n) = trimL (L s) → doorwardref01_Trim.l0 k s (n : Int) = some (trimS s) := by
  induction n with
  | zero =>
    intro k hn hk ht
    obtain ⟨k, rfl⟩ : ∃ m, k = m + 1 := ⟨k - 1, by omega⟩
    simp only [doorwardref01_Trim.l0]
    rw [if_neg (by omega), if_pos (by omega), if_pos (by omega)]
    congr 1; apply L_inj
    unfold trimS; rw [L_B, ← ht, L_extract]; simp [trimL]
  | succ n ih =>
    intro k hn hk ht
    obtain ⟨k, rfl⟩ : ∃ m, k = m + 1 := ⟨k - 1, by omega⟩
    have hw : wrap64 (((n + 1 : Nat) : Int) - 1) = (n : Int) := by rw [wrap64_id (by omega) (by omega)]; omega
    have hlt : n < (L s).length := by rw [← size_L]; omega
    have htk : (L s).take (n + 1) = (L s).take n ++ [(L s)[n]] := List.take_succ_eq_append_getElem hlt
    have hb : bt s (n : Int) = ((L s)[n].toNat : Int) := bt_L s n (by omega)
    simp only [doorwardref01_Trim.l0]
    rw [if_pos (by omega), hw, if_pos (by omega), if_pos (by omega), hb]
    by_cases h0 : (L s)[n] = 0
    · rw [if_pos ((byte_zero _).2 h0)]
      refine ih k (by omega) (by omega) ?_
      rw [← ht, htk, h0, trimL_zero]
    · rw [if_neg (fun h => h0 ((byte_zero _).1 h)), if_pos (by omega), if_pos (by omega)]
      congr 1; apply L_inj
      unfold trimS; rw [L_B, ← ht, htk, trimL_other _ _ h0, ← htk, L_extract]; rfl
theorem reftrim_ev (s : ByteArray) (hz : s.size ≤ 140737488355328) : Ev (fun k => doorwardref01_Trim.f k s) (trimS s) :=
  ev_from (s.size + 1) fun k hk => reftrim_l0 s hz s.size k (Nat.le_refl _) (by omega) (by rw [List.take_of_length_le (by rw [← size_L]; omega)])
end Go.Proofs.YtniplmjbligmlaaDoor.Q
