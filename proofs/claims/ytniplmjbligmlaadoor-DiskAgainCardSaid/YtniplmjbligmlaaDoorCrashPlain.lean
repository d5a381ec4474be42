/- disk.Crash in plain words: the kept writes, one behind the other. -/
import Derived.Test.YtniplmjbligmlaaDoorHDiskA
import Derived.Test.YtniplmjbligmlaaDoorHClone
import Derived.Test.YtniplmjbligmlaaDoorQx6
namespace Go.Proofs.YtniplmjbligmlaaDoor.Q
open Go.RowKit Go.Proofs.YtniplmjbligmlaaDoorW.PrintWords Go.Proofs.YtniplmjbligmlaaDoorW.PrintLast Go.Proofs.YtniplmjbligmlaaDoorW.PrintMore Go.Proofs.YtniplmjbligmlaaDoor.Base
set_option linter.unusedVariables false
def crashL : List S42 → List Bool → List ByteArray → List ByteArray
  | [], _, s => s
  | _ :: _, [], s => s
  | x :: xs, b :: bs, s => crashL xs bs (if b = true then s.set x.f0.toNat x.f1 else s)
theorem crashL_length : ∀ (xs : List S42) (bs : List Bool) (s : List ByteArray), (crashL xs bs s).length = s.length
  | [], _, _ => rfl
  | _ :: _, [], _ => rfl
  | x :: xs, b :: bs, s => by
    unfold crashL; rw [crashL_length xs bs]; split <;> simp
theorem not_bad {n : Nat} {x : S42} (h : badW n x = false) : 0 ≤ x.f0 ∧ x.f0 < (n : Int) ∧ standsB x.f1 = true := by
  unfold badW hasB at h
  simp only [Bool.or_eq_false_iff, Bool.not_eq_false', Bool.and_eq_true, decide_eq_true_eq] at h
  exact ⟨h.1.1, h.1.2, h.2⟩
theorem right_parts {l0 : List ByteArray} {l1 : List S42} (h : rightB l0 l1 = true) : 1 ≤ l0.length ∧ l0.length ≤ 256 ∧ (∀ s ∈ l0, standsB s = true) ∧ ∀ x ∈ l1, badW l0.length x = false := by
  unfold rightB at h
  simp only [Bool.and_eq_true, decide_eq_true_eq, Bool.not_eq_true', List.all_eq_true, List.any_eq_false] at h
  exact ⟨h.1.1.1, h.1.1.2, h.1.2, fun x hx => by simpa using h.2 x hx⟩
theorem rdB_at (l : List Bool) (k : Nat) (h : k < l.length) : rdOf false l (k : Int) = l[k] := by
  simp [rdOf, List.getD_eq_getElem?_getD, List.getElem?_eq_getElem h]
theorem crash_l0 (n : Nat) : ∀ (k i : Nat) (l1 : List S42) (keep : List Bool) (s : List ByteArray), l1.length - i = n → i ≤ l1.length → l1.length ≤ 4294967295 → (∀ x ∈ l1, badW s.length x = false) → n < k →
    disk_Crash.l0 k keep l1 (l1.length : Int) (i : Int) s = some (crashL (l1.drop i) (keep.drop i) s, [], 0) := by
  induction n with
  | zero =>
    intro k i l1 keep s hn hi hl hb hk
    obtain ⟨k, rfl⟩ : ∃ m, k = m + 1 := ⟨k - 1, by omega⟩
    simp only [disk_Crash.l0]
    rw [if_neg (by omega), (List.drop_eq_nil_of_le (by omega) : l1.drop i = [])]
    rfl
  | succ n ih =>
    intro k i l1 keep s hn hi hl hb hk
    obtain ⟨k, rfl⟩ : ∃ m, k = m + 1 := ⟨k - 1, by omega⟩
    have hlt : i < l1.length := by omega
    have hw : wrap64 ((i : Int) + 1) = ((i + 1 : Nat) : Int) := by rw [wrap64_id (by omega) (by omega)]; omega
    have hx := hb _ (List.getElem_mem hlt)
    obtain ⟨h0, h1, _⟩ := not_bad hx
    simp only [disk_Crash.l0]
    rw [if_pos (by omega), if_pos (by omega), if_pos (by omega), hw, rd_at l1 i hlt, List.drop_eq_getElem_cons hlt]
    by_cases hk2 : i < keep.length
    · rw [if_pos (by omega), List.drop_eq_getElem_cons hk2, rdB_at keep i hk2]
      unfold crashL
      by_cases hb2 : keep[i] = true
      · rw [if_pos hb2, if_pos hb2, if_pos h0, if_pos h1]
        exact ih k (i + 1) l1 keep _ (by omega) (by omega) hl (by rw [List.length_set]; exact hb) (by omega)
      · rw [if_neg hb2, if_neg hb2]
        exact ih k (i + 1) l1 keep _ (by omega) (by omega) hl hb (by omega)
    · rw [if_neg (by omega), (List.drop_eq_nil_of_le (by omega) : keep.drop i = [])]
      have h := ih k (i + 1) l1 keep s (by omega) (by omega) hl hb (by omega)
      rw [(List.drop_eq_nil_of_le (by omega) : keep.drop (i + 1) = [])] at h
      rw [h]
      cases hd : l1.drop (i + 1) <;> rfl
theorem crash_right (k : Nat) (l0 : List ByteArray) (l1 : List S42) (keep : List Bool) (h : rightB l0 l1 = true) (hl : l1.length ≤ 4294967295) (hk : l1.length < k) : disk_Crash.f k l0 l1 keep = some (crashL l1 keep l0, [], 0) := by
  obtain ⟨h1, h2, _, h4⟩ := right_parts h
  unfold disk_Crash.f disk_Right.f
  rw [h]
  simp only [Option.bind_some, if_true]
  unfold slices_Clone_string_string.f
  rw [if_pos (by omega)]
  exact crash_l0 l1.length k 0 l1 keep l0 (by omega) (by omega) hl h4 hk
theorem crash_wrong (k : Nat) (l0 : List ByteArray) (l1 : List S42) (keep : List Bool) (h : rightB l0 l1 = false) : disk_Crash.f k l0 l1 keep = some ([], [], 1) := by
  unfold disk_Crash.f disk_Right.f
  rw [h]
  rfl
end Go.Proofs.YtniplmjbligmlaaDoor.Q
