/- le.Put and le.Get (numbers as bytes) answer what the plain words say. -/
import Derived.Test.YtnglmibicdjhcaaDoorLePlain
import Derived.Test.YtnglmibicdjhcaaDoorQx2
import Derived.Test.YtnglmibicdjhcaaDoorQx6
namespace Go.Proofs.YtnglmibicdjhcaaDoor.Q
open Go.RowKit Go.Proofs.YtnglmibicdjhcaaDoorW.PrintWords Go.Proofs.YtnglmibicdjhcaaDoorW.PrintLast Go.Proofs.YtnglmibicdjhcaaDoorW.PrintMore Go.Proofs.YtnglmibicdjhcaaDoor.Base
set_option linter.unusedVariables false

theorem put_l0 (n size : Int) (h0 : 0 ≤ n) (h1 : n < 18446744073709551616) (h8 : size ≤ 8) (d : Nat) : ∀ (k : Nat) (i : Int) (xs : List Int), 0 ≤ i → size - i = d → xs.length = size.toNat → d < k →
    le_Put.l0 k n xs size i = some (strOfNums (xs.take i.toNat ++ numL (n.toNat / 256 ^ i.toNat) d), 0) := by
  induction d with
  | zero =>
    intro k i xs hi hd hx hk
    obtain ⟨k, rfl⟩ : ∃ m, k = m + 1 := ⟨k - 1, by omega⟩
    simp only [le_Put.l0]
    rw [if_neg (by omega), List.take_of_length_le (by omega)]
    simp [numL]
  | succ d ih =>
    intro k i xs hi hd hx hk
    obtain ⟨k, rfl⟩ : ∃ m, k = m + 1 := ⟨k - 1, by omega⟩
    have hw : wrap64 (8 * i) = 8 * i := wrap64_id (by omega) (by omega)
    have hw1 : wrap64 (i + 1) = i + 1 := wrap64_id (by omega) (by omega)
    simp only [le_Put.l0]
    rw [hw, hw1, if_pos (by omega), if_pos (by omega), if_pos hi, if_pos (by omega)]
    rw [ih k (i + 1) _ (by omega) (by omega) (by rw [List.length_set]; exact hx) (by omega)]
    rw [shr_byte n i h0 hi (by omega), show (i + 1).toNat = i.toNat + 1 by omega, take_set_succ _ _ _ (by omega), List.append_assoc, List.singleton_append, numL_succ, Nat.pow_succ, Nat.div_div_eq_div_mul]

theorem put_ev (n size : Int) (h0 : 0 ≤ n) (h1 : n < 18446744073709551616) : Ev (fun k => le_Put.f k n size) (putS n size) := by
  unfold putS
  by_cases c1 : size < 1
  · rw [if_pos (.inl c1)]
    refine ev_from 1 fun k hk => ?_
    obtain ⟨k, rfl⟩ : ∃ m, k = m + 1 := ⟨k - 1, by omega⟩
    unfold le_Put.f; rw [if_pos c1]; simp only [le_Put.j0, if_true]
  by_cases c2 : size > 8
  · rw [if_pos (.inr (.inl c2))]
    refine ev_from 1 fun k hk => ?_
    obtain ⟨k, rfl⟩ : ∃ m, k = m + 1 := ⟨k - 1, by omega⟩
    unfold le_Put.f; rw [if_neg c1, if_pos c2]; simp only [le_Put.j0, if_true]
  have key : ∀ k, le_Put.f k n size = le_Put.j0 k n size (decide (n.toNat ≥ 256 ^ size.toNat)) := by
    intro k
    unfold le_Put.f
    rw [if_neg c1, if_neg c2]
    by_cases c3 : size < 8
    · rw [if_pos c3, wrap64_id (by omega) (by omega), if_pos (by omega), shr_zero n size h0 (by omega) (by omega)]
    · obtain rfl : size = 8 := by omega
      rw [if_neg (by omega), decide_eq_false (by have : (256 : Nat) ^ (8 : Int).toNat = 18446744073709551616 := by decide
                                                 omega)]
  by_cases c3 : n.toNat ≥ 256 ^ size.toNat
  · rw [if_pos (.inr (.inr c3))]
    refine ev_from 1 fun k hk => ?_
    obtain ⟨k, rfl⟩ : ∃ m, k = m + 1 := ⟨k - 1, by omega⟩
    rw [key, decide_eq_true c3]; simp only [le_Put.j0, if_true]
  · rw [if_neg (by omega)]
    refine ev_from (size.toNat + 3) fun k hk => ?_
    obtain ⟨k, rfl⟩ : ∃ m, k = m + 1 := ⟨k - 1, by omega⟩
    rw [key, decide_eq_false c3]; simp only [le_Put.j0]
    rw [if_neg (by decide), if_pos (by omega), if_pos (by omega), put_l0 n size h0 h1 (by omega) size.toNat k 0 _ (by omega) (by omega) (by simp) (by omega)]
    simp [strOfNums_numL]

theorem get_l0 (s : ByteArray) (a size : Int) (ha : 0 ≤ a) (h8 : size ≤ 8) (hs : a + size ≤ s.size) (hz : s.size ≤ 140737488355328) (d : Nat) : ∀ (k : Nat) (i : Int), 0 ≤ i → size - i = d → d < k →
    le_Get.l0 k s a size ((getL (((L s).drop a.toNat).take i.toNat) : Nat) : Int) size i = some (((getL (((L s).drop a.toNat).take size.toNat) : Nat) : Int), a + size, 0) := by
  induction d with
  | zero =>
    intro k i hi hd hk
    obtain ⟨k, rfl⟩ : ∃ m, k = m + 1 := ⟨k - 1, by omega⟩
    obtain rfl : i = size := by omega
    simp only [le_Get.l0]
    rw [if_neg (by omega), wrap64_id (by omega) (by omega)]
  | succ d ih =>
    intro k i hi hd hk
    obtain ⟨k, rfl⟩ : ∃ m, k = m + 1 := ⟨k - 1, by omega⟩
    have hw : wrap64 (8 * i) = 8 * i := wrap64_id (by omega) (by omega)
    have hw1 : wrap64 (i + 1) = i + 1 := wrap64_id (by omega) (by omega)
    have hw2 : wrap64 (a + i) = a + i := wrap64_id (by omega) (by omega)
    have hsz := size_L s
    have hlt : (a + i).toNat < s.size := by omega
    have hb := bt_L s (a + i) hlt
    have hb2 := bt_range s (a + i)
    simp only [le_Get.l0]
    rw [hw, hw1, hw2, if_pos (by omega), if_pos (by omega), if_pos (by omega), if_pos (by omega), wrap_u64_id (by omega) (by omega), hb]
    have hlen : (((L s).drop a.toNat).take i.toNat).length = i.toNat := by simp; omega
    have hacc := getL_lt (((L s).drop a.toNat).take i.toNat)
    rw [hlen] at hacc
    rw [or_byte _ _ i hi (by omega) hacc (UInt8.toNat_lt _)]
    have e : ((L s).drop a.toNat).take (i + 1).toNat = ((L s).drop a.toNat).take i.toNat ++ [(L s)[(a + i).toNat]'(by rw [← hsz]; exact hlt)] := by
      rw [show (i + 1).toNat = i.toNat + 1 by omega, List.take_succ_eq_append_getElem (by simp; omega)]
      congr 2
      rw [List.getElem_drop]
      congr 1; omega
    have e2 := getL_snoc (((L s).drop a.toNat).take i.toNat) ((L s)[(a + i).toNat]'(by rw [← hsz]; exact hlt))
    rw [hlen, ← e] at e2
    rw [← e2]
    exact ih k (i + 1) (by omega) (by omega) (by omega)

theorem get_ev (s : ByteArray) (a size : Int) (h0 : -9223372036854775808 ≤ a) (h1 : a < 9223372036854775808) (hz : s.size ≤ 140737488355328) : Ev (fun k => le_Get.f k s a size) (getS s a size) := by
  unfold getS
  by_cases c : size < 1 ∨ size > 8 ∨ a < 0
  · rw [if_pos c]
    refine ev_from 1 fun k hk => ?_
    obtain ⟨k, rfl⟩ : ∃ m, k = m + 1 := ⟨k - 1, by omega⟩
    unfold le_Get.f
    by_cases c1 : size < 1
    · rw [if_pos c1]; simp only [le_Get.j0, if_true]
    by_cases c2 : size > 8
    · rw [if_neg c1, if_pos c2]; simp only [le_Get.j0, if_true]
    rw [if_neg c1, if_neg c2, decide_eq_true (by omega : a < 0)]; simp only [le_Get.j0, if_true]
  · rw [if_neg c]
    have key : ∀ k, le_Get.f k s a size = le_Get.j0 k s a size false := by
      intro k; unfold le_Get.f
      rw [if_neg (by omega), if_neg (by omega), decide_eq_false (by omega)]
    by_cases c1 : a > s.size
    · rw [if_pos (.inl c1)]
      refine ev_from 1 fun k hk => ?_
      obtain ⟨k, rfl⟩ : ∃ m, k = m + 1 := ⟨k - 1, by omega⟩
      rw [key]; simp only [le_Get.j0]
      rw [if_neg (by decide), if_pos c1]
    have hw : wrap64 ((s.size : Int) - a) = (s.size : Int) - a := wrap64_id (by omega) (by omega)
    by_cases c2 : (s.size : Int) - a < size
    · rw [if_pos (.inr c2)]
      refine ev_from 1 fun k hk => ?_
      obtain ⟨k, rfl⟩ : ∃ m, k = m + 1 := ⟨k - 1, by omega⟩
      rw [key]; simp only [le_Get.j0]
      rw [if_neg (by decide), if_neg c1, hw, if_pos c2]
    · rw [if_neg (by omega)]
      refine ev_from (size.toNat + 3) fun k hk => ?_
      obtain ⟨k, rfl⟩ : ∃ m, k = m + 1 := ⟨k - 1, by omega⟩
      rw [key]; simp only [le_Get.j0]
      rw [if_neg (by decide), if_neg c1, hw, if_neg c2]
      exact get_l0 s a size (by omega) (by omega) (by omega) hz size.toNat k 0 (by omega) (by omega) (by omega)
end Go.Proofs.YtnglmibicdjhcaaDoor.Q
