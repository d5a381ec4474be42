/- Layer 1 in plain words: numbers as bytes, texts with their length ahead. No program in it. -/
import Derived.Test.YtniplmjbligmlaaDoorBase
namespace Go.Proofs.YtniplmjbligmlaaDoor.Base
open Go.RowKit Go.Proofs.YtniplmjbligmlaaDoorW.PrintWords Go.Proofs.YtniplmjbligmlaaDoorW.PrintLast Go.Proofs.YtniplmjbligmlaaDoorW.PrintMore
set_option linter.unusedVariables false

def shortS (a : ByteArray) : ByteArray := a.extract 0 (min (a.size : Int) 70000).toNat
/-- a number's bytes, as numbers -/
def numL (n : Nat) : Nat → List Int
  | 0 => []
  | s + 1 => ((n % 256 : Nat) : Int) :: numL (n / 256) s
theorem numL_succ (n s : Nat) : numL n (s + 1) = ((n % 256 : Nat) : Int) :: numL (n / 256) s := rfl
/-- a number in so many bytes, the lowest one first -/
def putL (n : Nat) : Nat → List UInt8
  | 0 => []
  | s + 1 => UInt8.ofNat (n % 256) :: putL (n / 256) s
theorem putL_succ (n s : Nat) : putL n (s + 1) = UInt8.ofNat (n % 256) :: putL (n / 256) s := rfl
/-- the number that bytes make -/
def getL : List UInt8 → Nat
  | [] => 0
  | b :: r => b.toNat + 256 * getL r
theorem strOfNums_numL (n s : Nat) : strOfNums (numL n s) = B (putL n s) := by
  apply L_inj; rw [L_strOfNums, L_B]
  induction s generalizing n with
  | zero => rfl
  | succ s ih =>
    simp only [numL, putL, List.map_cons, ih]
    rw [show ((n % 256 : Nat) : Int).toNat = n % 256 by omega]
theorem putL_length (n s : Nat) : (putL n s).length = s := by
  induction s generalizing n with
  | zero => rfl
  | succ s ih => simp [putL, ih]
theorem getL_putL (n s : Nat) : getL (putL n s) = n % 256 ^ s := by
  induction s generalizing n with
  | zero => simp [putL, getL, Nat.mod_one]
  | succ s ih =>
    simp only [putL, getL, ih]
    have e : (UInt8.ofNat (n % 256)).toNat = n % 256 := by simp
    rw [e, Nat.pow_succ, Nat.mul_comm (256 ^ s) 256, Nat.mod_mul]
theorem getL_lt (l : List UInt8) : getL l < 256 ^ l.length := by
  induction l with
  | nil => simp [getL]
  | cons b r ih =>
    simp only [getL, List.length_cons, Nat.pow_succ]
    have := b.toNat_lt
    have e : 256 ^ r.length * 256 = 256 * 256 ^ r.length := Nat.mul_comm _ _
    omega
theorem putL_getL (l : List UInt8) : putL (getL l) l.length = l := by
  induction l with
  | nil => rfl
  | cons b r ih =>
    have h := b.toNat_lt
    simp only [List.length_cons, putL, getL]
    rw [show (b.toNat + 256 * getL r) % 256 = b.toNat by omega, show (b.toNat + 256 * getL r) / 256 = getL r by omega, ih]
    simp
theorem getL_append (l m : List UInt8) : getL (l ++ m) = getL l + 256 ^ l.length * getL m := by
  induction l with
  | nil => simp [getL]
  | cons b r ih => simp only [List.cons_append, getL, ih, List.length_cons, Nat.pow_succ]; rw [Nat.mul_add, ← Nat.mul_assoc, Nat.mul_comm 256 (256 ^ r.length)]; omega
theorem take_set_succ {α : Type} (xs : List α) (i : Nat) (v : α) (h : i < xs.length) : (xs.set i v).take (i + 1) = xs.take i ++ [v] := by
  rw [List.take_succ_eq_append_getElem (by simpa using h), List.take_set_of_le (Nat.le_refl _)]; simp
theorem pow256 (i : Nat) : (2 : Nat) ^ (8 * i) = 256 ^ i := by rw [Nat.pow_mul]
theorem shr_div (n i : Int) (h0 : 0 ≤ n) (hi : 0 ≤ i) (h8 : i ≤ 8) : shr .u64 n (8 * i) = ((n.toNat / 256 ^ i.toNat : Nat) : Int) := by
  obtain ⟨n, rfl⟩ := Int.eq_ofNat_of_zero_le h0
  obtain ⟨i, rfl⟩ := Int.eq_ofNat_of_zero_le hi
  unfold shr
  rw [show min (8 * (i : Int)).toNat IntKind.u64.bits = 8 * i by simp [IntKind.bits]; omega]
  simp only [Int.toNat_natCast]
  rw [← pow256]; simp
theorem shr_byte (n i : Int) (h0 : 0 ≤ n) (hi : 0 ≤ i) (h8 : i ≤ 8) : shr .u64 n (8 * i) % 256 = ((n.toNat / 256 ^ i.toNat % 256 : Nat) : Int) := by
  rw [shr_div n i h0 hi h8]; simp
theorem shr_zero (n i : Int) (h0 : 0 ≤ n) (hi : 0 ≤ i) (h8 : i ≤ 8) : (shr .u64 n (8 * i) != 0) = decide (n.toNat ≥ 256 ^ i.toNat) := by
  rw [shr_div n i h0 hi h8]
  have hp : 0 < 256 ^ i.toNat := Nat.pow_pos (by decide)
  rw [Bool.eq_iff_iff]
  simp only [bne_iff_ne, ne_eq, decide_eq_true_eq]
  rw [show (((n.toNat / 256 ^ i.toNat : Nat) : Int) = 0) ↔ n.toNat / 256 ^ i.toNat = 0 by omega, Nat.div_eq_zero_iff]
  omega
/-- 'le.Put' -/
def putS (n size : Int) : ByteArray × Int := if size < 1 ∨ size > 8 ∨ n.toNat ≥ 256 ^ size.toNat then (⟨#[]⟩, 1) else (B (putL n.toNat size.toNat), 0)
/-- 'le.Get' -/
def getS (s : ByteArray) (at_ size : Int) : Int × Int × Int :=
  if size < 1 ∨ size > 8 ∨ at_ < 0 then (0, 0, 1) else if at_ > s.size ∨ s.size - at_ < size then (0, 0, 3) else (getL (((L s).drop at_.toNat).take size.toNat), at_ + size, 0)
theorem getS_arg {s : ByteArray} {a size : Int} (h : size < 1 ∨ size > 8 ∨ a < 0) : getS s a size = (0, 0, 1) := by unfold getS; rw [if_pos h]
theorem getS_short {s : ByteArray} {a size : Int} (h : ¬ (size < 1 ∨ size > 8 ∨ a < 0)) (h2 : a > s.size ∨ (s.size : Int) - a < size) : getS s a size = (0, 0, 3) := by unfold getS; rw [if_neg h, if_pos h2]
theorem getS_ok {s : ByteArray} {a size : Int} (h : ¬ (size < 1 ∨ size > 8 ∨ a < 0)) (h2 : ¬ (a > s.size ∨ (s.size : Int) - a < size)) : getS s a size = (((getL (((L s).drop a.toNat).take size.toNat) : Nat) : Int), a + size, 0) := by unfold getS; rw [if_neg h, if_neg h2]
/-- 'le.Text' -/
def textS (s : ByteArray) : ByteArray × Int := if (s.size : Int) > 65535 then (⟨#[]⟩, 2) else (B (putL s.size 2 ++ L s), 0)
/-- 'le.Cut' -/
def cutS (s : ByteArray) (at_ : Int) : ByteArray × Int × Int :=
  if at_ < 0 then (⟨#[]⟩, 0, 1) else if at_ > s.size ∨ (s.size : Int) - at_ < 2 then (⟨#[]⟩, 0, 3)
  else if at_ + 2 + getL (((L s).drop at_.toNat).take 2) > s.size then (⟨#[]⟩, 0, 3)
  else (s.extract (at_ + 2).toNat (at_ + 2 + getL (((L s).drop at_.toNat).take 2)).toNat, at_ + 2 + getL (((L s).drop at_.toNat).take 2), 0)
theorem bits_or_comm (k : IntKind) (x y : Int) : Go.bits .or k x y = Go.bits .or k y x := by
  unfold Go.bits; simp only [BitVec.or_comm]
/-- a byte put on top -/
theorem or_byte (acc b : Nat) (i : Int) (hi : 0 ≤ i) (h8 : i < 8) (ha : acc < 256 ^ i.toNat) (hb : b < 256) :
    Go.bits .or .u64 (acc : Int) (shl .u64 (b : Int) (8 * i)) = ((acc + 256 ^ i.toNat * b : Nat) : Int) := by
  obtain ⟨i, rfl⟩ := Int.eq_ofNat_of_zero_le hi
  have h7 : i ≤ 7 := by omega
  simp only [Int.toNat_natCast] at ha ⊢
  have hle : 256 ^ i * b + 256 ^ i ≤ 256 ^ 8 := by
    have h1 : 256 ^ i * (b + 1) ≤ 256 ^ 7 * 256 := Nat.mul_le_mul (Nat.pow_le_pow_right (by decide) h7) (by omega)
    rw [Nat.mul_add, Nat.mul_one] at h1
    exact h1
  have e8 : (256 : Nat) ^ 8 = 18446744073709551616 := by decide
  have e64 : ((2 : Int) ^ 64) = 18446744073709551616 := by decide
  have ep : ((2 : Int) ^ (8 * i)) = ((256 ^ i : Nat) : Int) := by rw [← pow256]; simp
  have hs : shl .u64 (b : Int) (8 * (i : Int)) = ((256 ^ i * b : Nat) : Int) := by
    unfold shl
    rw [show min (8 * (i : Int)).toNat IntKind.u64.bits = 8 * i by simp [IntKind.bits]; omega]
    have : ((b : Int) * 2 ^ (8 * i)) = ((256 ^ i * b : Nat) : Int) := by rw [ep, Int.mul_comm, Int.natCast_mul]
    rw [this, wrap_u64_id (by omega) (by omega)]
  rw [hs, bits_or_comm]
  have hlt : ((256 ^ i * b : Nat) : Int) < 2 ^ 64 := by rw [e64]; omega
  have hlt2 : ((acc : Nat) : Int) < 2 ^ (8 * i) := by rw [ep]; omega
  have hlt3 : ((acc : Nat) : Int) < 2 ^ 64 := by rw [e64]; omega
  have hm : ((256 ^ i * b : Nat) : Int) % 2 ^ (8 * i) = 0 := by rw [ep, Int.natCast_mul]; exact Int.mul_emod_right _ _
  rw [Go.bits_join .u64 64 (by decide) (fun n h h' => wrap_u64_id h (by simpa using h')) (8 * i) _ _ (by omega) hm hlt (by omega) hlt2 hlt3]
  omega
theorem getL_snoc (l : List UInt8) (b : UInt8) : getL (l ++ [b]) = getL l + 256 ^ l.length * b.toNat := by
  rw [getL_append]; simp [getL]
theorem textS_ok {s : ByteArray} (h : s.size ≤ 65535) : textS s = (B (putL s.size 2 ++ L s), 0) := by unfold textS; rw [if_neg (by omega)]
theorem cutS_row {s : ByteArray} {a : Nat} {l m r : List UInt8} (h : L s = l ++ (putL m.length 2 ++ m) ++ r) (ha : l.length = a) (hm : m.length ≤ 65535) :
    cutS s a = (B m, (a : Int) + 2 + (m.length : Int), 0) := by
  subst ha
  have hlen : s.size = l.length + (2 + m.length) + r.length := by rw [size_L, h]; simp [putL_length]; omega
  have hd : ((L s).drop (l.length : Int).toNat).take 2 = putL m.length 2 := by
    rw [h, Int.toNat_natCast, List.append_assoc, List.drop_left, List.append_assoc, List.take_append_of_le_length (by rw [putL_length]; omega), List.take_of_length_le (by rw [putL_length]; omega)]
  have hg : getL (putL m.length 2) = m.length := by rw [getL_putL]; exact Nat.mod_eq_of_lt (by omega)
  unfold cutS
  rw [if_neg (by omega), if_neg (by omega), hd, hg, if_neg (by omega)]
  refine Prod.ext ?_ rfl
  apply L_inj
  rw [L_extract, L_B, h, show ((l.length : Int) + 2).toNat = l.length + 2 by omega]
  rw [show ((l.length : Int) + 2 + m.length).toNat - (l.length + 2) = m.length by omega]
  rw [List.append_assoc, ← List.drop_drop, List.drop_left, List.append_assoc, List.drop_append_of_le_length (by rw [putL_length]; omega), List.drop_of_length_le (by rw [putL_length]; omega), List.nil_append, List.take_left]
end Go.Proofs.YtniplmjbligmlaaDoor.Base
