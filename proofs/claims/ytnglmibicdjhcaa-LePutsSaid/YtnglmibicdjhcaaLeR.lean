/- The reference of layer 1 (numbers and texts as bytes) answers what the plain words say. -/
import Derived.Test.YtnglmibicdjhcaaLeB
import Derived.Test.YtnglmibicdjhcaaQx1
import Derived.Test.YtnglmibicdjhcaaQx2
import Derived.Test.YtnglmibicdjhcaaQx4
namespace Go.Proofs.Ytnglmibicdjhcaa.Q
open Go.RowKit Go.Proofs.YtnglmibicdjhcaaW.PrintWords Go.Proofs.YtnglmibicdjhcaaW.PrintLast Go.Proofs.YtnglmibicdjhcaaW.PrintMore Go.Proofs.Ytnglmibicdjhcaa.Base
set_option linter.unusedVariables false

theorem bytes_l0 (size : Int) (h8 : size ≤ 8) (d : Nat) : ∀ (k : Nat) (n i : Int) (xs : List Int), 0 ≤ n → n < 18446744073709551616 → 0 ≤ i → size - i = d → xs.length = i.toNat → d < k →
    doorwardref01_Bytes.l0 k n size xs i = some (strOfNums (xs ++ numL n.toNat d), ((n.toNat / 256 ^ d : Nat) : Int)) := by
  induction d with
  | zero =>
    intro k n i xs h0 h1 hi hd hx hk
    obtain ⟨k, rfl⟩ : ∃ m, k = m + 1 := ⟨k - 1, by omega⟩
    simp only [doorwardref01_Bytes.l0]
    rw [if_neg (by omega)]
    simp [numL]; omega
  | succ d ih =>
    intro k n i xs h0 h1 hi hd hx hk
    obtain ⟨k, rfl⟩ : ∃ m, k = m + 1 := ⟨k - 1, by omega⟩
    simp only [doorwardref01_Bytes.l0]
    have hw1 : wrap64 (i + 1) = i + 1 := wrap64_id (by omega) (by omega)
    rw [if_pos (by omega), if_pos (by omega), hw1, Int.tdiv_eq_ediv_of_nonneg h0, Int.tmod_eq_emod_of_nonneg h0, wrap_u64_id (by omega) (by omega)]
    rw [ih k (n / 256) (i + 1) _ (by omega) (by omega) (by omega) (by omega) (by simp; omega) (by omega)]
    have e : (n / 256).toNat = n.toNat / 256 := by omega
    rw [List.append_assoc, List.singleton_append, e, numL_succ, Nat.pow_succ, Nat.mul_comm, ← Nat.div_div_eq_div_mul, show n % 256 % 256 = ((n.toNat % 256 : Nat) : Int) by omega]

theorem bytes_ev (n size : Int) (h0 : 0 ≤ n) (h1 : n < 18446744073709551616) (hs : 0 ≤ size) (h8 : size ≤ 8) :
    Ev (fun k => doorwardref01_Bytes.f k n size) (B (putL n.toNat size.toNat), ((n.toNat / 256 ^ size.toNat : Nat) : Int)) := by
  refine ev_from (size.toNat + 1) fun k hk => ?_
  unfold doorwardref01_Bytes.f
  rw [bytes_l0 size h8 size.toNat k n 0 [] h0 h1 (by omega) (by omega) rfl (by omega), List.nil_append, strOfNums_numL]

theorem refput_ev (n size : Int) (h0 : 0 ≤ n) (h1 : n < 18446744073709551616) : Ev (fun k => doorwardref01_Put.f k n size) (putS n size) := by
  unfold putS
  refine ev_succ ?_
  by_cases c1 : size < 1 ∨ size > 8
  · rw [if_pos (by omega)]
    refine ev_fun (ev_now rfl) fun k => ?_
    unfold doorwardref01_Put.f
    by_cases c : size < 1
    · rw [if_pos c]; simp only [doorwardref01_Put.j0, if_true]
    · rw [if_neg c, decide_eq_true (by omega)]; simp only [doorwardref01_Put.j0, if_true]
  · have h := bytes_ev n size h0 h1 (by omega) (by omega)
    refine ev_fun (f := fun k => (doorwardref01_Bytes.f k n size).bind fun bt => if bt.2 > 0 then some (⟨#[]⟩, 1) else some (bt.1, 0)) ?_ fun k => ?_
    · refine ev_bind h ?_
      have hp : 0 < 256 ^ size.toNat := Nat.pow_pos (by decide)
      generalize 256 ^ size.toNat = p at hp ⊢
      by_cases c : n.toNat ≥ p
      · have : 0 < n.toNat / p := Nat.div_pos c hp
        exact ev_eq (ev_pos (show ((n.toNat / p : Nat) : Int) > 0 by omega) (ev_now rfl)) (by rw [if_pos (by omega)])
      · have : n.toNat / p = 0 := Nat.div_eq_of_lt (by omega)
        exact ev_eq (ev_neg (show ¬ ((n.toNat / p : Nat) : Int) > 0 by omega) (ev_now rfl)) (by rw [if_neg (by omega)])
    · unfold doorwardref01_Put.f
      rw [if_neg (by omega), decide_eq_false (by omega)]; simp only [doorwardref01_Put.j0]
      rw [if_neg (by decide)]

theorem number_l0 (s : ByteArray) (h8 : s.size ≤ 8) (d : Nat) : ∀ (k : Nat) (n i : Int), i + 1 = d → i < s.size → n = (getL ((L s).drop d) : Nat) → d < k →
    doorwardref01_Number.l0 k s n i = some ((getL (L s) : Nat) : Int) := by
  have hsz := size_L s
  induction d with
  | zero =>
    intro k n i hd hi hn hk
    obtain ⟨k, rfl⟩ : ∃ m, k = m + 1 := ⟨k - 1, by omega⟩
    simp only [doorwardref01_Number.l0]
    rw [if_neg (by omega), hn]; rfl
  | succ d ih =>
    intro k n i hd hi hn hk
    obtain ⟨k, rfl⟩ : ∃ m, k = m + 1 := ⟨k - 1, by omega⟩
    obtain rfl : i = d := by omega
    have hlt : (d : Int).toNat < s.size := by omega
    have hb := bt_L s d hlt
    have hb2 := bt_range s d
    have hg := getL_lt ((L s).drop (d + 1))
    have hle : 256 ^ ((L s).drop (d + 1)).length ≤ 256 ^ 7 := Nat.pow_le_pow_right (by decide) (by simp; omega)
    have e7 : (256 : Nat) ^ 7 = 72057594037927936 := by decide
    simp only [doorwardref01_Number.l0]
    rw [if_pos (by omega), if_pos (by omega), if_pos (by omega), wrap_u64_id (n := bt s d) (by omega) (by omega), wrap_u64_id (n := 256 * n) (by omega) (by omega), wrap_u64_id (by omega) (by omega), wrap64_id (by omega) (by omega)]
    refine ih k _ _ (by omega) (by omega) ?_ (by omega)
    rw [List.drop_eq_getElem_cons (by omega)]
    simp only [getL]
    rw [hb, hn]
    simp only [Int.toNat_natCast]
    omega

theorem number_ev (s : ByteArray) (h8 : s.size ≤ 8) : Ev (fun k => doorwardref01_Number.f k s) ((getL (L s) : Nat) : Int) := by
  refine ev_from (s.size + 1) fun k hk => ?_
  unfold doorwardref01_Number.f
  rw [wrap64_id (by omega) (by omega)]
  refine number_l0 s h8 s.size k 0 _ (by omega) (by omega) ?_ (by omega)
  rw [size_L, List.drop_length]; rfl

theorem refget_ev (s : ByteArray) (a size : Int) (h0 : -9223372036854775808 ≤ a) (h1 : a < 9223372036854775808) (hz : s.size ≤ 140737488355328) : Ev (fun k => doorwardref01_Get.f k s a size) (getS s a size) := by
  unfold getS
  refine ev_succ ?_
  by_cases c : size < 1 ∨ size > 8 ∨ a < 0
  · rw [if_pos c]
    refine ev_fun (ev_now rfl) fun k => ?_
    unfold doorwardref01_Get.f
    by_cases c1 : size < 1
    · rw [if_pos c1]; simp only [doorwardref01_Get.j0, if_true]
    by_cases c2 : size > 8
    · rw [if_neg c1, if_pos c2]; simp only [doorwardref01_Get.j0, if_true]
    rw [if_neg c1, if_neg c2, decide_eq_true (by omega : a < 0)]; simp only [doorwardref01_Get.j0, if_true]
  rw [if_neg c]
  have w1 : a ≤ s.size → wrap64 ((s.size : Int) - a) = s.size - a := fun _ => wrap64_id (by omega) (by omega)
  have key : ∀ k, doorwardref01_Get.f (k + 1) s a size = if a > s.size then some (0, 0, 3) else if wrap64 ((s.size : Int) - a) < size then some (0, 0, 3) else (if 0 ≤ a then (if a ≤ (wrap64 (a + size)) then (if (wrap64 (a + size)) ≤ (s.size : Int) then ((doorwardref01_Number.f k (s.extract (a : Int).toNat ((wrap64 (a + size)) : Int).toNat)).bind fun t113 => (some (t113, wrap64 (a + size), 0))) else (none)) else (none)) else (none)) := by
    intro k; unfold doorwardref01_Get.f
    rw [if_neg (by omega), if_neg (by omega), decide_eq_false (by omega)]; simp only [doorwardref01_Get.j0]
    rw [if_neg (by decide)]
  refine ev_fun ?_ key
  by_cases c1 : a > s.size
  · rw [if_pos (.inl c1)]; exact ev_pos c1 (ev_now rfl)
  have hw := w1 (by omega)
  refine ev_neg c1 ?_
  by_cases c2 : (s.size : Int) - a < size
  · rw [if_pos (.inr c2)]; exact ev_pos (by rw [hw]; exact c2) (ev_now rfl)
  rw [if_neg (by omega)]
  have w2 : wrap64 (a + size) = a + size := wrap64_id (by omega) (by omega)
  refine ev_neg (by rw [hw]; exact c2) (ev_pos (by omega) (ev_pos (by omega) (ev_pos (by omega) ?_)))
  have hl : L (s.extract a.toNat (a + size).toNat) = ((L s).drop a.toNat).take size.toNat := by
    rw [L_extract]; congr 1; omega
  simp only [w2]
  refine ev_bind (number_ev _ (by rw [size_L, hl]; simp; omega)) (ev_now ?_)
  rw [hl]

theorem reftext_ev (s : ByteArray) (hz : s.size ≤ 140737488355328) : Ev (fun k => doorwardref01_Text.f k s) (textS s) := by
  unfold textS doorwardref01_Text.f
  by_cases c : (s.size : Int) > 65535
  · rw [if_pos c]; exact ev_pos c (ev_now rfl)
  · rw [if_neg c]
    refine ev_neg c ?_
    rw [wrap_u64_id (by omega) (by omega)]
    refine ev_bind (bytes_ev _ 2 (by omega) (by omega) (by omega) (by omega)) ?_
    refine ev_pos ?_ (ev_now ?_)
    · rw [size_B, putL_length]; omega
    · simp only [Option.some.injEq, Prod.mk.injEq, and_true]
      apply L_inj; rw [L_append, L_B, L_B]; rfl

theorem refcut_ev (s : ByteArray) (a : Int) (h0 : -9223372036854775808 ≤ a) (h1 : a < 9223372036854775808) (hz : s.size ≤ 140737488355328) : Ev (fun k => doorwardref01_Cut.f k s a) (cutS s a) := by
  unfold doorwardref01_Cut.f cutS
  have hget := refget_ev s a 2 h0 h1 hz
  by_cases c1 : a < 0
  · rw [if_pos c1]; exact ev_bind (ev_eq hget (getS_arg (.inr (.inr c1)))) (ev_neg (by decide) (ev_now rfl))
  rw [if_neg c1]
  by_cases c2 : a > s.size ∨ (s.size : Int) - a < 2
  · rw [if_pos c2]; exact ev_bind (ev_eq hget (getS_short (by omega) c2)) (ev_neg (by decide) (ev_now rfl))
  rw [if_neg c2]
  refine ev_bind (ev_eq hget (getS_ok (by omega) c2)) ?_
  have hg := getL_two ((L s).drop a.toNat)
  have hg' : getL (((L s).drop a.toNat).take (2 : Int).toNat) = getL (((L s).drop a.toNat).take 2) := rfl
  rw [hg']
  generalize getL (((L s).drop a.toNat).take 2) = n at hg ⊢
  refine ev_pos rfl ?_
  have w2 : wrap64 (n : Int) = n := wrap64_id (by omega) (by omega)
  have w3 : wrap64 (a + 2 + (n : Int)) = a + 2 + n := wrap64_id (by omega) (by omega)
  simp only [w2, w3]
  by_cases c3 : a + 2 + (n : Int) > s.size
  · simp only [if_pos c3]; exact ev_now rfl
  · simp only [if_neg c3]
    exact ev_pos (by omega) (ev_pos (by omega) (ev_pos (by omega) (ev_now rfl)))
end Go.Proofs.Ytnglmibicdjhcaa.Q
