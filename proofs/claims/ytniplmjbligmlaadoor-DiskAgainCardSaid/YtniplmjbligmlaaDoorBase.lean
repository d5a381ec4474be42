/- Plain words that all plain laws use: bytes as lists, numbers that need no wrap, answers behind enough rounds. No program in it. -/
import Derived.Test.YtniplmjbligmlaaDoorWMore
import Derived.Laws.BitsLemmas
import Derived.Lib.Bytes
namespace Go.Proofs.YtniplmjbligmlaaDoor.Base
open Go.RowKit Go.Proofs.YtniplmjbligmlaaDoorW.PrintWords Go.Proofs.YtniplmjbligmlaaDoorW.PrintLast Go.Proofs.YtniplmjbligmlaaDoorW.PrintMore
set_option linter.unusedVariables false

/-! ### rounds -/
theorem ev_pos {α : Type} {c : Prop} [Decidable c] {g h : Nat → Option α} {r : α} (hc : c) (H : Ev g r) : Ev (fun k => if c then g k else h k) r := by
  simpa only [if_pos hc] using H
theorem ev_neg {α : Type} {c : Prop} [Decidable c] {g h : Nat → Option α} {r : α} (hc : ¬ c) (H : Ev h r) : Ev (fun k => if c then g k else h k) r := by
  simpa only [if_neg hc] using H
theorem ev_now {α : Type} {x : Option α} {r : α} (h : x = some r) : Ev (fun _ => x) r := ⟨0, fun _ _ => h⟩
theorem ev_bind {α β : Type} {g : Nat → Option α} {f : Nat → α → Option β} {a : α} {r : β} (h : Ev g a) (k : Ev (fun n => f n a) r) : Ev (fun n => (g n).bind (f n)) r := Ev.bind h k
theorem ev_some {α β : Type} {x : Option α} {f : Nat → α → Option β} {a : α} {r : β} (h : x = some a) (k : Ev (fun n => f n a) r) : Ev (fun n => x.bind (f n)) r := by
  subst h; exact k
theorem ev_ex {α : Type} {g : Nat → Option α} {r : α} (h : Ev g r) : ∃ k, g k = some r := Ev.rounds h
theorem ev_uniq {α : Type} {g : Nat → Option α} {r q : α} (h : Ev g r) (k : Ev g q) : r = q := by
  obtain ⟨a, ha⟩ := h; obtain ⟨b, hb⟩ := k
  have h1 := ha (max a b) (Nat.le_max_left _ _); have h2 := hb (max a b) (Nat.le_max_right _ _)
  rw [h1] at h2; exact Option.some.inj h2
/-- from so many rounds on -/
theorem ev_from {α : Type} {g : Nat → Option α} {r : α} (K : Nat) (h : ∀ k, K ≤ k → g k = some r) : Ev g r := ⟨K, h⟩
theorem ev_succ {α : Type} {g : Nat → Option α} {r : α} (h : Ev (fun k => g (k + 1)) r) : Ev g r := by
  obtain ⟨K, hK⟩ := h
  exact ⟨K + 1, fun k hk => by have := hK (k - 1) (by omega); simpa [show k - 1 + 1 = k by omega] using this⟩
theorem ev_eq {α : Type} {g : Nat → Option α} {r q : α} (h : Ev g r) (e : r = q) : Ev g q := e ▸ h
theorem ev_fun {α : Type} {g f : Nat → Option α} {r : α} (h : Ev f r) (e : ∀ k, g k = f k) : Ev g r := by
  obtain ⟨K, hK⟩ := h; exact ⟨K, fun k hk => (e k).trans (hK k hk)⟩

/-! ### numbers -/
theorem wrap64_id {n : Int} (h : -9223372036854775808 ≤ n) (h' : n < 9223372036854775808) : wrap64 n = n := by unfold wrap64; omega
theorem wrap_u64 (n : Int) : IntKind.u64.wrap n = n % 18446744073709551616 := by simp [IntKind.wrap, IntKind.bits, IntKind.signed]
theorem wrap_u64_id {n : Int} (h : 0 ≤ n) (h' : n < 18446744073709551616) : IntKind.u64.wrap n = n := by rw [wrap_u64]; omega
theorem wrap_u32 (n : Int) : IntKind.u32.wrap n = n % 4294967296 := IntKind.wrap_u32 n
theorem wrap_u8 (n : Int) : IntKind.u8.wrap n = n % 256 := IntKind.wrap_u8 n
theorem mn_eq (a b : Int) : mn a b = min a b := by unfold mn; omega
theorem mx_eq (a b : Int) : mx a b = max a b := by unfold mx; omega
theorem u64_wf {n : Int} (h : (Lit.int .u64 n).wf = true) : 0 ≤ n ∧ n < 18446744073709551616 := by
  simp [Lit.wf, IntKind.min, IntKind.max, IntKind.bits, IntKind.signed] at h; omega
theorem i64_wf {n : Int} (h : (Lit.int .i64 n).wf = true) : -9223372036854775808 ≤ n ∧ n < 9223372036854775808 := by
  simp [Lit.wf, IntKind.min, IntKind.max, IntKind.bits, IntKind.signed] at h; omega

/-! ### bytes -/
abbrev L (s : ByteArray) : List UInt8 := s.data.toList
def B (l : List UInt8) : ByteArray := ⟨l.toArray⟩
theorem B_L (s : ByteArray) : B (L s) = s := by cases s; simp [B, L]
theorem L_B (l : List UInt8) : L (B l) = l := by simp [B, L]
theorem size_L (s : ByteArray) : s.size = (L s).length := by cases s; simp [L, ByteArray.size]
theorem size_B (l : List UInt8) : (B l).size = l.length := by rw [size_L, L_B]
theorem L_inj {s t : ByteArray} (h : L s = L t) : s = t := by rw [← B_L s, ← B_L t, h]
theorem toList_L (s : ByteArray) : s.toList = L s := ByteArray.toList_eq s
theorem L_extract (s : ByteArray) (i j : Nat) : L (s.extract i j) = ((L s).drop i).take (j - i) := by
  cases s; simp [L]
theorem L_append (s t : ByteArray) : L (s ++ t) = L s ++ L t := by
  cases s; cases t; simp [L]
theorem L_strOfNums (xs : List Int) : L (strOfNums xs) = xs.map fun n => UInt8.ofNat n.toNat := by simp [L, strOfNums]
theorem L_empty : L (⟨#[]⟩ : ByteArray) = [] := rfl
theorem bt_L (s : ByteArray) (i : Int) (h : i.toNat < s.size) : bt s i = (((L s)[i.toNat]'(by rw [← size_L]; exact h)).toNat : Int) := by
  rw [← bt_at s i h]; rfl
end Go.Proofs.YtniplmjbligmlaaDoor.Base
