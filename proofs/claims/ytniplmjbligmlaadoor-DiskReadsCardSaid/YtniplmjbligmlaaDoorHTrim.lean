/- strings.TrimRight, where the cutset is one zero byte: the zero bytes at the end are taken off. -/
import Derived.Test.YtniplmjbligmlaaDoorTrimPlain
import Derived.Test.YtniplmjbligmlaaDoorQx2
namespace Go.Proofs.YtniplmjbligmlaaDoor.Q
open Go.RowKit Go.Proofs.YtniplmjbligmlaaDoorW.PrintWords Go.Proofs.YtniplmjbligmlaaDoorW.PrintLast Go.Proofs.YtniplmjbligmlaaDoorW.PrintMore Go.Proofs.YtniplmjbligmlaaDoor.Base
set_option linter.unusedVariables false

theorem trb_l0 (n : Nat) : ∀ (k : Nat) (s : ByteArray), s.size = n → n < 9223372036854775808 → n < k → strings_trimRightByte.l0 k s 0 = some (trimS s) := by
  induction n with
  | zero =>
    intro k s hs hn hk
    obtain ⟨k, rfl⟩ : ∃ m, k = m + 1 := ⟨k - 1, by omega⟩
    simp only [strings_trimRightByte.l0]
    rw [if_neg (by omega)]
    have e : L s = [] := List.eq_nil_of_length_eq_zero (by rw [← size_L]; exact hs)
    rw [trimS, e, trimL_nil, ← e, B_L]
  | succ n ih =>
    intro k s hs hn hk
    obtain ⟨k, rfl⟩ : ∃ m, k = m + 1 := ⟨k - 1, by omega⟩
    rcases snoc_cases (L s) with e | ⟨m, b, e⟩
    · rw [size_L, e] at hs; simp at hs
    obtain ⟨h1, h2⟩ := L_take_pred s m b e
    have hw : wrap64 ((s.size : Int) - 1) = (s.size : Int) - 1 := wrap64_id (by omega) (by omega)
    simp only [strings_trimRightByte.l0]
    rw [hw, if_pos (by omega), if_pos (by omega), if_pos (by omega), h2]
    by_cases hb : b = 0
    · subst hb
      rw [if_pos (by decide), if_pos (by omega), show ((s.size : Int) - 1).toNat = s.size - 1 by omega]
      rw [ih k _ (by rw [size_L, h1]; rw [size_L, e] at hs; simpa using hs) (by omega) (by omega)]
      unfold trimS; rw [h1, e, trimL_zero]
    · rw [if_neg (fun h => hb ((byte_zero b).1 h))]
      unfold trimS; rw [e, trimL_other m b hb, ← e, B_L]
theorem trb_ev (s : ByteArray) (h : s.size ≤ 9223372036854775807) : Ev (fun k => strings_trimRightByte.f k s 0) (trimS s) :=
  ev_from (s.size + 1) fun k hk => trb_l0 s.size k s rfl (by omega) (by omega)

def strings_TrimRight.f (a0 a1 : ByteArray) : Option ByteArray := if a1 = (⟨#[0]⟩ : ByteArray) ∧ a0.size ≤ 9223372036854775807 then some (trimS a0) else none
set_option maxHeartbeats 1000000 in
set_option maxRecDepth 100000 in
theorem strings_TrimRight.calls (a0 a1 r : ByteArray) (w : World) (h : strings_TrimRight.f a0 a1 = some r) :
    Calls Tryd.prog 72 #[.string a0, .string a1] w fun e w' => e = .returned (.string r) ∧ Drawn0 w w' := by
  unfold strings_TrimRight.f at h
  split at h
  · rename_i hc
    obtain ⟨rfl, hs⟩ := hc
    obtain rfl := Option.some.inj h
    clear h
    obtain ⟨k, hk⟩ := ev_ex (trb_ev a0 hs)
    have HK := Aside0.mk hk
    clear hk
    by_cases h0 : a0.toList = []
    · have e : L a0 = [] := by rw [← toList_L]; exact h0
      have e2 : trimS a0 = a0 := by unfold trimS; rw [e, trimL_nil, ← e, B_L]
      have E2 := Aside0.mk e2
      clear e e2
      have h1 : (a0.toList == []) = true := by simp [h0]
      have h2 : a0.toList.isEmpty = true := by simp [h0]
      go_enter Tryd.func72, Tryd.ntmps72
      go_wp2
      go_ret
      exact ⟨by rw [E2.out]; rfl, ⟨_, (World.drewN_zero _).symm⟩⟩
    · have h1 : (a0.toList == []) = false := by simp [h0]
      have h2 : a0.toList.isEmpty = false := by simp [h0]
      go_enter Tryd.func72, Tryd.ntmps72
      go_wp2_with (go_at_call 81; refine (strings_trimRightByte.calls k a0 0 _ _ HK.out).mono ?_; rintro e w' ⟨rfl, hd⟩; obtain ⟨nd, rfl⟩ := hd)
      go_ret
      exact ⟨rfl, ⟨_, rfl⟩⟩
  · cases h
end Go.Proofs.YtniplmjbligmlaaDoor.Q
