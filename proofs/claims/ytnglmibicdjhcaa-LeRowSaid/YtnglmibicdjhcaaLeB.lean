/- le.Text and le.Cut (texts with their length ahead) answer what the plain words say. -/
import Derived.Test.YtnglmibicdjhcaaLeA
import Derived.Test.YtnglmibicdjhcaaQx4
namespace Go.Proofs.Ytnglmibicdjhcaa.Q
open Go.RowKit Go.Proofs.YtnglmibicdjhcaaW.PrintWords Go.Proofs.YtnglmibicdjhcaaW.PrintLast Go.Proofs.YtnglmibicdjhcaaW.PrintMore Go.Proofs.Ytnglmibicdjhcaa.Base
set_option linter.unusedVariables false

theorem text_ev (s : ByteArray) (hz : s.size ≤ 140737488355328) : Ev (fun k => le_Text.f k s) (textS s) := by
  unfold textS le_Text.f
  by_cases c : (s.size : Int) > 65535
  · rw [if_pos c]; exact ev_pos c (ev_now rfl)
  · rw [if_neg c]
    refine ev_neg c ?_
    rw [wrap_u64_id (by omega) (by omega)]
    refine ev_bind (put_ev _ 2 (by omega) (by omega)) ?_
    have e : putS (s.size : Int) 2 = (B (putL s.size 2), 0) := by
      unfold putS; rw [if_neg (by have : (256 : Nat) ^ (2 : Int).toNat = 65536 := by decide
                                  omega)]; rfl
    rw [e]
    refine ev_pos ?_ (ev_now ?_)
    · rw [size_B, putL_length]; omega
    · simp only [Option.some.injEq, Prod.mk.injEq, and_true]
      apply L_inj; rw [L_append, L_B, L_B]

theorem getL_two (l : List UInt8) : getL (l.take 2) < 65536 := by
  have h := getL_lt (l.take 2)
  have : 256 ^ (l.take 2).length ≤ 256 ^ 2 := Nat.pow_le_pow_right (by decide) (by simp; omega)
  omega

theorem cut_ev (s : ByteArray) (a : Int) (h0 : -9223372036854775808 ≤ a) (h1 : a < 9223372036854775808) (hz : s.size ≤ 140737488355328) : Ev (fun k => le_Cut.f k s a) (cutS s a) := by
  unfold le_Cut.f cutS
  have hget := get_ev s a 2 h0 h1 hz
  by_cases c1 : a < 0
  · rw [if_pos c1]; exact ev_bind (ev_eq hget (getS_arg (.inr (.inr c1)))) (ev_neg (by decide) (ev_now rfl))
  rw [if_neg c1]
  by_cases c2 : a > s.size ∨ (s.size : Int) - a < 2
  · rw [if_pos c2]; exact ev_bind (ev_eq hget (getS_short (by omega) c2)) (ev_neg (by decide) (ev_now rfl))
  rw [if_neg c2]
  refine ev_bind (ev_eq hget (getS_ok (by omega) c2)) ?_
  have hg := getL_two ((L s).drop a.toNat)
  have hg' : getL (((L s).drop a.toNat).take (2 : Int).toNat) = getL (((L s).drop a.toNat).take 2) := rfl
  rw [hg']
  generalize getL (((L s).drop a.toNat).take 2) = n at hg ⊢
  refine ev_pos rfl ?_
  have w1 : wrap64 ((s.size : Int) - (a + 2)) = s.size - (a + 2) := wrap64_id (by omega) (by omega)
  have w2 : wrap64 (n : Int) = n := wrap64_id (by omega) (by omega)
  have w3 : wrap64 (a + 2 + (n : Int)) = a + 2 + n := wrap64_id (by omega) (by omega)
  simp only [w1, w2, w3]
  by_cases c3 : a + 2 + (n : Int) > s.size
  · rw [if_pos c3]; exact ev_pos (by omega) (ev_now rfl)
  · rw [if_neg c3]
    exact ev_neg (by omega) (ev_pos (by omega) (ev_pos (by omega) (ev_pos (by omega) (ev_now rfl))))
end Go.Proofs.Ytnglmibicdjhcaa.Q
