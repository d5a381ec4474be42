/- LeBack in plain words: what is put is got, what is got and put is the bytes, texts behind each other are read behind each other. No condition. -/
import Derived.Test.YtnglmibicdjhcaaLeS
import Derived.Test.YtnglmibicdjhcaaStmLeBack
namespace Go.Proofs.Ytnglmibicdjhcaa.Pure
open Go.RowKit Go.Proofs.YtnglmibicdjhcaaW.PrintWords Go.Proofs.YtnglmibicdjhcaaW.PrintLast Go.Proofs.YtnglmibicdjhcaaW.PrintMore Go.Proofs.Ytnglmibicdjhcaa.Base Go.Proofs.Ytnglmibicdjhcaa.Q
def cut3 (a : ByteArray) : ByteArray := a.extract 0 (mn (a.size : Int) 3000).toNat
theorem cut3_size (a : ByteArray) : (cut3 a).size ≤ 3000 := by
  unfold cut3 mn; rw [size_L, L_extract]; simp; split <;> omega
theorem cut3_ok (a : ByteArray) : 0 ≤ mn (a.size : Int) 3000 ∧ mn (a.size : Int) 3000 ≤ a.size := by unfold mn; split <;> omega
theorem LeBack : doorwardlaw01_LeBack.Stm := by
  intro n size s t hn hs hz hy
  obtain ⟨n0, n1⟩ := u64_wf hn
  obtain ⟨z0, z1⟩ := i64_wf hs
  obtain ⟨m1, m2⟩ := cut3_ok s
  obtain ⟨m3, m4⟩ := cut3_ok t
  have hsh := cut3_size s
  have hth := cut3_size t
  refine ev_ex ?_
  unfold doorwardlaw01_LeBack.f
  refine ev_pos m1 (ev_pos m2 (ev_pos m3 (ev_pos m4 ?_)))
  change Ev (fun k => (le_Put.f k n size).bind fun bt112 => (if bt112.2 = 0 then (if (cut3 t).size + bt112.1.size ≤ 9223372036854775807 then ((le_Get.f k (cut3 t ++ bt112.1) ((cut3 t).size : Int) size).bind fun bt114 => (if bt114.2.2 = 0 then (if bt114.1 = n then (if bt114.2.1 = (wrap64 (((cut3 t).size : Int) + size)) then (if (bt112.1.size : Int) = size then (doorwardlaw01_LeBack.j0 k size (cut3 s) (cut3 t)) else (some false)) else (some false)) else (some false)) else (some false))) else (none)) else (doorwardlaw01_LeBack.j0 k size (cut3 s) (cut3 t)))) true
  generalize cut3 s = s at hsh
  generalize cut3 t = t at hth
  -- the texts
  have J1 : Ev (fun k => doorwardlaw01_LeBack.j1 k s t) true := by
    refine ev_succ (g := fun k => doorwardlaw01_LeBack.j1 k s t) ?_
    simp only [doorwardlaw01_LeBack.j1]
    refine ev_bind (ev_eq (text_ev s (by omega)) (textS_ok (by omega))) ?_
    refine ev_bind (ev_eq (text_ev t (by omega)) (textS_ok (by omega))) ?_
    have l1 : (putL s.size 2 ++ L s).length = 2 + s.size := by rw [List.length_append, putL_length, ← size_L]
    have l2 : (putL t.size 2 ++ L t).length = 2 + t.size := by rw [List.length_append, putL_length, ← size_L]
    refine ev_pos (by rw [size_B, size_B, l1, l2]; omega) ?_
    have hsz : (B (putL s.size 2 ++ L s) ++ B (putL t.size 2 ++ L t)).size = 4 + s.size + t.size := by
      rw [size_L, L_append, L_B, L_B, List.length_append, l1, l2]; omega
    have h1 : cutS (B (putL s.size 2 ++ L s) ++ B (putL t.size 2 ++ L t)) ((0 : Nat) : Int) = (B (L s), ((0 : Nat) : Int) + 2 + ((L s).length : Int), 0) :=
      cutS_row (l := []) (r := putL t.size 2 ++ L t) (by rw [L_append, L_B, L_B, List.nil_append, ← size_L]) rfl (by rw [← size_L]; omega)
    have h2 : cutS (B (putL s.size 2 ++ L s) ++ B (putL t.size 2 ++ L t)) ((2 + s.size : Nat) : Int) = (B (L t), ((2 + s.size : Nat) : Int) + 2 + ((L t).length : Int), 0) :=
      cutS_row (l := putL s.size 2 ++ L s) (r := []) (by rw [L_append, L_B, L_B, ← size_L t, List.append_nil]) l1 (by rw [← size_L]; omega)
    refine ev_bind (ev_eq (cut_ev _ 0 (by decide) (by decide) (by rw [hsz]; omega)) h1) ?_
    have e1 : ((0 : Nat) : Int) + 2 + ((L s).length : Int) = ((2 + s.size : Nat) : Int) := by rw [← size_L]; omega
    simp only [e1]
    refine ev_bind (ev_eq (cut_ev _ _ (by omega) (by omega) (by rw [hsz]; omega)) h2) ?_
    refine ev_bind alive_ev ?_
    refine ev_now ?_
    have e2 : wrap64 (((B (putL s.size 2 ++ L s)).size : Int) + ((B (putL t.size 2 ++ L t)).size : Int)) = ((2 + s.size : Nat) : Int) + 2 + ((L t).length : Int) := by
      rw [size_B, size_B, l1, l2, ← size_L, wrap64_id (by omega) (by omega)]; omega
    simp only [e2, B_L, if_true, beq_self_eq_true]
  have J0 : Ev (fun k => doorwardlaw01_LeBack.j0 k size s t) true := by
    refine ev_succ (g := fun k => doorwardlaw01_LeBack.j0 k size s t) ?_
    simp only [doorwardlaw01_LeBack.j0]
    by_cases c : size < 1 ∨ size > 8 ∨ (0 : Int) < 0
    · exact ev_bind (ev_eq (get_ev s 0 size (by decide) (by decide) (by omega)) (getS_arg c)) (ev_neg (by simp) J1)
    by_cases c2 : (0 : Int) > s.size ∨ (s.size : Int) - 0 < size
    · exact ev_bind (ev_eq (get_ev s 0 size (by decide) (by decide) (by omega)) (getS_short c c2)) (ev_neg (by simp) J1)
    refine ev_bind (ev_eq (get_ev s 0 size (by decide) (by decide) (by omega)) (getS_ok c c2)) ?_
    refine ev_pos rfl ?_
    have hlen : ((L s).take size.toNat).length = size.toNat := by rw [List.length_take, ← size_L]; omega
    have hlt := getL_lt ((L s).take size.toNat)
    have hpg := putL_getL ((L s).take size.toNat)
    rw [hlen] at hlt hpg
    have h8 : 256 ^ size.toNat ≤ 256 ^ 8 := Nat.pow_le_pow_right (by decide) (by omega)
    have e8 : (256 : Nat) ^ 8 = 18446744073709551616 := by decide
    simp only [Int.toNat_zero, List.drop_zero]
    generalize getL ((L s).take size.toNat) = m at hlt hpg
    have hput : putS (m : Int) size = (B (putL m size.toNat), 0) := by
      unfold putS; rw [if_neg (by rintro (h | h | h) <;> first | omega | exact absurd h (by rw [Int.toNat_natCast]; exact Nat.not_le.2 hlt))]; rfl
    refine ev_bind (ev_eq (put_ev (m : Int) size (by omega) (by omega)) hput) ?_
    have hbs : (B (putL m size.toNat)).size = size.toNat := by rw [size_B, putL_length]
    refine ev_pos rfl (ev_pos (by omega) (ev_pos (by simp only [hbs]; omega) (ev_pos ?_ (ev_pos (by simp only [hbs]; omega) J1))))
    simp only [toList_L, L_B, L_extract, hbs]
    rw [hpg]; simp; omega
  by_cases c : size < 1 ∨ size > 8 ∨ n.toNat ≥ 256 ^ size.toNat
  · refine ev_bind (ev_eq (put_ev n size n0 n1) (show putS n size = (⟨#[]⟩, 1) by unfold putS; rw [if_pos c])) ?_
    exact ev_neg (by decide) J0
  · refine ev_bind (ev_eq (put_ev n size n0 n1) (show putS n size = (B (putL n.toNat size.toNat), 0) by unfold putS; rw [if_neg c])) ?_
    have hbs : (B (putL n.toNat size.toNat)).size = size.toNat := by rw [size_B, putL_length]
    have hls : L (t ++ B (putL n.toNat size.toNat)) = L t ++ putL n.toNat size.toNat := by rw [L_append, L_B]
    have hsz : (t ++ B (putL n.toNat size.toNat)).size = t.size + size.toNat := by rw [size_L, hls, List.length_append, putL_length, ← size_L]
    refine ev_pos rfl (ev_pos (by rw [hbs]; omega) ?_)
    have hg : getL (((L (t ++ B (putL n.toNat size.toNat))).drop (t.size : Int).toNat).take size.toNat) = n.toNat := by
      rw [hls, Int.toNat_natCast, size_L, List.drop_left, List.take_of_length_le (by rw [putL_length]; omega), getL_putL]
      refine Nat.mod_eq_of_lt ?_
      generalize 256 ^ size.toNat = p at c
      omega
    refine ev_bind (ev_eq (get_ev _ (t.size : Int) size (by omega) (by omega) (by rw [hsz]; omega)) (getS_ok (by omega) (by rw [hsz]; omega))) ?_
    rw [hg]
    exact ev_pos rfl (ev_pos (by simp only []; omega) (ev_pos (by rw [wrap64_id (by omega) (by omega)]) (ev_pos (by simp only [hbs]; omega) J0)))
end Go.Proofs.Ytnglmibicdjhcaa.Pure
