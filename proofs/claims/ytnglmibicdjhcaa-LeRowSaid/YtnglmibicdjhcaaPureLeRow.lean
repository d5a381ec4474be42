/- LeRow in plain words: texts written one behind the other are read one behind the other, and nothing is left. No condition. -/
import Derived.Test.YtnglmibicdjhcaaLeS
import Derived.Test.YtnglmibicdjhcaaStmLeRow
namespace Go.Proofs.Ytnglmibicdjhcaa.Pure
open Go.RowKit Go.Proofs.YtnglmibicdjhcaaW.PrintWords Go.Proofs.YtnglmibicdjhcaaW.PrintLast Go.Proofs.YtnglmibicdjhcaaW.PrintMore Go.Proofs.Ytnglmibicdjhcaa.Base Go.Proofs.Ytnglmibicdjhcaa.Q
set_option linter.unusedVariables false
def cut2 (a : ByteArray) : ByteArray := a.extract 0 (mn (a.size : Int) 200).toNat
theorem cut2_size (a : ByteArray) : (cut2 a).size ≤ 200 := by
  unfold cut2 mn; rw [size_L, L_extract]; simp; split <;> omega
theorem cut2_ok (a : ByteArray) : 0 ≤ mn (a.size : Int) 200 ∧ mn (a.size : Int) 200 ≤ a.size := by unfold mn; split <;> omega
theorem cut2_def (a : ByteArray) : a.extract 0 (mn (a.size : Int) 200).toNat = cut2 a := rfl
def rowL (l : List ByteArray) : List UInt8 := (l.map fun s => putL (cut2 s).size 2 ++ L (cut2 s)).flatten
theorem rowL_snoc (l : List ByteArray) (s : ByteArray) : rowL (l ++ [s]) = rowL l ++ (putL (cut2 s).size 2 ++ L (cut2 s)) := by simp [rowL]
theorem rowL_append (l m : List ByteArray) : rowL (l ++ m) = rowL l ++ rowL m := by simp [rowL]
theorem rowL_length (l : List ByteArray) : (rowL l).length ≤ 202 * l.length := by
  induction l with
  | nil => simp [rowL]
  | cons s l ih =>
    have e : rowL (s :: l) = (putL (cut2 s).size 2 ++ L (cut2 s)) ++ rowL l := by simp [rowL]
    have := cut2_size s
    rw [e]; simp only [List.length_append, putL_length, List.length_cons, ← size_L]; omega
theorem rd_take (l : List ByteArray) (i : Nat) (h : i < l.length) : l.take (i + 1) = l.take i ++ [rdOf ByteArray.empty l (i : Int)] := by
  rw [List.take_succ_eq_append_getElem h]
  simp [rdOf, List.getD_eq_getElem?_getD, List.getElem?_eq_getElem h]
theorem reads (l : List ByteArray) (hl : l.length ≤ 30) (d : Nat) : ∀ i : Nat, l.length - i = d → i ≤ l.length →
    Ev (fun k => doorwardlaw01_LeRow.l1 k (B (rowL l)) (((rowL (l.take i)).length : Nat) : Int) l (l.length : Int) (i : Int)) true := by
  have hr := rowL_length l
  induction d with
  | zero =>
    intro i hd hi
    obtain rfl : i = l.length := by omega
    refine ev_succ (g := fun k => doorwardlaw01_LeRow.l1 k (B (rowL l)) (((rowL (l.take l.length)).length : Nat) : Int) l (l.length : Int) ((l.length : Nat) : Int)) ?_
    simp only [doorwardlaw01_LeRow.l1]
    rw [List.take_length]
    refine ev_neg (by omega) ?_
    have hc : cutS (B (rowL l)) (((rowL l).length : Nat) : Int) = (⟨#[]⟩, 0, 3) := by
      unfold cutS; rw [size_B, if_neg (by omega), if_pos (by omega)]
    refine ev_bind (ev_eq (cut_ev _ _ (by omega) (by omega) (by rw [size_B]; omega)) hc) ?_
    refine ev_bind alive_ev ?_
    exact ev_now (by rw [if_pos rfl, if_pos (by rw [size_B])]; rfl)
  | succ d ih =>
    intro i hd hi
    have hlt : i < l.length := by omega
    refine ev_succ (g := fun k => doorwardlaw01_LeRow.l1 k (B (rowL l)) (((rowL (l.take i)).length : Nat) : Int) l (l.length : Int) ((i : Nat) : Int)) ?_
    simp only [doorwardlaw01_LeRow.l1]
    refine ev_pos (by omega) (ev_pos (by omega) (ev_pos (by omega) ?_))
    obtain ⟨o1, o2⟩ := cut2_ok (rdOf ByteArray.empty l (i : Int))
    have hcs := cut2_size (rdOf ByteArray.empty l (i : Int))
    have ht := rd_take l i hlt
    have hi2 := rowL_length (l.take i)
    have hlen : (l.take i).length = i := by rw [List.length_take]; omega
    have ht2 : rowL (l.take (i + 1)) = rowL (l.take i) ++ (putL (cut2 (rdOf ByteArray.empty l (i : Int))).size 2 ++ L (cut2 (rdOf ByteArray.empty l (i : Int)))) := by rw [ht, rowL_snoc]
    have hc : cutS (B (rowL l)) (((rowL (l.take i)).length : Nat) : Int) = (B (L (cut2 (rdOf ByteArray.empty l (i : Int)))), (((rowL (l.take i)).length : Nat) : Int) + 2 + ((L (cut2 (rdOf ByteArray.empty l (i : Int)))).length : Int), 0) :=
      cutS_row (l := rowL (l.take i)) (r := rowL (l.drop (i + 1))) (by
        rw [L_B, ← size_L, ← ht2, ← rowL_append, List.take_append_drop]) rfl (by rw [← size_L]; omega)
    have hE := ih (i + 1) (by omega) (by omega)
    simp only [cut2_def]
    obtain ⟨s, hs⟩ : ∃ s, cut2 (rdOf ByteArray.empty l (i : Int)) = s := ⟨_, rfl⟩
    rw [hs] at hcs ht2 hc
    simp only [hs]
    refine ev_bind (ev_eq (cut_ev _ _ (by omega) (by omega) (by rw [size_B]; omega)) hc) ?_
    refine ev_pos rfl (ev_pos o1 (ev_pos o2 (ev_pos (by rw [B_L]) (ev_pos ?_ ?_))))
    · simp only [B_L]; rw [wrap64_id (n := _ + 2) (by omega) (by omega), wrap64_id (by omega) (by omega), size_L]
    · have e2 : (((rowL (l.take i)).length : Nat) : Int) + 2 + ((L s).length : Int) = (((rowL (l.take (i + 1))).length : Nat) : Int) := by
        rw [ht2]; simp only [List.length_append, putL_length]; omega
      have e3 : wrap64 ((i : Int) + 1) = ((i + 1 : Nat) : Int) := by rw [wrap64_id (by omega) (by omega)]; omega
      simp only [e2, e3]
      exact hE
theorem small_sum {a b i : Nat} (h1 : a ≤ 202 * i) (h2 : i ≤ 30) (h3 : b ≤ 200) : a + (2 + b) ≤ 6262 := by omega
theorem writes (l : List ByteArray) (hl : l.length ≤ 30) (d : Nat) : ∀ i : Nat, l.length - i = d → i ≤ l.length →
    Ev (fun k => doorwardlaw01_LeRow.l0 k l (B (rowL (l.take i))) l (l.length : Int) (i : Int)) true := by
  have hr := rowL_length l
  induction d with
  | zero =>
    intro i hd hi
    obtain rfl : i = l.length := by omega
    refine ev_succ (g := fun k => doorwardlaw01_LeRow.l0 k l (B (rowL (l.take l.length))) l (l.length : Int) ((l.length : Nat) : Int)) ?_
    simp only [doorwardlaw01_LeRow.l0]
    rw [List.take_length]
    refine ev_neg (by omega) ?_
    exact reads l hl l.length 0 (by omega) (by omega)
  | succ d ih =>
    intro i hd hi
    have hlt : i < l.length := by omega
    refine ev_succ (g := fun k => doorwardlaw01_LeRow.l0 k l (B (rowL (l.take i))) l (l.length : Int) ((i : Nat) : Int)) ?_
    simp only [doorwardlaw01_LeRow.l0]
    obtain ⟨o1, o2⟩ := cut2_ok (rdOf ByteArray.empty l (i : Int))
    refine ev_pos (by omega) (ev_pos (by omega) (ev_pos (by omega) (ev_pos o1 (ev_pos o2 ?_))))
    have hcs := cut2_size (rdOf ByteArray.empty l (i : Int))
    have ht := rd_take l i hlt
    have hi2 := rowL_length (l.take i)
    have hlen : (l.take i).length = i := by rw [List.length_take]; omega
    have ht2 : rowL (l.take (i + 1)) = rowL (l.take i) ++ (putL (cut2 (rdOf ByteArray.empty l (i : Int))).size 2 ++ L (cut2 (rdOf ByteArray.empty l (i : Int)))) := by rw [ht, rowL_snoc]
    have hE := ih (i + 1) (by omega) (by omega)
    simp only [cut2_def]
    obtain ⟨s, hs⟩ : ∃ s, cut2 (rdOf ByteArray.empty l (i : Int)) = s := ⟨_, rfl⟩
    rw [hs] at hcs ht2
    simp only [hs]
    refine ev_bind (ev_eq (text_ev s (by omega)) (textS_ok (by omega))) ?_
    have e1 : B (rowL (l.take i)) ++ B (putL s.size 2 ++ L s) = B (rowL (l.take (i + 1))) := by apply L_inj; rw [L_append, L_B, L_B, L_B, ht2]
    have e3 : wrap64 ((i : Int) + 1) = ((i + 1 : Nat) : Int) := by rw [wrap64_id (by omega) (by omega)]; omega
    have hb : (rowL (l.take i)).length + (2 + s.size) ≤ 6262 := small_sum hi2 (by rw [hlen]; exact Nat.le_trans hi hl) hcs
    have hb2 : (B (rowL (l.take i))).size + (B (putL s.size 2 ++ L s)).size ≤ 9223372036854775807 := by
      rw [size_B, size_B, List.length_append, putL_length, ← size_L]
      exact Nat.le_trans hb (by decide)
    refine ev_pos rfl (ev_pos hb2 ?_)
    simp only [e1, e3]
    exact hE
theorem LeRow : doorwardlaw01_LeRow.Stm := by
  intro l _
  refine ev_ex ?_
  unfold doorwardlaw01_LeRow.f
  have h0 : 0 ≤ mn (l.length : Int) 30 := by unfold mn; split <;> omega
  have h1 : mn (l.length : Int) 30 ≤ l.length := by unfold mn; split <;> omega
  have h2 : mn (l.length : Int) 30 ≤ 30 := by unfold mn; split <;> omega
  refine ev_pos h0 (ev_pos h1 ?_)
  exact writes (l.take (mn (l.length : Int) 30).toNat) (by rw [List.length_take]; omega) _ 0 rfl (by omega)
end Go.Proofs.Ytnglmibicdjhcaa.Pure
