/- The reference of layer 3: which disks may be. -/
import Derived.Test.YtniplmjbligmlaaDoorDiskPlain
import Derived.Test.YtniplmjbligmlaaDoorRefTrim
import Derived.Test.YtniplmjbligmlaaDoorQx4
namespace Go.Proofs.YtniplmjbligmlaaDoor.Q
open Go.RowKit Go.Proofs.YtniplmjbligmlaaDoorW.PrintWords Go.Proofs.YtniplmjbligmlaaDoorW.PrintLast Go.Proofs.YtniplmjbligmlaaDoorW.PrintMore Go.Proofs.YtniplmjbligmlaaDoor.Base
set_option linter.unusedVariables false
theorem refstands_ev (s : ByteArray) : Ev (fun k => doorwardref03_Stands.f k s) (standsB s) := by
  unfold doorwardref03_Stands.f standsB
  by_cases h : (s.size : Int) ≤ 512
  · refine ev_pos h ?_
    refine ev_bind (reftrim_ev s (by omega)) (ev_now ?_)
    have h2 : s.size ≤ 512 := by omega
    simp only [decide_eq_true h2, Bool.true_and, Option.some.injEq]
    rw [Bool.eq_iff_iff]; simp only [beq_iff_eq, decide_eq_true_eq, toList_L]
    exact ⟨fun e => L_inj e, fun e => by rw [e]⟩
  · have h2 : ¬ s.size ≤ 512 := by omega
    exact ev_neg h (ev_now (by simp [h2]))
theorem rdOf_at (l : List ByteArray) (k : Nat) (h : k < l.length) : rdOf ByteArray.empty l (k : Int) = l[k] := by
  simp [rdOf, List.getD_eq_getElem?_getD, List.getElem?_eq_getElem h]
theorem rdT_at (l : List S42) (k : Nat) (h : k < l.length) : rd_T42 l (k : Int) = l[k] := by
  simp [rd_T42, List.getD_eq_getElem?_getD, List.getElem?_eq_getElem h]
theorem all_step {α : Type} (p : α → Bool) (l : List α) (k : Nat) (h : k < l.length) : (l.drop k).all p = (p l[k] && (l.drop (k + 1)).all p) := by
  rw [List.drop_eq_getElem_cons h, List.all_cons]
theorem any_step {α : Type} (p : α → Bool) (l : List α) (k : Nat) (h : k < l.length) : (l.drop k).any p = (p l[k] || (l.drop (k + 1)).any p) := by
  rw [List.drop_eq_getElem_cons h, List.any_cons]
theorem refright_l1 (n : Nat) (l : List S42) (hl : l.length ≤ 140737488355328) (d : Nat) : ∀ i : Nat, l.length - i = d → i ≤ l.length →
    Ev (fun k => doorwardref03_Right.l1 k (n : Int) l (l.length : Int) (i : Int)) (!((l.drop i).any (badW n))) := by
  induction d with
  | zero =>
    intro i hd hi
    obtain rfl : i = l.length := by omega
    refine ev_succ (g := fun k => doorwardref03_Right.l1 k (n : Int) l (l.length : Int) ((l.length : Nat) : Int)) ?_
    simp only [doorwardref03_Right.l1]
    exact ev_neg (by omega) (ev_now (by simp))
  | succ d ih =>
    intro i hd hi
    have hlt : i < l.length := by omega
    refine ev_succ (g := fun k => doorwardref03_Right.l1 k (n : Int) l (l.length : Int) ((i : Nat) : Int)) ?_
    simp only [doorwardref03_Right.l1]
    refine ev_pos (by omega) (ev_pos (by omega) (ev_pos (by omega) ?_))
    rw [rdT_at l i hlt, any_step _ _ _ hlt]
    obtain ⟨x, hx⟩ : ∃ x, l[i] = x := ⟨_, rfl⟩
    rw [hx]
    have e3 : wrap64 ((i : Int) + 1) = ((i + 1 : Nat) : Int) := by rw [wrap64_id (by omega) (by omega)]; omega
    have hE := ih (i + 1) (by omega) (by omega)
    have hb : badW n x = (!(hasB n x.f0) || !(standsB x.f1)) := rfl
    rw [hb]
    by_cases c1 : x.f0 < 0
    · refine ev_pos c1 (ev_now ?_)
      have : hasB n x.f0 = false := by unfold hasB; rw [decide_eq_false (by omega : ¬ 0 ≤ x.f0)]; rfl
      rw [this]; rfl
    by_cases c2 : x.f0 ≥ (n : Int)
    · refine ev_neg c1 (ev_pos c2 (ev_now ?_))
      have : hasB n x.f0 = false := by unfold hasB; rw [decide_eq_false (by omega : ¬ x.f0 < (n : Int))]; simp
      rw [this]; rfl
    have : hasB n x.f0 = true := by unfold hasB; rw [decide_eq_true (by omega : 0 ≤ x.f0), decide_eq_true (by omega : x.f0 < (n : Int))]; rfl
    rw [this]
    refine ev_neg c1 (ev_neg c2 (ev_bind (refstands_ev x.f1) ?_))
    cases standsB x.f1
    · exact ev_neg (by decide) (ev_now rfl)
    · refine ev_pos rfl ?_
      simp only [e3]
      exact hE
theorem refright_l0 (l : List ByteArray) (m : List S42) (hl : l.length ≤ 256) (hm : m.length ≤ 140737488355328) (d : Nat) : ∀ i : Nat, l.length - i = d → i ≤ l.length →
    Ev (fun k => doorwardref03_Right.l0 k (l.length : Int) l (l.length : Int) (i : Int) l m) ((l.drop i).all standsB && !(m.any (badW l.length))) := by
  induction d with
  | zero =>
    intro i hd hi
    obtain rfl : i = l.length := by omega
    refine ev_succ (g := fun k => doorwardref03_Right.l0 k (l.length : Int) l (l.length : Int) ((l.length : Nat) : Int) l m) ?_
    simp only [doorwardref03_Right.l0]
    refine ev_neg (by omega) ?_
    have := refright_l1 l.length m hm m.length 0 (by omega) (by omega)
    rw [List.drop_length, List.all_nil, Bool.true_and]
    exact this
  | succ d ih =>
    intro i hd hi
    have hlt : i < l.length := by omega
    refine ev_succ (g := fun k => doorwardref03_Right.l0 k (l.length : Int) l (l.length : Int) ((i : Nat) : Int) l m) ?_
    simp only [doorwardref03_Right.l0]
    refine ev_pos (by omega) (ev_pos (by omega) (ev_pos (by omega) ?_))
    rw [rdOf_at l i hlt, all_step _ _ _ hlt]
    have e3 : wrap64 ((i : Int) + 1) = ((i + 1 : Nat) : Int) := by rw [wrap64_id (by omega) (by omega)]; omega
    have hE := ih (i + 1) (by omega) (by omega)
    refine ev_bind (refstands_ev l[i]) ?_
    cases standsB l[i]
    · exact ev_neg (by decide) (ev_now rfl)
    · refine ev_pos rfl ?_
      simp only [e3, Bool.true_and]
      exact hE
theorem refright_ev (l : List ByteArray) (m : List S42) (hm : m.length ≤ 140737488355328) : Ev (fun k => doorwardref03_Right.f k l m) (rightB l m) := by
  unfold doorwardref03_Right.f rightB
  by_cases c1 : (l.length : Int) < 1
  · refine ev_pos c1 ?_
    refine ev_succ (g := fun k => doorwardref03_Right.j0 k (l.length : Int) true l m) ?_
    simp only [doorwardref03_Right.j0]
    rw [decide_eq_false (by omega : ¬ 1 ≤ l.length)]
    exact ev_pos trivial (ev_now rfl)
  refine ev_neg c1 ?_
  refine ev_succ (g := fun k => doorwardref03_Right.j0 k (l.length : Int) (decide ((l.length : Int) > 256)) l m) ?_
  simp only [doorwardref03_Right.j0]
  rw [decide_eq_true (by omega : 1 ≤ l.length)]
  by_cases c2 : (l.length : Int) > 256
  · rw [decide_eq_true c2, decide_eq_false (by omega : ¬ l.length ≤ 256)]
    exact ev_pos rfl (ev_now rfl)
  · rw [decide_eq_false c2, decide_eq_true (by omega : l.length ≤ 256)]
    refine ev_neg (by decide) ?_
    have := refright_l0 l m (by omega) hm l.length 0 (by omega) (by omega)
    simp only [Bool.true_and]
    exact this
end Go.Proofs.YtniplmjbligmlaaDoor.Q
