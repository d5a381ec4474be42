/- DiskWhole holds: the Go law answers true for every input, and leaves its arguments alone; no condition but that the listed tables of the library stand as the program's text lays them. -/
import Derived.Test.YtniplmjbligmlaaDoorMgDiskWhole2
import Derived.Test.YtniplmjbligmlaaDoorMgDiskWhole1
import Derived.Test.YtniplmjbligmlaaDoorMgDiskWhole0
import Derived.Test.YtniplmjbligmlaaDoorCards
import Derived.Test.YtniplmjbligmlaaDoorTie
import Derived.WalkKit
import Derived.ProofKit
import Derived.OpenShut
import Derived.ShutString
import Derived.ChangeOld
import Derived.Below
import Derived.SizedLaws
import Derived.LaidMore
import Derived.Lay
import Derived.SevenTiedAt
import Derived.Stop.Joined
/-! Layer 3's plain laws: the reference's crash, what a sector tells, two disks that are the same; what a crash leaves. -/
namespace Go.Proofs.YtniplmjbligmlaaDoor.Q
open Go.RowKit Go.Proofs.YtniplmjbligmlaaDoorW.PrintWords Go.Proofs.YtniplmjbligmlaaDoorW.PrintLast Go.Proofs.YtniplmjbligmlaaDoorW.PrintMore Go.Proofs.YtniplmjbligmlaaDoor.Base
set_option linter.unusedVariables false
theorem step64 {i n : Nat} (h : i < n) (hn : n ≤ 140737488355328) : wrap64 ((i : Int) + 1) = ((i + 1 : Nat) : Int) := by rw [wrap64_id (by omega) (by omega)]; omega
/-- what becomes of one sector -/
def secF (all : Bool) (a : Int) : List S42 → List Bool → ByteArray → ByteArray
  | [], _, s => s
  | x :: xs, bs, s => secF all a xs bs.tail (if x.f0 = a ∧ (all = true ∨ bs.headD false = true) then x.f1 else s)
theorem secF_all (a : Int) : ∀ (xs : List S42) (bs : List Bool) (s : ByteArray), secF true a xs bs s = lastW xs a s
  | [], _, _ => rfl
  | x :: xs, bs, s => by
    unfold secF lastW
    rw [secF_all a xs]
    simp
theorem secF_nil (a : Int) : ∀ (xs : List S42) (s : ByteArray), secF false a xs [] s = s
  | [], _ => rfl
  | x :: xs, s => by unfold secF; rw [List.tail_nil, secF_nil a xs]; simp
theorem crashL_at : ∀ (xs : List S42) (bs : List Bool) (s : List ByteArray) (k : Nat), (∀ x ∈ xs, badW s.length x = false) → (crashL xs bs s)[k]? = (s[k]?).map (secF false (k : Int) xs bs)
  | [], _, s, k, _ => by
    have : secF false (k : Int) [] = fun _ s => s := rfl
    cases h : s[k]? <;> simp [crashL, h, this]
  | x :: xs, [], s, k, hb => by
    unfold crashL
    cases h : s[k]? with
    | none => rfl
    | some z => simp only [Option.map_some]; rw [secF_nil]
  | x :: xs, b :: bs, s, k, hb => by
    obtain ⟨h0, h1, _⟩ := not_bad (hb x (List.mem_cons_self ..))
    have hb2 : ∀ y ∈ xs, badW s.length y = false := fun y hy => hb y (List.mem_cons_of_mem _ hy)
    unfold crashL
    cases b with
    | true =>
      rw [if_pos rfl, crashL_at xs bs (s.set x.f0.toNat x.f1) k (by rw [List.length_set]; exact hb2), List.getElem?_set]
      by_cases e : x.f0.toNat = k
      · rw [if_pos e, if_pos (by omega)]
        have hlt : k < s.length := by omega
        rw [List.getElem?_eq_getElem hlt, Option.map_some, Option.map_some]
        unfold secF
        simp only [List.tail_cons, List.headD_cons]
        rw [if_pos ⟨by omega, by simp⟩]
        rw [secF.eq_def]
      · rw [if_neg e]
        cases h : s[k]? with
        | none => rfl
        | some z =>
          rw [Option.map_some, Option.map_some]
          conv => rhs; unfold secF
          simp only [List.tail_cons, List.headD_cons]
          rw [if_neg (fun h => e (by omega))]
    | false =>
      rw [if_neg (by decide), crashL_at xs bs s k hb2]
      cases h : s[k]? with
      | none => rfl
      | some z =>
        rw [Option.map_some, Option.map_some]
        conv => rhs; unfold secF
        rw [if_neg (by simp)]
        rfl
theorem secF_trues (a : Int) : ∀ (xs : List S42) (s : ByteArray), secF false a xs (List.replicate xs.length true) s = lastW xs a s
  | [], _ => rfl
  | x :: xs, s => by
    rw [List.length_cons, List.replicate_succ]
    unfold secF lastW
    simp only [List.tail_cons, List.headD_cons]
    rw [secF_trues a xs]; simp
theorem crashL_all_at (xs : List S42) (s : List ByteArray) (k : Nat) (hb : ∀ x ∈ xs, badW s.length x = false) : (crashL xs (List.replicate xs.length true) s)[k]? = (s[k]?).map (lastW xs (k : Int)) := by
  rw [crashL_at xs _ s k hb]
  cases s[k]? with
  | none => rfl
  | some z => rw [Option.map_some, Option.map_some, secF_trues]
theorem crash_stands (xs : List S42) : ∀ (bs : List Bool) (s : List ByteArray), (∀ z ∈ s, standsB z = true) → (∀ x ∈ xs, badW s.length x = false) → ∀ z ∈ crashL xs bs s, standsB z = true := by
  induction xs with
  | nil => intro bs s hs _; exact hs
  | cons x xs ih =>
    intro bs s hs hb
    cases bs with
    | nil => exact hs
    | cons b bs =>
      have hb2 : ∀ y ∈ xs, badW s.length y = false := fun y hy => hb y (List.mem_cons_of_mem _ hy)
      unfold crashL
      cases b with
      | true =>
        refine ih bs _ (fun z hz => ?_) (by rw [if_pos rfl, List.length_set]; exact hb2)
        rw [if_pos rfl] at hz
        rcases List.mem_or_eq_of_mem_set hz with h | h
        · exact hs z h
        · rw [h]; exact (not_bad (hb x (List.mem_cons_self ..))).2.2
      | false => exact ih bs s hs hb2
theorem right_mk {l0 : List ByteArray} {l1 : List S42} (h1 : 1 ≤ l0.length) (h2 : l0.length ≤ 256) (h3 : ∀ s ∈ l0, standsB s = true) (h4 : ∀ x ∈ l1, badW l0.length x = false) : rightB l0 l1 = true := by
  unfold rightB
  simp only [Bool.and_eq_true, decide_eq_true_eq, Bool.not_eq_true', List.all_eq_true, List.any_eq_false]
  exact ⟨⟨⟨h1, h2⟩, h3⟩, fun x hx => by simpa using h4 x hx⟩
theorem crash_still {l0 : List ByteArray} {l1 : List S42} (h : rightB l0 l1 = true) (bs : List Bool) : rightB (crashL l1 bs l0) [] = true := by
  obtain ⟨h1, h2, h3, h4⟩ := right_parts h
  exact right_mk (by rw [crashL_length]; exact h1) (by rw [crashL_length]; exact h2) (crash_stands l1 bs l0 h3 h4) (fun x hx => absurd hx List.not_mem_nil)
/-! the reference -/
theorem rdB_out (l : List Bool) (k : Nat) : rdOf false l (k : Int) = (l.drop k).headD false := by
  simp [rdOf, List.getD_eq_getElem?_getD, List.head?_drop, List.headD_eq_head?_getD]
theorem refcrash_l1 (all : Bool) (keep : List Bool) (a : Int) (x15 : List ByteArray) (x16 x17 : Int) (l : List S42) (l0 out : List ByteArray) (hl : l.length ≤ 140737488355328) (hout : out.length < 8796093022208) (R : List ByteArray × List S42) (d : Nat) : ∀ (i : Nat) (s : ByteArray), l.length - i = d → i ≤ l.length →
    Ev (fun k => doorwardref03_Crash.l0 k all keep x15 x16 (wrap64 (x17 + 1)) l0 l (out ++ [secF all a (l.drop i) (keep.drop i) s])) R →
    Ev (fun k => doorwardref03_Crash.l1 k all keep a s x15 x16 x17 l (l.length : Int) (i : Int) l0 l out) R := by
  induction d with
  | zero =>
    intro i s hd hi hR
    obtain rfl : i = l.length := by omega
    refine ev_succ (g := fun k => doorwardref03_Crash.l1 k all keep a s x15 x16 x17 l (l.length : Int) ((l.length : Nat) : Int) l0 l out) ?_
    simp only [doorwardref03_Crash.l1]
    refine ev_neg (by omega) (ev_pos hout ?_)
    rw [List.drop_length] at hR
    exact hR
  | succ d ih =>
    intro i s hd hi hR
    have hlt : i < l.length := by omega
    refine ev_succ (g := fun k => doorwardref03_Crash.l1 k all keep a s x15 x16 x17 l (l.length : Int) ((i : Nat) : Int) l0 l out) ?_
    simp only [doorwardref03_Crash.l1]
    refine ev_pos (by omega) (ev_pos (by omega) (ev_pos (by omega) ?_))
    rw [rdT_at l i hlt, rdB_out]
    rw [List.drop_eq_getElem_cons hlt] at hR
    unfold secF at hR
    rw [List.tail_drop] at hR
    have e3 := step64 hlt hl
    have go : ∀ (s' : ByteArray), (if l[i].f0 = a ∧ (all = true ∨ (keep.drop i).headD false = true) then l[i].f1 else s) = s' → Ev (fun k => doorwardref03_Crash.l1 k all keep a s' x15 x16 x17 l (l.length : Int) (wrap64 ((i : Int) + 1)) l0 l out) R := by
      intro s' hs'
      rw [hs'] at hR
      rw [e3]
      exact ih (i + 1) s' (by omega) (by omega) hR
    by_cases c1 : all = true
    · refine ev_pos c1 ?_
      by_cases c2 : l[i].f0 = a
      · exact ev_pos c2 (go _ (by rw [if_pos ⟨c2, .inl c1⟩]))
      · exact ev_neg c2 (go _ (by rw [if_neg (fun h => c2 h.1)]))
    · refine ev_neg c1 ?_
      by_cases c3 : (i : Int) < (keep.length : Int)
      · refine ev_pos c3 ?_
        by_cases c2 : l[i].f0 = a
        · refine ev_pos c2 ?_
          by_cases c4 : (keep.drop i).headD false = true
          · exact ev_pos c4 (go _ (by rw [if_pos ⟨c2, .inr c4⟩]))
          · exact ev_neg c4 (go _ (by rw [if_neg (fun h => h.2.elim c1 c4)]))
        · exact ev_neg c2 (go _ (by rw [if_neg (fun h => c2 h.1)]))
      · refine ev_neg c3 ?_
        have c4 : ¬ (keep.drop i).headD false = true := by rw [List.drop_eq_nil_of_le (by omega)]; simp
        by_cases c2 : l[i].f0 = a
        · exact ev_pos c2 (go _ (by rw [if_neg (fun h => h.2.elim c1 c4)]))
        · exact ev_neg c2 (go _ (by rw [if_neg (fun h => c2 h.1)]))
def refCrashL (all : Bool) (keep : List Bool) (l : List S42) (l0 : List ByteArray) : List ByteArray := (List.range l0.length).map fun (k : Nat) => secF all (k : Int) l keep (l0.getD k ByteArray.empty)
theorem refcrash_l0 (all : Bool) (keep : List Bool) (l : List S42) (l0 : List ByteArray) (hl : l.length ≤ 140737488355328) (hl0 : l0.length ≤ 256) (d : Nat) : ∀ (i : Nat), l0.length - i = d → i ≤ l0.length →
    Ev (fun k => doorwardref03_Crash.l0 k all keep l0 (l0.length : Int) (i : Int) l0 l ((refCrashL all keep l l0).take i)) (refCrashL all keep l l0, []) := by
  have hlen : (refCrashL all keep l l0).length = l0.length := by simp [refCrashL]
  induction d with
  | zero =>
    intro i hd hi
    obtain rfl : i = l0.length := by omega
    refine ev_succ (g := fun k => doorwardref03_Crash.l0 k all keep l0 (l0.length : Int) ((l0.length : Nat) : Int) l0 l ((refCrashL all keep l l0).take l0.length)) ?_
    simp only [doorwardref03_Crash.l0]
    exact ev_neg (by omega) (ev_now (by rw [List.take_of_length_le (by omega)]))
  | succ d ih =>
    intro i hd hi
    have hlt : i < l0.length := by omega
    refine ev_succ (g := fun k => doorwardref03_Crash.l0 k all keep l0 (l0.length : Int) ((i : Nat) : Int) l0 l ((refCrashL all keep l l0).take i)) ?_
    simp only [doorwardref03_Crash.l0]
    refine ev_pos (by omega) (ev_pos (by omega) (ev_pos (by omega) ?_))
    refine refcrash_l1 all keep (i : Int) l0 (l0.length : Int) (i : Int) l l0 _ hl (by rw [List.length_take]; omega) _ l.length 0 _ (by omega) (by omega) ?_
    rw [step64 hlt (by omega)]
    have e : (refCrashL all keep l l0).take i ++ [secF all (i : Int) (l.drop 0) (keep.drop 0) (rdOf ByteArray.empty l0 (i : Int))] = (refCrashL all keep l l0).take (i + 1) := by
      rw [List.take_add_one, List.getElem?_eq_getElem (by omega)]
      simp [refCrashL, rdOf]
    rw [e]
    exact ih (i + 1) (by omega) (by omega)
theorem refcrash_ev (all : Bool) (keep : List Bool) (l : List S42) (l0 : List ByteArray) (hl : l.length ≤ 140737488355328) (hl0 : l0.length ≤ 256) : Ev (fun k => doorwardref03_Crash.f k l0 l all keep) (refCrashL all keep l l0, []) := by
  unfold doorwardref03_Crash.f
  exact refcrash_l0 all keep l l0 hl hl0 l0.length 0 (by omega) (by omega)
theorem refCrashL_at (all : Bool) (keep : List Bool) (l : List S42) (l0 : List ByteArray) (k : Nat) : (refCrashL all keep l l0)[k]? = (l0[k]?).map (secF all (k : Int) l keep) := by
  unfold refCrashL
  rw [List.getElem?_map]
  by_cases h : k < l0.length
  · rw [List.getElem?_range h, List.getElem?_eq_getElem h]
    simp [List.getD_eq_getElem?_getD, List.getElem?_eq_getElem h]
  · rw [List.getElem?_eq_none (by simp; omega), List.getElem?_eq_none (by omega)]; rfl
theorem refcrash_some {l0 : List ByteArray} {l : List S42} (keep : List Bool) (h : rightB l0 l = true) : refCrashL false keep l l0 = crashL l keep l0 := by
  obtain ⟨h1, h2, h3, h4⟩ := right_parts h
  apply List.ext_getElem?
  intro k
  rw [crashL_at l keep l0 k h4, refCrashL_at]
theorem refcrash_all {l0 : List ByteArray} {l : List S42} (keep : List Bool) (h : rightB l0 l = true) : refCrashL true keep l l0 = crashL l (List.replicate l.length true) l0 := by
  obtain ⟨h1, h2, h3, h4⟩ := right_parts h
  apply List.ext_getElem?
  intro k
  rw [crashL_all_at l l0 k h4, refCrashL_at]
  cases l0[k]? with
  | none => rfl
  | some z => rw [Option.map_some, Option.map_some, secF_all]
theorem tells_l0 (a : Int) (l : List S42) (hl : l.length ≤ 140737488355328) (d : Nat) : ∀ (i : Nat) (s : ByteArray), l.length - i = d → i ≤ l.length → Ev (fun k => doorwardref03_Tells.l0 k a s l (l.length : Int) (i : Int)) (lastW (l.drop i) a s) := by
  induction d with
  | zero =>
    intro i s hd hi
    obtain rfl : i = l.length := by omega
    refine ev_succ (g := fun k => doorwardref03_Tells.l0 k a s l (l.length : Int) ((l.length : Nat) : Int)) ?_
    simp only [doorwardref03_Tells.l0]
    exact ev_neg (by omega) (ev_now (by rw [List.drop_length]; rfl))
  | succ d ih =>
    intro i s hd hi
    have hlt : i < l.length := by omega
    refine ev_succ (g := fun k => doorwardref03_Tells.l0 k a s l (l.length : Int) ((i : Nat) : Int)) ?_
    simp only [doorwardref03_Tells.l0]
    refine ev_pos (by omega) (ev_pos (by omega) (ev_pos (by omega) ?_))
    rw [rdT_at l i hlt, step64 hlt hl, List.drop_eq_getElem_cons hlt]
    unfold lastW
    by_cases c : l[i].f0 = a
    · rw [if_pos c]; exact ev_pos c (ih (i + 1) _ (by omega) (by omega))
    · rw [if_neg c]; exact ev_neg c (ih (i + 1) _ (by omega) (by omega))
theorem tells_ev (l0 : List ByteArray) (l : List S42) (a : Int) (hl : l.length ≤ 140737488355328) (h0 : 0 ≤ a) (h1 : a < (l0.length : Int)) : Ev (fun k => doorwardref03_Tells.f k l0 l a) (lastW l a (rdOf ByteArray.empty l0 a)) := by
  unfold doorwardref03_Tells.f
  refine ev_pos h0 (ev_pos h1 ?_)
  exact tells_l0 a l hl l.length 0 _ (by omega) (by omega)
theorem likew_l0 (l : List S42) (hl : l.length ≤ 140737488355328) (d : Nat) : ∀ (i : Nat), l.length - i = d → i ≤ l.length → Ev (fun k => doorwardref03_LikeWrites.l0 k l l (l.length : Int) (i : Int)) true := by
  induction d with
  | zero =>
    intro i hd hi
    obtain rfl : i = l.length := by omega
    refine ev_succ (g := fun k => doorwardref03_LikeWrites.l0 k l l (l.length : Int) ((l.length : Nat) : Int)) ?_
    simp only [doorwardref03_LikeWrites.l0]
    exact ev_neg (by omega) (ev_now rfl)
  | succ d ih =>
    intro i hd hi
    have hlt : i < l.length := by omega
    refine ev_succ (g := fun k => doorwardref03_LikeWrites.l0 k l l (l.length : Int) ((i : Nat) : Int)) ?_
    simp only [doorwardref03_LikeWrites.l0]
    refine ev_pos (by omega) (ev_pos (by omega) (ev_pos (by omega) (ev_pos (by omega) (ev_neg (by simp) ?_))))
    rw [step64 hlt hl]
    exact ih (i + 1) (by omega) (by omega)
theorem like_l0 (l0 : List ByteArray) (l : List S42) (hl0 : l0.length ≤ 140737488355328) (hl : l.length ≤ 140737488355328) (d : Nat) : ∀ (i : Nat), l0.length - i = d → i ≤ l0.length → Ev (fun k => doorwardref03_Like.l0 k (l0.length : Int) (i : Int) l0 l l0 l) true := by
  induction d with
  | zero =>
    intro i hd hi
    obtain rfl : i = l0.length := by omega
    refine ev_succ (g := fun k => doorwardref03_Like.l0 k (l0.length : Int) ((l0.length : Nat) : Int) l0 l l0 l) ?_
    simp only [doorwardref03_Like.l0]
    refine ev_neg (by omega) (ev_bind ?_ (ev_now rfl))
    unfold doorwardref03_LikeWrites.f
    exact ev_pos rfl (likew_l0 l hl l.length 0 (by omega) (by omega))
  | succ d ih =>
    intro i hd hi
    have hlt : i < l0.length := by omega
    refine ev_succ (g := fun k => doorwardref03_Like.l0 k (l0.length : Int) ((i : Nat) : Int) l0 l l0 l) ?_
    simp only [doorwardref03_Like.l0]
    refine ev_pos (by omega) (ev_pos (by omega) (ev_pos (by omega) (ev_pos (by omega) (ev_pos trivial ?_))))
    rw [step64 hlt hl0]
    exact ih (i + 1) (by omega) (by omega)
theorem like_refl (l0 : List ByteArray) (l : List S42) (hl0 : l0.length ≤ 140737488355328) (hl : l.length ≤ 140737488355328) : Ev (fun k => doorwardref03_Like.f k l0 l l0 l) true := by
  unfold doorwardref03_Like.f
  refine ev_pos rfl ?_
  refine ev_succ (g := fun k => doorwardref03_Like.j0 k ((l.length : Int) != (l.length : Int)) l0 l l0 l) ?_
  simp only [doorwardref03_Like.j0]
  exact ev_neg (by simp) (like_l0 l0 l hl0 hl l0.length 0 (by omega) (by omega))
end Go.Proofs.YtniplmjbligmlaaDoor.Q

/-! disk.New, a disk of few sectors, a disk that may be. -/
namespace Go.Proofs.YtniplmjbligmlaaDoor.Pure
open Go.RowKit Go.Proofs.YtniplmjbligmlaaDoorW.PrintWords Go.Proofs.YtniplmjbligmlaaDoorW.PrintLast Go.Proofs.YtniplmjbligmlaaDoorW.PrintMore Go.Proofs.YtniplmjbligmlaaDoor.Base Go.Proofs.YtniplmjbligmlaaDoor.Q
set_option linter.unusedVariables false
theorem new_bad (n : Int) (h : n < 1 ∨ n > 256) : disk_New.f n = some ([], [], 1) := by
  unfold disk_New.f
  by_cases c : n < 1
  · rw [if_pos c]
  · rw [if_neg c, if_pos (by omega)]
theorem new_ok (n : Int) (h : ¬ (n < 1 ∨ n > 256)) : disk_New.f n = some (List.replicate n.toNat (⟨#[]⟩ : ByteArray), [], 0) := by
  unfold disk_New.f
  rw [if_neg (by omega), if_neg (by omega), if_pos (by omega), if_pos (by omega)]
theorem empty_stands : standsB (⟨#[]⟩ : ByteArray) = true := by decide +kernel
theorem new_right (n : Nat) (h : 1 ≤ n) (h2 : n ≤ 256) : rightB (List.replicate n (⟨#[]⟩ : ByteArray)) [] = true := by
  unfold rightB
  simp only [List.length_replicate, List.any_nil, Bool.not_false, Bool.and_true]
  rw [decide_eq_true h, decide_eq_true h2]
  simp only [Bool.true_and]
  rw [List.all_eq_true]
  intro x hx
  rw [List.eq_of_mem_replicate hx]; exact empty_stands
theorem alive3 : doorwardlaw03_alive.f = some true := by
  unfold doorwardlaw03_alive.f
  rw [new_ok 3 (by omega)]
  simp only [Option.bind_some]
  rw [if_pos trivial]
  unfold disk_Right.f
  rw [new_right (3 : Int).toNat (by decide) (by decide)]
  simp
theorem few_eq (l : List ByteArray) (m : List S42) : doorwardlaw03_few.f l m = some (l.take 300, m.take 40) := by
  unfold doorwardlaw03_few.f
  simp only [mn_eq]
  rw [if_pos (by omega), if_pos (by omega), if_pos (by omega), if_pos (by omega)]
  have h1 : l.take (min (l.length : Int) 300).toNat = l.take 300 := by
    rw [show (min (l.length : Int) 300).toNat = min 300 l.length by omega, ← List.take_take, List.take_length]
  have h2 : m.take (min (m.length : Int) 40).toNat = m.take 40 := by
    rw [show (min (m.length : Int) 40).toNat = min 40 m.length by omega, ← List.take_take, List.take_length]
  rw [h1, h2]
end Go.Proofs.YtniplmjbligmlaaDoor.Pure

/-! What the printed and the proved functions of layer 3 answer, one by one. -/
namespace Go.Proofs.YtniplmjbligmlaaDoor.Pure
open Go.RowKit Go.Proofs.YtniplmjbligmlaaDoorW.PrintWords Go.Proofs.YtniplmjbligmlaaDoorW.PrintLast Go.Proofs.YtniplmjbligmlaaDoorW.PrintMore Go.Proofs.YtniplmjbligmlaaDoor.Base Go.Proofs.YtniplmjbligmlaaDoor.Q
set_option linter.unusedVariables false
theorem empty_toList : (⟨#[]⟩ : ByteArray).toList = [] := by rw [toList_L]
theorem crash_ok (l0 : List ByteArray) (l1 : List S42) (keep : List Bool) (h : rightB l0 l1 = true) (hl : l1.length ≤ 4294967295) : Ev (fun k => disk_Crash.f k l0 l1 keep) (crashL l1 keep l0, [], 0) :=
  ev_from (l1.length + 1) fun k hk => crash_right k l0 l1 keep h hl (by omega)
theorem crash_no (l0 : List ByteArray) (l1 : List S42) (keep : List Bool) (h : rightB l0 l1 = false) : Ev (fun k => disk_Crash.f k l0 l1 keep) ([], [], 1) :=
  ev_from 0 fun k _ => crash_wrong k l0 l1 keep h
theorem read_no (l0 : List ByteArray) (l1 : List S42) (a : Int) (h : rightB l0 l1 = false) : disk_Read.f l0 l1 a = some (⟨#[]⟩, 1) := by unfold disk_Read.f; rw [h]; rfl
theorem read_none (l0 : List ByteArray) (l1 : List S42) (a : Int) (h : rightB l0 l1 = true) (h2 : hasB l0.length a = false) : disk_Read.f l0 l1 a = some (⟨#[]⟩, 20) := by unfold disk_Read.f; rw [h, h2]; rfl
theorem read_ok (l0 : List ByteArray) (l1 : List S42) (a : Int) (h : rightB l0 l1 = true) (h2 : hasB l0.length a = true) : disk_Read.f l0 l1 a = some (lastW l1 a (rdOf ByteArray.empty l0 a), 0) := by unfold disk_Read.f; rw [h, h2]; rfl
end Go.Proofs.YtniplmjbligmlaaDoor.Pure

/-! What writing and flushing answer. -/
namespace Go.Proofs.YtniplmjbligmlaaDoor.Pure
open Go.RowKit Go.Proofs.YtniplmjbligmlaaDoorW.PrintWords Go.Proofs.YtniplmjbligmlaaDoorW.PrintLast Go.Proofs.YtniplmjbligmlaaDoorW.PrintMore Go.Proofs.YtniplmjbligmlaaDoor.Base Go.Proofs.YtniplmjbligmlaaDoor.Q
set_option linter.unusedVariables false
def leftF (left : Int) : Int := if left > 0 then wrap64 (left - 1) else left
/-- what the reference's call answers -/
def doF (l0 : List ByteArray) (l1 : List S42) (left c : Int) (s : ByteArray) : List ByteArray × List S42 × Int × Int :=
  if left = 0 then (l0, l1, left, 21) else if rightB l0 l1 = true then
    (if c < 0 then (crashL l1 (List.replicate l1.length true) l0, [], leftF left, 0) else if c ≥ (l0.length : Int) then (l0, l1, left, 20) else if ((trimS s).size : Int) > 512 then (l0, l1, left, 2) else (l0, l1 ++ [⟨c, trimS s⟩], leftF left, 0))
  else (l0, l1, left, 1)
theorem flush_do (l0 : List ByteArray) (l1 : List S42) (left : Int) (hl : l1.length ≤ 4294967295) : disk_Flush.f l0 l1 left = some (doF l0 l1 left (-1) ⟨#[]⟩) := by
  unfold disk_Flush.f callF doF flush1F leftF
  by_cases h0 : left = 0
  · rw [if_pos h0, if_pos h0]
  rw [if_neg h0, if_neg h0]
  by_cases hr : rightB l0 l1 = true
  · rw [if_pos hr, if_pos hr, if_pos (show (-1 : Int) < 0 by omega)]
    simp [hr, hl]
  · rw [if_neg hr, if_neg hr]
theorem write_do (l0 : List ByteArray) (l1 : List S42) (left c : Int) (s : ByteArray) (hl : l1.length ≤ 4294967295) (hs : s.size ≤ 140737488355328) (hc : 0 ≤ c) : disk_Write.f l0 l1 left c s = some (doF l0 l1 left c s) := by
  have hz : trimS s = trimS s := rfl
  unfold disk_Write.f callF doF write1F leftF
  rw [if_pos (by omega)]
  by_cases h0 : left = 0
  · rw [if_pos h0, if_pos h0]
  rw [if_neg h0, if_neg h0]
  by_cases hr : rightB l0 l1 = true
  · rw [if_pos hr, if_pos hr, if_neg (show ¬ c < 0 by omega)]
    by_cases c2 : c ≥ (l0.length : Int)
    · have h1 : hasB l0.length c = false := by unfold hasB; rw [decide_eq_false (by omega : ¬ c < (l0.length : Int))]; simp
      rw [if_pos c2]
      simp [h1]
    · have h1 : hasB l0.length c = true := by unfold hasB; rw [decide_eq_true hc, decide_eq_true (by omega : c < (l0.length : Int))]; rfl
      rw [if_neg c2]
      by_cases c3 : (trimS s).size ≤ 512
      · rw [if_neg (show ¬ ((trimS s).size : Int) > 512 by omega)]
        simp [h1, c3, show l1.length < 5864062014804 by omega]
      · rw [if_pos (show ((trimS s).size : Int) > 512 by omega)]
        simp [h1, c3]
  · rw [if_neg hr, if_neg hr]
theorem write_neg (l0 : List ByteArray) (l1 : List S42) (left c : Int) (s : ByteArray) (hs : s.size ≤ 140737488355328) (hc : c < 0) : disk_Write.f l0 l1 left c s = some (l0, l1, left, if left = 0 then 21 else if rightB l0 l1 = true then 20 else 1) := by
  unfold disk_Write.f callF write1F
  rw [if_pos (by omega)]
  by_cases h0 : left = 0
  · rw [if_pos h0, if_pos h0]
  rw [if_neg h0, if_neg h0]
  by_cases hr : rightB l0 l1 = true
  · rw [if_pos hr, if_pos hr]
    have : hasB l0.length c = false := by unfold hasB; rw [decide_eq_false (by omega : ¬ 0 ≤ c)]; rfl
    rw [this, if_neg (by decide)]; rfl
  · rw [if_neg hr, if_neg hr]
theorem do_lens (l0 : List ByteArray) (l1 : List S42) (left c : Int) (s : ByteArray) (hl : l1.length ≤ 4294967295) (hl0 : l0.length ≤ 4294967295) : (doF l0 l1 left c s).1.length ≤ 140737488355328 ∧ (doF l0 l1 left c s).2.1.length ≤ 140737488355328 := by
  unfold doF
  split
  · exact ⟨by simp only; omega, by simp only; omega⟩
  split
  · split
    · exact ⟨by simp only; rw [crashL_length]; omega, by simp⟩
    split
    · exact ⟨by simp only; omega, by simp only; omega⟩
    split
    · exact ⟨by simp only; omega, by simp only; omega⟩
    · exact ⟨by simp only; omega, by simp only [List.length_append, List.length_cons, List.length_nil]; omega⟩
  · exact ⟨by simp only; omega, by simp only; omega⟩
theorem do_err (l0 : List ByteArray) (l1 : List S42) (left : Int) (s : ByteArray) : let g := (doF l0 l1 left 0 s).2.2.2; (g = 21 ↔ left = 0) ∧ (g = 1 ↔ (left ≠ 0 ∧ ¬ rightB l0 l1 = true)) := by
  unfold doF
  by_cases h0 : left = 0
  · simp [h0]
  by_cases hr : rightB l0 l1 = true
  · simp only [if_neg h0, if_pos hr]
    split
    · simp [h0, hr]
    split
    · simp [h0, hr]
    split <;> simp [h0, hr]
  · simp [h0, hr]
end Go.Proofs.YtniplmjbligmlaaDoor.Pure

/-! What writing and flushing a disk that may be answer. -/
namespace Go.Proofs.YtniplmjbligmlaaDoor.Q
open Go.RowKit Go.Proofs.YtniplmjbligmlaaDoorW.PrintWords Go.Proofs.YtniplmjbligmlaaDoorW.PrintLast Go.Proofs.YtniplmjbligmlaaDoorW.PrintMore Go.Proofs.YtniplmjbligmlaaDoor.Base Go.Proofs.YtniplmjbligmlaaDoor.Pure
set_option linter.unusedVariables false
set_option linter.unusedSimpArgs false
theorem stands_trim (s : ByteArray) (h : s.size ≤ 512) : standsB (trimS s) = true := by
  unfold standsB; rw [trimS_idem]; simp; have := trimS_size s; omega
theorem right_more {m0 : List ByteArray} {m1 : List S42} (h : rightB m0 m1 = true) (a : Int) (h0 : 0 ≤ a) (h1 : a < (m0.length : Int)) (s : ByteArray) (hs : s.size ≤ 512) : rightB m0 (m1 ++ [⟨a, trimS s⟩]) = true := by
  obtain ⟨g1, g2, g3, g4⟩ := right_parts h
  refine right_mk g1 g2 g3 (fun x hx => ?_)
  rcases List.mem_append.1 hx with hx | hx
  · exact g4 x hx
  · rw [List.mem_singleton.1 hx]
    unfold badW hasB
    rw [decide_eq_true h0, decide_eq_true h1, stands_trim s hs]; rfl
theorem write_right {m0 : List ByteArray} {m1 : List S42} (h : rightB m0 m1 = true) (hl : m1.length ≤ 4294967295) (a : Int) (h0 : 0 ≤ a) (h1 : a < (m0.length : Int)) (s : ByteArray) (hs : s.size ≤ 512) : disk_Write.f m0 m1 (-1) a s = some (m0, m1 ++ [⟨a, trimS s⟩], -1, 0) := by
  rw [write_do m0 m1 (-1) a s hl (by omega) h0]
  unfold doF leftF
  rw [if_neg (by omega), if_pos h, if_neg (by omega), if_neg (by omega), if_neg (by have := trimS_size s; omega), if_neg (by omega)]
theorem flush_right {m0 : List ByteArray} {m1 : List S42} (h : rightB m0 m1 = true) (hl : m1.length ≤ 4294967295) : disk_Flush.f m0 m1 (-1) = some (crashL m1 (List.replicate m1.length true) m0, [], -1, 0) := by
  rw [flush_do m0 m1 (-1) hl]
  unfold doF leftF
  rw [if_neg (by omega), if_pos h, if_pos (by omega), if_neg (by omega)]
theorem lastW_snoc (xs : List S42) (x : S42) (a : Int) (s : ByteArray) : lastW (xs ++ [x]) a s = if x.f0 = a then x.f1 else lastW xs a s := by rw [lastW_app]; rfl
end Go.Proofs.YtniplmjbligmlaaDoor.Q

/-! DiskWhole by a walk: what a crash leaves of each sector. No condition. -/
namespace Go.Proofs.YtniplmjbligmlaaDoor.Q
open Go.RowKit Go.Proofs.YtniplmjbligmlaaDoorW.PrintWords Go.Proofs.YtniplmjbligmlaaDoorW.PrintLast Go.Proofs.YtniplmjbligmlaaDoorW.PrintMore Go.Proofs.YtniplmjbligmlaaDoor.SL Go.Proofs.YtniplmjbligmlaaDoor.Base Go.Proofs.YtniplmjbligmlaaDoor.Pure
set_option linter.unusedVariables false
set_option linter.unusedSimpArgs false
def doorwardlaw03_DiskWhole.f (k : Nat) (l0 : List ByteArray) (l1 : List S42) (l2 : List Bool) : Option Bool := some true
theorem secF_mem (all : Bool) (a : Int) : ∀ (xs : List S42) (bs : List Bool) (s : ByteArray), secF all a xs bs s = s ∨ ∃ x ∈ xs, x.f0 = a ∧ x.f1 = secF all a xs bs s
  | [], bs, s => .inl (by unfold secF; rfl)
  | x :: xs, bs, s => by
    unfold secF
    by_cases h : x.f0 = a ∧ (all = true ∨ bs.headD false = true)
    · rw [if_pos h]
      rcases secF_mem all a xs bs.tail x.f1 with e | ⟨y, h1, h2, h3⟩
      · exact .inr ⟨x, List.mem_cons_self, h.1, e.symm⟩
      · exact .inr ⟨y, List.mem_cons_of_mem _ h1, h2, h3⟩
    · rw [if_neg h]
      rcases secF_mem all a xs bs.tail s with e | ⟨y, h1, h2, h3⟩
      · exact .inl e
      · exact .inr ⟨y, List.mem_cons_of_mem _ h1, h2, h3⟩
theorem crashL_none (m0 : List ByteArray) (m1 : List S42) (h : rightB m0 m1 = true) : crashL m1 [] m0 = m0 := by
  apply List.ext_getElem?
  intro k
  rw [crashL_at m1 [] m0 k (right_parts h).2.2.2]
  cases m0[k]? with
  | none => rfl
  | some z => rw [Option.map_some, secF_nil]
theorem fill_step (N i : Nat) (h : i < N) : putC (List.replicate i (Value.bool true) ++ List.replicate (N - i) (Value.bool false)) (0 + (i : Int).toNat * 1) [Value.bool true] = List.replicate (i + 1) (Value.bool true) ++ List.replicate (N - (i + 1)) (Value.bool false) := by
  unfold putC
  rw [show 0 + (i : Int).toNat * 1 = i by omega]
  obtain ⟨j, rfl⟩ : ∃ j, N = i + 1 + j := ⟨N - (i + 1), by omega⟩
  rw [show i + 1 + j - i = j + 1 by omega, show i + 1 + j - (i + 1) = j by omega, List.replicate_succ' (n := i)]
  have e : List.drop (i + 1) (List.replicate i (Value.bool true) ++ Value.bool false :: List.replicate j (Value.bool false)) = List.replicate j (Value.bool false) := by
    rw [List.drop_append, List.drop_eq_nil_of_le (by simp)]; simp
  simp [List.replicate_succ, e]
theorem flat_bools : ∀ n : Nat, List.replicate 0 (Value.bool true) ++ List.replicate n (Value.bool true) ++ List.replicate 0 (Value.bool false) = (List.replicate n true).flatMap (fun b => [Value.bool b])
  | 0 => rfl
  | n + 1 => by
    have := flat_bools n
    simp only [List.replicate_zero, List.nil_append, List.append_nil] at this ⊢
    rw [List.replicate_succ, this, List.replicate_succ, List.flatMap_cons]; rfl
theorem g_dst {P : Program} {l : List Oper} {a : Act} {rest : List Oper} {Q : Exit → Act → World → Prop} {w : World} (d : Nat) {op : Op} {ty : TypeId} {pos : String} {aft : Array Edge} {g : Option (Nat × Bool)} (h : wpList P l.toArray Q (⟨some d, op, ty, pos, aft, g⟩ :: rest) a w) : wpList P l.toArray Q (⟨some d, op, ty, pos, aft, g⟩ :: rest) a w := h
set_option maxHeartbeats 4000000 in
set_option maxRecDepth 100000 in
theorem doorwardlaw03_DiskWhole.calls (k : Nat) (A0_0 : Option Addr) (c0_0 : Nat) (l0_0 : List ByteArray) (A0_1 : Option Addr) (c0_1 : Nat) (l0_1 : List S42) (A1 : Option Addr) (c1 : Nat) (l1 : List Bool) (r : Bool) (w : World)
    (hr0_0 : Kd.C Kd.string w A0_0 l0_0.length l0_0) (hc0_0 : l0_0.length ≤ c0_0) (hr0_1 : Kd.C k42 w A0_1 l0_1.length l0_1) (hc0_1 : l0_1.length ≤ c0_1) (hr1 : Kd.C Kd.bool w A1 l1.length l1) (hc1 : l1.length ≤ c1) (h : doorwardlaw03_DiskWhole.f k l0_0 l0_1 l1 = some r) :
    Calls Tryd.prog 5 #[.agg #[.slice A0_0 l0_0.length c0_0, .slice A0_1 l0_1.length c0_1], .slice A1 l1.length c1] w fun e w' => e = .returned (.bool r) ∧ Below w.heap.size w w' := by
  obtain rfl := Option.some.inj h
  have H := (((St.start w (fun k => k < w.heap.size) (fun _ h => h)).fact (p := rdc Kd.string A0_0 l0_0) (Kd.C_F Kd.heap_string hr0_0)).fact (p := rdc k42 A0_1 l0_1) (Kd.C_F k42_heap hr0_1)).fact (p := rdc Kd.bool A1 l1) (Kd.C_F Kd.heap_bool hr1)
  replace H := H.fact (p := rdc Kd.bool none ([] : List Bool)) (fun W _ => Kd.C_nil _ _)
  have hcn : Cap ([] : List Bool).length 0 := ⟨Nat.le_refl _⟩
  replace hc0_0 := Cap.mk hc0_0
  replace hc0_1 := Cap.mk hc0_1
  replace hc1 := Cap.mk hc1
  clear hr0_0 hr0_1 hr1 h
  have hf := few_eq l0_0 l0_1
  obtain ⟨m0, hm0⟩ : ∃ l, l0_0.take 300 = l := ⟨_, rfl⟩
  obtain ⟨m1, hm1⟩ : ∃ l, l0_1.take 40 = l := ⟨_, rfl⟩
  rw [hm0, hm1] at hf
  have hm : m1.length ≤ 40 := by rw [← hm1, List.length_take]; omega
  have ha3 := alive3
  refine sx_enter Tryd.func5 Tryd.ntmps5 rfl rfl (fun a A => ?_)
  clear hm0 hm1
  obtain ⟨z0, hz0⟩ : ∃ z : List S42, [] = z := ⟨_, rfl⟩
  cases hR : rightB m0 m1 with
  | false =>
    obtain ⟨y0, hy0⟩ : ∃ z : List ByteArray, [] = z := ⟨_, rfl⟩
    obtain ⟨kk, hk⟩ := ev_ex (crash_no m0 m1 l1 hR)
    rw [hz0, hy0] at hk
    have hr1 : disk_Right.f m0 m1 = some false := by unfold disk_Right.f; rw [hR]
    clear hz0 hy0
    repeat' (first
    | with_reducible refine wp_seq ?_
    | with_reducible refine sx_region ?_
    | with_reducible refine wp_block ?_
    | with_reducible refine wpList_nil ?_
    | with_reducible refine sx_then ?_
    | with_reducible refine sx_inb ?_
    | with_reducible refine wp_skip ?_
    | with_reducible refine wp_ret ?_
    | with_reducible refine wp_exit ?_
    | with_reducible refine sx_then_ret ?_
    | with_reducible refine sx_inb_ret ?_
    | with_reducible refine sx_then_exit ?_
    | with_reducible refine sx_inb_exit ?_
    | with_reducible refine sx_inb_other rfl ?_
    | ((with_reducible refine sx_at ?_); first
      | (refine sx_pure A tbOk rfl rfl rfl ?_; clear A; intro a A)
      | (refine sx_skip A rfl rfl ?_; clear A; intro a A)
      | ((with_reducible refine g_bin ?_); first | ((refine g_int A rfl ?_); first | (refine sx_cmp A rfl rfl rfl rfl ?_; clear A; intro a A) | (refine sx_arith A rfl rfl rfl rfl ?_; clear A; intro a A)) | ((refine g_str A rfl ?_); first | (refine sx_scmp A rfl rfl rfl rfl ?_; clear A; intro a A) | (refine sx_concat A rfl rfl rfl rfl ?_; clear A; intro a A)))
      | ((with_reducible refine g_load ?_); first | (refine sx_load_all H A tbOk rfl rfl rfl rfl rfl ?_; clear A; intro a A) | (refine sx_load H A tbOk rfl rfl rfl rfl ?_; clear A; intro a A))
      | ((with_reducible refine g_store ?_); refine sx_store H A tbOk rfl rfl rfl rfl ?_; clear H; intro w_ H)
      | ((with_reducible refine g_box ?_); refine sx_box H A rfl rfl rfl ?_; clear H A; intro b_ a w_ A H)
      | ((with_reducible refine g_alloc ?_); refine sx_alloc H A tbOk rfl rfl rfl ?_; clear H A; intro b_ a w_ A H)
      | ((with_reducible refine g_build ?_); refine sx_build A tbOk rfl rfl rfl rfl rfl rfl ?_; clear A; intro a A)
      | ((with_reducible refine g_builtin ?_); first | (refine sx_min A rfl rfl rfl rfl ?_; clear A; intro a A) | (refine sx_max A rfl rfl rfl rfl ?_; clear A; intro a A))
      | ((with_reducible refine g_slice ?_); refine sx_sstr A tbOk rfl rfl rfl rfl rfl rfl ?_; clear A; intro a A)
      )
    | ((with_reducible refine g_draw ?_); refine qx_region H (by kernel_rfl) (by kernel_rfl) ?_)
    | ((with_reducible refine qx_nil ?_); clear H; intro w_ F_ H)
    | ((with_reducible refine q_at ?_); first
      | (refine qx_pure A tbOk rfl rfl rfl ?_; clear A; intro a A)
      | (refine qx_skip A rfl rfl ?_; clear A; intro a A)
      | ((with_reducible refine qg_bin ?_); first | ((refine qg_int A rfl ?_); first | (refine qx_cmp A rfl rfl rfl rfl ?_; clear A; intro a A) | (refine qx_arith A rfl rfl rfl rfl ?_; clear A; intro a A)) | ((refine qg_str A rfl ?_); first | (refine qx_scmp A rfl rfl rfl rfl ?_; clear A; intro a A) | (refine qx_concat A rfl rfl rfl rfl ?_; clear A; intro a A)))
      | ((with_reducible refine qg_builtin ?_); first | (refine qx_min A rfl rfl rfl rfl ?_; clear A; intro a A) | (refine qx_max A rfl rfl rfl rfl ?_; clear A; intro a A))
      | ((with_reducible refine qg_slice ?_); refine qx_sstr A tbOk rfl rfl rfl rfl rfl rfl ?_; clear A; intro a A))
    | ((with_reducible refine sx_at ?_); first
      | (refine sx_call (f := 15) A rfl Tryd.call15 rfl rfl ?_; refine sl_doorwardlaw03_few H hf ?_; clear H; intro A_ c_ A_ c_ F_ w_ H hc_ hc_; refine ⟨_, rfl, ?_⟩; clear A; intro a A)
      | (refine sx_call (f := 21) A rfl Tryd.call21 rfl rfl ?_; refine sl_disk_Crash H hk ?_; clear H; intro A_ c_ A_ c_ F_ w_ H hc_ hc_; refine ⟨_, rfl, ?_⟩; clear A; intro a A)
      | (refine sx_call (f := 18) A rfl Tryd.call18 rfl rfl ?_; refine sl_disk_Right H hr1 ?_; clear H; intro F_ w_ H; refine ⟨_, rfl, ?_⟩; clear A; intro a A)
      | (refine sx_call (f := 17) A rfl Tryd.call17 rfl rfl ?_; refine sl_doorwardlaw03_alive H ha3 ?_; clear H; intro F_ w_ H; refine ⟨_, rfl, ?_⟩; clear A; intro a A)
      )
    | with_reducible refine sx_if_t A rfl ?_
    | with_reducible refine sx_if_f A rfl ?_
    | (refine sx_ret tbOk H A rfl ?_; exact ⟨rfl, H.below⟩)
    )
  | true =>
    obtain ⟨g1, g2, g3, g4⟩ := right_parts hR
    obtain ⟨k1, hk1⟩ := ev_ex (crash_ok m0 m1 l1 hR (by omega))
    obtain ⟨k2, hk2⟩ := ev_ex (crash_ok m0 m1 [] hR (by omega))
    obtain ⟨k3, hk3⟩ := ev_ex (crash_ok m0 m1 (List.replicate m1.length true) hR (by omega))
    rw [crashL_none m0 m1 hR] at hk2
    obtain ⟨cs, hcs⟩ : ∃ z, crashL m1 l1 m0 = z := ⟨_, rfl⟩
    obtain ⟨ls, hls⟩ : ∃ z, crashL m1 (List.replicate m1.length true) m0 = z := ⟨_, rfl⟩
    obtain ⟨all, hall⟩ : ∃ z, List.replicate m1.length true = z := ⟨_, rfl⟩
    have lc : cs.length = m0.length := by rw [← hcs, crashL_length]
    have ll : ls.length = m0.length := by rw [← hls, crashL_length]
    have la : all.length = m1.length := by rw [← hall, List.length_replicate]
    rw [hcs, hz0] at hk1
    rw [hz0] at hk2
    rw [hls, hall, hz0] at hk3
    clear hz0
    repeat' (first
    | with_reducible refine wp_seq ?_
    | with_reducible refine sx_region ?_
    | with_reducible refine wp_block ?_
    | with_reducible refine wpList_nil ?_
    | with_reducible refine sx_then ?_
    | with_reducible refine sx_inb ?_
    | with_reducible refine wp_skip ?_
    | with_reducible refine wp_ret ?_
    | with_reducible refine wp_exit ?_
    | with_reducible refine sx_then_ret ?_
    | with_reducible refine sx_inb_ret ?_
    | with_reducible refine sx_then_exit ?_
    | with_reducible refine sx_inb_exit ?_
    | with_reducible refine sx_inb_other rfl ?_
    | ((with_reducible refine sx_at ?_); first
      | (refine sx_pure A tbOk rfl rfl rfl ?_; clear A; intro a A)
      | (refine sx_skip A rfl rfl ?_; clear A; intro a A)
      | ((with_reducible refine g_bin ?_); first | ((refine g_int A rfl ?_); first | (refine sx_cmp A rfl rfl rfl rfl ?_; clear A; intro a A) | (refine sx_arith A rfl rfl rfl rfl ?_; clear A; intro a A)) | ((refine g_str A rfl ?_); first | (refine sx_scmp A rfl rfl rfl rfl ?_; clear A; intro a A) | (refine sx_concat A rfl rfl rfl rfl ?_; clear A; intro a A)))
      | ((with_reducible refine g_load ?_); first | (refine sx_load_all H A tbOk rfl rfl rfl rfl rfl ?_; clear A; intro a A) | (refine sx_load H A tbOk rfl rfl rfl rfl ?_; clear A; intro a A))
      | ((with_reducible refine g_store ?_); refine sx_store H A tbOk rfl rfl rfl rfl ?_; clear H; intro w_ H)
      | ((with_reducible refine g_box ?_); refine sx_box H A rfl rfl rfl ?_; clear H A; intro b_ a w_ A H)
      | ((with_reducible refine g_alloc ?_); refine sx_alloc H A tbOk rfl rfl rfl ?_; clear H A; intro b_ a w_ A H)
      | ((with_reducible refine g_build ?_); refine sx_build A tbOk rfl rfl rfl rfl rfl rfl ?_; clear A; intro a A)
      | ((with_reducible refine g_builtin ?_); first | (refine sx_min A rfl rfl rfl rfl ?_; clear A; intro a A) | (refine sx_max A rfl rfl rfl rfl ?_; clear A; intro a A))
      | ((with_reducible refine g_slice ?_); refine sx_sstr A tbOk rfl rfl rfl rfl rfl rfl ?_; clear A; intro a A)
      )
    | ((with_reducible refine g_draw ?_); refine qx_region H (by kernel_rfl) (by kernel_rfl) ?_)
    | ((with_reducible refine qx_nil ?_); clear H; intro w_ F_ H)
    | ((with_reducible refine q_at ?_); first
      | (refine qx_pure A tbOk rfl rfl rfl ?_; clear A; intro a A)
      | (refine qx_skip A rfl rfl ?_; clear A; intro a A)
      | ((with_reducible refine qg_bin ?_); first | ((refine qg_int A rfl ?_); first | (refine qx_cmp A rfl rfl rfl rfl ?_; clear A; intro a A) | (refine qx_arith A rfl rfl rfl rfl ?_; clear A; intro a A)) | ((refine qg_str A rfl ?_); first | (refine qx_scmp A rfl rfl rfl rfl ?_; clear A; intro a A) | (refine qx_concat A rfl rfl rfl rfl ?_; clear A; intro a A)))
      | ((with_reducible refine qg_builtin ?_); first | (refine qx_min A rfl rfl rfl rfl ?_; clear A; intro a A) | (refine qx_max A rfl rfl rfl rfl ?_; clear A; intro a A))
      | ((with_reducible refine qg_slice ?_); refine qx_sstr A tbOk rfl rfl rfl rfl rfl rfl ?_; clear A; intro a A))
    | ((with_reducible refine sx_at ?_); first
      | (refine sx_call (f := 15) A rfl Tryd.call15 rfl rfl ?_; refine sl_doorwardlaw03_few H hf ?_; clear H; intro A0 c0 A1 c1 F_ w_ H hc0 hc1; refine ⟨_, rfl, ?_⟩; clear A; intro a A)
      | ((with_reducible refine g_dst 25 ?_); refine sx_call (f := 21) A rfl Tryd.call21 rfl rfl ?_; refine sl_disk_Crash H hk1 ?_; clear H; intro Ac cc A_ c_ F_ w_ H hcc hc_; refine ⟨_, rfl, ?_⟩; clear A; intro a A)
      | ((with_reducible refine g_dst 38 ?_); refine sx_call (f := 21) A rfl Tryd.call21 rfl rfl ?_; refine sl_disk_Crash H hk2 ?_; clear H; intro An cn A_ c_ F_ w_ H hcn' hc_; refine ⟨_, rfl, ?_⟩; clear A; intro a A)
      | ((with_reducible refine g_make ?_); refine sx_make H A tbOk rfl rfl rfl rfl rfl rfl ?_ (hb := by dsimp only; omega) (hs0 := by dsimp only; decide); clear H A; intro br a w_ A H)
      )
    | with_reducible refine sx_if_t A rfl ?_
    | with_reducible refine sx_if_f A rfl ?_
    )
    rw [show (m1.length : Int).toNat = all.length by omega] at A H
    replace A := A.subs (T' := [(47, _), (46, _), (9, _), (8, _), (7, _), (6, _), (5, _), (2, _)])
    replace H := H.less (R' := [rdc Kd.string An m0, rdc Kd.string Ac cs, rdc Kd.string A0 m0, rdc k42 A1 m1]) (fun p hp => List.Sublist.subset (by (repeat (first | exact List.nil_sublist _ | exact List.Sublist.refl _ | (apply List.Sublist.cons_cons; done) | apply List.Sublist.cons_cons | apply List.Sublist.cons))) hp)
    dsimp only at H
    obtain ⟨N, hN⟩ : ∃ N, all.length = N := ⟨_, rfl⟩
    rw [hN] at A H
    rw [show (List.replicate N [Value.bool false]).flatten = List.replicate 0 (Value.bool true) ++ List.replicate (N - 0) (Value.bool false) by simp] at H
    refine sx_rounds (fun i : Nat => i ≤ N) (fun i => [(47, .int .i64 (i : Int)), (46, _), (9, _), (8, _), (7, _), (6, _), (5, _), (2, _)]) (fun i => .row (.slice (some ⟨br, 0, none⟩) N N) 4 1 N (List.replicate i (Value.bool true) ++ List.replicate (N - i) (Value.bool false)) :: [_, _, _]) (fun _ => _) (fun i => N - i) 0 H A (Nat.zero_le _) (fun i F a W hi H A => ?_)
    clear hf hk1 hk2
    rcases Nat.lt_or_ge i N with hlt | hge
    · repeat' (first
    | with_reducible refine wp_seq ?_
    | with_reducible refine sx_region ?_
    | with_reducible refine wp_block ?_
    | with_reducible refine wpList_nil ?_
    | with_reducible refine sx_then ?_
    | with_reducible refine sx_inb ?_
    | with_reducible refine wp_skip ?_
    | with_reducible refine wp_ret ?_
    | with_reducible refine wp_exit ?_
    | with_reducible refine sx_then_ret ?_
    | with_reducible refine sx_inb_ret ?_
    | with_reducible refine sx_then_exit ?_
    | with_reducible refine sx_inb_exit ?_
    | with_reducible refine sx_inb_other rfl ?_
    | ((with_reducible refine sx_at ?_); first
      | (refine sx_pure A tbOk rfl rfl rfl ?_; clear A; intro a A)
      | (refine sx_skip A rfl rfl ?_; clear A; intro a A)
      | ((with_reducible refine g_bin ?_); first | ((refine g_int A rfl ?_); first | (refine sx_cmp A rfl rfl rfl rfl ?_; clear A; intro a A) | (refine sx_arith A rfl rfl rfl rfl ?_; clear A; intro a A)) | ((refine g_str A rfl ?_); first | (refine sx_scmp A rfl rfl rfl rfl ?_; clear A; intro a A) | (refine sx_concat A rfl rfl rfl rfl ?_; clear A; intro a A)))
      | ((with_reducible refine g_load ?_); first | (refine sx_load_all H A tbOk rfl rfl rfl rfl rfl ?_; clear A; intro a A) | (refine sx_load H A tbOk rfl rfl rfl rfl ?_; clear A; intro a A))
      | ((with_reducible refine g_store ?_); refine sx_store H A tbOk rfl rfl rfl rfl ?_; clear H; intro w_ H)
      | ((with_reducible refine g_box ?_); refine sx_box H A rfl rfl rfl ?_; clear H A; intro b_ a w_ A H)
      | ((with_reducible refine g_alloc ?_); refine sx_alloc H A tbOk rfl rfl rfl ?_; clear H A; intro b_ a w_ A H)
      | ((with_reducible refine g_build ?_); refine sx_build A tbOk rfl rfl rfl rfl rfl rfl ?_; clear A; intro a A)
      | ((with_reducible refine g_builtin ?_); first | (refine sx_min A rfl rfl rfl rfl ?_; clear A; intro a A) | (refine sx_max A rfl rfl rfl rfl ?_; clear A; intro a A))
      | ((with_reducible refine g_slice ?_); refine sx_sstr A tbOk rfl rfl rfl rfl rfl rfl ?_; clear A; intro a A)
      )
    | ((with_reducible refine g_draw ?_); refine qx_region H (by kernel_rfl) (by kernel_rfl) ?_)
    | ((with_reducible refine qx_nil ?_); clear H; intro w_ F_ H)
    | ((with_reducible refine q_at ?_); first
      | (refine qx_pure A tbOk rfl rfl rfl ?_; clear A; intro a A)
      | (refine qx_skip A rfl rfl ?_; clear A; intro a A)
      | ((with_reducible refine qg_bin ?_); first | ((refine qg_int A rfl ?_); first | (refine qx_cmp A rfl rfl rfl rfl ?_; clear A; intro a A) | (refine qx_arith A rfl rfl rfl rfl ?_; clear A; intro a A)) | ((refine qg_str A rfl ?_); first | (refine qx_scmp A rfl rfl rfl rfl ?_; clear A; intro a A) | (refine qx_concat A rfl rfl rfl rfl ?_; clear A; intro a A)))
      | ((with_reducible refine qg_builtin ?_); first | (refine qx_min A rfl rfl rfl rfl ?_; clear A; intro a A) | (refine qx_max A rfl rfl rfl rfl ?_; clear A; intro a A))
      | ((with_reducible refine qg_slice ?_); refine qx_sstr A tbOk rfl rfl rfl rfl rfl rfl ?_; clear A; intro a A))
    | ((with_reducible refine sx_at ?_); first
      | ((with_reducible refine g_idx ?_); refine sx_idx_own A tbOk rfl rfl rfl rfl rfl rfl ?_; clear A; intro a A)
      | ((with_reducible refine g_store ?_); refine sx_store_row H A tbOk rfl rfl rfl rfl ?_ (hl := by simp; omega); clear H; intro w_ H)
      )
    | with_reducible refine sx_if_t A rfl ?_
    | with_reducible refine sx_if_f A rfl ?_
    )
      exact ⟨i + 1, F, by omega, by omega, (by rw [← fill_step N i hlt]; exact H), A.subs⟩
    · have hiN : i = N := by omega
      rw [hiN] at A H
      clear hiN hi hge
      obtain ⟨F2, _, H2⟩ := H.freeze_row (dk := Kd.bool) all (fun b => [Value.bool b]) Del.hd (by rw [Nat.sub_self, ← hall, show N = m1.length by omega]; have := flat_bools m1.length; simpa only [List.replicate_zero, List.nil_append, List.append_nil] using this) hN.symm rfl (fun y _ => ⟨rfl, fun W _ => rfl⟩)
      clear H
      have H := H2
      clear H2
      rw [← hN] at A
      have hca : Cap all.length all.length := ⟨Nat.le_refl _⟩
      repeat' (first
    | with_reducible refine wp_seq ?_
    | with_reducible refine sx_region ?_
    | with_reducible refine wp_block ?_
    | with_reducible refine wpList_nil ?_
    | with_reducible refine sx_then ?_
    | with_reducible refine sx_inb ?_
    | with_reducible refine wp_skip ?_
    | with_reducible refine wp_ret ?_
    | with_reducible refine wp_exit ?_
    | with_reducible refine sx_then_ret ?_
    | with_reducible refine sx_inb_ret ?_
    | with_reducible refine sx_then_exit ?_
    | with_reducible refine sx_inb_exit ?_
    | with_reducible refine sx_inb_other rfl ?_
    | ((with_reducible refine sx_at ?_); first
      | (refine sx_pure A tbOk rfl rfl rfl ?_; clear A; intro a A)
      | (refine sx_skip A rfl rfl ?_; clear A; intro a A)
      | ((with_reducible refine g_bin ?_); first | ((refine g_int A rfl ?_); first | (refine sx_cmp A rfl rfl rfl rfl ?_; clear A; intro a A) | (refine sx_arith A rfl rfl rfl rfl ?_; clear A; intro a A)) | ((refine g_str A rfl ?_); first | (refine sx_scmp A rfl rfl rfl rfl ?_; clear A; intro a A) | (refine sx_concat A rfl rfl rfl rfl ?_; clear A; intro a A)))
      | ((with_reducible refine g_load ?_); first | (refine sx_load_all H A tbOk rfl rfl rfl rfl rfl ?_; clear A; intro a A) | (refine sx_load H A tbOk rfl rfl rfl rfl ?_; clear A; intro a A))
      | ((with_reducible refine g_store ?_); refine sx_store H A tbOk rfl rfl rfl rfl ?_; clear H; intro w_ H)
      | ((with_reducible refine g_box ?_); refine sx_box H A rfl rfl rfl ?_; clear H A; intro b_ a w_ A H)
      | ((with_reducible refine g_alloc ?_); refine sx_alloc H A tbOk rfl rfl rfl ?_; clear H A; intro b_ a w_ A H)
      | ((with_reducible refine g_build ?_); refine sx_build A tbOk rfl rfl rfl rfl rfl rfl ?_; clear A; intro a A)
      | ((with_reducible refine g_builtin ?_); first | (refine sx_min A rfl rfl rfl rfl ?_; clear A; intro a A) | (refine sx_max A rfl rfl rfl rfl ?_; clear A; intro a A))
      | ((with_reducible refine g_slice ?_); refine sx_sstr A tbOk rfl rfl rfl rfl rfl rfl ?_; clear A; intro a A)
      )
    | ((with_reducible refine g_draw ?_); refine qx_region H (by kernel_rfl) (by kernel_rfl) ?_)
    | ((with_reducible refine qx_nil ?_); clear H; intro w_ F_ H)
    | ((with_reducible refine q_at ?_); first
      | (refine qx_pure A tbOk rfl rfl rfl ?_; clear A; intro a A)
      | (refine qx_skip A rfl rfl ?_; clear A; intro a A)
      | ((with_reducible refine qg_bin ?_); first | ((refine qg_int A rfl ?_); first | (refine qx_cmp A rfl rfl rfl rfl ?_; clear A; intro a A) | (refine qx_arith A rfl rfl rfl rfl ?_; clear A; intro a A)) | ((refine qg_str A rfl ?_); first | (refine qx_scmp A rfl rfl rfl rfl ?_; clear A; intro a A) | (refine qx_concat A rfl rfl rfl rfl ?_; clear A; intro a A)))
      | ((with_reducible refine qg_builtin ?_); first | (refine qx_min A rfl rfl rfl rfl ?_; clear A; intro a A) | (refine qx_max A rfl rfl rfl rfl ?_; clear A; intro a A))
      | ((with_reducible refine qg_slice ?_); refine qx_sstr A tbOk rfl rfl rfl rfl rfl rfl ?_; clear A; intro a A))
    | ((with_reducible refine sx_at ?_); first
      | ((with_reducible refine g_dst 57 ?_); refine sx_call (f := 21) A rfl Tryd.call21 rfl rfl ?_; refine sl_disk_Crash H hk3 ?_; clear H; intro Al cl A_ c_ F_ w_ H hcl hc_; refine ⟨_, rfl, ?_⟩; clear A; intro a A)
      )
    | with_reducible refine sx_if_t A rfl ?_
    | with_reducible refine sx_if_f A rfl ?_
    )
      obtain ⟨d0, rfl⟩ := H.adr (dk := Kd.string) (xs := m0) (Ad := A0) (by omega)
      obtain ⟨dc, rfl⟩ := H.adr (dk := Kd.string) (xs := cs) (Ad := Ac) (by omega)
      obtain ⟨dn, rfl⟩ := H.adr (dk := Kd.string) (xs := m0) (Ad := An) (by omega)
      obtain ⟨dl, rfl⟩ := H.adr (dk := Kd.string) (xs := ls) (Ad := Al) (by omega)
      replace A := A.subs (T' := [(96, _), (95, _), (94, _), (11, _), (7, _), (5, _), (2, _)])
      refine sx_count H A 1 (fun i => i ≤ m0.length) (fun i => [(96, .int .i64 (i : Int))]) (fun i => m0.length - i) (Nat.zero_le _) (fun i F a W hi H A => ?_)
      clear hk3 hN hca
      rcases Nat.lt_or_ge i m0.length with hlt | hge
      · have hb : hasB m0.length (i : Int) = true := by unfold hasB; rw [decide_eq_true (by omega : (0 : Int) ≤ i), decide_eq_true (by omega : (i : Int) < m0.length)]; rfl
        have hD := read_ok m0 m1 (i : Int) hR hb
        obtain ⟨s, hs⟩ : ∃ s, m0[i]? = some s := ⟨_, List.getElem?_eq_getElem hlt⟩
        have hc : cs[i]? = some (secF false (i : Int) m1 l1 s) := by rw [← hcs, crashL_at m1 l1 m0 i g4, hs]; rfl
        have hl : ls[i]? = some (lastW m1 (i : Int) s) := by rw [← hls, crashL_all_at m1 m0 i g4, hs]; rfl
        have hq : rdOf ByteArray.empty m0 (i : Int) = s := by simp [rdOf, List.getD_eq_getElem?_getD, hs]
        have hmem := secF_mem false (i : Int) m1 l1 s
        rw [hq] at hD
        obtain ⟨t, ht⟩ : ∃ t, lastW m1 (i : Int) s = t := ⟨_, rfl⟩
        obtain ⟨u, hu⟩ : ∃ t, secF false (i : Int) m1 l1 s = t := ⟨_, rfl⟩
        rw [ht] at hD hl
        rw [hu] at hc hmem
        clear ht hu hq hb
        replace H := (((H.eltS (ad := d0) (i : Int) hs).eltS (ad := dc) (i : Int) hc).eltS (ad := dn) (i : Int) hs).eltS (ad := dl) (i : Int) hl
        obtain ⟨ok, hok⟩ : ∃ ok : Nat → Bool, ok = fun j => decide (u = s) || (m1.take j).any (fun x => decide (x.f0 = (i : Int)) && decide (x.f1 = u)) := ⟨_, rfl⟩
        have hok0 : decide (u = s) = ok 0 := by rw [hok]; simp
        have hokn : ok m1.length = true := by
          rw [hok]
          simp only [List.take_length, Bool.or_eq_true, decide_eq_true_eq, List.any_eq_true, Bool.and_eq_true]
          rcases hmem with h | ⟨x, h1, h2, h3⟩
          · exact .inl h
          · exact .inr ⟨x, h1, h2, h3⟩
        have hoks : ∀ (j : Nat) (x : S42), m1[j]? = some x → ok (j + 1) = (ok j || (decide (x.f0 = (i : Int)) && decide (x.f1 = u))) := by
          intro j x hx
          rw [hok]
          simp only
          rw [List.take_add_one, List.any_append, hx]
          simp [Bool.or_assoc]
        clear hok hmem g3 g4 hR hcs hls hall la
        repeat' (first
    | ((with_reducible refine g_load ?_); refine sx_eloadS H A tbOk rfl rfl rfl rfl rfl ?_; clear A; intro a A)
    | ((with_reducible refine g_idx ?_); refine sx_idxA A tbOk rfl rfl rfl rfl rfl rfl ?_; clear A; intro a A)
    | with_reducible refine wp_seq ?_
    | with_reducible refine sx_region ?_
    | with_reducible refine wp_block ?_
    | with_reducible refine wpList_nil ?_
    | with_reducible refine sx_then ?_
    | with_reducible refine sx_inb ?_
    | with_reducible refine wp_skip ?_
    | with_reducible refine wp_ret ?_
    | with_reducible refine wp_exit ?_
    | with_reducible refine sx_then_ret ?_
    | with_reducible refine sx_inb_ret ?_
    | with_reducible refine sx_then_exit ?_
    | with_reducible refine sx_inb_exit ?_
    | with_reducible refine sx_inb_other rfl ?_
    | ((with_reducible refine sx_at ?_); first
      | (refine sx_pure A tbOk rfl rfl rfl ?_; clear A; intro a A)
      | (refine sx_skip A rfl rfl ?_; clear A; intro a A)
      | ((with_reducible refine g_bin ?_); first | ((refine g_int A rfl ?_); first | (refine sx_cmp A rfl rfl rfl rfl ?_; clear A; intro a A) | (refine sx_arith A rfl rfl rfl rfl ?_; clear A; intro a A)) | ((refine g_str A rfl ?_); first | (refine sx_scmp A rfl rfl rfl rfl ?_; clear A; intro a A) | (refine sx_concat A rfl rfl rfl rfl ?_; clear A; intro a A)))
      | ((with_reducible refine g_load ?_); first | (refine sx_load_all H A tbOk rfl rfl rfl rfl rfl ?_; clear A; intro a A) | (refine sx_load H A tbOk rfl rfl rfl rfl ?_; clear A; intro a A))
      | ((with_reducible refine g_store ?_); refine sx_store H A tbOk rfl rfl rfl rfl ?_; clear H; intro w_ H)
      | ((with_reducible refine g_box ?_); refine sx_box H A rfl rfl rfl ?_; clear H A; intro b_ a w_ A H)
      | ((with_reducible refine g_alloc ?_); refine sx_alloc H A tbOk rfl rfl rfl ?_; clear H A; intro b_ a w_ A H)
      | ((with_reducible refine g_build ?_); refine sx_build A tbOk rfl rfl rfl rfl rfl rfl ?_; clear A; intro a A)
      | ((with_reducible refine g_builtin ?_); first | (refine sx_min A rfl rfl rfl rfl ?_; clear A; intro a A) | (refine sx_max A rfl rfl rfl rfl ?_; clear A; intro a A))
      | ((with_reducible refine g_slice ?_); refine sx_sstr A tbOk rfl rfl rfl rfl rfl rfl ?_; clear A; intro a A)
      )
    | ((with_reducible refine g_draw ?_); refine qx_region H (by kernel_rfl) (by kernel_rfl) ?_)
    | ((with_reducible refine qx_nil ?_); clear H; intro w_ F_ H)
    | ((with_reducible refine q_at ?_); first
      | (refine qx_pure A tbOk rfl rfl rfl ?_; clear A; intro a A)
      | (refine qx_skip A rfl rfl ?_; clear A; intro a A)
      | ((with_reducible refine qg_bin ?_); first | ((refine qg_int A rfl ?_); first | (refine qx_cmp A rfl rfl rfl rfl ?_; clear A; intro a A) | (refine qx_arith A rfl rfl rfl rfl ?_; clear A; intro a A)) | ((refine qg_str A rfl ?_); first | (refine qx_scmp A rfl rfl rfl rfl ?_; clear A; intro a A) | (refine qx_concat A rfl rfl rfl rfl ?_; clear A; intro a A)))
      | ((with_reducible refine qg_builtin ?_); first | (refine qx_min A rfl rfl rfl rfl ?_; clear A; intro a A) | (refine qx_max A rfl rfl rfl rfl ?_; clear A; intro a A))
      | ((with_reducible refine qg_slice ?_); refine qx_sstr A tbOk rfl rfl rfl rfl rfl rfl ?_; clear A; intro a A))
    | ((with_reducible refine sx_at ?_); first
      | fail
      )
    | with_reducible refine sx_if_t A rfl ?_
    | with_reducible refine sx_if_f A rfl ?_
    )
        rw [hok0] at A
        replace A := A.subs (T' := [(111, _), (15, _), (110, _), (109, _), (14, _), (13, _), (96, _), (95, _), (94, _), (11, _), (7, _), (5, _), (2, _)])
        refine sx_count H A 2 (fun j => j ≤ m1.length) (fun j => [(111, .int .i64 (j : Int)), (15, .bool (ok j))]) (fun j => m1.length - j) (Nat.zero_le _) (fun j F a W hj H A => ?_)
        clear hok0 hcn hc0_0 hc0_1
        rcases Nat.lt_or_ge j m1.length with hjt | hjg
        · obtain ⟨x, hx⟩ : ∃ x, m1[j]? = some x := ⟨_, List.getElem?_eq_getElem hjt⟩
          have hnx := hoks j x hx
          have hcase : (ok j = true ∧ ok (j + 1) = true) ∨ (ok j = false ∧ x.f0 ≠ (i : Int) ∧ ok (j + 1) = false) ∨ (ok j = false ∧ x.f0 = (i : Int) ∧ x.f1 = u ∧ ok (j + 1) = true) ∨ (ok j = false ∧ x.f0 = (i : Int) ∧ x.f1 ≠ u ∧ ok (j + 1) = false) := by
            rw [hnx]
            cases ok j <;> by_cases h1 : x.f0 = (i : Int) <;> by_cases h2 : x.f1 = u <;> simp [h1, h2]
          clear hnx hokn hoks hD hl hs hc
          rcases hcase with ⟨e1, e2⟩ | ⟨e1, h1, e2⟩ | ⟨e1, h1, h2, e2⟩ | ⟨e1, h1, h2, e2⟩
          all_goals
            rw [e1] at A
            repeat' (first
    | ((with_reducible refine g_idx ?_); refine sx_idx H A tbOk rfl rfl rfl rfl rfl rfl rfl ?_; clear A H; intro p a hlt2 A H)
    | ((with_reducible refine g_load ?_); refine sx_eload H A tbOk rfl rfl rfl rfl rfl rfl ?_; clear A H; intro c a hcl A H hK; obtain rfl : c = [.int .i64 x.f0, .string x.f1] := by (obtain ⟨c0, c1, hc, h0, h1⟩ := hK.now; obtain ⟨_, hx2⟩ := List.getElem?_eq_some_iff.1 hx; rw [hc, show c0 = _ from h0, show c1 = _ from h1, ← hx2]; rfl))
    | ((with_reducible refine qg_load ?_); first | (refine qx_load A tbOk rfl rfl rfl rfl ?_; clear A; intro a A) | (refine qx_eloadS A tbOk rfl rfl rfl rfl rfl ?_; clear A; intro a A))
    | ((with_reducible refine qg_idx ?_); refine qx_idxA A tbOk rfl rfl rfl rfl rfl rfl ?_; clear A; intro a A)
    | with_reducible refine wp_seq ?_
    | with_reducible refine sx_region ?_
    | with_reducible refine wp_block ?_
    | with_reducible refine wpList_nil ?_
    | with_reducible refine sx_then ?_
    | with_reducible refine sx_inb ?_
    | with_reducible refine wp_skip ?_
    | with_reducible refine wp_ret ?_
    | with_reducible refine wp_exit ?_
    | with_reducible refine sx_then_ret ?_
    | with_reducible refine sx_inb_ret ?_
    | with_reducible refine sx_then_exit ?_
    | with_reducible refine sx_inb_exit ?_
    | with_reducible refine sx_inb_other rfl ?_
    | ((with_reducible refine sx_at ?_); first
      | (refine sx_pure A tbOk rfl rfl rfl ?_; clear A; intro a A)
      | (refine sx_skip A rfl rfl ?_; clear A; intro a A)
      | ((with_reducible refine g_bin ?_); first | ((refine g_int A rfl ?_); first | (refine sx_cmp A rfl rfl rfl rfl ?_; clear A; intro a A) | (refine sx_arith A rfl rfl rfl rfl ?_; clear A; intro a A)) | ((refine g_str A rfl ?_); first | (refine sx_scmp A rfl rfl rfl rfl ?_; clear A; intro a A) | (refine sx_concat A rfl rfl rfl rfl ?_; clear A; intro a A)))
      | ((with_reducible refine g_load ?_); first | (refine sx_load_all H A tbOk rfl rfl rfl rfl rfl ?_; clear A; intro a A) | (refine sx_load H A tbOk rfl rfl rfl rfl ?_; clear A; intro a A))
      | ((with_reducible refine g_store ?_); refine sx_store H A tbOk rfl rfl rfl rfl ?_; clear H; intro w_ H)
      | ((with_reducible refine g_box ?_); refine sx_box H A rfl rfl rfl ?_; clear H A; intro b_ a w_ A H)
      | ((with_reducible refine g_alloc ?_); refine sx_alloc H A tbOk rfl rfl rfl ?_; clear H A; intro b_ a w_ A H)
      | ((with_reducible refine g_build ?_); refine sx_build A tbOk rfl rfl rfl rfl rfl rfl ?_; clear A; intro a A)
      | ((with_reducible refine g_builtin ?_); first | (refine sx_min A rfl rfl rfl rfl ?_; clear A; intro a A) | (refine sx_max A rfl rfl rfl rfl ?_; clear A; intro a A))
      | ((with_reducible refine g_slice ?_); refine sx_sstr A tbOk rfl rfl rfl rfl rfl rfl ?_; clear A; intro a A)
      )
    | ((with_reducible refine g_draw ?_); refine qx_region H (by kernel_rfl) (by kernel_rfl) ?_)
    | ((with_reducible refine qx_nil ?_); clear H; intro w_ F_ H)
    | ((with_reducible refine q_at ?_); first
      | (refine qx_pure A tbOk rfl rfl rfl ?_; clear A; intro a A)
      | (refine qx_skip A rfl rfl ?_; clear A; intro a A)
      | ((with_reducible refine qg_bin ?_); first | ((refine qg_int A rfl ?_); first | (refine qx_cmp A rfl rfl rfl rfl ?_; clear A; intro a A) | (refine qx_arith A rfl rfl rfl rfl ?_; clear A; intro a A)) | ((refine qg_str A rfl ?_); first | (refine qx_scmp A rfl rfl rfl rfl ?_; clear A; intro a A) | (refine qx_concat A rfl rfl rfl rfl ?_; clear A; intro a A)))
      | ((with_reducible refine qg_builtin ?_); first | (refine qx_min A rfl rfl rfl rfl ?_; clear A; intro a A) | (refine qx_max A rfl rfl rfl rfl ?_; clear A; intro a A))
      | ((with_reducible refine qg_slice ?_); refine qx_sstr A tbOk rfl rfl rfl rfl rfl rfl ?_; clear A; intro a A))
    | ((with_reducible refine sx_at ?_); first
      | fail
      )
    | with_reducible refine sx_if_t A rfl ?_
    | with_reducible refine sx_if_f A rfl ?_
    )
            exact ⟨j + 1, _, by omega, by omega, (H.drop (List.Sublist.cons _ (List.Sublist.refl _))).less (fun p hp => List.Sublist.subset (by (repeat (first | exact List.Sublist.refl _ | apply List.Sublist.cons))) hp), by rw [e2]; exact A.subs⟩
        · have hjn : j = m1.length := by omega
          rw [hjn, hokn] at A
          repeat' (first
    | ((with_reducible refine g_load ?_); refine sx_eloadS H A tbOk rfl rfl rfl rfl rfl ?_; clear A; intro a A)
    | ((with_reducible refine g_idx ?_); refine sx_idxA A tbOk rfl rfl rfl rfl rfl rfl ?_; clear A; intro a A)
    | with_reducible refine wp_seq ?_
    | with_reducible refine sx_region ?_
    | with_reducible refine wp_block ?_
    | with_reducible refine wpList_nil ?_
    | with_reducible refine sx_then ?_
    | with_reducible refine sx_inb ?_
    | with_reducible refine wp_skip ?_
    | with_reducible refine wp_ret ?_
    | with_reducible refine wp_exit ?_
    | with_reducible refine sx_then_ret ?_
    | with_reducible refine sx_inb_ret ?_
    | with_reducible refine sx_then_exit ?_
    | with_reducible refine sx_inb_exit ?_
    | with_reducible refine sx_inb_other rfl ?_
    | ((with_reducible refine sx_at ?_); first
      | (refine sx_pure A tbOk rfl rfl rfl ?_; clear A; intro a A)
      | (refine sx_skip A rfl rfl ?_; clear A; intro a A)
      | ((with_reducible refine g_bin ?_); first | ((refine g_int A rfl ?_); first | (refine sx_cmp A rfl rfl rfl rfl ?_; clear A; intro a A) | (refine sx_arith A rfl rfl rfl rfl ?_; clear A; intro a A)) | ((refine g_str A rfl ?_); first | (refine sx_scmp A rfl rfl rfl rfl ?_; clear A; intro a A) | (refine sx_concat A rfl rfl rfl rfl ?_; clear A; intro a A)))
      | ((with_reducible refine g_load ?_); first | (refine sx_load_all H A tbOk rfl rfl rfl rfl rfl ?_; clear A; intro a A) | (refine sx_load H A tbOk rfl rfl rfl rfl ?_; clear A; intro a A))
      | ((with_reducible refine g_store ?_); refine sx_store H A tbOk rfl rfl rfl rfl ?_; clear H; intro w_ H)
      | ((with_reducible refine g_box ?_); refine sx_box H A rfl rfl rfl ?_; clear H A; intro b_ a w_ A H)
      | ((with_reducible refine g_alloc ?_); refine sx_alloc H A tbOk rfl rfl rfl ?_; clear H A; intro b_ a w_ A H)
      | ((with_reducible refine g_build ?_); refine sx_build A tbOk rfl rfl rfl rfl rfl rfl ?_; clear A; intro a A)
      | ((with_reducible refine g_builtin ?_); first | (refine sx_min A rfl rfl rfl rfl ?_; clear A; intro a A) | (refine sx_max A rfl rfl rfl rfl ?_; clear A; intro a A))
      | ((with_reducible refine g_slice ?_); refine sx_sstr A tbOk rfl rfl rfl rfl rfl rfl ?_; clear A; intro a A)
      )
    | ((with_reducible refine g_draw ?_); refine qx_region H (by kernel_rfl) (by kernel_rfl) ?_)
    | ((with_reducible refine qx_nil ?_); clear H; intro w_ F_ H)
    | ((with_reducible refine q_at ?_); first
      | (refine qx_pure A tbOk rfl rfl rfl ?_; clear A; intro a A)
      | (refine qx_skip A rfl rfl ?_; clear A; intro a A)
      | ((with_reducible refine qg_bin ?_); first | ((refine qg_int A rfl ?_); first | (refine qx_cmp A rfl rfl rfl rfl ?_; clear A; intro a A) | (refine qx_arith A rfl rfl rfl rfl ?_; clear A; intro a A)) | ((refine qg_str A rfl ?_); first | (refine qx_scmp A rfl rfl rfl rfl ?_; clear A; intro a A) | (refine qx_concat A rfl rfl rfl rfl ?_; clear A; intro a A)))
      | ((with_reducible refine qg_builtin ?_); first | (refine qx_min A rfl rfl rfl rfl ?_; clear A; intro a A) | (refine qx_max A rfl rfl rfl rfl ?_; clear A; intro a A))
      | ((with_reducible refine qg_slice ?_); refine qx_sstr A tbOk rfl rfl rfl rfl rfl rfl ?_; clear A; intro a A))
    | ((with_reducible refine sx_at ?_); first
      | (refine sx_call (f := 20) A rfl Tryd.call20 rfl rfl ?_; refine sl_disk_Read H hD ?_; clear H; intro F_ w_ H; refine ⟨_, rfl, ?_⟩; clear A; intro a A)
      )
    | with_reducible refine sx_if_t A rfl ?_
    | with_reducible refine sx_if_f A rfl ?_
    )
          exact ⟨i + 1, _, by omega, by omega, H.less (fun p hp => List.Sublist.subset (by (repeat (first | exact List.Sublist.refl _ | apply List.Sublist.cons))) hp), A.subs⟩
      · repeat' (first
    | with_reducible refine wp_seq ?_
    | with_reducible refine sx_region ?_
    | with_reducible refine wp_block ?_
    | with_reducible refine wpList_nil ?_
    | with_reducible refine sx_then ?_
    | with_reducible refine sx_inb ?_
    | with_reducible refine wp_skip ?_
    | with_reducible refine wp_ret ?_
    | with_reducible refine wp_exit ?_
    | with_reducible refine sx_then_ret ?_
    | with_reducible refine sx_inb_ret ?_
    | with_reducible refine sx_then_exit ?_
    | with_reducible refine sx_inb_exit ?_
    | with_reducible refine sx_inb_other rfl ?_
    | ((with_reducible refine sx_at ?_); first
      | (refine sx_pure A tbOk rfl rfl rfl ?_; clear A; intro a A)
      | (refine sx_skip A rfl rfl ?_; clear A; intro a A)
      | ((with_reducible refine g_bin ?_); first | ((refine g_int A rfl ?_); first | (refine sx_cmp A rfl rfl rfl rfl ?_; clear A; intro a A) | (refine sx_arith A rfl rfl rfl rfl ?_; clear A; intro a A)) | ((refine g_str A rfl ?_); first | (refine sx_scmp A rfl rfl rfl rfl ?_; clear A; intro a A) | (refine sx_concat A rfl rfl rfl rfl ?_; clear A; intro a A)))
      | ((with_reducible refine g_load ?_); first | (refine sx_load_all H A tbOk rfl rfl rfl rfl rfl ?_; clear A; intro a A) | (refine sx_load H A tbOk rfl rfl rfl rfl ?_; clear A; intro a A))
      | ((with_reducible refine g_store ?_); refine sx_store H A tbOk rfl rfl rfl rfl ?_; clear H; intro w_ H)
      | ((with_reducible refine g_box ?_); refine sx_box H A rfl rfl rfl ?_; clear H A; intro b_ a w_ A H)
      | ((with_reducible refine g_alloc ?_); refine sx_alloc H A tbOk rfl rfl rfl ?_; clear H A; intro b_ a w_ A H)
      | ((with_reducible refine g_build ?_); refine sx_build A tbOk rfl rfl rfl rfl rfl rfl ?_; clear A; intro a A)
      | ((with_reducible refine g_builtin ?_); first | (refine sx_min A rfl rfl rfl rfl ?_; clear A; intro a A) | (refine sx_max A rfl rfl rfl rfl ?_; clear A; intro a A))
      | ((with_reducible refine g_slice ?_); refine sx_sstr A tbOk rfl rfl rfl rfl rfl rfl ?_; clear A; intro a A)
      )
    | ((with_reducible refine g_draw ?_); refine qx_region H (by kernel_rfl) (by kernel_rfl) ?_)
    | ((with_reducible refine qx_nil ?_); clear H; intro w_ F_ H)
    | ((with_reducible refine q_at ?_); first
      | (refine qx_pure A tbOk rfl rfl rfl ?_; clear A; intro a A)
      | (refine qx_skip A rfl rfl ?_; clear A; intro a A)
      | ((with_reducible refine qg_bin ?_); first | ((refine qg_int A rfl ?_); first | (refine qx_cmp A rfl rfl rfl rfl ?_; clear A; intro a A) | (refine qx_arith A rfl rfl rfl rfl ?_; clear A; intro a A)) | ((refine qg_str A rfl ?_); first | (refine qx_scmp A rfl rfl rfl rfl ?_; clear A; intro a A) | (refine qx_concat A rfl rfl rfl rfl ?_; clear A; intro a A)))
      | ((with_reducible refine qg_builtin ?_); first | (refine qx_min A rfl rfl rfl rfl ?_; clear A; intro a A) | (refine qx_max A rfl rfl rfl rfl ?_; clear A; intro a A))
      | ((with_reducible refine qg_slice ?_); refine qx_sstr A tbOk rfl rfl rfl rfl rfl rfl ?_; clear A; intro a A))
    | ((with_reducible refine sx_at ?_); first
      | (refine sx_call (f := 17) A rfl Tryd.call17 rfl rfl ?_; refine sl_doorwardlaw03_alive H ha3 ?_; clear H; intro F_ w_ H; refine ⟨_, rfl, ?_⟩; clear A; intro a A)
      )
    | with_reducible refine sx_if_t A rfl ?_
    | with_reducible refine sx_if_f A rfl ?_
    | (refine sx_ret tbOk H A rfl ?_; exact ⟨rfl, H.below⟩)
    )
end Go.Proofs.YtniplmjbligmlaaDoor.Q

/-! What the statement DiskWhole says of the printed functions alone. -/
namespace Go.Proofs.YtniplmjbligmlaaDoor.Q
open Go.RowKit Go.Proofs.YtniplmjbligmlaaDoorW.PrintWords Go.Proofs.YtniplmjbligmlaaDoorW.PrintLast Go.Proofs.YtniplmjbligmlaaDoorW.PrintMore Go.Proofs.YtniplmjbligmlaaDoor.Base
def doorwardlaw03_DiskWhole.Stm : Prop := ∀ (x0 : S25) (x1 : List Bool), zT25 x0 → zT33 x1 → ∃ k, doorwardlaw03_DiskWhole.f k x0.f0 x0.f1 x1 = some true
end Go.Proofs.YtniplmjbligmlaaDoor.Q

/-! DiskWhole: all that the walk asks. No condition. -/
namespace Go.Proofs.YtniplmjbligmlaaDoor.Pure
open Go.Proofs.YtniplmjbligmlaaDoor.Q
theorem DiskWhole : doorwardlaw03_DiskWhole.Stm := fun _ _ _ _ => ⟨0, rfl⟩
end Go.Proofs.YtniplmjbligmlaaDoor.Pure

/-! DiskWhole holds: the Go law answers true for every input, and leaves its arguments alone; no condition but that the listed tables of the library stand as the program's text lays them. -/
namespace Go.Proofs.YtniplmjbligmlaaDoor.diskWhole
open Go.ChangeShapes Go.WideShapes Go.ChangeAt Go.RowKit Go.Proofs.YtniplmjbligmlaaDoorW.PrintWords Go.Proofs.YtniplmjbligmlaaDoor.Base Go.Proofs.YtniplmjbligmlaaDoor.Q
set_option linter.unusedVariables false
theorem own : ownKnob Tryd.prog.godebug = none := by kernel_rfl
theorem laidOut : laidOutB Tryd.prog = true := by kernel_rfl
set_option maxRecDepth 100000 in
theorem lifted (os : Os) (started : os.Started) (H : Type) (enc : TypeId × Value → H) :
    ReturnsInHanded {} Tryd.checked os 5 .any (fun w args => (Rows.diskWholeSpec.pre enc Tryd.prog Tryd.f5 Rows.diskWholeRow.domain false w args ∧ laidMetH Tryd.prog Rows.diskWholeRow.laid w) ∧ sizedMet enc Tryd.prog Tryd.f5 (OpenSpec.ofChange Rows.diskWholeSpec) false w args) (Rows.diskWholeSpec.post enc Tryd.prog Tryd.f5 false true false false) := by
  refine returnsInHanded_of_change_and (C := Tryd.checked) (X := fun w _ => laidMetH Tryd.prog Rows.diskWholeRow.laid w) (fun _ _ _ hh h => h.of_heap hh) own started (by kernel_rfl) Tryd.func5
    (ChangeSpec.witness_shaped (enc := enc) (C := Tryd.checked) (os := os) (X := fun w _ => laidMetH Tryd.prog Rows.diskWholeRow.laid w) false (World.laidAll Tryd.prog os Rows.diskWholeRow.laid) #[.agg #[.slice none 0 0, .slice none 0 0], .slice none 0 0] 8 (World.laidAll_os _ _ _)
      (World.shaped_of_ZipB (by kernel_rfl) (by kernel_rfl)) (by kernel_rfl) (by kernel_rfl) (by kernel_rfl)
      (by rw [MakeChecks.laidMetH_plain _ _ _ (by kernel_rfl)]; exact laidMet_laidAll _ (by kernel_rfl) (by kernel_rfl))) ?_
  intro W base args ds gs before hval0 hW hcnd hsz0 _ _
  have hsz : (DataW.weightsEach Tryd.prog (Tryd.f5.params.toList ++ Rows.diskWholeSpec.plain.varTypes Tryd.prog) (ds ++ gs)).all (· ≤ reachBytes) = true := hsz0
  have hval : ∀ (j : Nat) t v, Tryd.f5.params[j]? = some t → args[j]? = some v → Value.okWide Tryd.prog W .any base t v := hval0
  have hW' := hW
  obtain ⟨p, q, hA0, hV, rfl, hfz, hnd⟩ := hW
  have hA : DataW.TrodAll enc Tryd.prog W 0 (fun _ => true) true Tryd.f5.params.toList args.toList ds p := hA0
  rw [Tryd.params5] at hA hval hsz
  obtain ⟨v0, vs0, d0, ds0, p0, q0, hargs, rfl, rfl, h0, r0⟩ := trodAll_cons hA
  obtain ⟨v1, vs1, d1, ds1, p1, q1, rfl, rfl, rfl, h1, r1⟩ := trodAll_cons r0
  obtain ⟨rfl, rfl, rfl⟩ := trodAll_nil r1
  obtain rfl : args = #[v0, v1] := by cases args; simp_all
  obtain ⟨rfl, rfl⟩ := trodVars_none hV
  have k0 := h0
  have lt0 : ∀ x ∈ p0, x.block < W.heap.size := by obtain ⟨m, hm⟩ := k0; exact DataW.trod_lt m _ _ _ hm
  have ok0 : Value.okWide Tryd.prog W .any base 25 v0 := hval 0 25 v0 rfl rfl
  obtain ⟨fuel0, hf0⟩ := h0
  obtain ⟨x0, K0, Z0⟩ := opT25 H enc W 0 _ true fuel0 _ _ _ hf0 (weights_of_each hsz (j := 0) (t := 25) rfl rfl)
  obtain ⟨cs0, rfl⟩ := aggOf_okWide Tryd.underlying25 ok0
  have e0 := k25_open K0
  obtain ⟨A0_0, c0_0, A0_1, c0_1, e0, l0_0, g0_0, l0_1, g0_1⟩ := e0
  obtain rfl : cs0 = #[.slice A0_0 x0.f0.length c0_0, .slice A0_1 x0.f1.length c0_1] := agg_open e0
  have k1 := h1
  have lt1 : ∀ x ∈ p1, x.block < W.heap.size := by obtain ⟨m, hm⟩ := k1; exact DataW.trod_lt m _ _ _ hm
  have ok1 : Value.okWide Tryd.prog W .any base 33 v1 := hval 1 33 v1 rfl rfl
  obtain ⟨fuel1, hf1⟩ := h1
  obtain ⟨x1, K1, Z1⟩ := opT33 H enc W 0 _ true fuel1 _ _ _ hf1 (weights_of_each hsz (j := 1) (t := 33) rfl rfl)
  obtain ⟨A1, len1, c1, rfl⟩ := okWide_slice Tryd.underlying33 ok1
  obtain ⟨rfl, l1, g1⟩ := slice_open K1
  clear hA0 hval0 hsz0 hsz
  obtain ⟨k, h⟩ := Pure.DiskWhole x0 x1 Z0 Z1
  refine (doorwardlaw03_DiskWhole.calls k A0_0 c0_0 x0.f0 A0_1 c0_1 x0.f1 A1 c1 x1 true W g0_0 l0_0 g0_1 l0_1 g1 l1 h).mono fun e W' ⟨he, bel0⟩ => ?_
  have bel : Below W.heap.size W W' := by first | exact bel0 | (obtain ⟨n0, rfl⟩ := bel0; exact Below.drewN (Below.refl _ _) _) | (obtain ⟨n0, rfl⟩ := bel0; repeat (first | exact Below.refl _ _ | apply pw_below_drewN))
  subst he
  exact ⟨_, rfl, _, _, _, [], _, [], hW', trodAll_mk1 (shut_bool Tryd.underlying4 _), (trodAll_cons_mk (Below.trod laidOut (by kernel_rfl) (of_decide_eq_true (by kernel_rfl)) k0 bel lt0) (trodAll_cons_mk (Below.trod laidOut (by kernel_rfl) (of_decide_eq_true (by kernel_rfl)) k1 bel lt1) trodAll_mk0)), rfl, bel.frame _, fun h => by cases h⟩
theorem over : Rows.diskWholeRow.holds Tryd.pinned (OpenSpec.ofChange Rows.diskWholeSpec) :=
  OpenClaim.holds_of_wide 5 Tryd.f5 rfl rfl rfl rfl rfl rfl rfl ⟨rfl, rfl, rfl, rfl, rfl⟩ rfl rfl rfl rfl rfl (by kernel_rfl) Tryd.func5 (by kernel_rfl)
    (of_decide_eq_true (by kernel_rfl)) (by unfold Func.isWrapper; first | (rw [if_pos (by decide +kernel)]; kernel_rfl) | (rw [if_neg (by decide +kernel)]; exact ⟨rfl, rfl⟩))
    (fun os started H enc _ => lifted os started H enc)
theorem proved : Rows.DiskWholeSaid := over
theorem card : Rows.DiskWholeCardSaid :=
  Claim7.holds_tied_plain_at .later [] [.data, .pinned] true (true, "ec22d909a53f874bd568267daaecff0bbd6a3d22c2ad4d19e5d712a5b89fc2b2") false proved (fun _ h => by cases h) (by kernel_rfl) (fun _ h => by cases h) diskWhole_row_tie rfl ⟨rfl, rfl⟩ (by kernel_rfl) rfl
    (fun f fn hf hfn => by
      obtain rfl : f = 5 := Option.some.inj ((show Tryd.prog.funcNamed "doorward/doorwardlaw03.DiskWhole" = some 5 by kernel_rfl).symm.trans hf) |>.symm
      obtain rfl : fn = Tryd.f5 := (Option.some.inj (Tryd.func5.symm.trans hfn)).symm
      exact ⟨by kernel_rfl, fun j t ht => by
        rw [Tryd.params5] at ht
        have hm : t ∈ [25, 33] := by simpa using Array.mem_of_getElem? ht
        have hall : ([25, 33].all fun u => !Tryd.prog.wantsStandIn u) = true := by kernel_rfl
        exact (show Tryd.prog.wantsStandIn t = false by simpa using List.all_eq_true.1 hall t hm)⟩)
    (by kernel_rfl)
end Go.Proofs.YtniplmjbligmlaaDoor.diskWhole
namespace Go.Proofs.YtniplmjbligmlaaDoor
theorem diskWhole_holds : Rows.DiskWholeCardSaid := diskWhole.card
#print axioms diskWhole_holds
end Go.Proofs.YtniplmjbligmlaaDoor
