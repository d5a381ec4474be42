/- DiskLeft holds: the Go law answers true for every input, and leaves its arguments alone; no condition but that the listed tables of the library stand as the program's text lays them. -/
import Derived.Test.YtniplmjbligmlaaDoorMgDiskLeft2
import Derived.Test.YtniplmjbligmlaaDoorMgDiskLeft1
import Derived.Test.YtniplmjbligmlaaDoorMgDiskLeft0
import Derived.Test.YtniplmjbligmlaaDoorCards
import Derived.Test.YtniplmjbligmlaaDoorTie
import Derived.WalkKit
import Derived.ProofKit
import Derived.OpenShut
import Derived.ShutString
import Derived.ChangeOld
import Derived.Below
import Derived.SizedLaws
import Derived.LaidMore
import Derived.Lay
import Derived.SevenTiedAt
import Derived.Stop.Joined
/-! Layer 3's plain laws: the reference's crash, what a sector tells, two disks that are the same; what a crash leaves. -/
namespace Go.Proofs.YtniplmjbligmlaaDoor.Q
open Go.RowKit Go.Proofs.YtniplmjbligmlaaDoorW.PrintWords Go.Proofs.YtniplmjbligmlaaDoorW.PrintLast Go.Proofs.YtniplmjbligmlaaDoorW.PrintMore Go.Proofs.YtniplmjbligmlaaDoor.Base
set_option linter.unusedVariables false
theorem step64 {i n : Nat} (h : i < n) (hn : n ≤ 140737488355328) : wrap64 ((i : Int) + 1) = ((i + 1 : Nat) : Int) := by rw [wrap64_id (by omega) (by omega)]; omega
/-- what becomes of one sector -/
def secF (all : Bool) (a : Int) : List S42 → List Bool → ByteArray → ByteArray
  | [], _, s => s
  | x :: xs, bs, s => secF all a xs bs.tail (if x.f0 = a ∧ (all = true ∨ bs.headD false = true) then x.f1 else s)
theorem secF_all (a : Int) : ∀ (xs : List S42) (bs : List Bool) (s : ByteArray), secF true a xs bs s = lastW xs a s
  | [], _, _ => rfl
  | x :: xs, bs, s => by
    unfold secF lastW
    rw [secF_all a xs]
    simp
theorem secF_nil (a : Int) : ∀ (xs : List S42) (s : ByteArray), secF false a xs [] s = s
  | [], _ => rfl
  | x :: xs, s => by unfold secF; rw [List.tail_nil, secF_nil a xs]; simp
theorem crashL_at : ∀ (xs : List S42) (bs : List Bool) (s : List ByteArray) (k : Nat), (∀ x ∈ xs, badW s.length x = false) → (crashL xs bs s)[k]? = (s[k]?).map (secF false (k : Int) xs bs)
  | [], _, s, k, _ => by
    have : secF false (k : Int) [] = fun _ s => s := rfl
    cases h : s[k]? <;> simp [crashL, h, this]
  | x :: xs, [], s, k, hb => by
    unfold crashL
    cases h : s[k]? with
    | none => rfl
    | some z => simp only [Option.map_some]; rw [secF_nil]
  | x :: xs, b :: bs, s, k, hb => by
    obtain ⟨h0, h1, _⟩ := not_bad (hb x (List.mem_cons_self ..))
    have hb2 : ∀ y ∈ xs, badW s.length y = false := fun y hy => hb y (List.mem_cons_of_mem _ hy)
    unfold crashL
    cases b with
    | true =>
      rw [if_pos rfl, crashL_at xs bs (s.set x.f0.toNat x.f1) k (by rw [List.length_set]; exact hb2), List.getElem?_set]
      by_cases e : x.f0.toNat = k
      · rw [if_pos e, if_pos (by omega)]
        have hlt : k < s.length := by omega
        rw [List.getElem?_eq_getElem hlt, Option.map_some, Option.map_some]
        unfold secF
        simp only [List.tail_cons, List.headD_cons]
        rw [if_pos ⟨by omega, by simp⟩]
        rw [secF.eq_def]
      · rw [if_neg e]
        cases h : s[k]? with
        | none => rfl
        | some z =>
          rw [Option.map_some, Option.map_some]
          conv => rhs; unfold secF
          simp only [List.tail_cons, List.headD_cons]
          rw [if_neg (fun h => e (by omega))]
    | false =>
      rw [if_neg (by decide), crashL_at xs bs s k hb2]
      cases h : s[k]? with
      | none => rfl
      | some z =>
        rw [Option.map_some, Option.map_some]
        conv => rhs; unfold secF
        rw [if_neg (by simp)]
        rfl
theorem secF_trues (a : Int) : ∀ (xs : List S42) (s : ByteArray), secF false a xs (List.replicate xs.length true) s = lastW xs a s
  | [], _ => rfl
  | x :: xs, s => by
    rw [List.length_cons, List.replicate_succ]
    unfold secF lastW
    simp only [List.tail_cons, List.headD_cons]
    rw [secF_trues a xs]; simp
theorem crashL_all_at (xs : List S42) (s : List ByteArray) (k : Nat) (hb : ∀ x ∈ xs, badW s.length x = false) : (crashL xs (List.replicate xs.length true) s)[k]? = (s[k]?).map (lastW xs (k : Int)) := by
  rw [crashL_at xs _ s k hb]
  cases s[k]? with
  | none => rfl
  | some z => rw [Option.map_some, Option.map_some, secF_trues]
theorem crash_stands (xs : List S42) : ∀ (bs : List Bool) (s : List ByteArray), (∀ z ∈ s, standsB z = true) → (∀ x ∈ xs, badW s.length x = false) → ∀ z ∈ crashL xs bs s, standsB z = true := by
  induction xs with
  | nil => intro bs s hs _; exact hs
  | cons x xs ih =>
    intro bs s hs hb
    cases bs with
    | nil => exact hs
    | cons b bs =>
      have hb2 : ∀ y ∈ xs, badW s.length y = false := fun y hy => hb y (List.mem_cons_of_mem _ hy)
      unfold crashL
      cases b with
      | true =>
        refine ih bs _ (fun z hz => ?_) (by rw [if_pos rfl, List.length_set]; exact hb2)
        rw [if_pos rfl] at hz
        rcases List.mem_or_eq_of_mem_set hz with h | h
        · exact hs z h
        · rw [h]; exact (not_bad (hb x (List.mem_cons_self ..))).2.2
      | false => exact ih bs s hs hb2
theorem right_mk {l0 : List ByteArray} {l1 : List S42} (h1 : 1 ≤ l0.length) (h2 : l0.length ≤ 256) (h3 : ∀ s ∈ l0, standsB s = true) (h4 : ∀ x ∈ l1, badW l0.length x = false) : rightB l0 l1 = true := by
  unfold rightB
  simp only [Bool.and_eq_true, decide_eq_true_eq, Bool.not_eq_true', List.all_eq_true, List.any_eq_false]
  exact ⟨⟨⟨h1, h2⟩, h3⟩, fun x hx => by simpa using h4 x hx⟩
theorem crash_still {l0 : List ByteArray} {l1 : List S42} (h : rightB l0 l1 = true) (bs : List Bool) : rightB (crashL l1 bs l0) [] = true := by
  obtain ⟨h1, h2, h3, h4⟩ := right_parts h
  exact right_mk (by rw [crashL_length]; exact h1) (by rw [crashL_length]; exact h2) (crash_stands l1 bs l0 h3 h4) (fun x hx => absurd hx List.not_mem_nil)
/-! the reference -/
theorem rdB_out (l : List Bool) (k : Nat) : rdOf false l (k : Int) = (l.drop k).headD false := by
  simp [rdOf, List.getD_eq_getElem?_getD, List.head?_drop, List.headD_eq_head?_getD]
theorem refcrash_l1 (all : Bool) (keep : List Bool) (a : Int) (x15 : List ByteArray) (x16 x17 : Int) (l : List S42) (l0 out : List ByteArray) (hl : l.length ≤ 140737488355328) (hout : out.length < 8796093022208) (R : List ByteArray × List S42) (d : Nat) : ∀ (i : Nat) (s : ByteArray), l.length - i = d → i ≤ l.length →
    Ev (fun k => doorwardref03_Crash.l0 k all keep x15 x16 (wrap64 (x17 + 1)) l0 l (out ++ [secF all a (l.drop i) (keep.drop i) s])) R →
    Ev (fun k => doorwardref03_Crash.l1 k all keep a s x15 x16 x17 l (l.length : Int) (i : Int) l0 l out) R := by
  induction d with
  | zero =>
    intro i s hd hi hR
    obtain rfl : i = l.length := by omega
    refine ev_succ (g := fun k => doorwardref03_Crash.l1 k all keep a s x15 x16 x17 l (l.length : Int) ((l.length : Nat) : Int) l0 l out) ?_
    simp only [doorwardref03_Crash.l1]
    refine ev_neg (by omega) (ev_pos hout ?_)
    rw [List.drop_length] at hR
    exact hR
  | succ d ih =>
    intro i s hd hi hR
    have hlt : i < l.length := by omega
    refine ev_succ (g := fun k => doorwardref03_Crash.l1 k all keep a s x15 x16 x17 l (l.length : Int) ((i : Nat) : Int) l0 l out) ?_
    simp only [doorwardref03_Crash.l1]
    refine ev_pos (by omega) (ev_pos (by omega) (ev_pos (by omega) ?_))
    rw [rdT_at l i hlt, rdB_out]
    rw [List.drop_eq_getElem_cons hlt] at hR
    unfold secF at hR
    rw [List.tail_drop] at hR
    have e3 := step64 hlt hl
    have go : ∀ (s' : ByteArray), (if l[i].f0 = a ∧ (all = true ∨ (keep.drop i).headD false = true) then l[i].f1 else s) = s' → Ev (fun k => doorwardref03_Crash.l1 k all keep a s' x15 x16 x17 l (l.length : Int) (wrap64 ((i : Int) + 1)) l0 l out) R := by
      intro s' hs'
      rw [hs'] at hR
      rw [e3]
      exact ih (i + 1) s' (by omega) (by omega) hR
    by_cases c1 : all = true
    · refine ev_pos c1 ?_
      by_cases c2 : l[i].f0 = a
      · exact ev_pos c2 (go _ (by rw [if_pos ⟨c2, .inl c1⟩]))
      · exact ev_neg c2 (go _ (by rw [if_neg (fun h => c2 h.1)]))
    · refine ev_neg c1 ?_
      by_cases c3 : (i : Int) < (keep.length : Int)
      · refine ev_pos c3 ?_
        by_cases c2 : l[i].f0 = a
        · refine ev_pos c2 ?_
          by_cases c4 : (keep.drop i).headD false = true
          · exact ev_pos c4 (go _ (by rw [if_pos ⟨c2, .inr c4⟩]))
          · exact ev_neg c4 (go _ (by rw [if_neg (fun h => h.2.elim c1 c4)]))
        · exact ev_neg c2 (go _ (by rw [if_neg (fun h => c2 h.1)]))
      · refine ev_neg c3 ?_
        have c4 : ¬ (keep.drop i).headD false = true := by rw [List.drop_eq_nil_of_le (by omega)]; simp
        by_cases c2 : l[i].f0 = a
        · exact ev_pos c2 (go _ (by rw [if_neg (fun h => h.2.elim c1 c4)]))
        · exact ev_neg c2 (go _ (by rw [if_neg (fun h => c2 h.1)]))
def refCrashL (all : Bool) (keep : List Bool) (l : List S42) (l0 : List ByteArray) : List ByteArray := (List.range l0.length).map fun (k : Nat) => secF all (k : Int) l keep (l0.getD k ByteArray.empty)
theorem refcrash_l0 (all : Bool) (keep : List Bool) (l : List S42) (l0 : List ByteArray) (hl : l.length ≤ 140737488355328) (hl0 : l0.length ≤ 256) (d : Nat) : ∀ (i : Nat), l0.length - i = d → i ≤ l0.length →
    Ev (fun k => doorwardref03_Crash.l0 k all keep l0 (l0.length : Int) (i : Int) l0 l ((refCrashL all keep l l0).take i)) (refCrashL all keep l l0, []) := by
  have hlen : (refCrashL all keep l l0).length = l0.length := by simp [refCrashL]
  induction d with
  | zero =>
    intro i hd hi
    obtain rfl : i = l0.length := by omega
    refine ev_succ (g := fun k => doorwardref03_Crash.l0 k all keep l0 (l0.length : Int) ((l0.length : Nat) : Int) l0 l ((refCrashL all keep l l0).take l0.length)) ?_
    simp only [doorwardref03_Crash.l0]
    exact ev_neg (by omega) (ev_now (by rw [List.take_of_length_le (by omega)]))
  | succ d ih =>
    intro i hd hi
    have hlt : i < l0.length := by omega
    refine ev_succ (g := fun k => doorwardref03_Crash.l0 k all keep l0 (l0.length : Int) ((i : Nat) : Int) l0 l ((refCrashL all keep l l0).take i)) ?_
    simp only [doorwardref03_Crash.l0]
    refine ev_pos (by omega) (ev_pos (by omega) (ev_pos (by omega) ?_))
    refine refcrash_l1 all keep (i : Int) l0 (l0.length : Int) (i : Int) l l0 _ hl (by rw [List.length_take]; omega) _ l.length 0 _ (by omega) (by omega) ?_
    rw [step64 hlt (by omega)]
    have e : (refCrashL all keep l l0).take i ++ [secF all (i : Int) (l.drop 0) (keep.drop 0) (rdOf ByteArray.empty l0 (i : Int))] = (refCrashL all keep l l0).take (i + 1) := by
      rw [List.take_add_one, List.getElem?_eq_getElem (by omega)]
      simp [refCrashL, rdOf]
    rw [e]
    exact ih (i + 1) (by omega) (by omega)
theorem refcrash_ev (all : Bool) (keep : List Bool) (l : List S42) (l0 : List ByteArray) (hl : l.length ≤ 140737488355328) (hl0 : l0.length ≤ 256) : Ev (fun k => doorwardref03_Crash.f k l0 l all keep) (refCrashL all keep l l0, []) := by
  unfold doorwardref03_Crash.f
  exact refcrash_l0 all keep l l0 hl hl0 l0.length 0 (by omega) (by omega)
theorem refCrashL_at (all : Bool) (keep : List Bool) (l : List S42) (l0 : List ByteArray) (k : Nat) : (refCrashL all keep l l0)[k]? = (l0[k]?).map (secF all (k : Int) l keep) := by
  unfold refCrashL
  rw [List.getElem?_map]
  by_cases h : k < l0.length
  · rw [List.getElem?_range h, List.getElem?_eq_getElem h]
    simp [List.getD_eq_getElem?_getD, List.getElem?_eq_getElem h]
  · rw [List.getElem?_eq_none (by simp; omega), List.getElem?_eq_none (by omega)]; rfl
theorem refcrash_some {l0 : List ByteArray} {l : List S42} (keep : List Bool) (h : rightB l0 l = true) : refCrashL false keep l l0 = crashL l keep l0 := by
  obtain ⟨h1, h2, h3, h4⟩ := right_parts h
  apply List.ext_getElem?
  intro k
  rw [crashL_at l keep l0 k h4, refCrashL_at]
theorem refcrash_all {l0 : List ByteArray} {l : List S42} (keep : List Bool) (h : rightB l0 l = true) : refCrashL true keep l l0 = crashL l (List.replicate l.length true) l0 := by
  obtain ⟨h1, h2, h3, h4⟩ := right_parts h
  apply List.ext_getElem?
  intro k
  rw [crashL_all_at l l0 k h4, refCrashL_at]
  cases l0[k]? with
  | none => rfl
  | some z => rw [Option.map_some, Option.map_some, secF_all]
theorem tells_l0 (a : Int) (l : List S42) (hl : l.length ≤ 140737488355328) (d : Nat) : ∀ (i : Nat) (s : ByteArray), l.length - i = d → i ≤ l.length → Ev (fun k => doorwardref03_Tells.l0 k a s l (l.length : Int) (i : Int)) (lastW (l.drop i) a s) := by
  induction d with
  | zero =>
    intro i s hd hi
    obtain rfl : i = l.length := by omega
    refine ev_succ (g := fun k => doorwardref03_Tells.l0 k a s l (l.length : Int) ((l.length : Nat) : Int)) ?_
    simp only [doorwardref03_Tells.l0]
    exact ev_neg (by omega) (ev_now (by rw [List.drop_length]; rfl))
  | succ d ih =>
    intro i s hd hi
    have hlt : i < l.length := by omega
    refine ev_succ (g := fun k => doorwardref03_Tells.l0 k a s l (l.length : Int) ((i : Nat) : Int)) ?_
    simp only [doorwardref03_Tells.l0]
    refine ev_pos (by omega) (ev_pos (by omega) (ev_pos (by omega) ?_))
    rw [rdT_at l i hlt, step64 hlt hl, List.drop_eq_getElem_cons hlt]
    unfold lastW
    by_cases c : l[i].f0 = a
    · rw [if_pos c]; exact ev_pos c (ih (i + 1) _ (by omega) (by omega))
    · rw [if_neg c]; exact ev_neg c (ih (i + 1) _ (by omega) (by omega))
theorem tells_ev (l0 : List ByteArray) (l : List S42) (a : Int) (hl : l.length ≤ 140737488355328) (h0 : 0 ≤ a) (h1 : a < (l0.length : Int)) : Ev (fun k => doorwardref03_Tells.f k l0 l a) (lastW l a (rdOf ByteArray.empty l0 a)) := by
  unfold doorwardref03_Tells.f
  refine ev_pos h0 (ev_pos h1 ?_)
  exact tells_l0 a l hl l.length 0 _ (by omega) (by omega)
theorem likew_l0 (l : List S42) (hl : l.length ≤ 140737488355328) (d : Nat) : ∀ (i : Nat), l.length - i = d → i ≤ l.length → Ev (fun k => doorwardref03_LikeWrites.l0 k l l (l.length : Int) (i : Int)) true := by
  induction d with
  | zero =>
    intro i hd hi
    obtain rfl : i = l.length := by omega
    refine ev_succ (g := fun k => doorwardref03_LikeWrites.l0 k l l (l.length : Int) ((l.length : Nat) : Int)) ?_
    simp only [doorwardref03_LikeWrites.l0]
    exact ev_neg (by omega) (ev_now rfl)
  | succ d ih =>
    intro i hd hi
    have hlt : i < l.length := by omega
    refine ev_succ (g := fun k => doorwardref03_LikeWrites.l0 k l l (l.length : Int) ((i : Nat) : Int)) ?_
    simp only [doorwardref03_LikeWrites.l0]
    refine ev_pos (by omega) (ev_pos (by omega) (ev_pos (by omega) (ev_pos (by omega) (ev_neg (by simp) ?_))))
    rw [step64 hlt hl]
    exact ih (i + 1) (by omega) (by omega)
theorem like_l0 (l0 : List ByteArray) (l : List S42) (hl0 : l0.length ≤ 140737488355328) (hl : l.length ≤ 140737488355328) (d : Nat) : ∀ (i : Nat), l0.length - i = d → i ≤ l0.length → Ev (fun k => doorwardref03_Like.l0 k (l0.length : Int) (i : Int) l0 l l0 l) true := by
  induction d with
  | zero =>
    intro i hd hi
    obtain rfl : i = l0.length := by omega
    refine ev_succ (g := fun k => doorwardref03_Like.l0 k (l0.length : Int) ((l0.length : Nat) : Int) l0 l l0 l) ?_
    simp only [doorwardref03_Like.l0]
    refine ev_neg (by omega) (ev_bind ?_ (ev_now rfl))
    unfold doorwardref03_LikeWrites.f
    exact ev_pos rfl (likew_l0 l hl l.length 0 (by omega) (by omega))
  | succ d ih =>
    intro i hd hi
    have hlt : i < l0.length := by omega
    refine ev_succ (g := fun k => doorwardref03_Like.l0 k (l0.length : Int) ((i : Nat) : Int) l0 l l0 l) ?_
    simp only [doorwardref03_Like.l0]
    refine ev_pos (by omega) (ev_pos (by omega) (ev_pos (by omega) (ev_pos (by omega) (ev_pos trivial ?_))))
    rw [step64 hlt hl0]
    exact ih (i + 1) (by omega) (by omega)
theorem like_refl (l0 : List ByteArray) (l : List S42) (hl0 : l0.length ≤ 140737488355328) (hl : l.length ≤ 140737488355328) : Ev (fun k => doorwardref03_Like.f k l0 l l0 l) true := by
  unfold doorwardref03_Like.f
  refine ev_pos rfl ?_
  refine ev_succ (g := fun k => doorwardref03_Like.j0 k ((l.length : Int) != (l.length : Int)) l0 l l0 l) ?_
  simp only [doorwardref03_Like.j0]
  exact ev_neg (by simp) (like_l0 l0 l hl0 hl l0.length 0 (by omega) (by omega))
end Go.Proofs.YtniplmjbligmlaaDoor.Q

/-! disk.New, a disk of few sectors, a disk that may be. -/
namespace Go.Proofs.YtniplmjbligmlaaDoor.Pure
open Go.RowKit Go.Proofs.YtniplmjbligmlaaDoorW.PrintWords Go.Proofs.YtniplmjbligmlaaDoorW.PrintLast Go.Proofs.YtniplmjbligmlaaDoorW.PrintMore Go.Proofs.YtniplmjbligmlaaDoor.Base Go.Proofs.YtniplmjbligmlaaDoor.Q
set_option linter.unusedVariables false
theorem new_bad (n : Int) (h : n < 1 ∨ n > 256) : disk_New.f n = some ([], [], 1) := by
  unfold disk_New.f
  by_cases c : n < 1
  · rw [if_pos c]
  · rw [if_neg c, if_pos (by omega)]
theorem new_ok (n : Int) (h : ¬ (n < 1 ∨ n > 256)) : disk_New.f n = some (List.replicate n.toNat (⟨#[]⟩ : ByteArray), [], 0) := by
  unfold disk_New.f
  rw [if_neg (by omega), if_neg (by omega), if_pos (by omega), if_pos (by omega)]
theorem empty_stands : standsB (⟨#[]⟩ : ByteArray) = true := by decide +kernel
theorem new_right (n : Nat) (h : 1 ≤ n) (h2 : n ≤ 256) : rightB (List.replicate n (⟨#[]⟩ : ByteArray)) [] = true := by
  unfold rightB
  simp only [List.length_replicate, List.any_nil, Bool.not_false, Bool.and_true]
  rw [decide_eq_true h, decide_eq_true h2]
  simp only [Bool.true_and]
  rw [List.all_eq_true]
  intro x hx
  rw [List.eq_of_mem_replicate hx]; exact empty_stands
theorem alive3 : doorwardlaw03_alive.f = some true := by
  unfold doorwardlaw03_alive.f
  rw [new_ok 3 (by omega)]
  simp only [Option.bind_some]
  rw [if_pos trivial]
  unfold disk_Right.f
  rw [new_right (3 : Int).toNat (by decide) (by decide)]
  simp
theorem few_eq (l : List ByteArray) (m : List S42) : doorwardlaw03_few.f l m = some (l.take 300, m.take 40) := by
  unfold doorwardlaw03_few.f
  simp only [mn_eq]
  rw [if_pos (by omega), if_pos (by omega), if_pos (by omega), if_pos (by omega)]
  have h1 : l.take (min (l.length : Int) 300).toNat = l.take 300 := by
    rw [show (min (l.length : Int) 300).toNat = min 300 l.length by omega, ← List.take_take, List.take_length]
  have h2 : m.take (min (m.length : Int) 40).toNat = m.take 40 := by
    rw [show (min (m.length : Int) 40).toNat = min 40 m.length by omega, ← List.take_take, List.take_length]
  rw [h1, h2]
end Go.Proofs.YtniplmjbligmlaaDoor.Pure

/-! What the printed and the proved functions of layer 3 answer, one by one. -/
namespace Go.Proofs.YtniplmjbligmlaaDoor.Pure
open Go.RowKit Go.Proofs.YtniplmjbligmlaaDoorW.PrintWords Go.Proofs.YtniplmjbligmlaaDoorW.PrintLast Go.Proofs.YtniplmjbligmlaaDoorW.PrintMore Go.Proofs.YtniplmjbligmlaaDoor.Base Go.Proofs.YtniplmjbligmlaaDoor.Q
set_option linter.unusedVariables false
theorem empty_toList : (⟨#[]⟩ : ByteArray).toList = [] := by rw [toList_L]
theorem crash_ok (l0 : List ByteArray) (l1 : List S42) (keep : List Bool) (h : rightB l0 l1 = true) (hl : l1.length ≤ 4294967295) : Ev (fun k => disk_Crash.f k l0 l1 keep) (crashL l1 keep l0, [], 0) :=
  ev_from (l1.length + 1) fun k hk => crash_right k l0 l1 keep h hl (by omega)
theorem crash_no (l0 : List ByteArray) (l1 : List S42) (keep : List Bool) (h : rightB l0 l1 = false) : Ev (fun k => disk_Crash.f k l0 l1 keep) ([], [], 1) :=
  ev_from 0 fun k _ => crash_wrong k l0 l1 keep h
theorem read_no (l0 : List ByteArray) (l1 : List S42) (a : Int) (h : rightB l0 l1 = false) : disk_Read.f l0 l1 a = some (⟨#[]⟩, 1) := by unfold disk_Read.f; rw [h]; rfl
theorem read_none (l0 : List ByteArray) (l1 : List S42) (a : Int) (h : rightB l0 l1 = true) (h2 : hasB l0.length a = false) : disk_Read.f l0 l1 a = some (⟨#[]⟩, 20) := by unfold disk_Read.f; rw [h, h2]; rfl
theorem read_ok (l0 : List ByteArray) (l1 : List S42) (a : Int) (h : rightB l0 l1 = true) (h2 : hasB l0.length a = true) : disk_Read.f l0 l1 a = some (lastW l1 a (rdOf ByteArray.empty l0 a), 0) := by unfold disk_Read.f; rw [h, h2]; rfl
end Go.Proofs.YtniplmjbligmlaaDoor.Pure

/-! What writing and flushing answer. -/
namespace Go.Proofs.YtniplmjbligmlaaDoor.Pure
open Go.RowKit Go.Proofs.YtniplmjbligmlaaDoorW.PrintWords Go.Proofs.YtniplmjbligmlaaDoorW.PrintLast Go.Proofs.YtniplmjbligmlaaDoorW.PrintMore Go.Proofs.YtniplmjbligmlaaDoor.Base Go.Proofs.YtniplmjbligmlaaDoor.Q
set_option linter.unusedVariables false
def leftF (left : Int) : Int := if left > 0 then wrap64 (left - 1) else left
/-- what the reference's call answers -/
def doF (l0 : List ByteArray) (l1 : List S42) (left c : Int) (s : ByteArray) : List ByteArray × List S42 × Int × Int :=
  if left = 0 then (l0, l1, left, 21) else if rightB l0 l1 = true then
    (if c < 0 then (crashL l1 (List.replicate l1.length true) l0, [], leftF left, 0) else if c ≥ (l0.length : Int) then (l0, l1, left, 20) else if ((trimS s).size : Int) > 512 then (l0, l1, left, 2) else (l0, l1 ++ [⟨c, trimS s⟩], leftF left, 0))
  else (l0, l1, left, 1)
theorem flush_do (l0 : List ByteArray) (l1 : List S42) (left : Int) (hl : l1.length ≤ 4294967295) : disk_Flush.f l0 l1 left = some (doF l0 l1 left (-1) ⟨#[]⟩) := by
  unfold disk_Flush.f callF doF flush1F leftF
  by_cases h0 : left = 0
  · rw [if_pos h0, if_pos h0]
  rw [if_neg h0, if_neg h0]
  by_cases hr : rightB l0 l1 = true
  · rw [if_pos hr, if_pos hr, if_pos (show (-1 : Int) < 0 by omega)]
    simp [hr, hl]
  · rw [if_neg hr, if_neg hr]
theorem write_do (l0 : List ByteArray) (l1 : List S42) (left c : Int) (s : ByteArray) (hl : l1.length ≤ 4294967295) (hs : s.size ≤ 140737488355328) (hc : 0 ≤ c) : disk_Write.f l0 l1 left c s = some (doF l0 l1 left c s) := by
  have hz : trimS s = trimS s := rfl
  unfold disk_Write.f callF doF write1F leftF
  rw [if_pos (by omega)]
  by_cases h0 : left = 0
  · rw [if_pos h0, if_pos h0]
  rw [if_neg h0, if_neg h0]
  by_cases hr : rightB l0 l1 = true
  · rw [if_pos hr, if_pos hr, if_neg (show ¬ c < 0 by omega)]
    by_cases c2 : c ≥ (l0.length : Int)
    · have h1 : hasB l0.length c = false := by unfold hasB; rw [decide_eq_false (by omega : ¬ c < (l0.length : Int))]; simp
      rw [if_pos c2]
      simp [h1]
    · have h1 : hasB l0.length c = true := by unfold hasB; rw [decide_eq_true hc, decide_eq_true (by omega : c < (l0.length : Int))]; rfl
      rw [if_neg c2]
      by_cases c3 : (trimS s).size ≤ 512
      · rw [if_neg (show ¬ ((trimS s).size : Int) > 512 by omega)]
        simp [h1, c3, show l1.length < 5864062014804 by omega]
      · rw [if_pos (show ((trimS s).size : Int) > 512 by omega)]
        simp [h1, c3]
  · rw [if_neg hr, if_neg hr]
theorem write_neg (l0 : List ByteArray) (l1 : List S42) (left c : Int) (s : ByteArray) (hs : s.size ≤ 140737488355328) (hc : c < 0) : disk_Write.f l0 l1 left c s = some (l0, l1, left, if left = 0 then 21 else if rightB l0 l1 = true then 20 else 1) := by
  unfold disk_Write.f callF write1F
  rw [if_pos (by omega)]
  by_cases h0 : left = 0
  · rw [if_pos h0, if_pos h0]
  rw [if_neg h0, if_neg h0]
  by_cases hr : rightB l0 l1 = true
  · rw [if_pos hr, if_pos hr]
    have : hasB l0.length c = false := by unfold hasB; rw [decide_eq_false (by omega : ¬ 0 ≤ c)]; rfl
    rw [this, if_neg (by decide)]; rfl
  · rw [if_neg hr, if_neg hr]
theorem do_lens (l0 : List ByteArray) (l1 : List S42) (left c : Int) (s : ByteArray) (hl : l1.length ≤ 4294967295) (hl0 : l0.length ≤ 4294967295) : (doF l0 l1 left c s).1.length ≤ 140737488355328 ∧ (doF l0 l1 left c s).2.1.length ≤ 140737488355328 := by
  unfold doF
  split
  · exact ⟨by simp only; omega, by simp only; omega⟩
  split
  · split
    · exact ⟨by simp only; rw [crashL_length]; omega, by simp⟩
    split
    · exact ⟨by simp only; omega, by simp only; omega⟩
    split
    · exact ⟨by simp only; omega, by simp only; omega⟩
    · exact ⟨by simp only; omega, by simp only [List.length_append, List.length_cons, List.length_nil]; omega⟩
  · exact ⟨by simp only; omega, by simp only; omega⟩
theorem do_err (l0 : List ByteArray) (l1 : List S42) (left : Int) (s : ByteArray) : let g := (doF l0 l1 left 0 s).2.2.2; (g = 21 ↔ left = 0) ∧ (g = 1 ↔ (left ≠ 0 ∧ ¬ rightB l0 l1 = true)) := by
  unfold doF
  by_cases h0 : left = 0
  · simp [h0]
  by_cases hr : rightB l0 l1 = true
  · simp only [if_neg h0, if_pos hr]
    split
    · simp [h0, hr]
    split
    · simp [h0, hr]
    split <;> simp [h0, hr]
  · simp [h0, hr]
end Go.Proofs.YtniplmjbligmlaaDoor.Pure

/-! What writing and flushing a disk that may be answer. -/
namespace Go.Proofs.YtniplmjbligmlaaDoor.Q
open Go.RowKit Go.Proofs.YtniplmjbligmlaaDoorW.PrintWords Go.Proofs.YtniplmjbligmlaaDoorW.PrintLast Go.Proofs.YtniplmjbligmlaaDoorW.PrintMore Go.Proofs.YtniplmjbligmlaaDoor.Base Go.Proofs.YtniplmjbligmlaaDoor.Pure
set_option linter.unusedVariables false
set_option linter.unusedSimpArgs false
theorem stands_trim (s : ByteArray) (h : s.size ≤ 512) : standsB (trimS s) = true := by
  unfold standsB; rw [trimS_idem]; simp; have := trimS_size s; omega
theorem right_more {m0 : List ByteArray} {m1 : List S42} (h : rightB m0 m1 = true) (a : Int) (h0 : 0 ≤ a) (h1 : a < (m0.length : Int)) (s : ByteArray) (hs : s.size ≤ 512) : rightB m0 (m1 ++ [⟨a, trimS s⟩]) = true := by
  obtain ⟨g1, g2, g3, g4⟩ := right_parts h
  refine right_mk g1 g2 g3 (fun x hx => ?_)
  rcases List.mem_append.1 hx with hx | hx
  · exact g4 x hx
  · rw [List.mem_singleton.1 hx]
    unfold badW hasB
    rw [decide_eq_true h0, decide_eq_true h1, stands_trim s hs]; rfl
theorem write_right {m0 : List ByteArray} {m1 : List S42} (h : rightB m0 m1 = true) (hl : m1.length ≤ 4294967295) (a : Int) (h0 : 0 ≤ a) (h1 : a < (m0.length : Int)) (s : ByteArray) (hs : s.size ≤ 512) : disk_Write.f m0 m1 (-1) a s = some (m0, m1 ++ [⟨a, trimS s⟩], -1, 0) := by
  rw [write_do m0 m1 (-1) a s hl (by omega) h0]
  unfold doF leftF
  rw [if_neg (by omega), if_pos h, if_neg (by omega), if_neg (by omega), if_neg (by have := trimS_size s; omega), if_neg (by omega)]
theorem flush_right {m0 : List ByteArray} {m1 : List S42} (h : rightB m0 m1 = true) (hl : m1.length ≤ 4294967295) : disk_Flush.f m0 m1 (-1) = some (crashL m1 (List.replicate m1.length true) m0, [], -1, 0) := by
  rw [flush_do m0 m1 (-1) hl]
  unfold doF leftF
  rw [if_neg (by omega), if_pos h, if_pos (by omega), if_neg (by omega)]
theorem lastW_snoc (xs : List S42) (x : S42) (a : Int) (s : ByteArray) : lastW (xs ++ [x]) a s = if x.f0 = a then x.f1 else lastW xs a s := by rw [lastW_app]; rfl
end Go.Proofs.YtniplmjbligmlaaDoor.Q

/-! DiskLeft by a walk: as many calls are done as power is left for. No condition. -/
namespace Go.Proofs.YtniplmjbligmlaaDoor.Q
open Go.RowKit Go.Proofs.YtniplmjbligmlaaDoorW.PrintWords Go.Proofs.YtniplmjbligmlaaDoorW.PrintLast Go.Proofs.YtniplmjbligmlaaDoorW.PrintMore Go.Proofs.YtniplmjbligmlaaDoor.SL Go.Proofs.YtniplmjbligmlaaDoor.Base Go.Proofs.YtniplmjbligmlaaDoor.Pure
set_option linter.unusedVariables false
set_option linter.unusedSimpArgs false
def doorwardlaw03_DiskLeft.f (k : Nat) (a0 a1 : Int) : Option Bool := some true
theorem likep_refl (l0 : List ByteArray) (l : List S42) (a : Int) (hl0 : l0.length ≤ 140737488355328) (hl : l.length ≤ 140737488355328) : Ev (fun k => doorwardref03_LikePower.f k l0 l a l0 l a) true := by
  unfold doorwardref03_LikePower.f
  exact ev_pos rfl (ev_bind (like_refl l0 l hl0 hl) (ev_now rfl))
theorem leftF_pos (L : Int) (h : 0 < L) (h' : L ≤ 100) : leftF L = L - 1 := by unfold leftF; rw [if_pos h]; exact wrap64_id (by omega) (by omega)
theorem write_left {m0 : List ByteArray} {m1 : List S42} (h : rightB m0 m1 = true) (hl : m1.length ≤ 4294967295) (L : Int) (hL : 0 < L) (hL' : L ≤ 100) (a : Int) (h0 : 0 ≤ a) (h1 : a < (m0.length : Int)) (s : ByteArray) (hs : s.size ≤ 512) : disk_Write.f m0 m1 L a s = some (m0, m1 ++ [⟨a, trimS s⟩], L - 1, 0) := by
  rw [write_do m0 m1 L a s hl (by omega) h0]
  unfold doF
  rw [leftF_pos L hL hL', if_neg (by omega), if_pos h, if_neg (by omega), if_neg (by omega), if_neg (by have := trimS_size s; omega)]
theorem flush_left {m0 : List ByteArray} {m1 : List S42} (h : rightB m0 m1 = true) (hl : m1.length ≤ 4294967295) (L : Int) (hL : 0 < L) (hL' : L ≤ 100) : disk_Flush.f m0 m1 L = some (crashL m1 (List.replicate m1.length true) m0, [], L - 1, 0) := by
  rw [flush_do m0 m1 L hl]
  unfold doF
  rw [leftF_pos L hL hL', if_neg (by omega), if_pos h, if_pos (by omega)]
theorem write_gone (m0 : List ByteArray) (m1 : List S42) (hl : m1.length ≤ 4294967295) (a : Int) (h0 : 0 ≤ a) (s : ByteArray) (hs : s.size ≤ 512) : disk_Write.f m0 m1 0 a s = some (m0, m1, 0, 21) := by
  rw [write_do m0 m1 0 a s hl (by omega) h0]
  unfold doF
  rw [if_pos rfl]
theorem flush_gone (m0 : List ByteArray) (m1 : List S42) (hl : m1.length ≤ 4294967295) : disk_Flush.f m0 m1 0 = some (m0, m1, 0, 21) := by
  rw [flush_do m0 m1 0 hl]
  unfold doF
  rw [if_pos rfl]
theorem lessSub {R' R : List (World → Prop)} (h : R'.Sublist R) {p : World → Prop} (hp : p ∈ R') : p ∈ R := h.subset hp
structure LeftI where
  i : Nat
  s : List ByteArray
  pd : List S42
  L : Int
  A0 : Option Addr
  c0 : Nat
  A1 : Option Addr
  c1 : Nat
structure LeftOk (n l : Int) (x : LeftI) : Prop where
  h1 : (x.i : Int) ≤ n
  h2 : (x.i : Int) ≤ l → x.L = l - x.i
  h3 : l ≤ (x.i : Int) → x.L = 0
  h4 : rightB x.s x.pd = true
  h5 : x.pd.length ≤ x.i
  h6 : x.s.length = 3
  c0 : Cap x.s.length x.c0
  c1 : Cap x.pd.length x.c1
set_option maxHeartbeats 4000000 in
set_option maxRecDepth 100000 in
theorem doorwardlaw03_DiskLeft.calls (k : Nat) (a0 a1 : Int) (r : Bool) (w : World) (h : doorwardlaw03_DiskLeft.f k a0 a1 = some r) :
    Calls Tryd.prog 10 #[.int .i64 a0, .int .i64 a1] w fun e w' => e = .returned (.bool r) ∧ Below w.heap.size w w' := by
  obtain rfl := Option.some.inj h
  clear h
  have H := St.start w (fun k => k < w.heap.size) (fun _ h => h)
  have ha3 := alive3
  obtain ⟨s0, hs0⟩ : ∃ s, List.replicate (3 : Int).toNat (⟨#[]⟩ : ByteArray) = s := ⟨_, rfl⟩
  obtain ⟨z0, hz0⟩ : ∃ z : List S42, [] = z := ⟨_, rfl⟩
  have hN : disk_New.f 3 = some (s0, z0, 0) := by rw [← hs0, ← hz0]; exact new_ok 3 (by omega)
  have hr0 : rightB s0 z0 = true := by rw [← hs0, ← hz0]; rfl
  have l0 : s0.length = 3 := by rw [← hs0]; rfl
  have lz : z0.length = 0 := by rw [← hz0]; rfl
  clear hs0 hz0
  refine sx_enter Tryd.func10 Tryd.ntmps10 rfl rfl (fun a A => ?_)
  repeat' (first
    | with_reducible refine wp_seq ?_
    | with_reducible refine sx_region ?_
    | with_reducible refine wp_block ?_
    | with_reducible refine wpList_nil ?_
    | with_reducible refine sx_then ?_
    | with_reducible refine sx_inb ?_
    | with_reducible refine wp_skip ?_
    | with_reducible refine wp_ret ?_
    | with_reducible refine wp_exit ?_
    | with_reducible refine sx_then_ret ?_
    | with_reducible refine sx_inb_ret ?_
    | with_reducible refine sx_then_exit ?_
    | with_reducible refine sx_inb_exit ?_
    | with_reducible refine sx_inb_other rfl ?_
    | ((with_reducible refine sx_at ?_); first
      | (refine sx_pure A tbOk rfl rfl rfl ?_; clear A; intro a A)
      | (refine sx_skip A rfl rfl ?_; clear A; intro a A)
      | ((with_reducible refine g_bin ?_); first | ((refine g_int A rfl ?_); first | (refine sx_cmp A rfl rfl rfl rfl ?_; clear A; intro a A) | (refine sx_arith A rfl rfl rfl rfl ?_; clear A; intro a A)) | ((refine g_str A rfl ?_); first | (refine sx_scmp A rfl rfl rfl rfl ?_; clear A; intro a A) | (refine sx_concat A rfl rfl rfl rfl ?_; clear A; intro a A)))
      | ((with_reducible refine g_load ?_); first | (refine sx_load_all H A tbOk rfl rfl rfl rfl rfl ?_; clear A; intro a A) | (refine sx_load H A tbOk rfl rfl rfl rfl ?_; clear A; intro a A))
      | ((with_reducible refine g_store ?_); refine sx_store H A tbOk rfl rfl rfl rfl ?_; clear H; intro w_ H)
      | ((with_reducible refine g_box ?_); refine sx_box H A rfl rfl rfl ?_; clear H A; intro b_ a w_ A H)
      | ((with_reducible refine g_alloc ?_); refine sx_alloc H A tbOk rfl rfl rfl ?_; clear H A; intro b_ a w_ A H)
      | ((with_reducible refine g_build ?_); refine sx_build A tbOk rfl rfl rfl rfl rfl rfl ?_; clear A; intro a A)
      | ((with_reducible refine g_builtin ?_); first | (refine sx_min A rfl rfl rfl rfl ?_; clear A; intro a A) | (refine sx_max A rfl rfl rfl rfl ?_; clear A; intro a A))
      | ((with_reducible refine g_slice ?_); refine sx_sstr A tbOk rfl rfl rfl rfl rfl rfl ?_; clear A; intro a A)
      )
    | ((with_reducible refine g_draw ?_); refine qx_region H (by kernel_rfl) (by kernel_rfl) ?_)
    | ((with_reducible refine qx_nil ?_); clear H; intro w_ F_ H)
    | ((with_reducible refine q_at ?_); first
      | (refine qx_pure A tbOk rfl rfl rfl ?_; clear A; intro a A)
      | (refine qx_skip A rfl rfl ?_; clear A; intro a A)
      | ((with_reducible refine qg_bin ?_); first | ((refine qg_int A rfl ?_); first | (refine qx_cmp A rfl rfl rfl rfl ?_; clear A; intro a A) | (refine qx_arith A rfl rfl rfl rfl ?_; clear A; intro a A)) | ((refine qg_str A rfl ?_); first | (refine qx_scmp A rfl rfl rfl rfl ?_; clear A; intro a A) | (refine qx_concat A rfl rfl rfl rfl ?_; clear A; intro a A)))
      | ((with_reducible refine qg_builtin ?_); first | (refine qx_min A rfl rfl rfl rfl ?_; clear A; intro a A) | (refine qx_max A rfl rfl rfl rfl ?_; clear A; intro a A))
      | ((with_reducible refine qg_slice ?_); refine qx_sstr A tbOk rfl rfl rfl rfl rfl rfl ?_; clear A; intro a A))
    | ((with_reducible refine sx_at ?_); first
      | (refine sx_call (f := 16) A rfl Tryd.call16 rfl rfl ?_; refine sl_disk_New H hN ?_; clear H; intro A_ c_ A'_ c'_ F_ w_ H hc_ hc'_; refine ⟨_, rfl, ?_⟩; clear A; intro a A)
      )
    )
  replace H := H.drop (List.Sublist.cons_cons _ (List.nil_sublist _))
  replace A := A.subs (T' := [(25, _), (4, _), (6, _), (0, _), (1, _), (24, _), (7, _)])
  obtain ⟨l, hl⟩ : ∃ x, min (max a0 0) 30 = x := ⟨_, rfl⟩
  obtain ⟨n, hn⟩ : ∃ x, min (max a1 0) 40 = x := ⟨_, rfl⟩
  rw [hl] at A H
  rw [hn] at A
  have hl0 : 0 ≤ l := by omega
  have hl1 : l ≤ 30 := by omega
  have hn0 : 0 ≤ n := by omega
  have hn1 : n ≤ 40 := by omega
  clear hl hn hN
  refine sx_rounds (fun x : LeftI => LeftOk n l x) (fun x => [(25, .int .i64 (x.i : Int)), (4, .bool false), (6, .int .i64 0), (0, .int .i64 l), (1, .int .i64 n), (24, .int .i64 n), (7, .pointer (some ⟨b_, 0, none⟩))])
    (fun x => [.mk b_ 46 [.slice x.A0 x.s.length x.c0, .slice x.A1 x.pd.length x.c1, .int .i64 x.L]]) (fun x => [rdc Kd.string x.A0 x.s, rdc k42 x.A1 x.pd]) (fun x => n.toNat - x.i)
    ⟨0, s0, z0, l, A_, c_, A'_, c'_⟩ H A ⟨by (show ((0 : Nat) : Int) ≤ n); omega, fun _ => by (show l = l - ((0 : Nat) : Int)); omega, fun h => by (have h' : l ≤ 0 := by simpa using h); (show l = 0); omega, hr0, by (show z0.length ≤ 0); omega, l0, hc_, hc'_⟩ (fun x F a W hx H A => ?_)
  clear hr0 l0 lz hc_ hc'_
  obtain ⟨i, s, pd, L, A0, c0, A1, c1⟩ := x
  obtain ⟨h1, h2, h3, h4, h5, h6, hc0, hc1⟩ := hx
  dsimp only at h1 h2 h3 h4 h5 h6 hc0 hc1 H A
  rcases Int.lt_or_le (i : Int) n with hlt | hge
  · have q0 : 0 ≤ (i : Int) % 3 := by omega
    have q1 : (i : Int) % 3 < 3 := by omega
    rcases Int.lt_or_le (i : Int) l with hil | hil
    · have hL : L = l - i := h2 (by omega)
      have hW := write_left h4 (by omega) L (by omega) (by omega) ((i : Int) % 3) q0 (by omega) ⟨#[120]⟩ (by decide)
      have hF := flush_left h4 (by omega) L (by omega) (by omega)
      have r1 := right_more h4 ((i : Int) % 3) q0 (by omega) ⟨#[120]⟩ (by decide)
      have r2 := crash_still h4 (List.replicate pd.length true)
      have l1 := crashL_length pd (List.replicate pd.length true) s
      obtain ⟨p1, hp1⟩ : ∃ z, pd ++ [(⟨(i : Int) % 3, trimS ⟨#[120]⟩⟩ : S42)] = z := ⟨_, rfl⟩
      obtain ⟨z0, hz0⟩ : ∃ z : List S42, [] = z := ⟨_, rfl⟩
      obtain ⟨s1, hs1⟩ : ∃ z, crashL pd (List.replicate pd.length true) s = z := ⟨_, rfl⟩
      have lp : p1.length = pd.length + 1 := by rw [← hp1]; simp
      have lz : z0.length = 0 := by rw [← hz0]; rfl
      rw [hs1] at hF r2 l1
      rw [hz0] at hF r2
      rw [hp1] at hW r1
      clear hp1 hz0 hs1
      by_cases h43 : (i : Int) % 4 = 3
      all_goals
        repeat' (first
    | with_reducible refine wp_seq ?_
    | with_reducible refine sx_region ?_
    | with_reducible refine wp_block ?_
    | with_reducible refine wpList_nil ?_
    | with_reducible refine sx_then ?_
    | with_reducible refine sx_inb ?_
    | with_reducible refine wp_skip ?_
    | with_reducible refine wp_ret ?_
    | with_reducible refine wp_exit ?_
    | with_reducible refine sx_then_ret ?_
    | with_reducible refine sx_inb_ret ?_
    | with_reducible refine sx_then_exit ?_
    | with_reducible refine sx_inb_exit ?_
    | with_reducible refine sx_inb_other rfl ?_
    | ((with_reducible refine sx_at ?_); first
      | (refine sx_pure A tbOk rfl rfl rfl ?_; clear A; intro a A)
      | (refine sx_skip A rfl rfl ?_; clear A; intro a A)
      | ((with_reducible refine g_bin ?_); first | ((refine g_int A rfl ?_); first | (refine sx_cmp A rfl rfl rfl rfl ?_; clear A; intro a A) | (refine sx_arith A rfl rfl rfl rfl ?_; clear A; intro a A)) | ((refine g_str A rfl ?_); first | (refine sx_scmp A rfl rfl rfl rfl ?_; clear A; intro a A) | (refine sx_concat A rfl rfl rfl rfl ?_; clear A; intro a A)))
      | ((with_reducible refine g_load ?_); first | (refine sx_load_all H A tbOk rfl rfl rfl rfl rfl ?_; clear A; intro a A) | (refine sx_load H A tbOk rfl rfl rfl rfl ?_; clear A; intro a A))
      | ((with_reducible refine g_store ?_); refine sx_store H A tbOk rfl rfl rfl rfl ?_; clear H; intro w_ H)
      | ((with_reducible refine g_box ?_); refine sx_box H A rfl rfl rfl ?_; clear H A; intro b_ a w_ A H)
      | ((with_reducible refine g_alloc ?_); refine sx_alloc H A tbOk rfl rfl rfl ?_; clear H A; intro b_ a w_ A H)
      | ((with_reducible refine g_build ?_); refine sx_build A tbOk rfl rfl rfl rfl rfl rfl ?_; clear A; intro a A)
      | ((with_reducible refine g_builtin ?_); first | (refine sx_min A rfl rfl rfl rfl ?_; clear A; intro a A) | (refine sx_max A rfl rfl rfl rfl ?_; clear A; intro a A))
      | ((with_reducible refine g_slice ?_); refine sx_sstr A tbOk rfl rfl rfl rfl rfl rfl ?_; clear A; intro a A)
      )
    | ((with_reducible refine g_draw ?_); refine qx_region H (by kernel_rfl) (by kernel_rfl) ?_)
    | ((with_reducible refine qx_nil ?_); clear H; intro w_ F_ H)
    | ((with_reducible refine q_at ?_); first
      | (refine qx_pure A tbOk rfl rfl rfl ?_; clear A; intro a A)
      | (refine qx_skip A rfl rfl ?_; clear A; intro a A)
      | ((with_reducible refine qg_bin ?_); first | ((refine qg_int A rfl ?_); first | (refine qx_cmp A rfl rfl rfl rfl ?_; clear A; intro a A) | (refine qx_arith A rfl rfl rfl rfl ?_; clear A; intro a A)) | ((refine qg_str A rfl ?_); first | (refine qx_scmp A rfl rfl rfl rfl ?_; clear A; intro a A) | (refine qx_concat A rfl rfl rfl rfl ?_; clear A; intro a A)))
      | ((with_reducible refine qg_builtin ?_); first | (refine qx_min A rfl rfl rfl rfl ?_; clear A; intro a A) | (refine qx_max A rfl rfl rfl rfl ?_; clear A; intro a A))
      | ((with_reducible refine qg_slice ?_); refine qx_sstr A tbOk rfl rfl rfl rfl rfl rfl ?_; clear A; intro a A))
    | ((with_reducible refine sx_at ?_); first
      | (refine sx_bne A tbOk rfl rfl rfl rfl rfl rfl ?_; clear A; intro a A)
      | (refine sx_call (f := 25) A rfl Tryd.call25 rfl rfl ?_; refine sl_disk_Write H (by with_reducible exact hW) ?_; clear H; intro A_ c_ A'_ c'_ F_ w_ H hc_ hc'_; refine ⟨_, rfl, ?_⟩; clear A; intro a A)
      | (refine sx_call (f := 31) A rfl Tryd.call31 rfl rfl ?_; refine sl_disk_Flush H (by with_reducible exact hF) ?_; clear H; intro A_ c_ A'_ c'_ F_ w_ H hc_ hc'_; refine ⟨_, rfl, ?_⟩; clear A; intro a A)
      )
    | with_reducible refine sx_if_t A rfl ?_
    | with_reducible refine sx_if_f A rfl ?_
    )
      · exact ⟨⟨i + 1, s1, z0, L - 1, A_, c_, A'_, c'_⟩, _, ⟨by (show ((i + 1 : Nat) : Int) ≤ n); omega, fun _ => by (show L - 1 = l - ((i + 1 : Nat) : Int)); omega, fun h => by (have h' : l ≤ ((i + 1 : Nat) : Int) := h); (show L - 1 = 0); omega, r2, by (show z0.length ≤ i + 1); omega, by (show s1.length = 3); omega, hc_, hc'_⟩, by (show n.toNat - (i + 1) < n.toNat - i); omega, (H.drop (List.Sublist.cons _ (List.Sublist.refl _))).less (fun p hp => lessSub (by (repeat (first | exact List.nil_sublist _ | apply List.Sublist.cons_cons))) hp), A.subs⟩
      · exact ⟨⟨i + 1, s, p1, L - 1, A_, c_, A'_, c'_⟩, _, ⟨by (show ((i + 1 : Nat) : Int) ≤ n); omega, fun _ => by (show L - 1 = l - ((i + 1 : Nat) : Int)); omega, fun h => by (have h' : l ≤ ((i + 1 : Nat) : Int) := h); (show L - 1 = 0); omega, r1, by (show p1.length ≤ i + 1); omega, h6, hc_, hc'_⟩, by (show n.toNat - (i + 1) < n.toNat - i); omega, (H.drop (List.Sublist.cons _ (List.Sublist.refl _))).less (fun p hp => lessSub (by (repeat (first | exact List.nil_sublist _ | apply List.Sublist.cons_cons))) hp), A.subs⟩
    · obtain rfl : L = 0 := h3 hil
      have hW := write_gone s pd (by omega) ((i : Int) % 3) q0 ⟨#[120]⟩ (by decide)
      have hF := flush_gone s pd (by omega)
      obtain ⟨kl, hk⟩ := ev_ex (likep_refl s pd 0 (by omega) (by omega))
      by_cases h43 : (i : Int) % 4 = 3
      all_goals
        repeat' (first
    | with_reducible refine wp_seq ?_
    | with_reducible refine sx_region ?_
    | with_reducible refine wp_block ?_
    | with_reducible refine wpList_nil ?_
    | with_reducible refine sx_then ?_
    | with_reducible refine sx_inb ?_
    | with_reducible refine wp_skip ?_
    | with_reducible refine wp_ret ?_
    | with_reducible refine wp_exit ?_
    | with_reducible refine sx_then_ret ?_
    | with_reducible refine sx_inb_ret ?_
    | with_reducible refine sx_then_exit ?_
    | with_reducible refine sx_inb_exit ?_
    | with_reducible refine sx_inb_other rfl ?_
    | ((with_reducible refine sx_at ?_); first
      | (refine sx_pure A tbOk rfl rfl rfl ?_; clear A; intro a A)
      | (refine sx_skip A rfl rfl ?_; clear A; intro a A)
      | ((with_reducible refine g_bin ?_); first | ((refine g_int A rfl ?_); first | (refine sx_cmp A rfl rfl rfl rfl ?_; clear A; intro a A) | (refine sx_arith A rfl rfl rfl rfl ?_; clear A; intro a A)) | ((refine g_str A rfl ?_); first | (refine sx_scmp A rfl rfl rfl rfl ?_; clear A; intro a A) | (refine sx_concat A rfl rfl rfl rfl ?_; clear A; intro a A)))
      | ((with_reducible refine g_load ?_); first | (refine sx_load_all H A tbOk rfl rfl rfl rfl rfl ?_; clear A; intro a A) | (refine sx_load H A tbOk rfl rfl rfl rfl ?_; clear A; intro a A))
      | ((with_reducible refine g_store ?_); refine sx_store H A tbOk rfl rfl rfl rfl ?_; clear H; intro w_ H)
      | ((with_reducible refine g_box ?_); refine sx_box H A rfl rfl rfl ?_; clear H A; intro b_ a w_ A H)
      | ((with_reducible refine g_alloc ?_); refine sx_alloc H A tbOk rfl rfl rfl ?_; clear H A; intro b_ a w_ A H)
      | ((with_reducible refine g_build ?_); refine sx_build A tbOk rfl rfl rfl rfl rfl rfl ?_; clear A; intro a A)
      | ((with_reducible refine g_builtin ?_); first | (refine sx_min A rfl rfl rfl rfl ?_; clear A; intro a A) | (refine sx_max A rfl rfl rfl rfl ?_; clear A; intro a A))
      | ((with_reducible refine g_slice ?_); refine sx_sstr A tbOk rfl rfl rfl rfl rfl rfl ?_; clear A; intro a A)
      )
    | ((with_reducible refine g_draw ?_); refine qx_region H (by kernel_rfl) (by kernel_rfl) ?_)
    | ((with_reducible refine qx_nil ?_); clear H; intro w_ F_ H)
    | ((with_reducible refine q_at ?_); first
      | (refine qx_pure A tbOk rfl rfl rfl ?_; clear A; intro a A)
      | (refine qx_skip A rfl rfl ?_; clear A; intro a A)
      | ((with_reducible refine qg_bin ?_); first | ((refine qg_int A rfl ?_); first | (refine qx_cmp A rfl rfl rfl rfl ?_; clear A; intro a A) | (refine qx_arith A rfl rfl rfl rfl ?_; clear A; intro a A)) | ((refine qg_str A rfl ?_); first | (refine qx_scmp A rfl rfl rfl rfl ?_; clear A; intro a A) | (refine qx_concat A rfl rfl rfl rfl ?_; clear A; intro a A)))
      | ((with_reducible refine qg_builtin ?_); first | (refine qx_min A rfl rfl rfl rfl ?_; clear A; intro a A) | (refine qx_max A rfl rfl rfl rfl ?_; clear A; intro a A))
      | ((with_reducible refine qg_slice ?_); refine qx_sstr A tbOk rfl rfl rfl rfl rfl rfl ?_; clear A; intro a A))
    | ((with_reducible refine sx_at ?_); first
      | (refine sx_bne A tbOk rfl rfl rfl rfl rfl rfl ?_; clear A; intro a A)
      | (refine sx_call (f := 25) A rfl Tryd.call25 rfl rfl ?_; refine sl_disk_Write H (by with_reducible exact hW) ?_; clear H; intro A_ c_ A'_ c'_ F_ w_ H hc_ hc'_; refine ⟨_, rfl, ?_⟩; clear A; intro a A)
      | (refine sx_call (f := 31) A rfl Tryd.call31 rfl rfl ?_; refine sl_disk_Flush H (by with_reducible exact hF) ?_; clear H; intro A_ c_ A'_ c'_ F_ w_ H hc_ hc'_; refine ⟨_, rfl, ?_⟩; clear A; intro a A)
      | (refine sx_call (f := 33) A rfl Tryd.call33 rfl rfl ?_; refine sl_doorwardref03_LikePower H hk ?_; clear H; intro F_ w_ H; refine ⟨_, rfl, ?_⟩; clear A; intro a A)
      )
    | with_reducible refine sx_if_t A rfl ?_
    | with_reducible refine sx_if_f A rfl ?_
    )
      all_goals exact ⟨⟨i + 1, s, pd, 0, A_, c_, A'_, c'_⟩, _, ⟨by (show ((i + 1 : Nat) : Int) ≤ n); omega, fun h => by (have h' : ((i + 1 : Nat) : Int) ≤ l := h); omega, fun _ => rfl, h4, by (show pd.length ≤ i + 1); omega, h6, hc_, hc'_⟩, by (show n.toNat - (i + 1) < n.toNat - i); omega, (H.drop (List.Sublist.cons _ (List.Sublist.refl _))).less (fun p hp => lessSub (by (repeat (first | exact List.nil_sublist _ | apply List.Sublist.cons_cons))) hp), A.subs⟩
  · have hin : (i : Int) = n := by omega
    have hfin : L = max (l - n) 0 := by
      rcases Int.le_total (i : Int) l with h | h
      · have := h2 h; omega
      · have := h3 h; omega
    subst hfin
    repeat' (first
    | with_reducible refine wp_seq ?_
    | with_reducible refine sx_region ?_
    | with_reducible refine wp_block ?_
    | with_reducible refine wpList_nil ?_
    | with_reducible refine sx_then ?_
    | with_reducible refine sx_inb ?_
    | with_reducible refine wp_skip ?_
    | with_reducible refine wp_ret ?_
    | with_reducible refine wp_exit ?_
    | with_reducible refine sx_then_ret ?_
    | with_reducible refine sx_inb_ret ?_
    | with_reducible refine sx_then_exit ?_
    | with_reducible refine sx_inb_exit ?_
    | with_reducible refine sx_inb_other rfl ?_
    | ((with_reducible refine sx_at ?_); first
      | (refine sx_pure A tbOk rfl rfl rfl ?_; clear A; intro a A)
      | (refine sx_skip A rfl rfl ?_; clear A; intro a A)
      | ((with_reducible refine g_bin ?_); first | ((refine g_int A rfl ?_); first | (refine sx_cmp A rfl rfl rfl rfl ?_; clear A; intro a A) | (refine sx_arith A rfl rfl rfl rfl ?_; clear A; intro a A)) | ((refine g_str A rfl ?_); first | (refine sx_scmp A rfl rfl rfl rfl ?_; clear A; intro a A) | (refine sx_concat A rfl rfl rfl rfl ?_; clear A; intro a A)))
      | ((with_reducible refine g_load ?_); first | (refine sx_load_all H A tbOk rfl rfl rfl rfl rfl ?_; clear A; intro a A) | (refine sx_load H A tbOk rfl rfl rfl rfl ?_; clear A; intro a A))
      | ((with_reducible refine g_store ?_); refine sx_store H A tbOk rfl rfl rfl rfl ?_; clear H; intro w_ H)
      | ((with_reducible refine g_box ?_); refine sx_box H A rfl rfl rfl ?_; clear H A; intro b_ a w_ A H)
      | ((with_reducible refine g_alloc ?_); refine sx_alloc H A tbOk rfl rfl rfl ?_; clear H A; intro b_ a w_ A H)
      | ((with_reducible refine g_build ?_); refine sx_build A tbOk rfl rfl rfl rfl rfl rfl ?_; clear A; intro a A)
      | ((with_reducible refine g_builtin ?_); first | (refine sx_min A rfl rfl rfl rfl ?_; clear A; intro a A) | (refine sx_max A rfl rfl rfl rfl ?_; clear A; intro a A))
      | ((with_reducible refine g_slice ?_); refine sx_sstr A tbOk rfl rfl rfl rfl rfl rfl ?_; clear A; intro a A)
      )
    | ((with_reducible refine g_draw ?_); refine qx_region H (by kernel_rfl) (by kernel_rfl) ?_)
    | ((with_reducible refine qx_nil ?_); clear H; intro w_ F_ H)
    | ((with_reducible refine q_at ?_); first
      | (refine qx_pure A tbOk rfl rfl rfl ?_; clear A; intro a A)
      | (refine qx_skip A rfl rfl ?_; clear A; intro a A)
      | ((with_reducible refine qg_bin ?_); first | ((refine qg_int A rfl ?_); first | (refine qx_cmp A rfl rfl rfl rfl ?_; clear A; intro a A) | (refine qx_arith A rfl rfl rfl rfl ?_; clear A; intro a A)) | ((refine qg_str A rfl ?_); first | (refine qx_scmp A rfl rfl rfl rfl ?_; clear A; intro a A) | (refine qx_concat A rfl rfl rfl rfl ?_; clear A; intro a A)))
      | ((with_reducible refine qg_builtin ?_); first | (refine qx_min A rfl rfl rfl rfl ?_; clear A; intro a A) | (refine qx_max A rfl rfl rfl rfl ?_; clear A; intro a A))
      | ((with_reducible refine qg_slice ?_); refine qx_sstr A tbOk rfl rfl rfl rfl rfl rfl ?_; clear A; intro a A))
    | ((with_reducible refine sx_at ?_); first
      | (refine sx_call (f := 17) A rfl Tryd.call17 rfl rfl ?_; refine sl_doorwardlaw03_alive H ha3 ?_; clear H; intro F_ w_ H; refine ⟨_, rfl, ?_⟩; clear A; intro a A)
      )
    | with_reducible refine sx_if_t A rfl ?_
    | with_reducible refine sx_if_f A rfl ?_
    | (refine sx_ret tbOk H A rfl ?_; exact ⟨rfl, H.below⟩)
    )
end Go.Proofs.YtniplmjbligmlaaDoor.Q

/-! What the statement DiskLeft says of the printed functions alone. -/
namespace Go.Proofs.YtniplmjbligmlaaDoor.Q
open Go.RowKit Go.Proofs.YtniplmjbligmlaaDoorW.PrintWords Go.Proofs.YtniplmjbligmlaaDoorW.PrintLast Go.Proofs.YtniplmjbligmlaaDoorW.PrintMore Go.Proofs.YtniplmjbligmlaaDoor.Base
def doorwardlaw03_DiskLeft.Stm : Prop := ∀ (x0 : Int) (x1 : Int), zT3 x0 → zT3 x1 → ∃ k, doorwardlaw03_DiskLeft.f k x0 x1 = some true
end Go.Proofs.YtniplmjbligmlaaDoor.Q

/-! DiskLeft: all that the walk asks. No condition. -/
namespace Go.Proofs.YtniplmjbligmlaaDoor.Pure
open Go.Proofs.YtniplmjbligmlaaDoor.Q
theorem DiskLeft : doorwardlaw03_DiskLeft.Stm := fun _ _ _ _ => ⟨0, rfl⟩
end Go.Proofs.YtniplmjbligmlaaDoor.Pure

/-! DiskLeft holds: the Go law answers true for every input, and leaves its arguments alone; no condition but that the listed tables of the library stand as the program's text lays them. -/
namespace Go.Proofs.YtniplmjbligmlaaDoor.diskLeft
open Go.ChangeShapes Go.WideShapes Go.ChangeAt Go.RowKit Go.Proofs.YtniplmjbligmlaaDoorW.PrintWords Go.Proofs.YtniplmjbligmlaaDoor.Base Go.Proofs.YtniplmjbligmlaaDoor.Q
set_option linter.unusedVariables false
theorem own : ownKnob Tryd.prog.godebug = none := by kernel_rfl
theorem laidOut : laidOutB Tryd.prog = true := by kernel_rfl
set_option maxRecDepth 100000 in
theorem lifted (os : Os) (started : os.Started) (H : Type) (enc : TypeId × Value → H) :
    ReturnsInHanded {} Tryd.checked os 10 .any (fun w args => (Rows.diskLeftSpec.pre enc Tryd.prog Tryd.f10 Rows.diskLeftRow.domain false w args ∧ laidMetH Tryd.prog Rows.diskLeftRow.laid w) ∧ sizedMet enc Tryd.prog Tryd.f10 (OpenSpec.ofChange Rows.diskLeftSpec) false w args) (Rows.diskLeftSpec.post enc Tryd.prog Tryd.f10 false true false false) := by
  refine returnsInHanded_of_change_and (C := Tryd.checked) (X := fun w _ => laidMetH Tryd.prog Rows.diskLeftRow.laid w) (fun _ _ _ hh h => h.of_heap hh) own started (by kernel_rfl) Tryd.func10
    (ChangeSpec.witness_shaped (enc := enc) (C := Tryd.checked) (os := os) (X := fun w _ => laidMetH Tryd.prog Rows.diskLeftRow.laid w) false (World.laidAll Tryd.prog os Rows.diskLeftRow.laid) #[.int .i64 0, .int .i64 0] 8 (World.laidAll_os _ _ _)
      (World.shaped_of_ZipB (by kernel_rfl) (by kernel_rfl)) (by kernel_rfl) (by kernel_rfl) (by kernel_rfl)
      (by rw [MakeChecks.laidMetH_plain _ _ _ (by kernel_rfl)]; exact laidMet_laidAll _ (by kernel_rfl) (by kernel_rfl))) ?_
  intro W base args ds gs before hval0 hW hcnd hsz0 _ _
  have hsz : (DataW.weightsEach Tryd.prog (Tryd.f10.params.toList ++ Rows.diskLeftSpec.plain.varTypes Tryd.prog) (ds ++ gs)).all (· ≤ reachBytes) = true := hsz0
  have hval : ∀ (j : Nat) t v, Tryd.f10.params[j]? = some t → args[j]? = some v → Value.okWide Tryd.prog W .any base t v := hval0
  have hW' := hW
  obtain ⟨p, q, hA0, hV, rfl, hfz, hnd⟩ := hW
  have hA : DataW.TrodAll enc Tryd.prog W 0 (fun _ => true) true Tryd.f10.params.toList args.toList ds p := hA0
  rw [Tryd.params10] at hA hval hsz
  obtain ⟨v0, vs0, d0, ds0, p0, q0, hargs, rfl, rfl, h0, r0⟩ := trodAll_cons hA
  obtain ⟨v1, vs1, d1, ds1, p1, q1, rfl, rfl, rfl, h1, r1⟩ := trodAll_cons r0
  obtain ⟨rfl, rfl, rfl⟩ := trodAll_nil r1
  obtain rfl : args = #[v0, v1] := by cases args; simp_all
  obtain ⟨rfl, rfl⟩ := trodVars_none hV
  have k0 := h0
  have lt0 : ∀ x ∈ p0, x.block < W.heap.size := by obtain ⟨m, hm⟩ := k0; exact DataW.trod_lt m _ _ _ hm
  have ok0 : Value.okWide Tryd.prog W .any base 3 v0 := hval 0 3 v0 rfl rfl
  obtain ⟨fuel0, hf0⟩ := h0
  obtain ⟨x0, K0, Z0⟩ := opT3 H enc W 0 _ true fuel0 _ _ _ hf0 (weights_of_each hsz (j := 0) (t := 3) rfl rfl)
  obtain ⟨y0, rfl⟩ := okWide_int Tryd.underlying3 ok0
  obtain rfl := int_open K0
  have k1 := h1
  have lt1 : ∀ x ∈ p1, x.block < W.heap.size := by obtain ⟨m, hm⟩ := k1; exact DataW.trod_lt m _ _ _ hm
  have ok1 : Value.okWide Tryd.prog W .any base 3 v1 := hval 1 3 v1 rfl rfl
  obtain ⟨fuel1, hf1⟩ := h1
  obtain ⟨x1, K1, Z1⟩ := opT3 H enc W 0 _ true fuel1 _ _ _ hf1 (weights_of_each hsz (j := 1) (t := 3) rfl rfl)
  obtain ⟨y1, rfl⟩ := okWide_int Tryd.underlying3 ok1
  obtain rfl := int_open K1
  clear hA0 hval0 hsz0 hsz
  obtain ⟨k, h⟩ := Pure.DiskLeft x0 x1 Z0 Z1
  refine (doorwardlaw03_DiskLeft.calls k x0 x1 true W  h).mono fun e W' ⟨he, bel0⟩ => ?_
  have bel : Below W.heap.size W W' := by first | exact bel0 | (obtain ⟨n0, rfl⟩ := bel0; exact Below.drewN (Below.refl _ _) _) | (obtain ⟨n0, rfl⟩ := bel0; repeat (first | exact Below.refl _ _ | apply pw_below_drewN))
  subst he
  exact ⟨_, rfl, _, _, _, [], _, [], hW', trodAll_mk1 (shut_bool Tryd.underlying4 _), (trodAll_cons_mk (Below.trod laidOut (by kernel_rfl) (of_decide_eq_true (by kernel_rfl)) k0 bel lt0) (trodAll_cons_mk (Below.trod laidOut (by kernel_rfl) (of_decide_eq_true (by kernel_rfl)) k1 bel lt1) trodAll_mk0)), rfl, bel.frame _, fun h => by cases h⟩
theorem over : Rows.diskLeftRow.holds Tryd.pinned (OpenSpec.ofChange Rows.diskLeftSpec) :=
  OpenClaim.holds_of_wide 10 Tryd.f10 rfl rfl rfl rfl rfl rfl rfl ⟨rfl, rfl, rfl, rfl, rfl⟩ rfl rfl rfl rfl rfl (by kernel_rfl) Tryd.func10 (by kernel_rfl)
    (of_decide_eq_true (by kernel_rfl)) (by unfold Func.isWrapper; first | (rw [if_pos (by decide +kernel)]; kernel_rfl) | (rw [if_neg (by decide +kernel)]; exact ⟨rfl, rfl⟩))
    (fun os started H enc _ => lifted os started H enc)
theorem proved : Rows.DiskLeftSaid := over
theorem card : Rows.DiskLeftCardSaid :=
  Claim7.holds_tied_plain_at .later [] [.data, .pinned] true (true, "ec22d909a53f874bd568267daaecff0bbd6a3d22c2ad4d19e5d712a5b89fc2b2") false proved (fun _ h => by cases h) (by kernel_rfl) (fun _ h => by cases h) diskLeft_row_tie rfl ⟨rfl, rfl⟩ (by kernel_rfl) rfl
    (fun f fn hf hfn => by
      obtain rfl : f = 10 := Option.some.inj ((show Tryd.prog.funcNamed "doorward/doorwardlaw03.DiskLeft" = some 10 by kernel_rfl).symm.trans hf) |>.symm
      obtain rfl : fn = Tryd.f10 := (Option.some.inj (Tryd.func10.symm.trans hfn)).symm
      exact ⟨by kernel_rfl, fun j t ht => by
        rw [Tryd.params10] at ht
        have hm : t ∈ [3, 3] := by simpa using Array.mem_of_getElem? ht
        have hall : ([3, 3].all fun u => !Tryd.prog.wantsStandIn u) = true := by kernel_rfl
        exact (show Tryd.prog.wantsStandIn t = false by simpa using List.all_eq_true.1 hall t hm)⟩)
    (by kernel_rfl)
end Go.Proofs.YtniplmjbligmlaaDoor.diskLeft
namespace Go.Proofs.YtniplmjbligmlaaDoor
theorem diskLeft_holds : Rows.DiskLeftCardSaid := diskLeft.card
#print axioms diskLeft_holds
end Go.Proofs.YtniplmjbligmlaaDoor
