/- Layer 3's plain laws: the reference's crash, what a sector tells, two disks that are the same; what a crash leaves. -/
import Derived.Test.YtniplmjbligmlaaDoorRefDisk
import Derived.Test.YtniplmjbligmlaaDoorCrashPlain
import Derived.Test.YtniplmjbligmlaaDoorHDiskRead
import Derived.Test.YtniplmjbligmlaaDoorQx2
import Derived.Test.YtniplmjbligmlaaDoorQx4
import Derived.Test.YtniplmjbligmlaaDoorQx6
import Derived.Test.YtniplmjbligmlaaDoorQx7
namespace Go.Proofs.YtniplmjbligmlaaDoor.Q
open Go.RowKit Go.Proofs.YtniplmjbligmlaaDoorW.PrintWords Go.Proofs.YtniplmjbligmlaaDoorW.PrintLast Go.Proofs.YtniplmjbligmlaaDoorW.PrintMore Go.Proofs.YtniplmjbligmlaaDoor.Base
set_option linter.unusedVariables false
theorem step64 {i n : Nat} (h : i < n) (hn : n ≤ 140737488355328) : wrap64 ((i : Int) + 1) = ((i + 1 : Nat) : Int) := by rw [wrap64_id (by omega) (by omega)]; omega
/-- what becomes of one sector -/
def secF (all : Bool) (a : Int) : List S42 → List Bool → ByteArray → ByteArray
  | [], _, s => s
  | x :: xs, bs, s => secF all a xs bs.tail (if x.f0 = a ∧ (all = true ∨ bs.headD false = true) then x.f1 else s)
theorem secF_all (a : Int) : ∀ (xs : List S42) (bs : List Bool) (s : ByteArray), secF true a xs bs s = lastW xs a s
  | [], _, _ => rfl
  | x :: xs, bs, s => by
    unfold secF lastW
    rw [secF_all a xs]
    simp
theorem secF_nil (a : Int) : ∀ (xs : List S42) (s : ByteArray), secF false a xs [] s = s
  | [], _ => rfl
  | x :: xs, s => by unfold secF; rw [List.tail_nil, secF_nil a xs]; simp
theorem crashL_at : ∀ (xs : List S42) (bs : List Bool) (s : List ByteArray) (k : Nat), (∀ x ∈ xs, badW s.length x = false) → (crashL xs bs s)[k]? = (s[k]?).map (secF false (k : Int) xs bs)
  | [], _, s, k, _ => by
    have : secF false (k : Int) [] = fun _ s => s := rfl
    cases h : s[k]? <;> simp [crashL, h, this]
  | x :: xs, [], s, k, hb => by
    unfold crashL
    cases h : s[k]? with
    | none => rfl
    | some z => simp only [Option.map_some]; rw [secF_nil]
  | x :: xs, b :: bs, s, k, hb => by
    obtain ⟨h0, h1, _⟩ := not_bad (hb x (List.mem_cons_self ..))
    have hb2 : ∀ y ∈ xs, badW s.length y = false := fun y hy => hb y (List.mem_cons_of_mem _ hy)
    unfold crashL
    cases b with
    | true =>
      rw [if_pos rfl, crashL_at xs bs (s.set x.f0.toNat x.f1) k (by rw [List.length_set]; exact hb2), List.getElem?_set]
      by_cases e : x.f0.toNat = k
      · rw [if_pos e, if_pos (by omega)]
        have hlt : k < s.length := by omega
        rw [List.getElem?_eq_getElem hlt, Option.map_some, Option.map_some]
        unfold secF
        simp only [List.tail_cons, List.headD_cons]
        rw [if_pos ⟨by omega, by simp⟩]
        rw [secF.eq_def]
      · rw [if_neg e]
        cases h : s[k]? with
        | none => rfl
        | some z =>
          rw [Option.map_some, Option.map_some]
          conv => rhs; unfold secF
          simp only [List.tail_cons, List.headD_cons]
          rw [if_neg (fun h => e (by omega))]
    | false =>
      rw [if_neg (by decide), crashL_at xs bs s k hb2]
      cases h : s[k]? with
      | none => rfl
      | some z =>
        rw [Option.map_some, Option.map_some]
        conv => rhs; unfold secF
        rw [if_neg (by simp)]
        rfl
theorem secF_trues (a : Int) : ∀ (xs : List S42) (s : ByteArray), secF false a xs (List.replicate xs.length true) s = lastW xs a s
  | [], _ => rfl
  | x :: xs, s => by
    rw [List.length_cons, List.replicate_succ]
    unfold secF lastW
    simp only [List.tail_cons, List.headD_cons]
    rw [secF_trues a xs]; simp
theorem crashL_all_at (xs : List S42) (s : List ByteArray) (k : Nat) (hb : ∀ x ∈ xs, badW s.length x = false) : (crashL xs (List.replicate xs.length true) s)[k]? = (s[k]?).map (lastW xs (k : Int)) := by
  rw [crashL_at xs _ s k hb]
  cases s[k]? with
  | none => rfl
  | some z => rw [Option.map_some, Option.map_some, secF_trues]
theorem crash_stands (xs : List S42) : ∀ (bs : List Bool) (s : List ByteArray), (∀ z ∈ s, standsB z = true) → (∀ x ∈ xs, badW s.length x = false) → ∀ z ∈ crashL xs bs s, standsB z = true := by
  induction xs with
  | nil => intro bs s hs _; exact hs
  | cons x xs ih =>
    intro bs s hs hb
    cases bs with
    | nil => exact hs
    | cons b bs =>
      have hb2 : ∀ y ∈ xs, badW s.length y = false := fun y hy => hb y (List.mem_cons_of_mem _ hy)
      unfold crashL
      cases b with
      | true =>
        refine ih bs _ (fun z hz => ?_) (by rw [if_pos rfl, List.length_set]; exact hb2)
        rw [if_pos rfl] at hz
        rcases List.mem_or_eq_of_mem_set hz with h | h
        · exact hs z h
        · rw [h]; exact (not_bad (hb x (List.mem_cons_self ..))).2.2
      | false => exact ih bs s hs hb2
theorem right_mk {l0 : List ByteArray} {l1 : List S42} (h1 : 1 ≤ l0.length) (h2 : l0.length ≤ 256) (h3 : ∀ s ∈ l0, standsB s = true) (h4 : ∀ x ∈ l1, badW l0.length x = false) : rightB l0 l1 = true := by
  unfold rightB
  simp only [Bool.and_eq_true, decide_eq_true_eq, Bool.not_eq_true', List.all_eq_true, List.any_eq_false]
  exact ⟨⟨⟨h1, h2⟩, h3⟩, fun x hx => by simpa using h4 x hx⟩
theorem crash_still {l0 : List ByteArray} {l1 : List S42} (h : rightB l0 l1 = true) (bs : List Bool) : rightB (crashL l1 bs l0) [] = true := by
  obtain ⟨h1, h2, h3, h4⟩ := right_parts h
  exact right_mk (by rw [crashL_length]; exact h1) (by rw [crashL_length]; exact h2) (crash_stands l1 bs l0 h3 h4) (fun x hx => absurd hx List.not_mem_nil)
/-! the reference -/
theorem rdB_out (l : List Bool) (k : Nat) : rdOf false l (k : Int) = (l.drop k).headD false := by
  simp [rdOf, List.getD_eq_getElem?_getD, List.head?_drop, List.headD_eq_head?_getD]
theorem refcrash_l1 (all : Bool) (keep : List Bool) (a : Int) (x15 : List ByteArray) (x16 x17 : Int) (l : List S42) (l0 out : List ByteArray) (hl : l.length ≤ 140737488355328) (hout : out.length < 8796093022208) (R : List ByteArray × List S42) (d : Nat) : ∀ (i : Nat) (s : ByteArray), l.length - i = d → i ≤ l.length →
    Ev (fun k => doorwardref03_Crash.l0 k all keep x15 x16 (wrap64 (x17 + 1)) l0 l (out ++ [secF all a (l.drop i) (keep.drop i) s])) R →
    Ev (fun k => doorwardref03_Crash.l1 k all keep a s x15 x16 x17 l (l.length : Int) (i : Int) l0 l out) R := by
  induction d with
  | zero =>
    intro i s hd hi hR
    obtain rfl : i = l.length := by omega
    refine ev_succ (g := fun k => doorwardref03_Crash.l1 k all keep a s x15 x16 x17 l (l.length : Int) ((l.length : Nat) : Int) l0 l out) ?_
    simp only [doorwardref03_Crash.l1]
    refine ev_neg (by omega) (ev_pos hout ?_)
    rw [List.drop_length] at hR
    exact hR
  | succ d ih =>
    intro i s hd hi hR
    have hlt : i < l.length := by omega
    refine ev_succ (g := fun k => doorwardref03_Crash.l1 k all keep a s x15 x16 x17 l (l.length : Int) ((i : Nat) : Int) l0 l out) ?_
    simp only [doorwardref03_Crash.l1]
    refine ev_pos (by omega) (ev_pos (by omega) (ev_pos (by omega) ?_))
    rw [rdT_at l i hlt, rdB_out]
    rw [List.drop_eq_getElem_cons hlt] at hR
    unfold secF at hR
    rw [List.tail_drop] at hR
    have e3 := step64 hlt hl
    have go : ∀ (s' : ByteArray), (if l[i].f0 = a ∧ (all = true ∨ (keep.drop i).headD false = true) then l[i].f1 else s) = s' → Ev (fun k => doorwardref03_Crash.l1 k all keep a s' x15 x16 x17 l (l.length : Int) (wrap64 ((i : Int) + 1)) l0 l out) R := by
      intro s' hs'
      rw [hs'] at hR
      rw [e3]
      exact ih (i + 1) s' (by omega) (by omega) hR
    by_cases c1 : all = true
    · refine ev_pos c1 ?_
      by_cases c2 : l[i].f0 = a
      · exact ev_pos c2 (go _ (by rw [if_pos ⟨c2, .inl c1⟩]))
      · exact ev_neg c2 (go _ (by rw [if_neg (fun h => c2 h.1)]))
    · refine ev_neg c1 ?_
      by_cases c3 : (i : Int) < (keep.length : Int)
      · refine ev_pos c3 ?_
        by_cases c2 : l[i].f0 = a
        · refine ev_pos c2 ?_
          by_cases c4 : (keep.drop i).headD false = true
          · exact ev_pos c4 (go _ (by rw [if_pos ⟨c2, .inr c4⟩]))
          · exact ev_neg c4 (go _ (by rw [if_neg (fun h => h.2.elim c1 c4)]))
        · exact ev_neg c2 (go _ (by rw [if_neg (fun h => c2 h.1)]))
      · refine ev_neg c3 ?_
        have c4 : ¬ (keep.drop i).headD false = true := by rw [List.drop_eq_nil_of_le (by omega)]; simp
        by_cases c2 : l[i].f0 = a
        · exact ev_pos c2 (go _ (by rw [if_neg (fun h => h.2.elim c1 c4)]))
        · exact ev_neg c2 (go _ (by rw [if_neg (fun h => c2 h.1)]))
def refCrashL (all : Bool) (keep : List Bool) (l : List S42) (l0 : List ByteArray) : List ByteArray := (List.range l0.length).map fun (k : Nat) => secF all (k : Int) l keep (l0.getD k ByteArray.empty)
theorem refcrash_l0 (all : Bool) (keep : List Bool) (l : List S42) (l0 : List ByteArray) (hl : l.length ≤ 140737488355328) (hl0 : l0.length ≤ 256) (d : Nat) : ∀ (i : Nat), l0.length - i = d → i ≤ l0.length →
    Ev (fun k => doorwardref03_Crash.l0 k all keep l0 (l0.length : Int) (i : Int) l0 l ((refCrashL all keep l l0).take i)) (refCrashL all keep l l0, []) := by
  have hlen : (refCrashL all keep l l0).length = l0.length := by simp [refCrashL]
  induction d with
  | zero =>
    intro i hd hi
    obtain rfl : i = l0.length := by omega
    refine ev_succ (g := fun k => doorwardref03_Crash.l0 k all keep l0 (l0.length : Int) ((l0.length : Nat) : Int) l0 l ((refCrashL all keep l l0).take l0.length)) ?_
    simp only [doorwardref03_Crash.l0]
    exact ev_neg (by omega) (ev_now (by rw [List.take_of_length_le (by omega)]))
  | succ d ih =>
    intro i hd hi
    have hlt : i < l0.length := by omega
    refine ev_succ (g := fun k => doorwardref03_Crash.l0 k all keep l0 (l0.length : Int) ((i : Nat) : Int) l0 l ((refCrashL all keep l l0).take i)) ?_
    simp only [doorwardref03_Crash.l0]
    refine ev_pos (by omega) (ev_pos (by omega) (ev_pos (by omega) ?_))
    refine refcrash_l1 all keep (i : Int) l0 (l0.length : Int) (i : Int) l l0 _ hl (by rw [List.length_take]; omega) _ l.length 0 _ (by omega) (by omega) ?_
    rw [step64 hlt (by omega)]
    have e : (refCrashL all keep l l0).take i ++ [secF all (i : Int) (l.drop 0) (keep.drop 0) (rdOf ByteArray.empty l0 (i : Int))] = (refCrashL all keep l l0).take (i + 1) := by
      rw [List.take_add_one, List.getElem?_eq_getElem (by omega)]
      simp [refCrashL, rdOf]
    rw [e]
    exact ih (i + 1) (by omega) (by omega)
theorem refcrash_ev (all : Bool) (keep : List Bool) (l : List S42) (l0 : List ByteArray) (hl : l.length ≤ 140737488355328) (hl0 : l0.length ≤ 256) : Ev (fun k => doorwardref03_Crash.f k l0 l all keep) (refCrashL all keep l l0, []) := by
  unfold doorwardref03_Crash.f
  exact refcrash_l0 all keep l l0 hl hl0 l0.length 0 (by omega) (by omega)
theorem refCrashL_at (all : Bool) (keep : List Bool) (l : List S42) (l0 : List ByteArray) (k : Nat) : (refCrashL all keep l l0)[k]? = (l0[k]?).map (secF all (k : Int) l keep) := by
  unfold refCrashL
  rw [List.getElem?_map]
  by_cases h : k < l0.length
  · rw [List.getElem?_range h, List.getElem?_eq_getElem h]
    simp [List.getD_eq_getElem?_getD, List.getElem?_eq_getElem h]
  · rw [List.getElem?_eq_none (by simp; omega), List.getElem?_eq_none (by omega)]; rfl
theorem refcrash_some {l0 : List ByteArray} {l : List S42} (keep : List Bool) (h : rightB l0 l = true) : refCrashL false keep l l0 = crashL l keep l0 := by
  obtain ⟨h1, h2, h3, h4⟩ := right_parts h
  apply List.ext_getElem?
  intro k
  rw [crashL_at l keep l0 k h4, refCrashL_at]
theorem refcrash_all {l0 : List ByteArray} {l : List S42} (keep : List Bool) (h : rightB l0 l = true) : refCrashL true keep l l0 = crashL l (List.replicate l.length true) l0 := by
  obtain ⟨h1, h2, h3, h4⟩ := right_parts h
  apply List.ext_getElem?
  intro k
  rw [crashL_all_at l l0 k h4, refCrashL_at]
  cases l0[k]? with
  | none => rfl
  | some z => rw [Option.map_some, Option.map_some, secF_all]
theorem tells_l0 (a : Int) (l : List S42) (hl : l.length ≤ 140737488355328) (d : Nat) : ∀ (i : Nat) (s : ByteArray), l.length - i = d → i ≤ l.length → Ev (fun k => doorwardref03_Tells.l0 k a s l (l.length : Int) (i : Int)) (lastW (l.drop i) a s) := by
  induction d with
  | zero =>
    intro i s hd hi
    obtain rfl : i = l.length := by omega
    refine ev_succ (g := fun k => doorwardref03_Tells.l0 k a s l (l.length : Int) ((l.length : Nat) : Int)) ?_
    simp only [doorwardref03_Tells.l0]
    exact ev_neg (by omega) (ev_now (by rw [List.drop_length]; rfl))
  | succ d ih =>
    intro i s hd hi
    have hlt : i < l.length := by omega
    refine ev_succ (g := fun k => doorwardref03_Tells.l0 k a s l (l.length : Int) ((i : Nat) : Int)) ?_
    simp only [doorwardref03_Tells.l0]
    refine ev_pos (by omega) (ev_pos (by omega) (ev_pos (by omega) ?_))
    rw [rdT_at l i hlt, step64 hlt hl, List.drop_eq_getElem_cons hlt]
    unfold lastW
    by_cases c : l[i].f0 = a
    · rw [if_pos c]; exact ev_pos c (ih (i + 1) _ (by omega) (by omega))
    · rw [if_neg c]; exact ev_neg c (ih (i + 1) _ (by omega) (by omega))
theorem tells_ev (l0 : List ByteArray) (l : List S42) (a : Int) (hl : l.length ≤ 140737488355328) (h0 : 0 ≤ a) (h1 : a < (l0.length : Int)) : Ev (fun k => doorwardref03_Tells.f k l0 l a) (lastW l a (rdOf ByteArray.empty l0 a)) := by
  unfold doorwardref03_Tells.f
  refine ev_pos h0 (ev_pos h1 ?_)
  exact tells_l0 a l hl l.length 0 _ (by omega) (by omega)
theorem likew_l0 (l : List S42) (hl : l.length ≤ 140737488355328) (d : Nat) : ∀ (i : Nat), l.length - i = d → i ≤ l.length → Ev (fun k => doorwardref03_LikeWrites.l0 k l l (l.length : Int) (i : Int)) true := by
  induction d with
  | zero =>
    intro i hd hi
    obtain rfl : i = l.length := by omega
    refine ev_succ (g := fun k => doorwardref03_LikeWrites.l0 k l l (l.length : Int) ((l.length : Nat) : Int)) ?_
    simp only [doorwardref03_LikeWrites.l0]
    exact ev_neg (by omega) (ev_now rfl)
  | succ d ih =>
    intro i hd hi
    have hlt : i < l.length := by omega
    refine ev_succ (g := fun k => doorwardref03_LikeWrites.l0 k l l (l.length : Int) ((i : Nat) : Int)) ?_
    simp only [doorwardref03_LikeWrites.l0]
    refine ev_pos (by omega) (ev_pos (by omega) (ev_pos (by omega) (ev_pos (by omega) (ev_neg (by simp) ?_))))
    rw [step64 hlt hl]
    exact ih (i + 1) (by omega) (by omega)
theorem like_l0 (l0 : List ByteArray) (l : List S42) (hl0 : l0.length ≤ 140737488355328) (hl : l.length ≤ 140737488355328) (d : Nat) : ∀ (i : Nat), l0.length - i = d → i ≤ l0.length → Ev (fun k => doorwardref03_Like.l0 k (l0.length : Int) (i : Int) l0 l l0 l) true := by
  induction d with
  | zero =>
    intro i hd hi
    obtain rfl : i = l0.length := by omega
    refine ev_succ (g := fun k => doorwardref03_Like.l0 k (l0.length : Int) ((l0.length : Nat) : Int) l0 l l0 l) ?_
    simp only [doorwardref03_Like.l0]
    refine ev_neg (by omega) (ev_bind ?_ (ev_now rfl))
    unfold doorwardref03_LikeWrites.f
    exact ev_pos rfl (likew_l0 l hl l.length 0 (by omega) (by omega))
  | succ d ih =>
    intro i hd hi
    have hlt : i < l0.length := by omega
    refine ev_succ (g := fun k => doorwardref03_Like.l0 k (l0.length : Int) ((i : Nat) : Int) l0 l l0 l) ?_
    simp only [doorwardref03_Like.l0]
    refine ev_pos (by omega) (ev_pos (by omega) (ev_pos (by omega) (ev_pos (by omega) (ev_pos trivial ?_))))
    rw [step64 hlt hl0]
    exact ih (i + 1) (by omega) (by omega)
theorem like_refl (l0 : List ByteArray) (l : List S42) (hl0 : l0.length ≤ 140737488355328) (hl : l.length ≤ 140737488355328) : Ev (fun k => doorwardref03_Like.f k l0 l l0 l) true := by
  unfold doorwardref03_Like.f
  refine ev_pos rfl ?_
  refine ev_succ (g := fun k => doorwardref03_Like.j0 k ((l.length : Int) != (l.length : Int)) l0 l l0 l) ?_
  simp only [doorwardref03_Like.j0]
  exact ev_neg (by simp) (like_l0 l0 l hl0 hl l0.length 0 (by omega) (by omega))
end Go.Proofs.YtniplmjbligmlaaDoor.Q
