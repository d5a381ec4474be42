/- disk.Read by hand. -/
import Derived.Test.YtniplmjbligmlaaDoorHBack
import Derived.Test.YtniplmjbligmlaaDoorHDiskA
import Derived.Test.YtniplmjbligmlaaDoorQx3
namespace Go.Proofs.YtniplmjbligmlaaDoor.Q
open Go.RowKit Go.Shelf Go.Proofs.YtniplmjbligmlaaDoorW.PrintWords Go.Proofs.YtniplmjbligmlaaDoorW.PrintLast Go.Proofs.YtniplmjbligmlaaDoorW.PrintMore Go.Proofs.YtniplmjbligmlaaDoor.Base
set_option linter.unusedVariables false
attribute [local go_sem] Oper.semAt_some
/-- the last write to a sector, or what the sector has -/
def lastW : List S42 → Int → ByteArray → ByteArray
  | [], _, s => s
  | x :: xs, a, s => lastW xs a (if x.f0 = a then x.f1 else s)
def disk_Read.f (l0 : List ByteArray) (l1 : List S42) (a : Int) : Option (ByteArray × Int) :=
  if rightB l0 l1 = true then (if hasB l0.length a = true then some (lastW l1 a (rdOf ByteArray.empty l0 a), 0) else some (⟨#[]⟩, 20)) else some (⟨#[]⟩, 1)

theorem four (w : World) (o1 o2 o3 o4 : Obj) : ∃ W, (((w.alloc o1).alloc o2).alloc o3).alloc o4 = W ∧ W.heap[w.heap.size]? = some o1 ∧ W.heap[w.heap.size + 1]? = some o2 ∧ W.heap[w.heap.size + 1 + 1]? = some o3 ∧ W.heap[w.heap.size + 1 + 1 + 1]? = some o4 ∧ Below w.heap.size w W ∧ W.heap.size = w.heap.size + 4 := by
  have e1 := World.size_alloc w o1
  have e2 := World.size_alloc (w.alloc o1) o2
  have e3 := World.size_alloc ((w.alloc o1).alloc o2) o3
  have e4 := World.size_alloc (((w.alloc o1).alloc o2).alloc o3) o4
  have n1 := World.alloc_heap_new w o1
  have n2 := World.alloc_heap_new (w.alloc o1) o2
  have n3 := World.alloc_heap_new ((w.alloc o1).alloc o2) o3
  have n4 := World.alloc_heap_new (((w.alloc o1).alloc o2).alloc o3) o4
  rw [e1] at n2; rw [e2, e1] at n3; rw [e3, e2, e1] at n4
  refine ⟨_, rfl, ?_, ?_, ?_, n4, below_alloc (below_alloc (below_alloc (below_alloc (Below.refl _ _) _) _) _) _, by omega⟩
  · exact ((Below.heap_alloc _ _ _ (by omega)).trans ((Below.heap_alloc _ _ _ (by omega)).trans (Below.heap_alloc _ _ _ (by omega)))).trans n1
  · exact ((Below.heap_alloc _ _ _ (by omega)).trans (Below.heap_alloc _ _ _ (by omega))).trans n2
  · exact (Below.heap_alloc _ _ _ (by omega)).trans n3
set_option maxHeartbeats 4000000 in
set_option maxRecDepth 100000 in
theorem read_wrong (A0_0 : Option Addr) (c0_0 : Nat) (l0_0 : List ByteArray) (A0_1 : Option Addr) (c0_1 : Nat) (l0_1 : List S42) (a1 : Int) (w : World)
    (hr0_0 : Kd.C Kd.string w A0_0 l0_0.length l0_0) (hc0_0 : l0_0.length ≤ c0_0) (hr0_1 : Kd.C k42 w A0_1 l0_1.length l0_1) (hc0_1 : l0_1.length ≤ c0_1) (hno : rightB l0_0 l0_1 = false) :
    Calls Tryd.prog 20 #[.agg #[.slice A0_0 l0_0.length c0_0, .slice A0_1 l0_1.length c0_1], .int .i64 a1] w fun e w' => e = .returned (.tuple #[.string ⟨#[]⟩, .int .i64 1]) ∧ Below w.heap.size w w' := by
  have HR0 := Aside0.mk hr0_0
  have HR1 := Aside0.mk hr0_1
  have HC0 := Aside0.mk hc0_0
  have HC1 := Aside0.mk hc0_1
  have HN := Aside0.mk (show disk_Right.f l0_0 l0_1 = some false by unfold disk_Right.f; rw [hno])
  clear hr0_0 hr0_1 hc0_0 hc0_1 hno
  refine (callsIn_wide (n := 3)).1 ?_
  refine callsIn_of_wp_marks Tryd.func20 rfl trivial ?_ rfl
  simp only [Tryd.ntmps20, List.size_toArray, List.length_cons, List.length_nil, Nat.reduceAdd, Nat.reduceSub, Array.replicate_succ, Array.replicate_zero, List.push_toArray, List.append_toArray, List.nil_append, List.cons_append]
  gi_wp2_with fail
  refine ⟨trivial, ?_⟩
  obtain ⟨W4, hW4, h1, h2, h3, h4, hb, hs⟩ := four w (Obj.cells #[Value.slice A0_0 l0_0.length c0_0, Value.slice A0_1 l0_1.length c0_1] 25) (Obj.cells #[Value.int IntKind.i64 a1] 3) (Obj.cells #[Value.string { data := #[] }] 9) (Obj.cells #[Value.int IntKind.i64 0] 27)
  rw [hW4]
  clear hW4
  refine (callsIn_wide.2 (disk_Right.calls A0_0 c0_0 l0_0 A0_1 c0_1 l0_1 _ W4 (Kd.C_below HR0.out hb) HC0.out (Kd.C_below HR1.out hb) HC1.out HN.out)).mono ?_
  rintro e w5 ⟨rfl, hb5⟩
  have c4 := (blk_cell (blk_below h3 hb5) 0).trans rfl
  have c5 := (blk_cell (blk_below h4 hb5) 0).trans rfl
  have f4 := blk_frozen (blk_below h3 hb5) 0
  have f5 := blk_frozen (blk_below h4 hb5) 0
  have b4 : Boxed w5 (w.heap.size + 1 + 1) 9 (.string ⟨#[]⟩) := blk_below h3 hb5
  have b5 : Boxed w5 (w.heap.size + 1 + 1 + 1) 27 (.int .i64 0) := blk_below h4 hb5
  clear h1 h2 h3 h4
  gi_wp2
  have r4 := ((b4.set (.string ⟨#[]⟩)).other (B' := w.heap.size + 1 + 1 + 1) (by omega) (.int .i64 1)).cell
  have r5 := ((b5.other (B' := w.heap.size + 1 + 1) (by omega) (.string ⟨#[]⟩)).set (.int .i64 1)).cell
  refine ⟨_, ?_, rfl, ?_⟩
  · simp [results, Tryd.f20, go_sem, r4, r5]
  · exact ((hb.trans (hb5.mono hb.size)).setCell (p := ⟨w.heap.size + 1 + 1, 0, none⟩) (show w.heap.size ≤ w.heap.size + 1 + 1 by omega) _).setCell (p := ⟨w.heap.size + 1 + 1 + 1, 0, none⟩) (show w.heap.size ≤ w.heap.size + 1 + 1 + 1 by omega) _
set_option maxHeartbeats 4000000 in
set_option maxRecDepth 100000 in
theorem read_nosector (A0_0 : Option Addr) (c0_0 : Nat) (l0_0 : List ByteArray) (A0_1 : Option Addr) (c0_1 : Nat) (l0_1 : List S42) (a1 : Int) (w : World)
    (hr0_0 : Kd.C Kd.string w A0_0 l0_0.length l0_0) (hc0_0 : l0_0.length ≤ c0_0) (hr0_1 : Kd.C k42 w A0_1 l0_1.length l0_1) (hc0_1 : l0_1.length ≤ c0_1) (hno : rightB l0_0 l0_1 = true) (hhas : hasB l0_0.length a1 = false) :
    Calls Tryd.prog 20 #[.agg #[.slice A0_0 l0_0.length c0_0, .slice A0_1 l0_1.length c0_1], .int .i64 a1] w fun e w' => e = .returned (.tuple #[.string ⟨#[]⟩, .int .i64 20]) ∧ Below w.heap.size w w' := by
  have HR0 := Aside0.mk hr0_0
  have HR1 := Aside0.mk hr0_1
  have HC0 := Aside0.mk hc0_0
  have HC1 := Aside0.mk hc0_1
  have HN := Aside0.mk (show disk_Right.f l0_0 l0_1 = some true by unfold disk_Right.f; rw [hno])
  have HH := Aside0.mk (show disk_has.f l0_0 l0_1 a1 = some false by rw [has_eq, hhas])
  clear hr0_0 hr0_1 hc0_0 hc0_1 hno hhas
  refine (callsIn_wide (n := 3)).1 ?_
  refine callsIn_of_wp_marks Tryd.func20 rfl trivial ?_ rfl
  simp only [Tryd.ntmps20, List.size_toArray, List.length_cons, List.length_nil, Nat.reduceAdd, Nat.reduceSub, Array.replicate_succ, Array.replicate_zero, List.push_toArray, List.append_toArray, List.nil_append, List.cons_append]
  gi_wp2_with fail
  refine ⟨trivial, ?_⟩
  obtain ⟨W4, hW4, h1, h2, h3, h4, hb, hs⟩ := four w (Obj.cells #[Value.slice A0_0 l0_0.length c0_0, Value.slice A0_1 l0_1.length c0_1] 25) (Obj.cells #[Value.int IntKind.i64 a1] 3) (Obj.cells #[Value.string { data := #[] }] 9) (Obj.cells #[Value.int IntKind.i64 0] 27)
  rw [hW4]
  clear hW4
  refine (callsIn_wide.2 (disk_Right.calls A0_0 c0_0 l0_0 A0_1 c0_1 l0_1 _ W4 (Kd.C_below HR0.out hb) HC0.out (Kd.C_below HR1.out hb) HC1.out HN.out)).mono ?_
  rintro e w5 ⟨rfl, hb5⟩
  have d0 := (blk_cell (blk_below h1 hb5) 0).trans rfl
  have d1 := (blk_cell (blk_below h1 hb5) 1).trans rfl
  have d3 := (blk_cell (blk_below h2 hb5) 0).trans rfl
  gi_wp2_with fail
  refine ⟨trivial, ?_⟩
  have hb6 := hb.trans (hb5.mono hb.size)
  refine (callsIn_wide.2 (disk_has.calls A0_0 c0_0 l0_0 A0_1 c0_1 l0_1 a1 _ w5 (Kd.C_below HR0.out hb6) HC0.out (Kd.C_below HR1.out hb6) HC1.out HH.out)).mono ?_
  rintro e w7 ⟨rfl, hb7⟩
  clear d0 d1 d3
  have hb5 := hb5.trans (hb7.mono hb5.size)
  have c4 := (blk_cell (blk_below h3 hb5) 0).trans rfl
  have c5 := (blk_cell (blk_below h4 hb5) 0).trans rfl
  have f4 := blk_frozen (blk_below h3 hb5) 0
  have f5 := blk_frozen (blk_below h4 hb5) 0
  have b4 : Boxed w7 (w.heap.size + 1 + 1) 9 (.string ⟨#[]⟩) := blk_below h3 hb5
  have b5 : Boxed w7 (w.heap.size + 1 + 1 + 1) 27 (.int .i64 0) := blk_below h4 hb5
  clear h1 h2 h3 h4
  gi_wp2
  have r4 := ((b4.set (.string ⟨#[]⟩)).other (B' := w.heap.size + 1 + 1 + 1) (by omega) (.int .i64 20)).cell
  have r5 := ((b5.other (B' := w.heap.size + 1 + 1) (by omega) (.string ⟨#[]⟩)).set (.int .i64 20)).cell
  refine ⟨_, ?_, rfl, ?_⟩
  · simp [results, Tryd.f20, go_sem, r4, r5]
  · exact ((hb.trans (hb5.mono hb.size)).setCell (p := ⟨w.heap.size + 1 + 1, 0, none⟩) (show w.heap.size ≤ w.heap.size + 1 + 1 by omega) _).setCell (p := ⟨w.heap.size + 1 + 1 + 1, 0, none⟩) (show w.heap.size ≤ w.heap.size + 1 + 1 + 1 by omega) _

theorem lastW_app (a : Int) : ∀ (xs ys : List S42) (s : ByteArray), lastW (xs ++ ys) a s = lastW ys a (lastW xs a s)
  | [], _, _ => rfl
  | x :: xs, ys, s => lastW_app a xs ys _
theorem lastW_none (a : Int) : ∀ (xs : List S42) (s : ByteArray), (∀ x ∈ xs, x.f0 ≠ a) → lastW xs a s = s
  | [], _, _ => rfl
  | x :: xs, s, h => by
    unfold lastW; rw [if_neg (h x (List.mem_cons_self ..))]
    exact lastW_none a xs s (fun y hy => h y (List.mem_cons_of_mem _ hy))
theorem lastW_at (a : Int) (xs : List S42) (s : ByteArray) (j : Nat) (hj : j < xs.length) (e : xs[j].f0 = a) (h : ∀ i, j < i → (hi : i < xs.length) → xs[i].f0 ≠ a) : lastW xs a s = xs[j].f1 := by
  have e1 : xs = xs.take j ++ (xs[j] :: xs.drop (j + 1)) := by rw [← List.drop_eq_getElem_cons hj, List.take_append_drop]
  have e2 : lastW xs a s = lastW (xs.take j ++ (xs[j] :: xs.drop (j + 1))) a s := by rw [← e1]
  rw [e2, lastW_app]
  show lastW (xs.drop (j + 1)) a (if xs[j].f0 = a then xs[j].f1 else _) = _
  rw [if_pos e]
  refine lastW_none a _ _ fun x hx => ?_
  obtain ⟨i, hi, rfl⟩ := List.getElem_of_mem hx
  rw [List.getElem_drop]
  exact h _ (by omega) _
theorem backF_at (l : List S42) (k j : Nat) (hk : k + j + 1 = l.length) : backF l k = ((j : Int), l[j]) := by
  unfold backF
  have e : (l.length : Int) - 1 - k = (j : Int) := by omega
  rw [e, rd_at l j (by omega)]
theorem mem_upto {α : Type} (f : Nat → α) (n k : Nat) (h : k < n) : f k ∈ upto f n := List.mem_map.2 ⟨k, List.mem_range.2 h, rfl⟩
theorem back_done (l : List S42) (a : Int) (s : ByteArray) (h : ∀ p ∈ upto (backF l) l.length, p.2.f0 ≠ a) : lastW l a s = s := by
  refine lastW_none a l s fun x hx => ?_
  obtain ⟨j, hj, rfl⟩ := List.getElem_of_mem hx
  have := h _ (mem_upto (backF l) l.length (l.length - 1 - j) (by omega))
  rwa [backF_at l (l.length - 1 - j) j (by omega)] at this
theorem back_stop (l : List S42) (a : Int) (s : ByteArray) (k : Nat) (ini : List (Int × S42)) (last : Int × S42) (hk : k ≤ l.length) (e : upto (backF l) k = ini ++ [last]) (h : ∀ p ∈ ini, p.2.f0 ≠ a) (hl : last.2.f0 = a) : lastW l a s = last.2.f1 := by
  cases k with
  | zero => simp [upto] at e
  | succ k =>
    rw [upto_succ] at e
    obtain ⟨rfl, e5⟩ := List.append_inj' e rfl
    obtain rfl : backF l k = last := by simpa using e5
    obtain ⟨j, hj⟩ : ∃ j, k + j + 1 = l.length := ⟨l.length - 1 - k, by omega⟩
    rw [backF_at l k j hj] at hl ⊢
    refine lastW_at a l s j (by omega) hl fun i hi hi2 => ?_
    have := h _ (mem_upto (backF l) k (l.length - 1 - i) (by omega))
    rwa [backF_at l (l.length - 1 - i) i (by omega)] at this

theorem own_blk {X Y : World} {row : Option Nat} {B : Nat} {cs : Array Value} {t : TypeId} (hs : X.heap[B]? = some (.cells cs t (0, 0))) (hg : X.grownBy Y row) (hrow : ∀ r, row = some r → ∃ o : Obj, X.heap[r]? = some o ∧ o.isCells = false) : Y.heap[B]? = some (.cells cs t (0, 0)) :=
  (hg.block B (Array.getElem?_eq_some_iff.1 hs).1 (fun e' => by obtain ⟨o, ho, hc⟩ := hrow B e'.symm; rw [hs] at ho; cases ho; cases hc)).trans hs
set_option maxHeartbeats 4000000 in
set_option maxRecDepth 100000 in
theorem read_full (A0_0 : Option Addr) (c0_0 : Nat) (l0_0 : List ByteArray) (A0_1 : Option Addr) (c0_1 : Nat) (l0_1 : List S42) (a1 : Int) (w : World)
    (hr0_0 : Kd.C Kd.string w A0_0 l0_0.length l0_0) (hc0_0 : l0_0.length ≤ c0_0) (hr0_1 : Kd.C k42 w A0_1 l0_1.length l0_1) (hc0_1 : l0_1.length ≤ c0_1) (hno : rightB l0_0 l0_1 = true) (hhas : hasB l0_0.length a1 = true) :
    Calls Tryd.prog 20 #[.agg #[.slice A0_0 l0_0.length c0_0, .slice A0_1 l0_1.length c0_1], .int .i64 a1] w fun e w' => e = .returned (.tuple #[.string (lastW l0_1 a1 (rdOf ByteArray.empty l0_0 a1)), .int .i64 0]) ∧ Below w.heap.size w w' := by
  have hh0 : (0 : Int) ≤ a1 ∧ a1 < (l0_0.length : Int) := by unfold hasB at hhas; simpa using hhas
  obtain ⟨ad, rfl, -⟩ := Kd.at_string hr0_0 a1 hh0.1 hh0.2
  have HR0 := Aside0.mk hr0_0
  have HR1 := Aside0.mk hr0_1
  have HC0 := Aside0.mk hc0_0
  have HC1 := Aside0.mk hc0_1
  have HN := Aside0.mk (show disk_Right.f l0_0 l0_1 = some true by unfold disk_Right.f; rw [hno])
  have HH := Aside0.mk (show disk_has.f l0_0 l0_1 a1 = some true by rw [has_eq, hhas])
  clear hr0_0 hr0_1 hc0_0 hc0_1 hno
  refine (callsIn_wide (n := 3)).1 ?_
  refine callsIn_of_wp_marks Tryd.func20 rfl trivial ?_ rfl
  simp only [Tryd.ntmps20, List.size_toArray, List.length_cons, List.length_nil, Nat.reduceAdd, Nat.reduceSub, Array.replicate_succ, Array.replicate_zero, List.push_toArray, List.append_toArray, List.nil_append, List.cons_append]
  gi_wp2_with fail
  refine ⟨trivial, ?_⟩
  obtain ⟨W4, hW4, h1, h2, h3, h4, hb, hs⟩ := four w (Obj.cells #[Value.slice (some ad) l0_0.length c0_0, Value.slice A0_1 l0_1.length c0_1] 25) (Obj.cells #[Value.int IntKind.i64 a1] 3) (Obj.cells #[Value.string { data := #[] }] 9) (Obj.cells #[Value.int IntKind.i64 0] 27)
  rw [hW4]
  clear hW4
  refine (callsIn_wide.2 (disk_Right.calls (some ad) c0_0 l0_0 A0_1 c0_1 l0_1 _ W4 (Kd.C_below HR0.out hb) HC0.out (Kd.C_below HR1.out hb) HC1.out HN.out)).mono ?_
  rintro e w5 ⟨rfl, hb5⟩
  have d0 := (blk_cell (blk_below h1 hb5) 0).trans rfl
  have d1 := (blk_cell (blk_below h1 hb5) 1).trans rfl
  have d3 := (blk_cell (blk_below h2 hb5) 0).trans rfl
  gi_wp2_with fail
  refine ⟨trivial, ?_⟩
  have hb6 := hb.trans (hb5.mono hb.size)
  refine (callsIn_wide.2 (disk_has.calls (some ad) c0_0 l0_0 A0_1 c0_1 l0_1 a1 _ w5 (Kd.C_below HR0.out hb6) HC0.out (Kd.C_below HR1.out hb6) HC1.out HH.out)).mono ?_
  rintro e w7 ⟨rfl, hb7⟩
  clear d0 d1 d3
  have d0 := (blk_cell (blk_below h1 (hb5.trans (hb7.mono hb5.size))) 0).trans rfl
  have d1 := (blk_cell (blk_below h1 (hb5.trans (hb7.mono hb5.size))) 1).trans rfl
  have hb5 := hb5.trans (hb7.mono hb5.size)
  gi_wp2_with fail
  refine ⟨trivial, ?_⟩
  refine (back_in Fence.wide _ trivial rfl _ _ _ _).mono ?_
  rintro e w8 ⟨rfl, rfl⟩
  gi_wp2_with fail
  have hbw7 := hb.trans (hb5.mono hb.size)
  have m2 := blk_below h1 hb5
  have m3 := blk_below h2 hb5
  have m4 := blk_below h3 hb5
  have m5 := blk_below h4 hb5
  have bN := Boxed.new w7 23 (Value.slice A0_1 l0_1.length c0_1)
  have hs7 := hbw7.size
  have hs47 := hb5.size
  have h1_3 : 1 ≤ 3 := by omega
  have hbL : Below w.heap.size w (w7.alloc (Obj.cells #[Value.slice A0_1 l0_1.length c0_1] 23)) := below_alloc hbw7 _
  have hsL := World.size_alloc w7 (Obj.cells #[Value.slice A0_1 l0_1.length c0_1] 23)
  clear d0 d1 h1 h2 h3 h4
  refine wpIn_rangeFunc_ownH rfl h1_3 (gf := 71) (lb := #[.pointer (some ⟨w7.heap.size, 0, none⟩)]) rfl trivial (enters_of Tryd.func71 (by kernel_rfl) rfl)
    (back_stops Fence.wide (3 - 1) trivial rfl (by omega) w7.heap.size (w7.heap.size + 1) A0_1 c0_1 l0_1 w HR1.out _ hbL (by omega) (by omega) (by omega) bN.cell) belowK_t (belowK_b (by omega)) (Below.refl _ _) (fun _ => rfl)
    (fun pre W => ((∀ p ∈ pre, p.2.f0 ≠ a1) ∧ W.heap[w.heap.size]? = some (Obj.cells #[Value.slice (some ad) l0_0.length c0_0, Value.slice A0_1 l0_1.length c0_1] 25 (0, 0)) ∧ W.heap[w.heap.size + 1]? = some (Obj.cells #[Value.int IntKind.i64 a1] 3 (0, 0)) ∧ Boxed W (w.heap.size + 1 + 1) 9 (.string ⟨#[]⟩) ∧ Boxed W (w.heap.size + 1 + 1 + 1) 27 (.int .i64 0) ∧ Boxed W w7.heap.size 23 (Value.slice A0_1 l0_1.length c0_1)) ∧ Below w.heap.size w W)
    (fun c pre W => (c = .ret ∧ ∃ ini last, pre = ini ++ [last] ∧ (∀ p ∈ ini, p.2.f0 ≠ a1) ∧ last.2.f0 = a1 ∧ Boxed W (w.heap.size + 1 + 1) 9 (.string last.2.f1) ∧ Boxed W (w.heap.size + 1 + 1 + 1) 27 (.int .i64 0)) ∧ Below w.heap.size w W)
    (OwnFrom.and (Own.from (fun s A B row hs hg hr => ⟨hs.1, own_blk hs.2.1 hg hr, own_blk hs.2.2.1 hg hr, own_blk hs.2.2.2.1 hg hr, own_blk hs.2.2.2.2.1 hg hr, own_blk hs.2.2.2.2.2 hg hr⟩) _) (ownFrom_below (Nat.le_refl _) (by omega)))
    (fun c => OwnFrom.and (Own.from (fun s A B row hs hg hr => by obtain ⟨hc, ini, last, e1, e2, e3, e4, e5⟩ := hs; exact ⟨hc, ini, last, e1, e2, e3, own_blk e4 hg hr, own_blk e5 hg hr⟩) _) (ownFrom_below (Nat.le_refl _) (by omega)))
    ⟨⟨fun p hp => absurd hp (List.not_mem_nil), (Below.heap_alloc _ _ _ (Array.getElem?_eq_some_iff.1 m2).1).trans m2, (Below.heap_alloc _ _ _ (Array.getElem?_eq_some_iff.1 m3).1).trans m3, (Below.heap_alloc _ _ _ (Array.getElem?_eq_some_iff.1 m4).1).trans m4, (Below.heap_alloc _ _ _ (Array.getElem?_eq_some_iff.1 m5).1).trans m5, bN⟩, hbL⟩
    (fun x a' W => ∃ Bx, W.heap[Bx]? = some (Obj.cells #[.int .i64 x.2.f0, .string x.2.f1] 42 (0, 0)) ∧ a' = { defers := [], tmps := #[Value.agg #[Value.slice (some ad) l0_0.length c0_0, Value.slice A0_1 l0_1.length c0_1], Value.int IntKind.i64 a1,
          Value.pointer (some { block := w.heap.size, off := 0 }),
          Value.pointer (some { block := w.heap.size + 1, off := 0 }),
          Value.pointer (some { block := w.heap.size + 1 + 1, off := 0 }),
          Value.pointer (some { block := w.heap.size + 1 + 1 + 1, off := 0 }), undef, Value.pointer (some { block := Bx, off := 0 }), Value.bool false,
          Value.agg #[Value.slice (some ad) l0_0.length c0_0, Value.slice A0_1 l0_1.length c0_1], Value.bool true,
          Value.bool false, Value.bool false,
          Value.agg #[Value.slice (some ad) l0_0.length c0_0, Value.slice A0_1 l0_1.length c0_1], Value.int IntKind.i64 a1,
          Value.bool true, Value.bool false, Value.pointer (some { block := w.heap.size, off := 1 }),
          Value.slice A0_1 l0_1.length c0_1,
          Value.func (Fn.func 71) #[] #[Value.pointer (some { block := w7.heap.size, off := 0 })], .int .i64 x.1, .agg #[.int .i64 x.2.f0, .string x.2.f1], undef,
          undef, undef, undef, undef, undef, undef, undef, undef, undef, undef] })
    (fun x a' => Own.from (fun s X Y row hs hg hrow => by obtain ⟨Bx, h, e⟩ := hs; exact ⟨Bx, own_blk h hg hrow, e⟩) _) ?assign ?body ?done ?stop
  case assign =>
    rintro l pre x W K hi hK
    unfold encB
    gi_wp2
    obtain ⟨⟨hp, k2, k3, k4, k5, k6⟩, hB⟩ := hi
    have hlt := fun {g : Nat} {o : Obj} (h : W.heap[g]? = some o) => (Array.getElem?_eq_some_iff.1 h).1
    refine hK _ _ ((KeepsOthers.alloc _ _).from _) ?_ ⟨⟨hp, (Below.heap_alloc _ _ _ (hlt k2)).trans k2, (Below.heap_alloc _ _ _ (hlt k3)).trans k3, k4.alloc _, k5.alloc _, k6.alloc _⟩, below_alloc hB _⟩ ⟨W.heap.size, World.alloc_heap_new _ _, rfl⟩
    exact (Below.refl _ _).alloc (by have := k6.lt; omega) _
  case body =>
    rintro l pre x a' W hl ⟨r, hr⟩ ⟨⟨hp, k2, k3, k4, k5, k6⟩, hB⟩ ⟨Bx, hx, rfl⟩ hlt
    have y0 : W.cell? ⟨Bx, 0, none⟩ = some (.int .i64 x.2.f0) := (blk_cell hx 0).trans rfl
    have y1 : W.cell? ⟨Bx, 1, none⟩ = some (.string x.2.f1) := (blk_cell hx 1).trans rfl
    have y3 : W.cell? ⟨w.heap.size + 1, 0, none⟩ = some (.int .i64 a1) := (blk_cell k3 0).trans rfl
    have z4 := k4.cell
    have z5 := k5.cell
    have q4 := k4.frozen
    have q5 := k5.frozen
    by_cases hxa : x.2.f0 = a1
    · have hxb : (x.2.f0 == a1) = true := by simp [hxa]
      gi_wp2
      have b4 := (k4.set (.string x.2.f1)).other (B' := w.heap.size + 1 + 1 + 1) (by omega) (.int .i64 0)
      have b5 := (k5.other (B' := w.heap.size + 1 + 1) (by omega) (.string x.2.f1)).set (.int .i64 0)
      exact ⟨((KeepsOthers.setCell _ _ _).trans (KeepsOthers.setCell _ _ _)).from _, ⟨rfl, pre, x, rfl, hp, hxa, b4, b5⟩, (hB.setCell (p := ⟨w.heap.size + 1 + 1, 0, none⟩) (show w.heap.size ≤ w.heap.size + 1 + 1 by omega) _).setCell (p := ⟨w.heap.size + 1 + 1 + 1, 0, none⟩) (show w.heap.size ≤ w.heap.size + 1 + 1 + 1 by omega) _⟩
    · have hxb : (x.2.f0 == a1) = false := by simp [hxa]
      gi_wp2
      exact ⟨KeepsFrom.refl _ _, Below.refl _ _, ⟨fun p hp' => (List.mem_append.1 hp').elim (hp p) (fun e => by simp at e; subst e; exact hxa), k2, k3, k4, k5, k6⟩, hB⟩
  case done =>
    rintro D ys W hD rfl ⟨⟨hp, k2, k3, k4, k5, k6⟩, hB⟩ hK
    have y2 : W.cell? ⟨w.heap.size, 0, none⟩ = some (.slice (some ad) l0_0.length c0_0) := (blk_cell k2 0).trans rfl
    have y3 : W.cell? ⟨w.heap.size + 1, 0, none⟩ = some (.int .i64 a1) := (blk_cell k3 0).trans rfl
    have z4 := k4.cell
    have z5 := k5.cell
    have q4 := k4.frozen
    have q5 := k5.frozen
    have hl := back_done l0_1 a1 (rdOf ByteArray.empty l0_0 a1) hp
    obtain ⟨ad', e', hx⟩ := Kd.at_string (Kd.C_below HR0.out hB) a1 hh0.1 hh0.2
    obtain rfl := Option.some.inj e'
    obtain ⟨v, hv⟩ : ∃ v, rdOf ByteArray.empty l0_0 a1 = v := ⟨_, rfl⟩
    rw [hv] at hx hl
    have HLL := Aside0.mk hl
    have HV := Aside0.mk hv
    clear hl hv
    have h0 := hh0.1
    have h1 := hh0.2
    gi_wp2
    have b4 := (k4.set (.string v)).other (B' := w.heap.size + 1 + 1 + 1) (by omega) (.int .i64 0)
    have b5 := (k5.other (B' := w.heap.size + 1 + 1) (by omega) (.string v)).set (.int .i64 0)
    have hK' := ((KeepsOthers.setCell W ⟨w.heap.size + 1 + 1, 0, none⟩ (.string v)).trans (KeepsOthers.setCell _ ⟨w.heap.size + 1 + 1 + 1, 0, none⟩ (.int .i64 0))).same D _ hK rfl
    refine ⟨by simp, .inl ⟨_, _, rfl, run_takeDeferred hK', ?_⟩⟩
    have r4 := cell_kept b4.cell (grownBy_putObj' _ D (.deferred none)) (fun r e => by cases e; exact ⟨_, hK', rfl⟩)
    have r5 := cell_kept b5.cell (grownBy_putObj' _ D (.deferred none)) (fun r e => by cases e; exact ⟨_, hK', rfl⟩)
    refine ⟨_, ?_, rfl, ?_⟩
    · rw [HV.out]; simp [results, Tryd.f20, go_sem, r4, r5, HLL.out]
    · exact ((hB.setCell (p := ⟨w.heap.size + 1 + 1, 0, none⟩) (show w.heap.size ≤ w.heap.size + 1 + 1 by omega) _).setCell (p := ⟨w.heap.size + 1 + 1 + 1, 0, none⟩) (show w.heap.size ≤ w.heap.size + 1 + 1 + 1 by omega) _).trans (belowK_b (w := w) (Nat.le_refl _) _ D _ _ (by omega) hK' rfl rfl)
  case stop =>
    rintro D c pre W hD ⟨k, hk, rfl⟩ ⟨⟨rfl, ini, last, e1, e2, e3, e4, e5⟩, hB⟩ hK
    have hl := back_stop l0_1 a1 (rdOf ByteArray.empty l0_0 a1) k ini last hk e1 e2 e3
    have HLL := Aside0.mk hl
    clear hl
    gi_wp2
    refine ⟨by simp, .inl ⟨_, _, rfl, run_takeDeferred hK, ?_⟩⟩
    have r4 := cell_kept e4.cell (grownBy_putObj' _ D (.deferred none)) (fun r e => by cases e; exact ⟨_, hK, rfl⟩)
    have r5 := cell_kept e5.cell (grownBy_putObj' _ D (.deferred none)) (fun r e => by cases e; exact ⟨_, hK, rfl⟩)
    refine ⟨_, ?_, rfl, ?_⟩
    · simp [results, Tryd.f20, go_sem, r4, r5, HLL.out]
    · exact hB.trans (belowK_b (w := w) (Nat.le_refl _) W D _ _ (by omega) hK rfl rfl)

theorem disk_Read.calls (A0_0 : Option Addr) (c0_0 : Nat) (l0_0 : List ByteArray) (A0_1 : Option Addr) (c0_1 : Nat) (l0_1 : List (S42)) (a1 : Int) (r1 : ByteArray) (r2 : Int) (w : World) (hr0_0 : Kd.C Kd.string w A0_0 l0_0.length l0_0) (hc0_0 : l0_0.length ≤ c0_0) (hr0_1 : Kd.C k42 w A0_1 l0_1.length l0_1) (hc0_1 : l0_1.length ≤ c0_1) (h : disk_Read.f l0_0 l0_1 a1 = some (r1, r2)) :
    Calls Tryd.prog 20 #[.agg #[.slice A0_0 l0_0.length c0_0, .slice A0_1 l0_1.length c0_1], .int .i64 a1] w fun e w' => e = .returned (.tuple #[.string r1, .int .i64 r2]) ∧ Below w.heap.size w w' := by
  unfold disk_Read.f at h
  by_cases h1 : rightB l0_0 l0_1 = true
  · by_cases h2 : hasB l0_0.length a1 = true
    · rw [if_pos h1, if_pos h2] at h; cases h
      exact read_full A0_0 c0_0 l0_0 A0_1 c0_1 l0_1 a1 w hr0_0 hc0_0 hr0_1 hc0_1 h1 h2
    · rw [if_pos h1, if_neg h2] at h; cases h
      exact read_nosector A0_0 c0_0 l0_0 A0_1 c0_1 l0_1 a1 w hr0_0 hc0_0 hr0_1 hc0_1 h1 (by simpa using h2)
  · rw [if_neg h1] at h; cases h
    exact read_wrong A0_0 c0_0 l0_0 A0_1 c0_1 l0_1 a1 w hr0_0 hc0_0 hr0_1 hc0_1 (by simpa using h1)
end Go.Proofs.YtniplmjbligmlaaDoor.Q
