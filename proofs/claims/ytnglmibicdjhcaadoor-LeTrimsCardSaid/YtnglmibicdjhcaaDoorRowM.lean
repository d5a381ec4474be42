/- A row of bytes that a conversion []byte(s) made, and that is appended to and stored into: its block bears the mark of a conversion, behind its last cell. No program in it. -/
import Derived.Test.YtnglmibicdjhcaaDoorBase
import Derived.Lib.FrozenHead2
import Derived.Lib.ConvBytes
namespace Go.Proofs.YtnglmibicdjhcaaDoor.Base
open Go.RowKit Go.Proofs.YtnglmibicdjhcaaDoorW.PrintWords
set_option linter.unusedVariables false

/-- block g, from base on, of capacity cap, holds the numbers xs as bytes at its beginning; its mark, if there is one, lies behind its cells -/
def OwnsM (w : World) (base : Nat) (e : TypeId) (g cap : Nat) (xs : List Int) : Prop :=
  base ≤ g ∧ xs.length ≤ cap ∧ cap ≤ maxLen ∧ ∃ (cur : Array Value) (fz : Nat × Nat), w.heap[g]? = some (.cells cur e fz) ∧ (fz = (0, 0) ∨ cur.size ≤ fz.1) ∧ cur.size = cap ∧ cur.toList.take xs.length = xs.map (Value.int .u8)

theorem marked_free {w : World} {g j : Nat} {cur : Array Value} {e : TypeId} {fz : Nat × Nat} (hg : w.heap[g]? = some (.cells cur e fz)) (hf : fz = (0, 0) ∨ cur.size ≤ fz.1) (hj : j < cur.size) : w.frozen? ⟨g, j, none⟩ = false := by
  obtain ⟨lo, hi⟩ := fz
  simp only [World.frozen?, hg, Bool.and_eq_false_iff, decide_eq_false_iff_not]
  rcases hf with h | h
  · right; simp only [Prod.mk.injEq] at h; omega
  · left; simp only at h; omega
theorem OwnsM.cell {w : World} {base : Nat} {e : TypeId} {g cap : Nat} {xs : List Int} (h : OwnsM w base e g cap xs) (j : Nat) (hj : j < xs.length) : w.cell? ⟨g, j, none⟩ = some (.int .u8 (xs.getD j 0)) := by
  obtain ⟨_, _, _, cur, fz, hg, _, hs, ht⟩ := h
  have h1 : (cur.toList.take xs.length)[j]? = (xs.map (Value.int .u8))[j]? := by rw [ht]
  rw [List.getElem?_take_of_lt hj, List.getElem?_map, List.getElem?_eq_getElem hj] at h1
  have : j < cur.size := by omega
  simp only [World.cell?, hg, List.getD_eq_getElem?_getD, List.getElem?_eq_getElem hj]
  simpa using h1
theorem OwnsM.free {w : World} {base : Nat} {e : TypeId} {g cap : Nat} {xs : List Int} (h : OwnsM w base e g cap xs) (j : Nat) (hj : j < xs.length) : w.frozen? ⟨g, j, none⟩ = false := by
  obtain ⟨_, _, _, cur, fz, hg, hf, hs, ht⟩ := h
  exact marked_free hg hf (by omega)
theorem OwnsM.lt {w : World} {base : Nat} {e : TypeId} {g cap : Nat} {xs : List Int} (h : OwnsM w base e g cap xs) : g < w.heap.size := by
  obtain ⟨_, _, _, cur, fz, hg, _⟩ := h
  exact (Array.getElem?_eq_some_iff.1 hg).1
theorem OwnsM.kept {w w' : World} {base : Nat} {e : TypeId} {g cap : Nat} {xs : List Int} (h : OwnsM w base e g cap xs) (hk : w'.heap[g]? = w.heap[g]?) : OwnsM w' base e g cap xs := by
  obtain ⟨a, b, c, cur, fz, hg, r⟩ := h
  exact ⟨a, b, c, cur, fz, hk.trans hg, r⟩
theorem OwnsM.reads {w : World} {base : Nat} {e : TypeId} {g cap : Nat} {xs : List Int} (h : OwnsM w base e g cap xs) : ReadsInt w .u8 (some ⟨g, 0, none⟩) xs.length xs := by
  refine ⟨rfl, ?_, fun _ => ⟨_, rfl, fun j hj => ?_⟩⟩
  · have := h.2.1; have := h.2.2.1; simp only [maxLen] at this; omega
  · have e : (⟨g, 0, none⟩ : Addr).add j = ⟨g, j, none⟩ := by unfold Addr.add; split <;> simp_all
    rw [e]; exact h.cell j hj
theorem OwnsM.set {w : World} {base : Nat} {e : TypeId} {g cap : Nat} {xs : List Int} (h : OwnsM w base e g cap xs) (j : Nat) (hj : j < xs.length) (x : Int) : OwnsM (w.setCell ⟨g, j, none⟩ (.int .u8 x)) base e g cap (xs.set j x) := by
  obtain ⟨a, b, c, cur, fz, hg, hf, hs, ht⟩ := h
  refine ⟨a, by simpa using b, c, cur.setIfInBounds j (.int .u8 x), fz, ?_, by simpa using hf, by simpa using hs, ?_⟩
  · rw [setCell_eq_setRow w g j cur e fz _ hg]; exact setRow_heap w g cur _ e fz hg
  · rw [List.length_set, Array.toList_setIfInBounds, List.take_set, ht, List.map_set]
theorem OwnsM.made (w : World) (base : Nat) (e : TypeId) (s : ByteArray) (hb : base ≤ w.heap.size) (hs : s.size ≤ maxLen) : OwnsM (Lib.bytesWorld w e s) base e w.heap.size (grownCap w s.size 0 e) ((L s).map fun b => (b.toNat : Int)) := by
  have hl : ((L s).map fun b => (b.toNat : Int)).length = s.size := by rw [List.length_map, ← size_L]
  have hge := grownCap_ge w s.size 0 e
  refine ⟨hb, by omega, grownCap_le_maxLen w s.size 0 e hs, Lib.bytesCells w e s, _, Lib.bytesWorld_at_new w e s, .inr (Nat.le_refl _), ?_, ?_⟩
  · simp [Lib.bytesCells, -Array.size_map]; rw [Array.size_map]; show s.size + _ = _; omega
  · rw [hl]; simp only [Lib.bytesCells, Array.toList_append, Array.toList_map, List.map_map]
    rw [List.take_append_of_le_length (by rw [List.length_map]; exact Nat.le_of_eq (size_L s)), List.take_of_length_le (by rw [List.length_map]; exact Nat.le_of_eq (size_L s).symm)]
    rfl
theorem below_made (w : World) (e : TypeId) (s : ByteArray) : Below w.heap.size w (Lib.bytesWorld w e s) := by
  refine ⟨rfl, rfl, rfl, by rw [Lib.bytesWorld_size]; omega, fun k hk => Lib.bytesWorld_at_old w e s k hk⟩

theorem run_storeCells_atM (P : Program) (g o : Nat) (t : TypeId) (fz : Nat × Nat) : ∀ (vs : List Value) (i : Nat) (cur : Array Value) (w : World), w.heap[g]? = some (.cells cur t fz) → (fz = (0, 0) ∨ cur.size ≤ fz.1) → o + i + vs.length ≤ cur.size → (∀ v ∈ vs, v.oneCell' = true) →
    (storeCells ⟨g, o, none⟩ vs i).run P w = .ok () (w.setRow g (cur.toList.take (o + i) ++ vs ++ cur.toList.drop (o + i + vs.length)).toArray)
  | [], i, cur, w, hg, _, _, _ => by
    simp only [storeCells, List.append_nil, List.length_nil, Nat.add_zero, List.take_append_drop, Array.toArray_toList]
    rw [setRow_self w g cur t fz hg]
    rfl
  | v :: rest, i, cur, w, hg, hfz, hl, h1 => by
    have hi : o + i < cur.size := by simp at hl; omega
    have hadd : (⟨g, o, none⟩ : Addr).add i = ⟨g, o + i, none⟩ := by unfold Addr.add; split <;> simp_all
    have hcell : w.cell? ⟨g, o + i, none⟩ = some cur[o + i] := by simp [World.cell?, hg, hi]
    have hfro : w.frozen? ⟨g, o + i, none⟩ = false := marked_free hg hfz hi
    have hst : (store ((⟨g, o, none⟩ : Addr).add i) v).run P w = .ok () (w.setRow g (cur.setIfInBounds (o + i) v)) := by
      rw [hadd, run_store P w _ v _ (h1 v (by simp)), hcell]
      simp [hfro, setCell_eq_setRow w g (o + i) cur t fz v hg]
    have ih := run_storeCells_atM P g o t fz rest (i + 1) (cur.setIfInBounds (o + i) v) (w.setRow g (cur.setIfInBounds (o + i) v)) (setRow_heap w g cur _ t _ hg) (by simpa using hfz) (by simp at hl ⊢; omega) (fun x hx => h1 x (by simp [hx]))
    simp only [storeCells, Sem.run_bind, hst, Result.andThen_ok, ih, setRow_setRow]
    congr 3
    have e := list_seg_step cur.toList (o + i) v rest (by simp at hl ⊢; omega)
    simpa [Array.toList_setIfInBounds, Nat.add_assoc] using e
/-- 'append(b, y)' onto such a row -/
theorem run_append_M {P : Program} (w : World) (base : Nat) (t ty e : TypeId) (i : TypeInfo) (ht : P.underlying t = some (.slice e)) (hi : P.info? e = some i) (hz : i.zero = some (.int .u8 0))
    (hsize : i.size = 1) (hby : i.bytes = 1) (g cap : Nat) (xs : List Int) (hown : OwnsM w base e g cap xs) (a : Addr) (c : Nat) (y : Int) (hnew : w.cell? a = some (.int .u8 y))
    (hlen : xs.length + 1 ≤ 140737488355328) (hbase : base ≤ w.heap.size) :
    ∃ g' cap' w', (Builtin.append_ #[t, t] ty #[.slice (some ⟨g, 0, none⟩) xs.length cap, .slice (some a) 1 c]).run P w = .ok (.slice (some ⟨g', 0, none⟩) (xs.length + 1) cap') w' ∧ OwnsM w' base e g' cap' (xs ++ [y]) ∧ w.grownBy w' (some g) := by
  obtain ⟨hbg, hnc, hcm, cur, fz, hg, hfz, hcs, htake⟩ := hown
  have hnews : ∀ j u, ([.int .u8 y] : List Value)[j]? = some u → w.cell? (a.add j) = some u := by
    intro j u hu
    match j, hu with
    | 0, hu => simp at hu; subst hu; simpa [Addr.add] using hnew
  have h1 : ∀ u ∈ ([.int .u8 y] : List Value), u.oneCell' = true := by simp [Value.oneCell']
  by_cases hroom : xs.length + 1 ≤ cap
  · have hf := run_firstCells_some (P := P) w i.size 1 a 1 c [.int .u8 y] (by rw [hsize]; rfl) hnews
    have hst := run_storeCells_atM P g (xs.length * i.size) e fz [.int .u8 y] 0 cur w hg hfz (by rw [hsize]; simp; omega) h1
    simp only [Nat.add_zero, hsize, Nat.mul_one, List.length_cons, List.length_nil, Nat.zero_add, List.append_assoc, List.cons_append, List.nil_append] at hst
    rw [hsize] at hf
    refine ⟨g, cap, w.setRow g (cur.toList.take xs.length ++ [Value.int .u8 y] ++ cur.toList.drop (xs.length + 1)).toArray, ?_, ⟨hbg, by simpa using hroom, hcm, (cur.toList.take xs.length ++ [Value.int .u8 y] ++ cur.toList.drop (xs.length + 1)).toArray, fz, setRow_heap w g cur _ e fz hg, ?_, ?_, ?_⟩, ⟨rfl, rfl, rfl, by simp, fun k _ hk => setRow_other w g k _ (fun e => hk (by rw [e]))⟩⟩
    · simp [Builtin.append_, run_underlying ht, sizeOf, typeInfo, hi, Builtin.lenOf, hroom, hf, Addr.add_lit, hsize, hst]
    · rcases hfz with h | h
      · exact .inl h
      · right; simp; omega
    · simp; omega
    · simp only [List.length_append, List.length_cons, List.length_nil, htake, List.map_append, List.map_cons, List.map_nil]
      rw [List.take_append_of_le_length (by simp), List.take_of_length_le (by simp)]
  · have holds : ∀ j u, (xs.map (Value.int .u8))[j]? = some u → w.cell? ((⟨g, 0, none⟩ : Addr).add j) = some u := by
      intro j u hu
      have hadd : (⟨g, 0, none⟩ : Addr).add j = ⟨g, j, none⟩ := by unfold Addr.add; split <;> simp_all
      rw [hadd, cell_of_row w g j cur e fz hg]
      rw [← htake, List.getElem?_take] at hu
      split at hu
      · simpa using hu
      · cases hu
    have h63 : ((xs.length + 1 : Nat) : Int) ≤ 9223372036854775807 := by omega
    have hr := run_append_grow (P := P) w t ty e i (.int .u8 0) ht hi hz ⟨g, 0, none⟩ xs.length cap (xs.map (Value.int .u8)) (by simp [hsize]) holds a 1 c [.int .u8 y] (by rw [hsize]; rfl) hnews (by omega) h63 (growslice_fits (by omega) (by rw [hby]; omega))
    have hge := grownCap_ge w (xs.length + 1) cap e
    have hcm2 : grownCap w (xs.length + 1) cap e ≤ maxLen := grownCap_le_maxLen w (xs.length + 1) cap e (by simp only [maxLen]; omega)
    refine ⟨_, _, _, hr, ⟨hbase, by simpa using hge, hcm2, _, (0, 0), heap_alloc_new w.drew _, .inl rfl, ?_, ?_⟩, ⟨rfl, rfl, rfl, by simp, fun k hk _ => heap_alloc_old w.drew _ hk⟩⟩
    · simp only [Array.size_append, List.size_toArray, size_zeroCells]
      simp [Value.cells]; omega
    · simp only [Array.toList_append, List.append_assoc, List.length_append, List.length_cons, List.length_nil, List.map_append, List.map_cons, List.map_nil]
      rw [← List.append_assoc, List.take_append_of_le_length (by simp), List.take_of_length_le (by simp)]
theorem wpList_append_M {P : Program} {w : World} {ops : Array Oper} {rest : List Oper} {o : Oper} {a : Act} {Q : Exit → Act → World → Prop} (hgd : o.guard = none) (s x : Operand) (t : TypeId)
    (ho : o.op = .call { callee := .builtin .append, args := #[s, x], argTypes := #[t, t] })
    (base : Nat) (e : TypeId) (i : TypeInfo) (ht : P.underlying t = some (.slice e)) (hi : P.info? e = some i) (hz : i.zero = some (.int .u8 0)) (hsize : i.size = 1) (hby : i.bytes = 1)
    (g cap : Nat) (xs : List Int) (hs : a.eval s = .slice (some ⟨g, 0, none⟩) xs.length cap) (hown : OwnsM w base e g cap xs)
    (ad : Addr) (c : Nat) (y : Int) (hx : a.eval x = .slice (some ad) 1 c) (hnew : w.cell? ad = some (.int .u8 y)) (hlen : xs.length + 1 ≤ 140737488355328) (hbase : base ≤ w.heap.size)
    (h : ∀ g' cap' w', OwnsM w' base e g' cap' (xs ++ [y]) → w.grownBy w' (some g) → wpList P ops Q rest (a.put o.dst (.slice (some ⟨g', 0, none⟩) (xs.length + 1) cap')) w') : wpList P ops Q (o :: rest) a w := by
  refine wpList_plain hgd fun K hK => ?_
  obtain ⟨g', cap', w', hr, h2, h3⟩ := run_append_M (P := P) w base t o.type e i ht hi hz hsize hby g cap xs hown ad c y hnew hlen hbase
  unfold Oper.wp execOp
  simp only [ho, resolve, invoke, builtin, Sem.run_bind, Sem.run_pure, Result.andThen_ok, List.map_toArray, List.map_cons, List.map_nil, hs, hx, hr]
  exact hK _ _ (h g' cap' w' h2 h3)
def slLen : Value → Nat
  | .slice _ n _ => n
  | _ => 0
end Go.Proofs.YtnglmibicdjhcaaDoor.Base
