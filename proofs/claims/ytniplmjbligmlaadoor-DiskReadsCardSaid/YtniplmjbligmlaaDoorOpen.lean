/- How an argument of a law is read: from what the row says of it (a tree of data) to the kinds that the printed functions speak of. Kind by kind. -/
import Derived.Test.YtniplmjbligmlaaDoorWMore
import Derived.ChangeArms
import Derived.Carry
import Derived.SizedLaws
import Derived.OpenShut
namespace Go.Proofs.YtniplmjbligmlaaDoor.Base
open Go.RowKit Go.Proofs.YtniplmjbligmlaaDoorW.PrintWords
set_option linter.unusedVariables false

def Opens {α : Type} (P : Program) (t : TypeId) (K : Kd α) (Z : α → Prop) : Prop :=
  ∀ (H : Type) (enc : TypeId × Value → H) (w : World) (base : Nat) (spare : Nat → Bool) (held : Bool) (fuel : Nat) (cs : List Value) (d : DataW H) (ps : List MemPlace),
    DataW.trod enc P w base spare held fuel t cs = some (d, ps) → (∀ x ∈ DataW.weights P t d, x ≤ reachBytes) → ∃ a : α, K.K w a cs ∧ Z a

theorem opens_int {P : Program} {t : TypeId} {k : IntKind} (ht : P.underlying t = some (.int k)) : Opens P t (Kd.int k) (fun n => (Lit.int k n).wf = true) := by
  intro H enc w base spare held fuel cs d ps h _
  obtain ⟨n, hc, hx, hw⟩ := DataW.trod_int ht h
  exact ⟨n, hc, hw⟩
theorem opens_bool {P : Program} {t : TypeId} (ht : P.underlying t = some .bool) : Opens P t Kd.bool (fun _ => True) := by
  intro H enc w base spare held fuel cs d ps h _
  obtain ⟨b, hc, hx⟩ := DataW.trod_bool ht h
  exact ⟨b, hc, trivial⟩
theorem opens_string {P : Program} {t : TypeId} (ht : P.underlying t = some .string) : Opens P t Kd.string (fun s => s.size ≤ 140737488351232) := by
  intro H enc w base spare held fuel cs d ps h hz
  obtain ⟨s, hc, hx, hw⟩ := DataW.trod_string ht h
  obtain ⟨rfl, rfl⟩ := Prod.mk.inj hx
  refine ⟨s, hc, ?_⟩
  have := hz s.data.toList.length (by simp [DataW.weights])
  unfold reachBytes at this
  rw [Array.length_toList] at this
  exact this
theorem opens_weaken {α : Type} {P : Program} {t : TypeId} {K : Kd α} {Z Z' : α → Prop} (h : Opens P t K Z) (hz : ∀ a, Z a → Z' a) : Opens P t K Z' := by
  intro H enc w base spare held fuel cs d ps h1 h2
  obtain ⟨a, h3, h4⟩ := h H enc w base spare held fuel cs d ps h1 h2
  exact ⟨a, h3, hz a h4⟩
theorem opens_iso {α β : Type} {P : Program} {t : TypeId} {K : Kd α} {Z : α → Prop} {f : β → α} (g : α → β) (hg : ∀ a, f (g a) = a) (h : Opens P t K Z) : Opens P t (Kd.iso K f) (fun b => Z (f b)) := by
  intro H enc w base spare held fuel cs d ps h1 h2
  obtain ⟨a, h3, h4⟩ := h H enc w base spare held fuel cs d ps h1 h2
  exact ⟨g a, by show K.K w (f (g a)) cs; rw [hg]; exact h3, by show Z (f (g a)); rw [hg]; exact h4⟩
theorem weightsAll_mem {H : Type} {P : Program} {e : TypeId} {l : List (DataW H)} {d : DataW H} (h : d ∈ l) : ∀ x ∈ DataW.weights P e d, x ∈ DataW.weightsAll P e l := by
  induction l with
  | nil => cases h
  | cons a r ih =>
    intro x hx
    simp only [DataW.weightsAll, List.mem_append]
    rcases List.mem_cons.1 h with rfl | h
    · exact .inl hx
    · exact .inr (ih h x hx)
theorem opens_slice {α : Type} {P : Program} {t e : TypeId} {K : Kd α} {Z : α → Prop} (ht : P.underlying t = some (.slice e)) (hc : P.cellsOf e = K.sz) (B : Nat) (hB : P.bytesOf e = B) (h : Opens P e K Z) :
    Opens P t (Kd.slice e K) (fun l => l.length * B ≤ 140737488351232 ∧ ∀ x ∈ l, Z x) := by
  intro H enc w base spare held fuel cs d ps h1 h2
  rcases DataW.trod_slice ht h1 with ⟨rfl, hx⟩ | ⟨a, len, cap, elems, rest, n, rfl, rfl, hx, hb, hl, hm, hlen, hel, -, -⟩
  · exact ⟨[], ⟨none, 0, rfl, Nat.le_refl _, rfl, by simp, fun h => absurd h (by simp)⟩, by simp, (fun x hx => absurd hx List.not_mem_nil)⟩
  obtain ⟨rfl, rfl⟩ := Prod.mk.inj hx
  have hw : ∀ x ∈ DataW.weights P t (.slice (elems.map (·.1)) (rest.map (·.1))), x ≤ reachBytes := h2
  have hw1 : ((elems.map (·.1)).length + (rest.map (·.1)).length) * P.bytesOf e ≤ reachBytes := hw _ (by simp [DataW.weights, ht])
  have each : ∀ i, i < len → ∃ p : α, Z p ∧ ∃ c, c.length = K.sz ∧ K.K w p c ∧ ∀ j u, c[j]? = some u → w.cell? (a.add (i * K.sz + j)) = some u := by
    intro i hi
    have h3 := hel i hi
    rw [List.getElem?_eq_getElem (by omega)] at h3
    obtain ⟨c, hcell, htrod⟩ := Option.bind_eq_some_iff.1 h3
    obtain ⟨_, hcl, hcc⟩ := World.cells?_some hcell
    have hmem : (elems[i]'(by omega)).1 ∈ elems.map (·.1) := List.mem_map_of_mem (List.getElem_mem _)
    obtain ⟨p, hp, hz⟩ := h H enc w base spare held n c _ _ (show DataW.trod enc P w base spare held n e c = some ((elems[i]'(by omega)).1, (elems[i]'(by omega)).2) from htrod) (fun x hx => hw x (by
      simp only [DataW.weights, ht, List.mem_cons, List.mem_append]
      exact .inr (.inl (weightsAll_mem hmem x hx))))
    refine ⟨p, hz, c, by rw [hcl, hc], hp, fun j u hu => ?_⟩
    have hj : j < c.length := by
      rcases Nat.lt_or_ge j c.length with h | h
      · exact h
      · rw [List.getElem?_eq_none h] at hu; cases hu
    have := hcc j (by omega)
    rw [hc] at this
    rw [← hu, ← this, Addr.add_add]
  have pick : ∃ l : List α, l.length = len ∧ (∀ x ∈ l, Z x) ∧ ∀ (i : Nat) p, l[i]? = some p → ∃ c, c.length = K.sz ∧ K.K w p c ∧ ∀ j u, c[j]? = some u → w.cell? (a.add (i * K.sz + j)) = some u := by
    clear hel hw hw1 h2 h1
    have : ∀ m, m ≤ len → ∃ l : List α, l.length = m ∧ (∀ x ∈ l, Z x) ∧ ∀ (i : Nat) p, l[i]? = some p → ∃ c, c.length = K.sz ∧ K.K w p c ∧ ∀ j u, c[j]? = some u → w.cell? (a.add (i * K.sz + j)) = some u := by
      intro m
      induction m with
      | zero => exact fun _ => ⟨[], rfl, (fun x hx => absurd hx List.not_mem_nil), (fun i p hp => absurd hp (by simp))⟩
      | succ m ih =>
        intro hm
        obtain ⟨l, h1, h2, h3⟩ := ih (by omega)
        obtain ⟨p, hz, hp⟩ := each m (by omega)
        refine ⟨l ++ [p], by simp [h1], fun x hx => ?_, fun i q hq => ?_⟩
        · rcases List.mem_append.1 hx with hx | hx
          · exact h2 x hx
          · rw [List.mem_singleton.1 hx]; exact hz
        · rcases Nat.lt_trichotomy i l.length with hi | hi | hi
          · rw [List.getElem?_append_left hi] at hq; exact h3 i q hq
          · subst hi; simp at hq; subst hq; rw [h1]; exact hp
          · rw [List.getElem?_eq_none (by simp; omega)] at hq; cases hq
    exact this len (Nat.le_refl _)
  obtain ⟨l, hll, hlz, hlc⟩ := pick
  refine ⟨l, ⟨some a, cap, by rw [hll], by omega, rfl, by simp only [maxLen] at hm; omega, fun _ => ⟨a, rfl, hlc⟩⟩, ?_, hlz⟩
  rw [hB] at hw1
  simp only [List.length_map, reachBytes] at hw1
  refine Nat.le_trans (Nat.mul_le_mul_right _ ?_) hw1
  omega

/-- The fields of a struct, one behind the other. -/
def OpensF {α : Type} (P : Program) (off : Nat) (fs : List Field) (K : Kd α) (Z : α → Prop) : Prop :=
  (∀ f ∈ fs, off ≤ f.offset) ∧ ∀ (H : Type) (enc : TypeId × Value → H) (w : World) (base : Nat) (spare : Nat → Bool) (held : Bool) (n : Nat) (cs : List Value) (xs : List (DataW H × List MemPlace)),
    cs.length = K.sz → xs.length = fs.length → (∀ (i : Nat) (f : Field), fs[i]? = some f → DataW.trod enc P w base spare held n f.type ((cs.drop (f.offset - off)).take (P.cellsOf f.type)) = xs[i]?) →
    (∀ x ∈ DataW.weightsEach P (fs.map (·.type)) (xs.map (·.1)), x ≤ reachBytes) → ∃ a : α, K.K w a cs ∧ Z a
theorem opensF_one {α : Type} {P : Program} {f : Field} {K : Kd α} {Z : α → Prop} (hc : P.cellsOf f.type = K.sz) (h : Opens P f.type K Z) : OpensF P f.offset [f] K Z := by
  refine ⟨fun g hg => by rw [List.mem_singleton.1 hg]; exact Nat.le_refl _, ?_⟩
  intro H enc w base spare held n cs xs hl hx ht hw
  match xs, hx with
  | [x], _ =>
    have h0 := ht 0 f rfl
    rw [Nat.sub_self, List.drop_zero, List.take_of_length_le (by omega)] at h0
    exact h H enc w base spare held n cs x.1 x.2 h0 (fun y hy => hw y (by simp [DataW.weightsEach]; exact hy))
theorem opensF_cons {α β : Type} {P : Program} {f g : Field} {fs : List Field} {K0 : Kd α} {K1 : Kd β} {Z0 : α → Prop} {Z1 : β → Prop} (hc : P.cellsOf f.type = K0.sz) (ho : g.offset = f.offset + K0.sz)
    (h0 : Opens P f.type K0 Z0) (h1 : OpensF P g.offset (g :: fs) K1 Z1) : OpensF P f.offset (f :: g :: fs) (Kd.pair K0 K1) (fun x => Z0 x.1 ∧ Z1 x.2) := by
  obtain ⟨hle, h1⟩ := h1
  refine ⟨fun e he => ?_, ?_⟩
  · rcases List.mem_cons.1 he with rfl | he
    · exact Nat.le_refl _
    · have := hle e he; omega
  intro H enc w base spare held n cs xs hl hx ht hw
  have hsz : (Kd.pair K0 K1).sz = K0.sz + K1.sz := rfl
  match xs, hx with
  | x :: xs, hx =>
    have e0 := ht 0 f rfl
    rw [Nat.sub_self, List.drop_zero, hc] at e0
    obtain ⟨a, ha, hza⟩ := h0 H enc w base spare held n (cs.take K0.sz) x.1 x.2 e0 (fun y hy => hw y (by simp only [List.map_cons, DataW.weightsEach, List.mem_append]; exact .inl hy))
    obtain ⟨b, hb, hzb⟩ := h1 H enc w base spare held n (cs.drop K0.sz) xs (by rw [List.length_drop]; omega) (by simpa using hx) (fun i e he => by
      have e1 := ht (i + 1) e (by simpa using he)
      have hm := hle e (List.mem_of_getElem? he)
      rw [List.drop_drop, show K0.sz + (e.offset - g.offset) = e.offset - f.offset by omega]
      simpa using e1) (fun y hy => hw y (by simp only [List.map_cons, DataW.weightsEach, List.mem_append]; exact .inr hy))
    exact ⟨(a, b), ⟨cs.take K0.sz, cs.drop K0.sz, (List.take_append_drop _ _).symm, ha, hb⟩, hza, hzb⟩
theorem opens_struct {α : Type} {P : Program} {t : TypeId} {fs : Array Field} {K : Kd α} {Z : α → Prop} (ht : P.underlying t = some (.struct fs)) (hc : P.cellsOf t = K.sz) (h : OpensF P 0 fs.toList K Z) : Opens P t K Z := by
  intro H enc w base spare held fuel cs d ps h1 h2
  obtain ⟨xs, n, rfl, hx, hl, hxl, hel⟩ := DataW.trod_struct ht h1
  obtain ⟨rfl, rfl⟩ := Prod.mk.inj hx
  refine h.2 H enc w base spare held n cs xs (by omega) (by simpa using hxl) (fun i f hf => ?_) (fun y hy => h2 y ?_)
  · rw [Nat.sub_zero]; exact hel i f (by simpa using hf)
  · simp only [DataW.weights, ht]; exact hy
/-- an argument's weights out of the row's -/
theorem weights_of_each {H : Type} {P : Program} {ts : List TypeId} {ds : List (DataW H)} (hz : (DataW.weightsEach P ts ds).all (· ≤ reachBytes) = true) {j : Nat} {t : TypeId} {d : DataW H} (ht : ts[j]? = some t) (hd : ds[j]? = some d) :
    ∀ x ∈ DataW.weights P t d, x ≤ reachBytes := fun x hx => by
  have := List.all_eq_true.1 hz x (DataW.weights_mem_each ht hd x hx)
  simpa using this
theorem aggOf_okWide {P : Program} {W : World} {r : Reach} {b : Nat} {t : TypeId} {v : Value} {fs : Array Field} (ht : P.underlying t = some (.struct fs)) (h : Value.okWide P W r b t v) : ∃ cs, v = .agg cs := by
  unfold Value.okWide at h
  rw [ht] at h
  obtain ⟨cs, h, _⟩ := h
  exact ⟨cs, h⟩
theorem slice_open {α : Type} {e : TypeId} {K : Kd α} {w : World} {l : List α} {A : Option Addr} {n c : Nat} (h : (Kd.slice e K).K w l (Value.slice A n c).cells.toList) : n = l.length ∧ l.length ≤ c ∧ Kd.C K w A l.length l := by
  obtain ⟨A', c', hc, hl, hr⟩ := h
  simp only [Value.cells, List.cons.injEq, Value.slice.injEq, and_true] at hc
  obtain ⟨rfl, rfl, rfl⟩ := hc
  exact ⟨rfl, hl, hr⟩
theorem int_open {k : IntKind} {w : World} {x y : Int} (h : (Kd.int k).K w x (Value.int k y).cells.toList) : x = y := by
  have h : (Value.int k y).cells.toList = [Value.int k x] := h
  simp only [Value.cells, List.cons.injEq, Value.int.injEq, and_true, true_and] at h
  exact h.symm
theorem bool_open {w : World} {x y : Bool} (h : Kd.bool.K w x (Value.bool y).cells.toList) : x = y := by
  have h : (Value.bool y).cells.toList = [Value.bool x] := h
  simp only [Value.cells, List.cons.injEq, Value.bool.injEq, and_true] at h
  exact h.symm
theorem string_open {w : World} {x y : ByteArray} (h : Kd.string.K w x (Value.string y).cells.toList) : x = y := by
  have h : (Value.string y).cells.toList = [Value.string x] := h
  simp only [Value.cells, List.cons.injEq, Value.string.injEq, and_true] at h
  exact h.symm
theorem agg_open {cs : Array Value} {l : List Value} (h : (Value.agg cs).cells.toList = l) : cs = l.toArray := by
  subst h; simp [Value.cells]
end Go.Proofs.YtniplmjbligmlaaDoor.Base
