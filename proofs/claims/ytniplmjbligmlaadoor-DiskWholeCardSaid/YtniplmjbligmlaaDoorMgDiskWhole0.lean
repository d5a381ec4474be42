/- Texts of this claim, one behind the other. -/
import Derived.Test.YtniplmjbligmlaaDoorWMore
import Derived.ChangeArms
import Derived.Carry
import Derived.SizedLaws
import Derived.OpenShut
import Derived.Test.YtniplmjbligmlaaDoorProg
import Derived.Below
import Derived.Deep.Draws
import Derived.Deep.AppendLies
import Derived.Maps.AppendAt
import Derived.OwnWalk
import Derived.Laws.BytesArg
import Derived.Laws.MakeOwn
import Derived.Laws.OwnMore
import Derived.Deep.OwnRows
import Derived.Tactics
import Derived.Lib.ConvBytes
import Derived.Laws.Slices
import Derived.WalkKit
import Derived.KernelRfl
import Derived.RowKit3
import Derived.Deep.LoopGhost
import Derived.Deep.QuietTactic
import Derived.BigQuiet
import Derived.WideLaws
import Derived.Deep.DeepCutAuto
import Derived.Deep.CutBlock
import Derived.Deep.RegionHeld3
import Derived.Laws.Rows
import Derived.Lib.AppendStr
import Derived.ArgAppend
import Derived.Laws.IdiomCopy
import Derived.OrdersHeld
import Derived.Laws.BitsLemmas
import Derived.RowKit
import Derived.Test.YtniplmjbligmlaaDoorWWords
import Derived.Test.YtniplmjbligmlaaDoorWLast
import Derived.Test.YtniplmjbligmlaaDoorWTab
import Derived.Test.YtniplmjbligmlaaDoorWFour
import Derived.Test.YtniplmjbligmlaaDoorWQPut
import Derived.Test.YtniplmjbligmlaaDoorWApart
import Derived.Test.YtniplmjbligmlaaDoorWArr
import Derived.Test.YtniplmjbligmlaaDoorWZeros
import Derived.Test.YtniplmjbligmlaaDoorWFoot
import Derived.Test.YtniplmjbligmlaaDoorWKept
import Derived.Test.YtniplmjbligmlaaDoorWShare
import Derived.Test.YtniplmjbligmlaaDoorWN
import Derived.Test.YtniplmjbligmlaaDoorWFootNe
import Derived.Test.YtniplmjbligmlaaDoorWAt
import Derived.Test.YtniplmjbligmlaaDoorWEqStruct
import Derived.Test.YtniplmjbligmlaaDoorWRepsOne
import Derived.Test.YtniplmjbligmlaaDoorWInv
import Derived.Test.YtniplmjbligmlaaDoorWInvWords
import Derived.Test.YtniplmjbligmlaaDoorWGuard
import Derived.Test.YtniplmjbligmlaaDoorWNEv
import Derived.Lib.Bytes
import Derived.RangeFuncNested
import Derived.RangeFuncBound
import Derived.RangeFuncCalls
import Derived.RangeFuncLeaves
import Derived.RangeFuncBox
import Derived.Shelf.Abstract
import Derived.OwnWalkIn
import Derived.TacticsInMore
import Derived.LoopNIn
import Derived.LoopIn
import Derived.Lib.SliceRun
/-! How an argument of a law is read: from what the row says of it (a tree of data) to the kinds that the printed functions speak of. Kind by kind. -/
namespace Go.Proofs.YtniplmjbligmlaaDoor.Base
open Go.RowKit Go.Proofs.YtniplmjbligmlaaDoorW.PrintWords
set_option linter.unusedVariables false

def Opens {α : Type} (P : Program) (t : TypeId) (K : Kd α) (Z : α → Prop) : Prop :=
  ∀ (H : Type) (enc : TypeId × Value → H) (w : World) (base : Nat) (spare : Nat → Bool) (held : Bool) (fuel : Nat) (cs : List Value) (d : DataW H) (ps : List MemPlace),
    DataW.trod enc P w base spare held fuel t cs = some (d, ps) → (∀ x ∈ DataW.weights P t d, x ≤ reachBytes) → ∃ a : α, K.K w a cs ∧ Z a

theorem opens_int {P : Program} {t : TypeId} {k : IntKind} (ht : P.underlying t = some (.int k)) : Opens P t (Kd.int k) (fun n => (Lit.int k n).wf = true) := by
  intro H enc w base spare held fuel cs d ps h _
  obtain ⟨n, hc, hx, hw⟩ := DataW.trod_int ht h
  exact ⟨n, hc, hw⟩
theorem opens_bool {P : Program} {t : TypeId} (ht : P.underlying t = some .bool) : Opens P t Kd.bool (fun _ => True) := by
  intro H enc w base spare held fuel cs d ps h _
  obtain ⟨b, hc, hx⟩ := DataW.trod_bool ht h
  exact ⟨b, hc, trivial⟩
theorem opens_string {P : Program} {t : TypeId} (ht : P.underlying t = some .string) : Opens P t Kd.string (fun s => s.size ≤ 140737488351232) := by
  intro H enc w base spare held fuel cs d ps h hz
  obtain ⟨s, hc, hx, hw⟩ := DataW.trod_string ht h
  obtain ⟨rfl, rfl⟩ := Prod.mk.inj hx
  refine ⟨s, hc, ?_⟩
  have := hz s.data.toList.length (by simp [DataW.weights])
  unfold reachBytes at this
  rw [Array.length_toList] at this
  exact this
theorem opens_weaken {α : Type} {P : Program} {t : TypeId} {K : Kd α} {Z Z' : α → Prop} (h : Opens P t K Z) (hz : ∀ a, Z a → Z' a) : Opens P t K Z' := by
  intro H enc w base spare held fuel cs d ps h1 h2
  obtain ⟨a, h3, h4⟩ := h H enc w base spare held fuel cs d ps h1 h2
  exact ⟨a, h3, hz a h4⟩
theorem opens_iso {α β : Type} {P : Program} {t : TypeId} {K : Kd α} {Z : α → Prop} {f : β → α} (g : α → β) (hg : ∀ a, f (g a) = a) (h : Opens P t K Z) : Opens P t (Kd.iso K f) (fun b => Z (f b)) := by
  intro H enc w base spare held fuel cs d ps h1 h2
  obtain ⟨a, h3, h4⟩ := h H enc w base spare held fuel cs d ps h1 h2
  exact ⟨g a, by show K.K w (f (g a)) cs; rw [hg]; exact h3, by show Z (f (g a)); rw [hg]; exact h4⟩
theorem weightsAll_mem {H : Type} {P : Program} {e : TypeId} {l : List (DataW H)} {d : DataW H} (h : d ∈ l) : ∀ x ∈ DataW.weights P e d, x ∈ DataW.weightsAll P e l := by
  induction l with
  | nil => cases h
  | cons a r ih =>
    intro x hx
    simp only [DataW.weightsAll, List.mem_append]
    rcases List.mem_cons.1 h with rfl | h
    · exact .inl hx
    · exact .inr (ih h x hx)
theorem opens_slice {α : Type} {P : Program} {t e : TypeId} {K : Kd α} {Z : α → Prop} (ht : P.underlying t = some (.slice e)) (hc : P.cellsOf e = K.sz) (B : Nat) (hB : P.bytesOf e = B) (h : Opens P e K Z) :
    Opens P t (Kd.slice e K) (fun l => l.length * B ≤ 140737488351232 ∧ ∀ x ∈ l, Z x) := by
  intro H enc w base spare held fuel cs d ps h1 h2
  rcases DataW.trod_slice ht h1 with ⟨rfl, hx⟩ | ⟨a, len, cap, elems, rest, n, rfl, rfl, hx, hb, hl, hm, hlen, hel, -, -⟩
  · exact ⟨[], ⟨none, 0, rfl, Nat.le_refl _, rfl, by simp, fun h => absurd h (by simp)⟩, by simp, (fun x hx => absurd hx List.not_mem_nil)⟩
  obtain ⟨rfl, rfl⟩ := Prod.mk.inj hx
  have hw : ∀ x ∈ DataW.weights P t (.slice (elems.map (·.1)) (rest.map (·.1))), x ≤ reachBytes := h2
  have hw1 : ((elems.map (·.1)).length + (rest.map (·.1)).length) * P.bytesOf e ≤ reachBytes := hw _ (by simp [DataW.weights, ht])
  have each : ∀ i, i < len → ∃ p : α, Z p ∧ ∃ c, c.length = K.sz ∧ K.K w p c ∧ ∀ j u, c[j]? = some u → w.cell? (a.add (i * K.sz + j)) = some u := by
    intro i hi
    have h3 := hel i hi
    rw [List.getElem?_eq_getElem (by omega)] at h3
    obtain ⟨c, hcell, htrod⟩ := Option.bind_eq_some_iff.1 h3
    obtain ⟨_, hcl, hcc⟩ := World.cells?_some hcell
    have hmem : (elems[i]'(by omega)).1 ∈ elems.map (·.1) := List.mem_map_of_mem (List.getElem_mem _)
    obtain ⟨p, hp, hz⟩ := h H enc w base spare held n c _ _ (show DataW.trod enc P w base spare held n e c = some ((elems[i]'(by omega)).1, (elems[i]'(by omega)).2) from htrod) (fun x hx => hw x (by
      simp only [DataW.weights, ht, List.mem_cons, List.mem_append]
      exact .inr (.inl (weightsAll_mem hmem x hx))))
    refine ⟨p, hz, c, by rw [hcl, hc], hp, fun j u hu => ?_⟩
    have hj : j < c.length := by
      rcases Nat.lt_or_ge j c.length with h | h
      · exact h
      · rw [List.getElem?_eq_none h] at hu; cases hu
    have := hcc j (by omega)
    rw [hc] at this
    rw [← hu, ← this, Addr.add_add]
  have pick : ∃ l : List α, l.length = len ∧ (∀ x ∈ l, Z x) ∧ ∀ (i : Nat) p, l[i]? = some p → ∃ c, c.length = K.sz ∧ K.K w p c ∧ ∀ j u, c[j]? = some u → w.cell? (a.add (i * K.sz + j)) = some u := by
    clear hel hw hw1 h2 h1
    have : ∀ m, m ≤ len → ∃ l : List α, l.length = m ∧ (∀ x ∈ l, Z x) ∧ ∀ (i : Nat) p, l[i]? = some p → ∃ c, c.length = K.sz ∧ K.K w p c ∧ ∀ j u, c[j]? = some u → w.cell? (a.add (i * K.sz + j)) = some u := by
      intro m
      induction m with
      | zero => exact fun _ => ⟨[], rfl, (fun x hx => absurd hx List.not_mem_nil), (fun i p hp => absurd hp (by simp))⟩
      | succ m ih =>
        intro hm
        obtain ⟨l, h1, h2, h3⟩ := ih (by omega)
        obtain ⟨p, hz, hp⟩ := each m (by omega)
        refine ⟨l ++ [p], by simp [h1], fun x hx => ?_, fun i q hq => ?_⟩
        · rcases List.mem_append.1 hx with hx | hx
          · exact h2 x hx
          · rw [List.mem_singleton.1 hx]; exact hz
        · rcases Nat.lt_trichotomy i l.length with hi | hi | hi
          · rw [List.getElem?_append_left hi] at hq; exact h3 i q hq
          · subst hi; simp at hq; subst hq; rw [h1]; exact hp
          · rw [List.getElem?_eq_none (by simp; omega)] at hq; cases hq
    exact this len (Nat.le_refl _)
  obtain ⟨l, hll, hlz, hlc⟩ := pick
  refine ⟨l, ⟨some a, cap, by rw [hll], by omega, rfl, by simp only [maxLen] at hm; omega, fun _ => ⟨a, rfl, hlc⟩⟩, ?_, hlz⟩
  rw [hB] at hw1
  simp only [List.length_map, reachBytes] at hw1
  refine Nat.le_trans (Nat.mul_le_mul_right _ ?_) hw1
  omega

/-- The fields of a struct, one behind the other. -/
def OpensF {α : Type} (P : Program) (off : Nat) (fs : List Field) (K : Kd α) (Z : α → Prop) : Prop :=
  (∀ f ∈ fs, off ≤ f.offset) ∧ ∀ (H : Type) (enc : TypeId × Value → H) (w : World) (base : Nat) (spare : Nat → Bool) (held : Bool) (n : Nat) (cs : List Value) (xs : List (DataW H × List MemPlace)),
    cs.length = K.sz → xs.length = fs.length → (∀ (i : Nat) (f : Field), fs[i]? = some f → DataW.trod enc P w base spare held n f.type ((cs.drop (f.offset - off)).take (P.cellsOf f.type)) = xs[i]?) →
    (∀ x ∈ DataW.weightsEach P (fs.map (·.type)) (xs.map (·.1)), x ≤ reachBytes) → ∃ a : α, K.K w a cs ∧ Z a
theorem opensF_one {α : Type} {P : Program} {f : Field} {K : Kd α} {Z : α → Prop} (hc : P.cellsOf f.type = K.sz) (h : Opens P f.type K Z) : OpensF P f.offset [f] K Z := by
  refine ⟨fun g hg => by rw [List.mem_singleton.1 hg]; exact Nat.le_refl _, ?_⟩
  intro H enc w base spare held n cs xs hl hx ht hw
  match xs, hx with
  | [x], _ =>
    have h0 := ht 0 f rfl
    rw [Nat.sub_self, List.drop_zero, List.take_of_length_le (by omega)] at h0
    exact h H enc w base spare held n cs x.1 x.2 h0 (fun y hy => hw y (by simp [DataW.weightsEach]; exact hy))
theorem opensF_cons {α β : Type} {P : Program} {f g : Field} {fs : List Field} {K0 : Kd α} {K1 : Kd β} {Z0 : α → Prop} {Z1 : β → Prop} (hc : P.cellsOf f.type = K0.sz) (ho : g.offset = f.offset + K0.sz)
    (h0 : Opens P f.type K0 Z0) (h1 : OpensF P g.offset (g :: fs) K1 Z1) : OpensF P f.offset (f :: g :: fs) (Kd.pair K0 K1) (fun x => Z0 x.1 ∧ Z1 x.2) := by
  obtain ⟨hle, h1⟩ := h1
  refine ⟨fun e he => ?_, ?_⟩
  · rcases List.mem_cons.1 he with rfl | he
    · exact Nat.le_refl _
    · have := hle e he; omega
  intro H enc w base spare held n cs xs hl hx ht hw
  have hsz : (Kd.pair K0 K1).sz = K0.sz + K1.sz := rfl
  match xs, hx with
  | x :: xs, hx =>
    have e0 := ht 0 f rfl
    rw [Nat.sub_self, List.drop_zero, hc] at e0
    obtain ⟨a, ha, hza⟩ := h0 H enc w base spare held n (cs.take K0.sz) x.1 x.2 e0 (fun y hy => hw y (by simp only [List.map_cons, DataW.weightsEach, List.mem_append]; exact .inl hy))
    obtain ⟨b, hb, hzb⟩ := h1 H enc w base spare held n (cs.drop K0.sz) xs (by rw [List.length_drop]; omega) (by simpa using hx) (fun i e he => by
      have e1 := ht (i + 1) e (by simpa using he)
      have hm := hle e (List.mem_of_getElem? he)
      rw [List.drop_drop, show K0.sz + (e.offset - g.offset) = e.offset - f.offset by omega]
      simpa using e1) (fun y hy => hw y (by simp only [List.map_cons, DataW.weightsEach, List.mem_append]; exact .inr hy))
    exact ⟨(a, b), ⟨cs.take K0.sz, cs.drop K0.sz, (List.take_append_drop _ _).symm, ha, hb⟩, hza, hzb⟩
theorem opens_struct {α : Type} {P : Program} {t : TypeId} {fs : Array Field} {K : Kd α} {Z : α → Prop} (ht : P.underlying t = some (.struct fs)) (hc : P.cellsOf t = K.sz) (h : OpensF P 0 fs.toList K Z) : Opens P t K Z := by
  intro H enc w base spare held fuel cs d ps h1 h2
  obtain ⟨xs, n, rfl, hx, hl, hxl, hel⟩ := DataW.trod_struct ht h1
  obtain ⟨rfl, rfl⟩ := Prod.mk.inj hx
  refine h.2 H enc w base spare held n cs xs (by omega) (by simpa using hxl) (fun i f hf => ?_) (fun y hy => h2 y ?_)
  · rw [Nat.sub_zero]; exact hel i f (by simpa using hf)
  · simp only [DataW.weights, ht]; exact hy
/-- an argument's weights out of the row's -/
theorem weights_of_each {H : Type} {P : Program} {ts : List TypeId} {ds : List (DataW H)} (hz : (DataW.weightsEach P ts ds).all (· ≤ reachBytes) = true) {j : Nat} {t : TypeId} {d : DataW H} (ht : ts[j]? = some t) (hd : ds[j]? = some d) :
    ∀ x ∈ DataW.weights P t d, x ≤ reachBytes := fun x hx => by
  have := List.all_eq_true.1 hz x (DataW.weights_mem_each ht hd x hx)
  simpa using this
theorem aggOf_okWide {P : Program} {W : World} {r : Reach} {b : Nat} {t : TypeId} {v : Value} {fs : Array Field} (ht : P.underlying t = some (.struct fs)) (h : Value.okWide P W r b t v) : ∃ cs, v = .agg cs := by
  unfold Value.okWide at h
  rw [ht] at h
  obtain ⟨cs, h, _⟩ := h
  exact ⟨cs, h⟩
theorem slice_open {α : Type} {e : TypeId} {K : Kd α} {w : World} {l : List α} {A : Option Addr} {n c : Nat} (h : (Kd.slice e K).K w l (Value.slice A n c).cells.toList) : n = l.length ∧ l.length ≤ c ∧ Kd.C K w A l.length l := by
  obtain ⟨A', c', hc, hl, hr⟩ := h
  simp only [Value.cells, List.cons.injEq, Value.slice.injEq, and_true] at hc
  obtain ⟨rfl, rfl, rfl⟩ := hc
  exact ⟨rfl, hl, hr⟩
theorem int_open {k : IntKind} {w : World} {x y : Int} (h : (Kd.int k).K w x (Value.int k y).cells.toList) : x = y := by
  have h : (Value.int k y).cells.toList = [Value.int k x] := h
  simp only [Value.cells, List.cons.injEq, Value.int.injEq, and_true, true_and] at h
  exact h.symm
theorem bool_open {w : World} {x y : Bool} (h : Kd.bool.K w x (Value.bool y).cells.toList) : x = y := by
  have h : (Value.bool y).cells.toList = [Value.bool x] := h
  simp only [Value.cells, List.cons.injEq, Value.bool.injEq, and_true] at h
  exact h.symm
theorem string_open {w : World} {x y : ByteArray} (h : Kd.string.K w x (Value.string y).cells.toList) : x = y := by
  have h : (Value.string y).cells.toList = [Value.string x] := h
  simp only [Value.cells, List.cons.injEq, Value.string.injEq, and_true] at h
  exact h.symm
theorem agg_open {cs : Array Value} {l : List Value} (h : (Value.agg cs).cells.toList = l) : cs = l.toArray := by
  subst h; simp [Value.cells]
end Go.Proofs.YtniplmjbligmlaaDoor.Base

/-! Go functions as Lean functions, each with a proof that the Go code comes to its answers; written by a program of this repository (mk.py, over the printer of the kit). Lean checks it. -/
namespace Go.Proofs.YtniplmjbligmlaaDoor.Q
open Go.RowKit Go.Proofs.YtniplmjbligmlaaDoorW.PrintWords Go.Proofs.YtniplmjbligmlaaDoorW.PrintLast Go.Proofs.YtniplmjbligmlaaDoorW.PrintMore
attribute [local go_sem] max2_int min2_int max_two min_two max_three min_three max_four min_four   -- for this text's walks alone
set_option linter.unusedVariables false
set_option linter.unusedSimpArgs false



def errW : Option Int → Value
  | none => .nilIface
  | some c => .iface 0 (.int .i64 c)
theorem errW_none : errW none = .nilIface := rfl
theorem errW_some (c : Int) : errW (some c) = .iface 0 (.int .i64 c) := rfl

theorem info9 : (Tryd.prog.info? 9).map (fun i => (i.zero, i.size, i.bytes)) = some (some (.string ⟨#[]⟩), 1, 16) := by kernel_rfl
theorem info42 : (Tryd.prog.info? 42).map (fun i => (i.zero, i.size, i.bytes)) = some (some (.agg #[(.int .i64 0), (.string ⟨#[]⟩)]), 2, 24) := by kernel_rfl
-- the values' own types
/-! #### struct type 42 -/
structure S42 where
  f0 : Int
  f1 : ByteArray
def z42 : S42 := ⟨(0 : Int), (⟨#[]⟩ : ByteArray)⟩
def k42 : Kd S42 := Kd.iso (Kd.pair (Kd.int .i64) Kd.string) (fun x : S42 => (x.f0, x.f1))
theorem k42_heap : Kd.Heap k42 := Kd.heap_iso _ (Kd.heap_pair (Kd.heap_int .i64) Kd.heap_string)
theorem k42_open {w : World} {x : S42} {cs : List Value} (h : k42.K w x cs) : cs = [.int .i64 x.f0, .string x.f1] := by
  obtain ⟨_, _, rfl, rfl, rfl⟩ := h
  exact rfl
theorem k42_openM {w : World} {base : Nat} {ok : Nat → Prop} {x : S42} {cs : List Value} (h : k42.M w base ok x cs) : cs = [.int .i64 x.f0, .string x.f1] := by
  obtain ⟨_, _, rfl, rfl, rfl⟩ := h
  exact rfl
theorem k42_mk (w : World) (x : S42)  : k42.K w x [.int .i64 x.f0, .string x.f1] := ⟨[.int .i64 x.f0], [.string x.f1], rfl, rfl, rfl⟩
theorem k42_mkM (w : World) (base : Nat) (ok : Nat → Prop) (x : S42)  : k42.M w base ok x [.int .i64 x.f0, .string x.f1] := ⟨[.int .i64 x.f0], [.string x.f1], rfl, rfl, rfl⟩
theorem k42_mkF (W : World) (ok : Nat → Prop) (x : S42) : Kd.FK k42 W ok x [.int .i64 x.f0, .string x.f1] := fun W2 _ => k42_mk W2 x
def rd_T42 (xs : List S42) (i : Int) : S42 := xs.getD i.toNat z42
theorem at_T42 {w : World} {A : Option Addr} {n : Nat} {xs : List S42} (h : Kd.C k42 w A n xs) (i : Int) (h0 : 0 ≤ i) (h1 : i < n) : ∃ ad , A = some ad ∧ w.cell? (ad.add (i.toNat * 2)) = some (.int .i64 (rd_T42 xs i).f0) ∧ w.cell? ⟨(ad.add (i.toNat * 2)).block, (ad.add (i.toNat * 2)).off + 1, none⟩ = some (.string (rd_T42 xs i).f1) := by
  obtain ⟨ad, c, e, _, hK, hc0⟩ := Kd.C_get h z42 i h0 h1
  have hc : ∀ j u, c[j]? = some u → w.cell? (ad.add (i.toNat * 2 + j)) = some u := hc0
  obtain rfl := k42_open hK
  exact ⟨ad, e, hc 0 _ rfl, by rw [← add_field _ _ 1 (by omega)]; exact hc 1 _ rfl⟩

def rd_L3 (xs : List (List ByteArray)) (i : Int) : (List ByteArray) := xs.getD i.toNat ([] : List ByteArray)
theorem at_L3 {w : World} {A : Option Addr} {n : Nat} {xs : List (List ByteArray)} (h : Kd.C (Kd.slice 9 Kd.string) w A n xs) (i : Int) (h0 : 0 ≤ i) (h1 : i < n) : ∃ ad A0 c0, A = some ad ∧ w.cell? (ad.add i.toNat) = some (.slice A0 (rd_L3 xs i).length c0) ∧ (rd_L3 xs i).length ≤ c0 ∧ Kd.string.C w A0 (rd_L3 xs i).length (rd_L3 xs i) := by
  obtain ⟨ad, c, e, _, hK, hc0⟩ := Kd.C_get h ([] : List ByteArray) i h0 h1
  have hc : ∀ j u, c[j]? = some u → w.cell? (ad.add (i.toNat * 1 + j)) = some u := hc0
  obtain ⟨A0, c0, rfl, l0, g0⟩ := hK
  exact ⟨ad, A0, c0, e, by have hq := hc 0 _ rfl; rwa [Nat.mul_one, Nat.add_zero] at hq, l0, g0⟩

def rd_L4 (xs : List (List S42)) (i : Int) : (List S42) := xs.getD i.toNat ([] : List S42)
theorem at_L4 {w : World} {A : Option Addr} {n : Nat} {xs : List (List S42)} (h : Kd.C (Kd.slice 42 k42) w A n xs) (i : Int) (h0 : 0 ≤ i) (h1 : i < n) : ∃ ad A0 c0, A = some ad ∧ w.cell? (ad.add i.toNat) = some (.slice A0 (rd_L4 xs i).length c0) ∧ (rd_L4 xs i).length ≤ c0 ∧ k42.C w A0 (rd_L4 xs i).length (rd_L4 xs i) := by
  obtain ⟨ad, c, e, _, hK, hc0⟩ := Kd.C_get h ([] : List S42) i h0 h1
  have hc : ∀ j u, c[j]? = some u → w.cell? (ad.add (i.toNat * 1 + j)) = some u := hc0
  obtain ⟨A0, c0, rfl, l0, g0⟩ := hK
  exact ⟨ad, A0, c0, e, by have hq := hc 0 _ rfl; rwa [Nat.mul_one, Nat.add_zero] at hq, l0, g0⟩

/-! #### struct type 25 -/
structure S25 where
  f0 : (List ByteArray)
  f1 : (List S42)
def z25 : S25 := ⟨([] : List ByteArray), ([] : List S42)⟩
def k25 : Kd S25 := Kd.iso (Kd.pair (Kd.slice 9 Kd.string) (Kd.slice 42 k42)) (fun x : S25 => (x.f0, x.f1))
theorem k25_heap : Kd.Heap k25 := Kd.heap_iso _ (Kd.heap_pair (Kd.heap_slice 9 Kd.heap_string) (Kd.heap_slice 42 k42_heap))
theorem k25_open {w : World} {x : S25} {cs : List Value} (h : k25.K w x cs) : ∃ A0 c0 A1 c1, cs = [.slice A0 x.f0.length c0, .slice A1 x.f1.length c1] ∧ x.f0.length ≤ c0 ∧ Kd.string.C w A0 x.f0.length x.f0 ∧ x.f1.length ≤ c1 ∧ k42.C w A1 x.f1.length x.f1 := by
  obtain ⟨_, _, rfl, ⟨A0, c0, rfl, l0, g0⟩, ⟨A1, c1, rfl, l1, g1⟩⟩ := h
  exact ⟨A0, c0, A1, c1, rfl, l0, g0, l1, g1⟩
theorem k25_openM {w : World} {base : Nat} {ok : Nat → Prop} {x : S25} {cs : List Value} (h : k25.M w base ok x cs) : ∃ v0 v1, cs = [v0, v1] ∧ Kd.string.R 9 w base ok v0 x.f0 ∧ k42.R 42 w base ok v1 x.f1 := by
  obtain ⟨_, _, rfl, ⟨v0, rfl, g0⟩, ⟨v1, rfl, g1⟩⟩ := h
  exact ⟨v0, v1, rfl, g0, g1⟩
theorem k25_mk (w : World) (x : S25) {A0 : Option Addr} {c0 : Nat} (l0 : x.f0.length ≤ c0) (g0 : Kd.string.C w A0 x.f0.length x.f0) {A1 : Option Addr} {c1 : Nat} (l1 : x.f1.length ≤ c1) (g1 : k42.C w A1 x.f1.length x.f1) : k25.K w x [.slice A0 x.f0.length c0, .slice A1 x.f1.length c1] := ⟨[.slice A0 x.f0.length c0], [.slice A1 x.f1.length c1], rfl, ⟨A0, c0, rfl, l0, g0⟩, ⟨A1, c1, rfl, l1, g1⟩⟩
theorem k25_mkM (w : World) (base : Nat) (ok : Nat → Prop) (x : S25) {v0 : Value} (g0 : Kd.string.R 9 w base ok v0 x.f0) {v1 : Value} (g1 : k42.R 42 w base ok v1 x.f1) : k25.M w base ok x [v0, v1] := ⟨[v0], [v1], rfl, ⟨v0, rfl, g0⟩, ⟨v1, rfl, g1⟩⟩
theorem k25_openF {W : World} {ok : Nat → Prop} {x : S25} {cs : List Value} (h : Kd.FK k25 W ok x cs) : ∃ A0 c0 A1 c1, cs = [.slice A0 x.f0.length c0, .slice A1 x.f1.length c1] ∧ x.f0.length ≤ c0 ∧ Kd.F Kd.string W ok A0 x.f0.length x.f0 ∧ x.f1.length ≤ c1 ∧ Kd.F k42 W ok A1 x.f1.length x.f1 := by
  obtain ⟨A0, c0, A1, c1, rfl, l0, _, l1, _⟩ := k25_open (Kd.FK_now h)
  exact ⟨A0, c0, A1, c1, rfl, l0, (fun W' hW => by obtain ⟨A0_, c0_, A1_, c1_, he, l0_, g0_, l1_, g1_⟩ := k25_open (h W' hW); injection (Option.some.inj (show some (Value.slice A0 x.f0.length c0) = some (Value.slice A0_ x.f0.length c0_) from congrArg (fun l => l[0]?) he)) with ha_ _ _; rw [ha_]; exact g0_), l1, (fun W' hW => by obtain ⟨A0_, c0_, A1_, c1_, he, l0_, g0_, l1_, g1_⟩ := k25_open (h W' hW); injection (Option.some.inj (show some (Value.slice A1 x.f1.length c1) = some (Value.slice A1_ x.f1.length c1_) from congrArg (fun l => l[1]?) he)) with ha_ _ _; rw [ha_]; exact g1_)⟩
theorem k25_mkF (W : World) (ok : Nat → Prop) (x : S25) {A0 : Option Addr} {c0 : Nat} (l0 : x.f0.length ≤ c0) (g0 : Kd.F Kd.string W ok A0 x.f0.length x.f0) {A1 : Option Addr} {c1 : Nat} (l1 : x.f1.length ≤ c1) (g1 : Kd.F k42 W ok A1 x.f1.length x.f1) : Kd.FK k25 W ok x [.slice A0 x.f0.length c0, .slice A1 x.f1.length c1] := fun W2 hW => k25_mk W2 x l0 (g0 W2 hW) l1 (g1 W2 hW)
def rd_T25 (xs : List S25) (i : Int) : S25 := xs.getD i.toNat z25
theorem at_T25 {w : World} {A : Option Addr} {n : Nat} {xs : List S25} (h : Kd.C k25 w A n xs) (i : Int) (h0 : 0 ≤ i) (h1 : i < n) : ∃ ad A0 c0 A1 c1, A = some ad ∧ w.cell? (ad.add (i.toNat * 2)) = some (.slice A0 (rd_T25 xs i).f0.length c0) ∧ w.cell? ⟨(ad.add (i.toNat * 2)).block, (ad.add (i.toNat * 2)).off + 1, none⟩ = some (.slice A1 (rd_T25 xs i).f1.length c1) ∧ (rd_T25 xs i).f0.length ≤ c0 ∧ Kd.string.C w A0 (rd_T25 xs i).f0.length (rd_T25 xs i).f0 ∧ (rd_T25 xs i).f1.length ≤ c1 ∧ k42.C w A1 (rd_T25 xs i).f1.length (rd_T25 xs i).f1 := by
  obtain ⟨ad, c, e, _, hK, hc0⟩ := Kd.C_get h z25 i h0 h1
  have hc : ∀ j u, c[j]? = some u → w.cell? (ad.add (i.toNat * 2 + j)) = some u := hc0
  obtain ⟨A0, c0, A1, c1, rfl, l0, g0, l1, g1⟩ := k25_open hK
  exact ⟨ad, A0, c0, A1, c1, e, hc 0 _ rfl, by rw [← add_field _ _ 1 (by omega)]; exact hc 1 _ rfl, l0, g0, l1, g1⟩

/-! #### struct type 46 -/
structure S46 where
  f0 : S25
  f1 : Int
def z46 : S46 := ⟨z25, (0 : Int)⟩
def k46 : Kd S46 := Kd.iso (Kd.pair k25 (Kd.int .i64)) (fun x : S46 => (x.f0, x.f1))
theorem k46_heap : Kd.Heap k46 := Kd.heap_iso _ (Kd.heap_pair k25_heap (Kd.heap_int .i64))
theorem k46_open {w : World} {x : S46} {cs : List Value} (h : k46.K w x cs) : ∃ A0 c0 A1 c1, cs = [.slice A0 x.f0.f0.length c0, .slice A1 x.f0.f1.length c1, .int .i64 x.f1] ∧ x.f0.f0.length ≤ c0 ∧ Kd.string.C w A0 x.f0.f0.length x.f0.f0 ∧ x.f0.f1.length ≤ c1 ∧ k42.C w A1 x.f0.f1.length x.f0.f1 := by
  obtain ⟨_, _, rfl, s0, rfl⟩ := h
  obtain ⟨A0, c0, A1, c1, rfl, l0, g0, l1, g1⟩ := k25_open s0
  exact ⟨A0, c0, A1, c1, rfl, l0, g0, l1, g1⟩
theorem k46_openM {w : World} {base : Nat} {ok : Nat → Prop} {x : S46} {cs : List Value} (h : k46.M w base ok x cs) : ∃ v0 v1, cs = [v0, v1, .int .i64 x.f1] ∧ Kd.string.R 9 w base ok v0 x.f0.f0 ∧ k42.R 42 w base ok v1 x.f0.f1 := by
  obtain ⟨_, _, rfl, s0, rfl⟩ := h
  obtain ⟨v0, v1, rfl, g0, g1⟩ := k25_openM s0
  exact ⟨v0, v1, rfl, g0, g1⟩
theorem k46_mk (w : World) (x : S46) {A0 : Option Addr} {c0 : Nat} (l0 : x.f0.f0.length ≤ c0) (g0 : Kd.string.C w A0 x.f0.f0.length x.f0.f0) {A1 : Option Addr} {c1 : Nat} (l1 : x.f0.f1.length ≤ c1) (g1 : k42.C w A1 x.f0.f1.length x.f0.f1) : k46.K w x [.slice A0 x.f0.f0.length c0, .slice A1 x.f0.f1.length c1, .int .i64 x.f1] := ⟨[.slice A0 x.f0.f0.length c0, .slice A1 x.f0.f1.length c1], [.int .i64 x.f1], rfl, (k25_mk w x.f0 l0 g0 l1 g1), rfl⟩
theorem k46_mkM (w : World) (base : Nat) (ok : Nat → Prop) (x : S46) {v0 : Value} (g0 : Kd.string.R 9 w base ok v0 x.f0.f0) {v1 : Value} (g1 : k42.R 42 w base ok v1 x.f0.f1) : k46.M w base ok x [v0, v1, .int .i64 x.f1] := ⟨[v0, v1], [.int .i64 x.f1], rfl, (k25_mkM w base ok x.f0 g0 g1), rfl⟩
theorem k46_openF {W : World} {ok : Nat → Prop} {x : S46} {cs : List Value} (h : Kd.FK k46 W ok x cs) : ∃ A0 c0 A1 c1, cs = [.slice A0 x.f0.f0.length c0, .slice A1 x.f0.f1.length c1, .int .i64 x.f1] ∧ x.f0.f0.length ≤ c0 ∧ Kd.F Kd.string W ok A0 x.f0.f0.length x.f0.f0 ∧ x.f0.f1.length ≤ c1 ∧ Kd.F k42 W ok A1 x.f0.f1.length x.f0.f1 := by
  obtain ⟨A0, c0, A1, c1, rfl, l0, _, l1, _⟩ := k46_open (Kd.FK_now h)
  exact ⟨A0, c0, A1, c1, rfl, l0, (fun W' hW => by obtain ⟨A0_, c0_, A1_, c1_, he, l0_, g0_, l1_, g1_⟩ := k46_open (h W' hW); injection (Option.some.inj (show some (Value.slice A0 x.f0.f0.length c0) = some (Value.slice A0_ x.f0.f0.length c0_) from congrArg (fun l => l[0]?) he)) with ha_ _ _; rw [ha_]; exact g0_), l1, (fun W' hW => by obtain ⟨A0_, c0_, A1_, c1_, he, l0_, g0_, l1_, g1_⟩ := k46_open (h W' hW); injection (Option.some.inj (show some (Value.slice A1 x.f0.f1.length c1) = some (Value.slice A1_ x.f0.f1.length c1_) from congrArg (fun l => l[1]?) he)) with ha_ _ _; rw [ha_]; exact g1_)⟩
theorem k46_mkF (W : World) (ok : Nat → Prop) (x : S46) {A0 : Option Addr} {c0 : Nat} (l0 : x.f0.f0.length ≤ c0) (g0 : Kd.F Kd.string W ok A0 x.f0.f0.length x.f0.f0) {A1 : Option Addr} {c1 : Nat} (l1 : x.f0.f1.length ≤ c1) (g1 : Kd.F k42 W ok A1 x.f0.f1.length x.f0.f1) : Kd.FK k46 W ok x [.slice A0 x.f0.f0.length c0, .slice A1 x.f0.f1.length c1, .int .i64 x.f1] := fun W2 hW => k46_mk W2 x l0 (g0 W2 hW) l1 (g1 W2 hW)
def rd_T46 (xs : List S46) (i : Int) : S46 := xs.getD i.toNat z46
theorem at_T46 {w : World} {A : Option Addr} {n : Nat} {xs : List S46} (h : Kd.C k46 w A n xs) (i : Int) (h0 : 0 ≤ i) (h1 : i < n) : ∃ ad A0 c0 A1 c1, A = some ad ∧ w.cell? (ad.add (i.toNat * 3)) = some (.slice A0 (rd_T46 xs i).f0.f0.length c0) ∧ w.cell? ⟨(ad.add (i.toNat * 3)).block, (ad.add (i.toNat * 3)).off + 1, none⟩ = some (.slice A1 (rd_T46 xs i).f0.f1.length c1) ∧ w.cell? ⟨(ad.add (i.toNat * 3)).block, (ad.add (i.toNat * 3)).off + 2, none⟩ = some (.int .i64 (rd_T46 xs i).f1) ∧ (rd_T46 xs i).f0.f0.length ≤ c0 ∧ Kd.string.C w A0 (rd_T46 xs i).f0.f0.length (rd_T46 xs i).f0.f0 ∧ (rd_T46 xs i).f0.f1.length ≤ c1 ∧ k42.C w A1 (rd_T46 xs i).f0.f1.length (rd_T46 xs i).f0.f1 := by
  obtain ⟨ad, c, e, _, hK, hc0⟩ := Kd.C_get h z46 i h0 h1
  have hc : ∀ j u, c[j]? = some u → w.cell? (ad.add (i.toNat * 3 + j)) = some u := hc0
  obtain ⟨A0, c0, A1, c1, rfl, l0, g0, l1, g1⟩ := k46_open hK
  exact ⟨ad, A0, c0, A1, c1, e, hc 0 _ rfl, by rw [← add_field _ _ 1 (by omega)]; exact hc 1 _ rfl, by rw [← add_field _ _ 2 (by omega)]; exact hc 2 _ rfl, l0, g0, l1, g1⟩

def rd_L8 (xs : List (List Bool)) (i : Int) : (List Bool) := xs.getD i.toNat ([] : List Bool)
theorem at_L8 {w : World} {A : Option Addr} {n : Nat} {xs : List (List Bool)} (h : Kd.C (Kd.slice 4 Kd.bool) w A n xs) (i : Int) (h0 : 0 ≤ i) (h1 : i < n) : ∃ ad A0 c0, A = some ad ∧ w.cell? (ad.add i.toNat) = some (.slice A0 (rd_L8 xs i).length c0) ∧ (rd_L8 xs i).length ≤ c0 ∧ Kd.bool.C w A0 (rd_L8 xs i).length (rd_L8 xs i) := by
  obtain ⟨ad, c, e, _, hK, hc0⟩ := Kd.C_get h ([] : List Bool) i h0 h1
  have hc : ∀ j u, c[j]? = some u → w.cell? (ad.add (i.toNat * 1 + j)) = some u := hc0
  obtain ⟨A0, c0, rfl, l0, g0⟩ := hK
  exact ⟨ad, A0, c0, e, by have hq := hc 0 _ rfl; rwa [Nat.mul_one, Nat.add_zero] at hq, l0, g0⟩

end Go.Proofs.YtniplmjbligmlaaDoor.Q

/-! The kinds of the statements' parameters: what a row's data read as, type by type. -/
namespace Go.Proofs.YtniplmjbligmlaaDoor.Q
open Go.RowKit Go.Proofs.YtniplmjbligmlaaDoorW.PrintWords Go.Proofs.YtniplmjbligmlaaDoorW.PrintLast Go.Proofs.YtniplmjbligmlaaDoorW.PrintMore Go.Proofs.YtniplmjbligmlaaDoor.Base
set_option linter.unusedVariables false
def zT3 : Int → Prop := fun n => (Lit.int .i64 n).wf = true
theorem opT3 : Opens Tryd.prog 3 (Kd.int .i64) zT3 := opens_int Tryd.underlying3
def zT9 : ByteArray → Prop := fun s => s.size ≤ 140737488351232
theorem opT9 : Opens Tryd.prog 9 Kd.string zT9 := opens_string Tryd.underlying9
def zT22 : List ByteArray → Prop := fun l => l.length * 16 ≤ 140737488351232 ∧ ∀ x ∈ l, zT9 x
theorem opT22 : Opens Tryd.prog 22 (Kd.slice 9 Kd.string) zT22 := opens_slice Tryd.underlying22 (by kernel_rfl) 16 (by kernel_rfl) opT9
def zT42 : S42 → Prop := fun x => zT3 x.f0 ∧ zT9 x.f1
theorem opT42 : Opens Tryd.prog 42 k42 zT42 := opens_iso (f := fun x : S42 => (x.f0, x.f1)) (fun a => ⟨a.1, a.2⟩) (fun a => rfl) (opens_struct Tryd.underlying42 (by kernel_rfl) (opensF_cons (by kernel_rfl) (by kernel_rfl) opT3 (opensF_one (by kernel_rfl) opT9)))
def zT23 : List (S42) → Prop := fun l => l.length * 24 ≤ 140737488351232 ∧ ∀ x ∈ l, zT42 x
theorem opT23 : Opens Tryd.prog 23 (Kd.slice 42 k42) zT23 := opens_slice Tryd.underlying23 (by kernel_rfl) 24 (by kernel_rfl) opT42
def zT25 : S25 → Prop := fun x => zT22 x.f0 ∧ zT23 x.f1
theorem opT25 : Opens Tryd.prog 25 k25 zT25 := opens_iso (f := fun x : S25 => (x.f0, x.f1)) (fun a => ⟨a.1, a.2⟩) (fun a => rfl) (opens_struct Tryd.underlying25 (by kernel_rfl) (opensF_cons (by kernel_rfl) (by kernel_rfl) opT22 (opensF_one (by kernel_rfl) opT23)))
def zT4 : Bool → Prop := fun _ => True
theorem opT4 : Opens Tryd.prog 4 Kd.bool zT4 := opens_bool Tryd.underlying4
def zT33 : List Bool → Prop := fun l => l.length * 1 ≤ 140737488351232 ∧ ∀ x ∈ l, zT4 x
theorem opT33 : Opens Tryd.prog 33 (Kd.slice 4 Kd.bool) zT33 := opens_slice Tryd.underlying33 (by kernel_rfl) 1 (by kernel_rfl) opT4
end Go.Proofs.YtniplmjbligmlaaDoor.Q

/-! A memory told whole: the call's own blocks with what they hold (B), the blocks that stay as they are (F), and what is known of these (R). Each step of a walk is one law on it. -/
namespace Go.Proofs.YtniplmjbligmlaaDoor.SL
open Go.RowKit Go.Proofs.YtniplmjbligmlaaDoorW.PrintWords Go.Proofs.YtniplmjbligmlaaDoorW.PrintLast Go.Proofs.YtniplmjbligmlaaDoorW.PrintMore
set_option linter.unusedVariables false
set_option linter.unusedSimpArgs false
/-- A row's room, kept out of what arithmetic looks at. -/
structure Cap (n c : Nat) : Prop where
  le : n ≤ c
/-- A row that is read. -/
def rdc {α : Type} (d : Kd α) (A : Option Addr) (xs : List α) : World → Prop := fun W => d.C W A xs.length xs
/-- What the call owns: a block that is known whole, or a row (a slice of its own, with what lies behind its length unknown). -/
inductive Box where
  | mk (b : Nat) (t : TypeId) (cs : List Value)
  | row (v : Value) (t : TypeId) (sz n : Nat) (xs : List Value)
def Box.foot : Box → Option Nat
  | .mk b _ _ => some b
  | .row v _ _ _ _ => v.ownBlock
def Box.holds (w : World) : Box → Prop
  | .mk b t cs => w.heap[b]? = some (.cells cs.toArray t (0, 0))
  | .row v t sz n xs => w.ownsRow 0 t sz v n xs
def Box.apart (x y : Box) : Prop := ∀ k, x.foot = some k → y.foot ≠ some k
theorem Box.lt {w : World} {x : Box} (h : x.holds w) {k : Nat} (hk : x.foot = some k) : k < w.heap.size := by
  cases x with
  | mk b t cs => obtain rfl := Option.some.inj hk; exact blk_lt h
  | row v t sz n xs => exact own_lt h k hk
theorem Box.move {w w' : World} {x : Box} (h : x.holds w) (hm : ∀ k, x.foot = some k → w'.heap[k]? = w.heap[k]?) : x.holds w' := by
  cases x with
  | mk b t cs => exact (hm b rfl).trans h
  | row v t sz n xs => exact own_move h hm
/-- M: the elder blocks that may turn; F0: the elder blocks that are known to stay. -/
structure St (M F0 : Nat → Prop) (w0 : World) (F : Nat → Prop) (B : List Box) (R : List (World → Prop)) (w : World) : Prop where
  os : w.os = w0.os
  tape : w.tape = w0.tape
  out : w.output = w0.output
  size : w0.heap.size ≤ w.heap.size
  keep : ∀ k, k < w0.heap.size → ¬ M k → w.heap[k]? = w0.heap[k]?
  flt : ∀ k, F k → k < w.heap.size
  fin : ∀ k, F k → F0 k ∨ w0.heap.size ≤ k
  box : ∀ x ∈ B, x.holds w
  nf : ∀ x ∈ B, ∀ k, x.foot = some k → ¬ F k
  nd : B.Pairwise Box.apart
  mine : ∀ x ∈ B, ∀ k, x.foot = some k → M k ∨ w0.heap.size ≤ k
  ro : ∀ p ∈ R, Foot p w F
/-- x stands in B; x' in its place is B'. -/
inductive Upd : List Box → Box → Box → List Box → Prop where
  | hd {x x' : Box} {l : List Box} : Upd (x :: l) x x' (x' :: l)
  | tl {x x' y : Box} {l l' : List Box} (h : Upd l x x' l') : Upd (y :: l) x x' (y :: l')
/-- x stands in B; without it B is B'. -/
inductive Del : List Box → Box → List Box → Prop where
  | hd {x : Box} {l : List Box} : Del (x :: l) x l
  | tl {x y : Box} {l l' : List Box} (h : Del l x l') : Del (y :: l) x (y :: l')
theorem Upd.mem {B B' : List Box} {x x' : Box} (h : Upd B x x' B') : x ∈ B := by
  induction h with
  | hd => exact List.mem_cons_self
  | tl _ ih => exact List.mem_cons_of_mem _ ih
theorem Del.mem {B B' : List Box} {x : Box} (h : Del B x B') : x ∈ B := by
  induction h with
  | hd => exact List.mem_cons_self
  | tl _ ih => exact List.mem_cons_of_mem _ ih
theorem Del.sub {B B' : List Box} {x : Box} (h : Del B x B') : B'.Sublist B := by
  induction h with
  | hd => exact List.sublist_cons_self _ _
  | tl _ ih => exact ih.cons_cons _
theorem Box.apart.symm {x y : Box} (h : x.apart y) : y.apart x := fun k hy hx => h k hx hy
theorem Del.apart {B B' : List Box} {x : Box} (h : Del B x B') : B.Pairwise Box.apart → ∀ y ∈ B', x.apart y := by
  induction h with
  | hd => intro hp y hy; exact (List.pairwise_cons.1 hp).1 y hy
  | tl h ih =>
    intro hp y hy
    obtain ⟨h1, h2⟩ := List.pairwise_cons.1 hp
    rcases List.mem_cons.1 hy with rfl | hy
    · exact (h1 _ h.mem).symm
    · exact ih h2 y hy
theorem Upd.of {B B' : List Box} {x x' : Box} (h : Upd B x x' B') (hx : ∀ k, x'.foot = some k → x.foot = some k) : B.Pairwise Box.apart → (∀ y ∈ B', y = x' ∨ (y ∈ B ∧ x.apart y)) ∧ B'.Pairwise Box.apart := by
  induction h with
  | @hd x x' l =>
    intro hp
    obtain ⟨h1, h2⟩ := List.pairwise_cons.1 hp
    refine ⟨fun y hy => ?_, List.pairwise_cons.2 ⟨fun y hy k hk => h1 y hy k (hx k hk), h2⟩⟩
    rcases List.mem_cons.1 hy with rfl | hy
    · exact .inl rfl
    · exact .inr ⟨List.mem_cons_of_mem _ hy, h1 y hy⟩
  | @tl x x' y l l' h ih =>
    intro hp
    obtain ⟨h1, h2⟩ := List.pairwise_cons.1 hp
    obtain ⟨i1, i2⟩ := ih hx h2
    have hm := h.mem
    refine ⟨fun z hz => ?_, List.pairwise_cons.2 ⟨fun z hz => ?_, i2⟩⟩
    · rcases List.mem_cons.1 hz with rfl | hz
      · exact .inr ⟨List.mem_cons_self, (h1 _ hm).symm⟩
      · rcases i1 z hz with h | h
        · exact .inl h
        · exact .inr ⟨List.mem_cons_of_mem _ h.1, h.2⟩
    · rcases i1 z hz with rfl | h
      · exact fun k hk hk' => h1 _ hm k hk (hx k hk')
      · exact h1 z h.1
section
variable {M F0 F : Nat → Prop} {w0 w w' : World} {B B' : List Box} {R : List (World → Prop)}
theorem St.start (w : World) (F0 : Nat → Prop) (h0 : ∀ k, F0 k → k < w.heap.size) : St (fun _ => False) F0 w F0 [] [] w :=
  ⟨rfl, rfl, rfl, Nat.le_refl _, fun _ _ _ => rfl, h0, fun _ h => .inl h, fun _ h => absurd h (List.not_mem_nil), fun _ h => absurd h (List.not_mem_nil), .nil, fun _ h => absurd h (List.not_mem_nil), fun _ h => absurd h (List.not_mem_nil)⟩
/-- A call on a block that came in and may turn. -/
theorem St.startM (w : World) (F0 : Nat → Prop) (h0 : ∀ k, F0 k → k < w.heap.size) {b : Nat} {t : TypeId} {cs : List Value} (hb : w.heap[b]? = some (.cells cs.toArray t (0, 0))) (hF : ¬ F0 b) : St (fun k => k = b) F0 w F0 [.mk b t cs] [] w :=
  ⟨rfl, rfl, rfl, Nat.le_refl _, fun _ _ _ => rfl, h0, fun _ h => .inl h, fun x h => by rw [List.mem_singleton.1 h]; exact hb, fun x h k hk => by rw [List.mem_singleton.1 h] at hk; obtain rfl := Option.some.inj hk; exact hF, List.pairwise_singleton _ _, fun x h k hk => by rw [List.mem_singleton.1 h] at hk; exact .inl (Option.some.inj hk).symm, fun _ h => absurd h (List.not_mem_nil)⟩
theorem St.below (H : St (fun _ => False) F0 w0 F B R w) : Below w0.heap.size w0 w := ⟨H.os, H.tape, H.out, H.size, fun k hk => H.keep k hk id⟩
theorem St.keepBut {g : Nat} (H : St (fun k => k = g) F0 w0 F B R w) : KeepBut w0 w g none := ⟨H.size, fun k hk hg _ => H.keep k hk hg⟩
theorem St.lt (H : St M F0 w0 F B R w) {x : Box} (hx : x ∈ B) {k : Nat} (hk : x.foot = some k) : k < w.heap.size := Box.lt (H.box x hx) hk
theorem St.fact (H : St M F0 w0 F B R w) {p : World → Prop} (hp : Foot p w F) : St M F0 w0 F B (p :: R) w :=
  { H with ro := fun q hq => (List.mem_cons.1 hq).elim (fun e => e ▸ hp) (H.ro q) }
theorem St.get (H : St M F0 w0 F B R w) {p : World → Prop} (hp : p ∈ R := by (repeat (first | with_reducible exact List.mem_cons_self | apply List.mem_cons_of_mem))) : Foot p w F := H.ro p hp
theorem St.less (H : St M F0 w0 F B R w) {R' : List (World → Prop)} (hR : ∀ p ∈ R', p ∈ R) : St M F0 w0 F B R' w := { H with ro := fun p hp => H.ro p (hR p hp) }
theorem St.drop (H : St M F0 w0 F B R w) {B' : List Box} (hB : B'.Sublist B) : St M F0 w0 F B' R w :=
  { H with box := fun x hx => H.box x (hB.subset hx), nf := fun x hx => H.nf x (hB.subset hx), mine := fun x hx => H.mine x (hB.subset hx), nd := H.nd.sublist hB }
theorem St.drew (H : St M F0 w0 F B R w) (n : Nat) : St M F0 w0 F B R (w.drewN n) :=
  { H with os := H.os, tape := H.tape, out := H.out, box := fun x hx => Box.move (H.box x hx) (fun _ _ => rfl), ro := fun p hp => (H.ro p hp).step (fun _ _ _ => rfl) }
/-- What the call owns stays no longer to be written: it joins what stays. -/
theorem St.freeze (H : St M F0 w0 F B R w) {x : Box} (hd : Del B x B') (hM : ∀ k, x.foot = some k → w0.heap.size ≤ k) : St M F0 w0 (fun k => F k ∨ x.foot = some k) B' R w :=
  { St.drop H hd.sub with
    flt := fun k hk => hk.elim (H.flt k) (fun e => H.lt hd.mem e)
    fin := fun k hk => hk.elim (H.fin k) (fun e => .inr (hM k e))
    nf := fun y hy k hk hf => hf.elim (H.nf y (hd.sub.subset hy) k hk) (fun e => hd.apart H.nd y hy k e hk)
    ro := fun p hp => (H.ro p hp).mono (fun _ h => .inl h) }
/-- All that is there stays as it is, and something new is owned. -/
theorem St.grow (H : St M F0 w0 F B R w) (hos : w'.os = w.os) (htape : w'.tape = w.tape) (hout : w'.output = w.output) (hsize : w.heap.size ≤ w'.heap.size) (hk : ∀ k, k < w.heap.size → w'.heap[k]? = w.heap[k]?)
    {x : Box} (hx : x.holds w') (hf : ∀ k, x.foot = some k → w.heap.size ≤ k) : St M F0 w0 F (x :: B) R w' where
  os := hos.trans H.os
  tape := htape.trans H.tape
  out := hout.trans H.out
  size := Nat.le_trans H.size hsize
  keep := fun k hlt hM => (hk k (Nat.lt_of_lt_of_le hlt H.size)).trans (H.keep k hlt hM)
  flt := fun k h => Nat.lt_of_lt_of_le (H.flt k h) hsize
  fin := H.fin
  box := fun y hy => by
    rcases List.mem_cons.1 hy with rfl | hy
    · exact hx
    · exact Box.move (H.box y hy) (fun k e => hk k (H.lt hy e))
  nf := fun y hy k e h => by
    rcases List.mem_cons.1 hy with rfl | hy
    · have := H.flt k h; have := hf k e; omega
    · exact H.nf y hy k e h
  nd := List.pairwise_cons.2 ⟨fun y hy k e e' => by have := H.lt hy e'; have := hf k e; omega, H.nd⟩
  mine := fun y hy k e => by
    rcases List.mem_cons.1 hy with rfl | hy
    · exact .inr (Nat.le_trans H.size (hf k e))
    · exact H.mine y hy k e
  ro := fun p hp => (H.ro p hp).step (fun k _ hlt => hk k hlt)
theorem St.alloc (H : St M F0 w0 F B R w) (t : TypeId) (cs : List Value) : St M F0 w0 F (.mk w.heap.size t cs :: B) R (w.alloc (.cells cs.toArray t (0, 0))) :=
  H.grow (w' := w.alloc (.cells cs.toArray t (0, 0))) rfl rfl rfl (by rw [World.size_alloc]; omega) (fun k hk => Below.heap_alloc w _ k hk) (x := .mk w.heap.size t cs) (blk_new w _) (fun k e => Nat.le_of_eq (Option.some.inj e))
/-- What is owned is turned, or moved to where nothing was. -/
theorem St.turn (H : St M F0 w0 F B R w) {x x' : Box} (hu : Upd B x x' B') (hos : w'.os = w.os) (htape : w'.tape = w.tape) (hout : w'.output = w.output) (hsize : w.heap.size ≤ w'.heap.size)
    (hk : ∀ k, k < w.heap.size → x.foot ≠ some k → w'.heap[k]? = w.heap[k]?) (hx : x'.holds w') (hf : ∀ k, x'.foot = some k → x.foot = some k) : St M F0 w0 F B' R w' := by
  obtain ⟨h1, h2⟩ := hu.of hf H.nd
  have hm := hu.mem
  have hnb : ∀ k, k < w0.heap.size → ¬ M k → x.foot ≠ some k := fun k hlt hM e => (H.mine _ hm k e).elim hM (fun h => by omega)
  exact {
    os := hos.trans H.os
    tape := htape.trans H.tape
    out := hout.trans H.out
    size := Nat.le_trans H.size hsize
    keep := fun k hlt hM => (hk k (Nat.lt_of_lt_of_le hlt H.size) (hnb k hlt hM)).trans (H.keep k hlt hM)
    flt := fun k hf => Nat.lt_of_lt_of_le (H.flt k hf) hsize
    fin := H.fin
    box := fun y hy => by
      rcases h1 y hy with rfl | h
      · exact hx
      · exact Box.move (H.box y h.1) (fun k e => hk k (H.lt h.1 e) (fun e' => h.2 k e' e))
    nf := fun y hy k e => by
      rcases h1 y hy with rfl | h
      · exact H.nf _ hm k (hf k e)
      · exact H.nf y h.1 k e
    nd := h2
    mine := fun y hy k e => by
      rcases h1 y hy with rfl | h
      · exact H.mine _ hm k (hf k e)
      · exact H.mine y h.1 k e
    ro := fun p hp => (H.ro p hp).step (fun k hf hlt => hk k hlt (fun e => H.nf _ hm k e hf)) }
/-- What is owned is given up, and something else is owned: what it was, or what is new. -/
theorem St.swap (H : St M F0 w0 F B R w) {x x' : Box} (hd : Del B x B') (hos : w'.os = w.os) (htape : w'.tape = w.tape) (hout : w'.output = w.output) (hsize : w.heap.size ≤ w'.heap.size)
    (hk : ∀ k, k < w.heap.size → x.foot ≠ some k → w'.heap[k]? = w.heap[k]?) (hx : x'.holds w') (hf : ∀ k, x'.foot = some k → x.foot = some k ∨ w.heap.size ≤ k) : St M F0 w0 F (x' :: B') R w' := by
  have hm := hd.mem
  have hnb : ∀ k, k < w0.heap.size → ¬ M k → x.foot ≠ some k := fun k hlt hM e => (H.mine _ hm k e).elim hM (fun h => by omega)
  have hap := hd.apart H.nd
  exact {
    os := hos.trans H.os
    tape := htape.trans H.tape
    out := hout.trans H.out
    size := Nat.le_trans H.size hsize
    keep := fun k hlt hM => (hk k (Nat.lt_of_lt_of_le hlt H.size) (hnb k hlt hM)).trans (H.keep k hlt hM)
    flt := fun k hf => Nat.lt_of_lt_of_le (H.flt k hf) hsize
    fin := H.fin
    box := fun y hy => by
      rcases List.mem_cons.1 hy with rfl | h
      · exact hx
      · exact Box.move (H.box y (hd.sub.subset h)) (fun k e => hk k (H.lt (hd.sub.subset h) e) (fun e' => hap y h k e' e))
    nf := fun y hy k e hF => by
      rcases List.mem_cons.1 hy with rfl | h
      · rcases hf k e with h | h
        · exact H.nf _ hm k h hF
        · have := H.flt k hF; omega
      · exact H.nf y (hd.sub.subset h) k e hF
    nd := List.pairwise_cons.2 ⟨fun y hy k e e' => by
      rcases hf k e with h | h
      · exact hap y hy k h e'
      · have := H.lt (hd.sub.subset hy) e'; omega, H.nd.sublist hd.sub⟩
    mine := fun y hy k e => by
      rcases List.mem_cons.1 hy with rfl | h
      · rcases hf k e with h | h
        · exact H.mine _ hm k h
        · exact .inr (Nat.le_trans H.size h)
      · exact H.mine y (hd.sub.subset h) k e
    ro := fun p hp => (H.ro p hp).step (fun k hF hlt => hk k hlt (fun e => H.nf _ hm k e hF)) }
/-- A call that turns nothing that was there. -/
theorem St.call (H : St M F0 w0 F B R w) (hb : Below w.heap.size w w') : ∃ F', (∀ k, F k → F' k) ∧ (∀ k, w.heap.size ≤ k → k < w'.heap.size → F' k) ∧ (∀ k, F' k → F k ∨ w.heap.size ≤ k) ∧ St M F0 w0 F' B R w' := by
  refine ⟨fun k => F k ∨ (w.heap.size ≤ k ∧ k < w'.heap.size), fun _ h => .inl h, fun k h h' => .inr ⟨h, h'⟩, fun k h => h.imp id (·.1), ?_⟩
  exact {
    os := hb.os.trans H.os
    tape := hb.tape.trans H.tape
    out := hb.output.trans H.out
    size := Nat.le_trans H.size hb.size
    keep := fun k hk hM => (hb.block k (Nat.lt_of_lt_of_le hk H.size)).trans (H.keep k hk hM)
    flt := fun k hk => hk.elim (fun h => Nat.lt_of_lt_of_le (H.flt k h) hb.size) (·.2)
    fin := fun k hk => hk.elim (H.fin k) (fun h => .inr (Nat.le_trans H.size h.1))
    box := fun x hx => Box.move (H.box x hx) (fun k e => hb.block k (H.lt hx e))
    nf := fun x hx k e hf => hf.elim (H.nf x hx k e) (fun h => absurd (H.lt hx e) (by omega))
    nd := H.nd
    mine := H.mine
    ro := fun p hp => ((H.ro p hp).step (fun k _ hlt => hb.block k hlt)).mono (fun _ h => .inl h) }
end
/-- A row of the call's own, as what is read of it: it lies in what is new. -/
theorem own_foot {α : Type} {d : Kd α} {e base : Nat} {w : World} {v : Value} {xs : List α} (h : Kd.R d e w base (fun _ => True) v xs) :
    ∃ A c, v = .slice A xs.length c ∧ xs.length ≤ c ∧ Foot (fun W => d.C W A xs.length xs) w (fun k => base ≤ k ∧ k < w.heap.size) := by
  obtain ⟨A, c, rfl, hl, hf⟩ := Kd.R_V (base' := base) (Kd.R_bound h)
  exact ⟨A, c, rfl, hl, Foot.mono hf (fun k hk => ⟨hk.2.1, hk.2.2.1⟩)⟩
def putC (cs : List Value) (i : Nat) (vs : List Value) : List Value := cs.take i ++ vs ++ cs.drop (i + vs.length)
theorem St.store {P : Program} {M F0 F : Nat → Prop} {w0 w : World} {B B' : List Box} {R : List (World → Prop)} (H : St M F0 w0 F B R w) {b i : Nat} {t : TypeId} {cs vs : List Value} (hu : Upd B (.mk b t cs) (.mk b t (putC cs i vs)) B') (hl : i + vs.length ≤ cs.length) (h1 : ∀ v ∈ vs, v.oneCell' = true) :
    ∃ w', (storeCells ⟨b, i, none⟩ vs).run P w = .ok () w' ∧ St M F0 w0 F B' R w' := by
  have hb : w.heap[b]? = some (.cells cs.toArray t (0, 0)) := H.box _ hu.mem
  refine ⟨_, run_storeCells_at P b i t vs 0 cs.toArray w hb (by simpa using hl) h1, H.turn hu rfl rfl rfl (by simp [World.setRow]) (fun k _ hk => ?_) ?_ (fun _ h => h)⟩
  · have hne : k ≠ b := fun e => hk (by subst e; rfl)
    simp only [World.setRow, Array.getElem?_modify]
    rw [if_neg (Ne.symm hne)]
  · show (w.setRow b _).heap[b]? = _
    rw [setRow_heap w b _ _ t _ hb]
    simp [putC]
end Go.Proofs.YtniplmjbligmlaaDoor.SL

/-! Plain words that all plain laws use: bytes as lists, numbers that need no wrap, answers behind enough rounds. No program in it. -/
namespace Go.Proofs.YtniplmjbligmlaaDoor.Base
open Go.RowKit Go.Proofs.YtniplmjbligmlaaDoorW.PrintWords Go.Proofs.YtniplmjbligmlaaDoorW.PrintLast Go.Proofs.YtniplmjbligmlaaDoorW.PrintMore
set_option linter.unusedVariables false

/-! ### rounds -/
theorem ev_pos {α : Type} {c : Prop} [Decidable c] {g h : Nat → Option α} {r : α} (hc : c) (H : Ev g r) : Ev (fun k => if c then g k else h k) r := by
  simpa only [if_pos hc] using H
theorem ev_neg {α : Type} {c : Prop} [Decidable c] {g h : Nat → Option α} {r : α} (hc : ¬ c) (H : Ev h r) : Ev (fun k => if c then g k else h k) r := by
  simpa only [if_neg hc] using H
theorem ev_now {α : Type} {x : Option α} {r : α} (h : x = some r) : Ev (fun _ => x) r := ⟨0, fun _ _ => h⟩
theorem ev_bind {α β : Type} {g : Nat → Option α} {f : Nat → α → Option β} {a : α} {r : β} (h : Ev g a) (k : Ev (fun n => f n a) r) : Ev (fun n => (g n).bind (f n)) r := Ev.bind h k
theorem ev_some {α β : Type} {x : Option α} {f : Nat → α → Option β} {a : α} {r : β} (h : x = some a) (k : Ev (fun n => f n a) r) : Ev (fun n => x.bind (f n)) r := by
  subst h; exact k
theorem ev_ex {α : Type} {g : Nat → Option α} {r : α} (h : Ev g r) : ∃ k, g k = some r := Ev.rounds h
theorem ev_uniq {α : Type} {g : Nat → Option α} {r q : α} (h : Ev g r) (k : Ev g q) : r = q := by
  obtain ⟨a, ha⟩ := h; obtain ⟨b, hb⟩ := k
  have h1 := ha (max a b) (Nat.le_max_left _ _); have h2 := hb (max a b) (Nat.le_max_right _ _)
  rw [h1] at h2; exact Option.some.inj h2
/-- from so many rounds on -/
theorem ev_from {α : Type} {g : Nat → Option α} {r : α} (K : Nat) (h : ∀ k, K ≤ k → g k = some r) : Ev g r := ⟨K, h⟩
theorem ev_succ {α : Type} {g : Nat → Option α} {r : α} (h : Ev (fun k => g (k + 1)) r) : Ev g r := by
  obtain ⟨K, hK⟩ := h
  exact ⟨K + 1, fun k hk => by have := hK (k - 1) (by omega); simpa [show k - 1 + 1 = k by omega] using this⟩
theorem ev_eq {α : Type} {g : Nat → Option α} {r q : α} (h : Ev g r) (e : r = q) : Ev g q := e ▸ h
theorem ev_fun {α : Type} {g f : Nat → Option α} {r : α} (h : Ev f r) (e : ∀ k, g k = f k) : Ev g r := by
  obtain ⟨K, hK⟩ := h; exact ⟨K, fun k hk => (e k).trans (hK k hk)⟩

/-! ### numbers -/
theorem wrap64_id {n : Int} (h : -9223372036854775808 ≤ n) (h' : n < 9223372036854775808) : wrap64 n = n := by unfold wrap64; omega
theorem wrap_u64 (n : Int) : IntKind.u64.wrap n = n % 18446744073709551616 := by simp [IntKind.wrap, IntKind.bits, IntKind.signed]
theorem wrap_u64_id {n : Int} (h : 0 ≤ n) (h' : n < 18446744073709551616) : IntKind.u64.wrap n = n := by rw [wrap_u64]; omega
theorem wrap_u32 (n : Int) : IntKind.u32.wrap n = n % 4294967296 := IntKind.wrap_u32 n
theorem wrap_u8 (n : Int) : IntKind.u8.wrap n = n % 256 := IntKind.wrap_u8 n
theorem mn_eq (a b : Int) : mn a b = min a b := by unfold mn; omega
theorem mx_eq (a b : Int) : mx a b = max a b := by unfold mx; omega
theorem u64_wf {n : Int} (h : (Lit.int .u64 n).wf = true) : 0 ≤ n ∧ n < 18446744073709551616 := by
  simp [Lit.wf, IntKind.min, IntKind.max, IntKind.bits, IntKind.signed] at h; omega
theorem i64_wf {n : Int} (h : (Lit.int .i64 n).wf = true) : -9223372036854775808 ≤ n ∧ n < 9223372036854775808 := by
  simp [Lit.wf, IntKind.min, IntKind.max, IntKind.bits, IntKind.signed] at h; omega

/-! ### bytes -/
abbrev L (s : ByteArray) : List UInt8 := s.data.toList
def B (l : List UInt8) : ByteArray := ⟨l.toArray⟩
theorem B_L (s : ByteArray) : B (L s) = s := by cases s; simp [B, L]
theorem L_B (l : List UInt8) : L (B l) = l := by simp [B, L]
theorem size_L (s : ByteArray) : s.size = (L s).length := by cases s; simp [L, ByteArray.size]
theorem size_B (l : List UInt8) : (B l).size = l.length := by rw [size_L, L_B]
theorem L_inj {s t : ByteArray} (h : L s = L t) : s = t := by rw [← B_L s, ← B_L t, h]
theorem toList_L (s : ByteArray) : s.toList = L s := ByteArray.toList_eq s
theorem L_extract (s : ByteArray) (i j : Nat) : L (s.extract i j) = ((L s).drop i).take (j - i) := by
  cases s; simp [L]
theorem L_append (s t : ByteArray) : L (s ++ t) = L s ++ L t := by
  cases s; cases t; simp [L]
theorem L_strOfNums (xs : List Int) : L (strOfNums xs) = xs.map fun n => UInt8.ofNat n.toNat := by simp [L, strOfNums]
theorem L_empty : L (⟨#[]⟩ : ByteArray) = [] := rfl
theorem bt_L (s : ByteArray) (i : Int) (h : i.toNat < s.size) : bt s i = (((L s)[i.toNat]'(by rw [← size_L]; exact h)).toNat : Int) := by
  rw [← bt_at s i h]; rfl
end Go.Proofs.YtniplmjbligmlaaDoor.Base

/-! Layer 1 in plain words: numbers as bytes, texts with their length ahead. No program in it. -/
namespace Go.Proofs.YtniplmjbligmlaaDoor.Base
open Go.RowKit Go.Proofs.YtniplmjbligmlaaDoorW.PrintWords Go.Proofs.YtniplmjbligmlaaDoorW.PrintLast Go.Proofs.YtniplmjbligmlaaDoorW.PrintMore
set_option linter.unusedVariables false

def shortS (a : ByteArray) : ByteArray := a.extract 0 (min (a.size : Int) 70000).toNat
/-- a number's bytes, as numbers -/
def numL (n : Nat) : Nat → List Int
  | 0 => []
  | s + 1 => ((n % 256 : Nat) : Int) :: numL (n / 256) s
theorem numL_succ (n s : Nat) : numL n (s + 1) = ((n % 256 : Nat) : Int) :: numL (n / 256) s := rfl
/-- a number in so many bytes, the lowest one first -/
def putL (n : Nat) : Nat → List UInt8
  | 0 => []
  | s + 1 => UInt8.ofNat (n % 256) :: putL (n / 256) s
theorem putL_succ (n s : Nat) : putL n (s + 1) = UInt8.ofNat (n % 256) :: putL (n / 256) s := rfl
/-- the number that bytes make -/
def getL : List UInt8 → Nat
  | [] => 0
  | b :: r => b.toNat + 256 * getL r
theorem strOfNums_numL (n s : Nat) : strOfNums (numL n s) = B (putL n s) := by
  apply L_inj; rw [L_strOfNums, L_B]
  induction s generalizing n with
  | zero => rfl
  | succ s ih =>
    simp only [numL, putL, List.map_cons, ih]
    rw [show ((n % 256 : Nat) : Int).toNat = n % 256 by omega]
theorem putL_length (n s : Nat) : (putL n s).length = s := by
  induction s generalizing n with
  | zero => rfl
  | succ s ih => simp [putL, ih]
theorem getL_putL (n s : Nat) : getL (putL n s) = n % 256 ^ s := by
  induction s generalizing n with
  | zero => simp [putL, getL, Nat.mod_one]
  | succ s ih =>
    simp only [putL, getL, ih]
    have e : (UInt8.ofNat (n % 256)).toNat = n % 256 := by simp
    rw [e, Nat.pow_succ, Nat.mul_comm (256 ^ s) 256, Nat.mod_mul]
theorem getL_lt (l : List UInt8) : getL l < 256 ^ l.length := by
  induction l with
  | nil => simp [getL]
  | cons b r ih =>
    simp only [getL, List.length_cons, Nat.pow_succ]
    have := b.toNat_lt
    have e : 256 ^ r.length * 256 = 256 * 256 ^ r.length := Nat.mul_comm _ _
    omega
theorem putL_getL (l : List UInt8) : putL (getL l) l.length = l := by
  induction l with
  | nil => rfl
  | cons b r ih =>
    have h := b.toNat_lt
    simp only [List.length_cons, putL, getL]
    rw [show (b.toNat + 256 * getL r) % 256 = b.toNat by omega, show (b.toNat + 256 * getL r) / 256 = getL r by omega, ih]
    simp
theorem getL_append (l m : List UInt8) : getL (l ++ m) = getL l + 256 ^ l.length * getL m := by
  induction l with
  | nil => simp [getL]
  | cons b r ih => simp only [List.cons_append, getL, ih, List.length_cons, Nat.pow_succ]; rw [Nat.mul_add, ← Nat.mul_assoc, Nat.mul_comm 256 (256 ^ r.length)]; omega
theorem take_set_succ {α : Type} (xs : List α) (i : Nat) (v : α) (h : i < xs.length) : (xs.set i v).take (i + 1) = xs.take i ++ [v] := by
  rw [List.take_succ_eq_append_getElem (by simpa using h), List.take_set_of_le (Nat.le_refl _)]; simp
theorem pow256 (i : Nat) : (2 : Nat) ^ (8 * i) = 256 ^ i := by rw [Nat.pow_mul]
theorem shr_div (n i : Int) (h0 : 0 ≤ n) (hi : 0 ≤ i) (h8 : i ≤ 8) : shr .u64 n (8 * i) = ((n.toNat / 256 ^ i.toNat : Nat) : Int) := by
  obtain ⟨n, rfl⟩ := Int.eq_ofNat_of_zero_le h0
  obtain ⟨i, rfl⟩ := Int.eq_ofNat_of_zero_le hi
  unfold shr
  rw [show min (8 * (i : Int)).toNat IntKind.u64.bits = 8 * i by simp [IntKind.bits]; omega]
  simp only [Int.toNat_natCast]
  rw [← pow256]; simp
theorem shr_byte (n i : Int) (h0 : 0 ≤ n) (hi : 0 ≤ i) (h8 : i ≤ 8) : shr .u64 n (8 * i) % 256 = ((n.toNat / 256 ^ i.toNat % 256 : Nat) : Int) := by
  rw [shr_div n i h0 hi h8]; simp
theorem shr_zero (n i : Int) (h0 : 0 ≤ n) (hi : 0 ≤ i) (h8 : i ≤ 8) : (shr .u64 n (8 * i) != 0) = decide (n.toNat ≥ 256 ^ i.toNat) := by
  rw [shr_div n i h0 hi h8]
  have hp : 0 < 256 ^ i.toNat := Nat.pow_pos (by decide)
  rw [Bool.eq_iff_iff]
  simp only [bne_iff_ne, ne_eq, decide_eq_true_eq]
  rw [show (((n.toNat / 256 ^ i.toNat : Nat) : Int) = 0) ↔ n.toNat / 256 ^ i.toNat = 0 by omega, Nat.div_eq_zero_iff]
  omega
/-- 'le.Put' -/
def putS (n size : Int) : ByteArray × Int := if size < 1 ∨ size > 8 ∨ n.toNat ≥ 256 ^ size.toNat then (⟨#[]⟩, 1) else (B (putL n.toNat size.toNat), 0)
/-- 'le.Get' -/
def getS (s : ByteArray) (at_ size : Int) : Int × Int × Int :=
  if size < 1 ∨ size > 8 ∨ at_ < 0 then (0, 0, 1) else if at_ > s.size ∨ s.size - at_ < size then (0, 0, 3) else (getL (((L s).drop at_.toNat).take size.toNat), at_ + size, 0)
theorem getS_arg {s : ByteArray} {a size : Int} (h : size < 1 ∨ size > 8 ∨ a < 0) : getS s a size = (0, 0, 1) := by unfold getS; rw [if_pos h]
theorem getS_short {s : ByteArray} {a size : Int} (h : ¬ (size < 1 ∨ size > 8 ∨ a < 0)) (h2 : a > s.size ∨ (s.size : Int) - a < size) : getS s a size = (0, 0, 3) := by unfold getS; rw [if_neg h, if_pos h2]
theorem getS_ok {s : ByteArray} {a size : Int} (h : ¬ (size < 1 ∨ size > 8 ∨ a < 0)) (h2 : ¬ (a > s.size ∨ (s.size : Int) - a < size)) : getS s a size = (((getL (((L s).drop a.toNat).take size.toNat) : Nat) : Int), a + size, 0) := by unfold getS; rw [if_neg h, if_neg h2]
/-- 'le.Text' -/
def textS (s : ByteArray) : ByteArray × Int := if (s.size : Int) > 65535 then (⟨#[]⟩, 2) else (B (putL s.size 2 ++ L s), 0)
/-- 'le.Cut' -/
def cutS (s : ByteArray) (at_ : Int) : ByteArray × Int × Int :=
  if at_ < 0 then (⟨#[]⟩, 0, 1) else if at_ > s.size ∨ (s.size : Int) - at_ < 2 then (⟨#[]⟩, 0, 3)
  else if at_ + 2 + getL (((L s).drop at_.toNat).take 2) > s.size then (⟨#[]⟩, 0, 3)
  else (s.extract (at_ + 2).toNat (at_ + 2 + getL (((L s).drop at_.toNat).take 2)).toNat, at_ + 2 + getL (((L s).drop at_.toNat).take 2), 0)
theorem bits_or_comm (k : IntKind) (x y : Int) : Go.bits .or k x y = Go.bits .or k y x := by
  unfold Go.bits; simp only [BitVec.or_comm]
/-- a byte put on top -/
theorem or_byte (acc b : Nat) (i : Int) (hi : 0 ≤ i) (h8 : i < 8) (ha : acc < 256 ^ i.toNat) (hb : b < 256) :
    Go.bits .or .u64 (acc : Int) (shl .u64 (b : Int) (8 * i)) = ((acc + 256 ^ i.toNat * b : Nat) : Int) := by
  obtain ⟨i, rfl⟩ := Int.eq_ofNat_of_zero_le hi
  have h7 : i ≤ 7 := by omega
  simp only [Int.toNat_natCast] at ha ⊢
  have hle : 256 ^ i * b + 256 ^ i ≤ 256 ^ 8 := by
    have h1 : 256 ^ i * (b + 1) ≤ 256 ^ 7 * 256 := Nat.mul_le_mul (Nat.pow_le_pow_right (by decide) h7) (by omega)
    rw [Nat.mul_add, Nat.mul_one] at h1
    exact h1
  have e8 : (256 : Nat) ^ 8 = 18446744073709551616 := by decide
  have e64 : ((2 : Int) ^ 64) = 18446744073709551616 := by decide
  have ep : ((2 : Int) ^ (8 * i)) = ((256 ^ i : Nat) : Int) := by rw [← pow256]; simp
  have hs : shl .u64 (b : Int) (8 * (i : Int)) = ((256 ^ i * b : Nat) : Int) := by
    unfold shl
    rw [show min (8 * (i : Int)).toNat IntKind.u64.bits = 8 * i by simp [IntKind.bits]; omega]
    have : ((b : Int) * 2 ^ (8 * i)) = ((256 ^ i * b : Nat) : Int) := by rw [ep, Int.mul_comm, Int.natCast_mul]
    rw [this, wrap_u64_id (by omega) (by omega)]
  rw [hs, bits_or_comm]
  have hlt : ((256 ^ i * b : Nat) : Int) < 2 ^ 64 := by rw [e64]; omega
  have hlt2 : ((acc : Nat) : Int) < 2 ^ (8 * i) := by rw [ep]; omega
  have hlt3 : ((acc : Nat) : Int) < 2 ^ 64 := by rw [e64]; omega
  have hm : ((256 ^ i * b : Nat) : Int) % 2 ^ (8 * i) = 0 := by rw [ep, Int.natCast_mul]; exact Int.mul_emod_right _ _
  rw [Go.bits_join .u64 64 (by decide) (fun n h h' => wrap_u64_id h (by simpa using h')) (8 * i) _ _ (by omega) hm hlt (by omega) hlt2 hlt3]
  omega
theorem getL_snoc (l : List UInt8) (b : UInt8) : getL (l ++ [b]) = getL l + 256 ^ l.length * b.toNat := by
  rw [getL_append]; simp [getL]
theorem textS_ok {s : ByteArray} (h : s.size ≤ 65535) : textS s = (B (putL s.size 2 ++ L s), 0) := by unfold textS; rw [if_neg (by omega)]
theorem cutS_row {s : ByteArray} {a : Nat} {l m r : List UInt8} (h : L s = l ++ (putL m.length 2 ++ m) ++ r) (ha : l.length = a) (hm : m.length ≤ 65535) :
    cutS s a = (B m, (a : Int) + 2 + (m.length : Int), 0) := by
  subst ha
  have hlen : s.size = l.length + (2 + m.length) + r.length := by rw [size_L, h]; simp [putL_length]; omega
  have hd : ((L s).drop (l.length : Int).toNat).take 2 = putL m.length 2 := by
    rw [h, Int.toNat_natCast, List.append_assoc, List.drop_left, List.append_assoc, List.take_append_of_le_length (by rw [putL_length]; omega), List.take_of_length_le (by rw [putL_length]; omega)]
  have hg : getL (putL m.length 2) = m.length := by rw [getL_putL]; exact Nat.mod_eq_of_lt (by omega)
  unfold cutS
  rw [if_neg (by omega), if_neg (by omega), hd, hg, if_neg (by omega)]
  refine Prod.ext ?_ rfl
  apply L_inj
  rw [L_extract, L_B, h, show ((l.length : Int) + 2).toNat = l.length + 2 by omega]
  rw [show ((l.length : Int) + 2 + m.length).toNat - (l.length + 2) = m.length by omega]
  rw [List.append_assoc, ← List.drop_drop, List.drop_left, List.append_assoc, List.drop_append_of_le_length (by rw [putL_length]; omega), List.drop_of_length_le (by rw [putL_length]; omega), List.nil_append, List.take_left]
end Go.Proofs.YtniplmjbligmlaaDoor.Base

/-! Zero bytes taken off the end, and put there, in plain words. No program in it. -/
namespace Go.Proofs.YtniplmjbligmlaaDoor.Base
open Go.RowKit Go.Proofs.YtniplmjbligmlaaDoorW.PrintWords Go.Proofs.YtniplmjbligmlaaDoorW.PrintLast Go.Proofs.YtniplmjbligmlaaDoorW.PrintMore
set_option linter.unusedVariables false

def trimL (l : List UInt8) : List UInt8 := (l.reverse.dropWhile (· == 0)).reverse
def trimS (s : ByteArray) : ByteArray := B (trimL (L s))
/-- 'le.Fill' -/
def fillS (s : ByteArray) (size : Int) : ByteArray × Int := if (s.size : Int) > size then (⟨#[]⟩, 2) else (B (L s ++ List.replicate (size.toNat - s.size) 0), 0)
theorem trimL_nil : trimL [] = [] := rfl
theorem trimL_zero (l : List UInt8) : trimL (l ++ [0]) = trimL l := by simp [trimL]
theorem trimL_other (l : List UInt8) (b : UInt8) (h : b ≠ 0) : trimL (l ++ [b]) = l ++ [b] := by simp [trimL, h]
theorem trimL_zeros (l : List UInt8) (n : Nat) : trimL (l ++ List.replicate n 0) = trimL l := by
  induction n with
  | zero => simp
  | succ n ih => rw [List.replicate_succ', ← List.append_assoc, trimL_zero, ih]
theorem snoc_cases {α : Type} (l : List α) : l = [] ∨ ∃ m b, l = m ++ [b] := by
  rcases List.eq_nil_or_concat l with h | ⟨m, b, h⟩
  · exact .inl h
  · exact .inr ⟨m, b, by simpa using h⟩
theorem trimL_idem (l : List UInt8) : trimL (trimL l) = trimL l := by
  generalize hn : l.length = n
  induction n generalizing l with
  | zero => rw [List.eq_nil_of_length_eq_zero hn]; rfl
  | succ n ih =>
    rcases snoc_cases l with rfl | ⟨m, b, rfl⟩
    · rfl
    by_cases hb : b = 0
    · subst hb; rw [trimL_zero]; exact ih m (by simpa using hn)
    · rw [trimL_other m b hb, trimL_other m b hb]
/-- what is trimmed is the beginning, and behind it stand zero bytes -/
theorem trimL_split (l : List UInt8) : l = trimL l ++ List.replicate (l.length - (trimL l).length) 0 ∧ (trimL l).length ≤ l.length := by
  generalize hn : l.length = n
  induction n generalizing l with
  | zero => rw [List.eq_nil_of_length_eq_zero hn]; simp [trimL]
  | succ n ih =>
    rcases snoc_cases l with rfl | ⟨m, b, rfl⟩
    · simp at hn
    have hm : m.length = n := by simpa using hn
    by_cases hb : b = 0
    · subst hb
      obtain ⟨h1, h2⟩ := ih m hm
      rw [trimL_zero]
      refine ⟨?_, by omega⟩
      rw [show n + 1 - (trimL m).length = (n - (trimL m).length) + 1 by omega, List.replicate_succ', ← List.append_assoc, ← h1]
    · rw [trimL_other m b hb]; simp [hm]
theorem trimL_last (l : List UInt8) (h : trimL l ≠ []) : ∃ m b, trimL l = m ++ [b] ∧ b ≠ 0 := by
  generalize hn : l.length = n
  induction n generalizing l with
  | zero => rw [List.eq_nil_of_length_eq_zero hn] at h; exact absurd rfl h
  | succ n ih =>
    rcases snoc_cases l with rfl | ⟨m, b, rfl⟩
    · exact absurd rfl h
    by_cases hb : b = 0
    · subst hb; rw [trimL_zero] at h ⊢; exact ih m h (by simpa using hn)
    · exact ⟨m, b, trimL_other m b hb, hb⟩
theorem trimS_size (s : ByteArray) : (trimS s).size ≤ s.size := by
  unfold trimS; rw [size_B, size_L]; exact (trimL_split (L s)).2
theorem trimS_idem (s : ByteArray) : trimS (trimS s) = trimS s := by unfold trimS; rw [L_B, trimL_idem]
theorem byte_zero (b : UInt8) : (b.toNat : Int) = 0 ↔ b = 0 := by
  constructor
  · intro h; apply UInt8.toNat_inj.1; simpa using h
  · rintro rfl; rfl
theorem L_take_pred (s : ByteArray) (m : List UInt8) (b : UInt8) (h : L s = m ++ [b]) : L (s.extract 0 (s.size - 1)) = m ∧ bt s ((s.size : Int) - 1) = (b.toNat : Int) := by
  have hsz : s.size = m.length + 1 := by rw [size_L, h]; simp
  refine ⟨?_, ?_⟩
  · rw [L_extract, h, List.drop_zero, Nat.sub_zero, hsz, Nat.add_sub_cancel, List.take_left]
  · have hlt : ((s.size : Int) - 1).toNat < s.size := by omega
    rw [bt_L s _ hlt]
    have e : ((s.size : Int) - 1).toNat = m.length := by omega
    congr 2
    simp only [e, h]
    simp
end Go.Proofs.YtniplmjbligmlaaDoor.Base

/-! Layer 3 in plain words: which disks may be, what a sector tells, what a crash leaves. No program in it but the printed structures. -/
namespace Go.Proofs.YtniplmjbligmlaaDoor.Q
open Go.RowKit Go.Proofs.YtniplmjbligmlaaDoorW.PrintWords Go.Proofs.YtniplmjbligmlaaDoorW.PrintLast Go.Proofs.YtniplmjbligmlaaDoorW.PrintMore Go.Proofs.YtniplmjbligmlaaDoor.Base
set_option linter.unusedVariables false
def standsB (s : ByteArray) : Bool := decide (s.size ≤ 512) && decide (trimS s = s)
def hasB (n : Nat) (a : Int) : Bool := decide (0 ≤ a) && decide (a < (n : Int))
def badW (n : Nat) (x : S42) : Bool := !(hasB n x.f0) || !(standsB x.f1)
def rightB (l0 : List ByteArray) (l1 : List S42) : Bool := decide (1 ≤ l0.length) && decide (l0.length ≤ 256) && l0.all standsB && !(l1.any (badW l0.length))
end Go.Proofs.YtniplmjbligmlaaDoor.Q

/-! Go functions as Lean functions, each with a proof that the Go code comes to its answers; written by a program of this repository (mk.py, over the printer of the kit). Lean checks it. -/
namespace Go.Proofs.YtniplmjbligmlaaDoor.Q
open Go.RowKit Go.Proofs.YtniplmjbligmlaaDoorW.PrintWords Go.Proofs.YtniplmjbligmlaaDoorW.PrintLast Go.Proofs.YtniplmjbligmlaaDoorW.PrintMore
attribute [local go_sem] max2_int min2_int max_two min_two max_three min_three max_four min_four   -- for this text's walks alone
set_option linter.unusedVariables false
set_option linter.unusedSimpArgs false

/-! ### doorwardlaw03_few: function 15 -/
def doorwardlaw03_few.f (l0_0 : List ByteArray) (l0_1 : List (S42)) : Option (List ByteArray × (List (S42))) := if 0 ≤ (mn (l0_0.length : Int) 300) then (if (mn (l0_0.length : Int) 300) ≤ (l0_0.length : Int) then (if 0 ≤ (mn (l0_1.length : Int) 40) then (if (mn (l0_1.length : Int) 40) ≤ (l0_1.length : Int) then (some ((l0_0.take ((mn (l0_0.length : Int) 300) : Int).toNat), (l0_1.take ((mn (l0_1.length : Int) 40) : Int).toNat))) else (none)) else (none)) else (none)) else (none)
def doorwardlaw03_few.T1 : Bool × List (List Nat × List Nat) := (true, [([], []), ([0], [0]), ([], []), ([2], [2]), ([3], [3]), ([4], [4]), ([1, 5], [1, 5]), ([], []), ([7], [7]), ([], []), ([9], [9]), ([10], [10]), ([11], [11]), ([8, 12], [8, 12]), ([0, 1, 2, 3, 4, 5, 6, 7, 8, 9, 10], []), ([14, 6, 0, 1, 2, 3, 4, 5, 6, 7, 8, 9, 10], [6, 14]), ([0, 1, 2, 3, 4, 5, 6, 7, 8, 9, 10, 11, 12, 13, 14, 15], []), ([16, 13, 15, 0, 1, 2, 3, 4, 5, 6, 7, 8, 9, 10, 11, 12, 13, 14, 15], [13, 16])])
def doorwardlaw03_few.B1 : List Nat := [0, 1, 0, 4, 12, 28, 63, 0, 128, 0, 512, 1536, 3584, 8064, 2047, 18431, 65535, 131071]
theorem doorwardlaw03_few.tab1 : rtab .any (opsOf Tryd.f15 1) = doorwardlaw03_few.T1 := by kernel_rfl
theorem doorwardlaw03_few.bits1 : waitsOk doorwardlaw03_few.T1.2 doorwardlaw03_few.B1 = true := by kernel_rfl
set_option maxHeartbeats 8000000 in
set_option maxRecDepth 100000 in
theorem doorwardlaw03_few.calls (P0_0_ : Nat → Prop) (A0_0 : Option Addr) (c0_0 : Nat) (l0_0 : List ByteArray) (P0_1_ : Nat → Prop) (A0_1 : Option Addr) (c0_1 : Nat) (l0_1 : List (S42)) (r1 : List ByteArray) (r2 : List (S42)) (w : World) (hs0_0 : Kd.V Kd.string 9 w w.heap.size (fun k_ => P0_0_ k_) (.slice A0_0 l0_0.length c0_0) l0_0) (hs0_1 : Kd.V k42 42 w w.heap.size (fun k_ => P0_1_ k_) (.slice A0_1 l0_1.length c0_1) l0_1) (h : doorwardlaw03_few.f l0_0 l0_1 = some (r1, r2)) :
    Calls Tryd.prog 15 #[.agg #[.slice A0_0 l0_0.length c0_0, .slice A0_1 l0_1.length c0_1]] w fun e w' => ∃ v0_ v1_ : Value, e = .returned (.agg #[v0_, v1_]) ∧ Kd.V Kd.string 9 w' w.heap.size (fun k_ => ((P0_0_ k_ ∨ P0_1_ k_) ∨ w.heap.size ≤ k_)) v0_ r1 ∧ Kd.V k42 42 w' w.heap.size (fun k_ => ((P0_0_ k_ ∨ P0_1_ k_) ∨ w.heap.size ≤ k_)) v1_ r2 ∧ Below w.heap.size w w' := by
  have hu25 := Tryd.underlying25
  have HO0_0 := Aside0.mk (show Kd.V Kd.string 9 w w.heap.size (fun k_ => ((P0_0_ k_ ∨ P0_1_ k_) ∨ w.heap.size ≤ k_)) (.slice A0_0 l0_0.length c0_0) l0_0 from Kd.V_mono hs0_0 (fun k_ hk => .inl (.inl hk)))
  have HO0_1 := Aside0.mk (show Kd.V k42 42 w w.heap.size (fun k_ => ((P0_0_ k_ ∨ P0_1_ k_) ∨ w.heap.size ≤ k_)) (.slice A0_1 l0_1.length c0_1) l0_1 from Kd.V_mono hs0_1 (fun k_ hk => .inl (.inr hk)))
  have HB := Aside0.mk (Below.refl w.heap.size w)
  have H : (if 0 ≤ (mn (l0_0.length : Int) 300) then (if (mn (l0_0.length : Int) 300) ≤ (l0_0.length : Int) then (if 0 ≤ (mn (l0_1.length : Int) 40) then (if (mn (l0_1.length : Int) 40) ≤ (l0_1.length : Int) then (some ((l0_0.take ((mn (l0_0.length : Int) 300) : Int).toNat), (l0_1.take ((mn (l0_1.length : Int) 40) : Int).toNat))) else (none)) else (none)) else (none)) else (none)) = some (r1, r2) := h
  clear h
  obtain ⟨ji2, hji2⟩ : ∃ j_ : Int, (mn (l0_0.length : Int) 300) = j_ := ⟨_, rfl⟩
  replace H : (if 0 ≤ (ji2) then (if (ji2) ≤ (l0_0.length : Int) then (if 0 ≤ (mn (l0_1.length : Int) 40) then (if (mn (l0_1.length : Int) 40) ≤ (l0_1.length : Int) then (some ((l0_0.take ((ji2) : Int).toNat), (l0_1.take ((mn (l0_1.length : Int) 40) : Int).toNat))) else (none)) else (none)) else (none)) else (none)) = some (r1, r2) := by first | (rw [hji2] at H; exact H) | (simp only [hji2] at H ⊢; exact H)
  (try (have hji2h : ji2 ≤ 300 := by (rw [← hji2]; unfold mn; (repeat' split) <;> omega)))
  (try (have hji2g : ji2 ≤ 64 := by omega))
  (try (have hji2l : 0 ≤ ji2 := by (rw [← hji2]; unfold mn; (repeat' split) <;> omega)))
  (try (have hji2m : 0 ≤ ji2 := by omega))
  have hji2_ : (if 300 < (l0_0.length : Int) then 300 else (l0_0.length : Int)) = ji2 := hji2
  by_cases c3 : 0 ≤ (ji2)
  · rw [if_pos c3] at H
    have c3b0 := eq_true c3
    have c3b1 : decide (0 ≤ (ji2)) = true := decide_eq_true c3
    clear c3
    by_cases c4 : (ji2) ≤ (l0_0.length : Int)
    · rw [if_pos c4] at H
      have c4b0 := eq_true c4
      have c4b1 : decide ((ji2) ≤ (l0_0.length : Int)) = true := decide_eq_true c4
      clear c4
      obtain ⟨y103, hy103⟩ : ∃ y_ : List ByteArray, y_ = (l0_0.take ((ji2) : Int).toNat) := ⟨_, rfl⟩
      replace H : (if 0 ≤ (mn (l0_1.length : Int) 40) then (if (mn (l0_1.length : Int) 40) ≤ (l0_1.length : Int) then (some (y103, (l0_1.take ((mn (l0_1.length : Int) 40) : Int).toNat))) else (none)) else (none)) = some (r1, r2) := by first | (rw [hy103]; with_reducible exact H) | (have H2_ := (Option.bind_some _ _).symm.trans H; rw [hy103]; with_reducible exact H2_) | (have H2_ := (Option.bind_some _ _).symm.trans H; with_reducible exact H2_) | with_reducible exact H | (rw [hy103]; exact H) | exact H
      have Ny103 := Aside0.mk hy103
      clear hy103
      obtain ⟨ji5, hji5⟩ : ∃ j_ : Int, (mn (l0_1.length : Int) 40) = j_ := ⟨_, rfl⟩
      replace H : (if 0 ≤ (ji5) then (if (ji5) ≤ (l0_1.length : Int) then (some (y103, (l0_1.take ((ji5) : Int).toNat))) else (none)) else (none)) = some (r1, r2) := by first | (rw [hji5] at H; exact H) | (simp only [hji5] at H ⊢; exact H)
      (try (have hji5h : ji5 ≤ 40 := by (rw [← hji5]; unfold mn; (repeat' split) <;> omega)))
      (try (have hji5g : ji5 ≤ 64 := by omega))
      (try (have hji5l : 0 ≤ ji5 := by (rw [← hji5]; unfold mn; (repeat' split) <;> omega)))
      (try (have hji5m : 0 ≤ ji5 := by omega))
      have hji5_ : (if 40 < (l0_1.length : Int) then 40 else (l0_1.length : Int)) = ji5 := hji5
      by_cases c6 : 0 ≤ (ji5)
      · rw [if_pos c6] at H
        have c6b0 := eq_true c6
        have c6b1 : decide (0 ≤ (ji5)) = true := decide_eq_true c6
        clear c6
        by_cases c7 : (ji5) ≤ (l0_1.length : Int)
        · rw [if_pos c7] at H
          have c7b0 := eq_true c7
          have c7b1 : decide ((ji5) ≤ (l0_1.length : Int)) = true := decide_eq_true c7
          clear c7
          obtain ⟨y108, hy108⟩ : ∃ y_ : List (S42), y_ = (l0_1.take ((ji5) : Int).toNat) := ⟨_, rfl⟩
          replace H : (some (y103, y108)) = some (r1, r2) := by first | (rw [hy108]; with_reducible exact H) | (have H2_ := (Option.bind_some _ _).symm.trans H; rw [hy108]; with_reducible exact H2_) | (have H2_ := (Option.bind_some _ _).symm.trans H; with_reducible exact H2_) | with_reducible exact H | (rw [hy108]; exact H) | exact H
          have Ny108 := Aside0.mk hy108
          clear hy108
          simp only [Option.some.injEq, Prod.mk.injEq] at H
          obtain ⟨rfl, rfl⟩ := H
          go_enter Tryd.func15, Tryd.ntmps15
          try go_wp2_with (first | ((with_reducible refine gate_dst (N := 1) rfl ?_); refine box_event ?hg (N := 1) ?hd (cs := #[.slice A0_0 l0_0.length c0_0, .slice A0_1 l0_1.length c0_1]) (t := 25) ?hr ?_; (case hd => rfl); (case hg => rfl); (case hr => first | (go_simp; done) | (go_simp; rfl)); intro gb101 hg w8 hbox hb; have n0_ := Aside0.mk (Kd.V_below (Kd.V_elderB (by (with_reducible repeat (first | apply Kd.V_alloc | apply Kd.V_drewN | apply Kd.V_drew)); exact HO0_0.out) gb101 (Nat.le_of_eq hg.symm)) hb); have n1_ := Aside0.mk (Kd.V_below (Kd.V_elderB (by (with_reducible repeat (first | apply Kd.V_alloc | apply Kd.V_drewN | apply Kd.V_drew)); exact HO0_1.out) gb101 (Nat.le_of_eq hg.symm)) hb); have n2_ := Aside0.mk (below_step (by repeat (first | (with_reducible first | exact HB.out | apply below_alloc | apply pw_below_drewN | apply below_drew1) | exact HB.out)) hb); have n3_ := Aside0.mk (hbox); have n4_ := Aside0.mk ((by rw [hg]; exact (below_size (by repeat (first | (with_reducible first | exact HB.out | apply below_alloc | apply pw_below_drewN | apply below_drew1) | exact HB.out))) : w.heap.size ≤ gb101)); have n5_ := Aside0.mk ((by rw [hg]; exact (below_size (by repeat (first | (with_reducible first | exact HB.out | apply below_alloc | apply pw_below_drewN | apply below_drew1) | exact HB.out))) : w.heap.size ≤ gb101)); clear HO0_0; clear HO0_1; clear HB; have HO0_0 := n0_; have HO0_1 := n1_; have HB := n2_; have BK101 := n3_; have GW101 := n4_; have GE101 := n5_; clear n0_ n1_ n2_ n3_ n4_ n5_; clear hb hbox hg) | ((with_reducible refine gate_dst (N := 2) rfl ?_); refine box_event ?hg (N := 2) ?hd (cs := #[.slice none 0 0, .slice none 0 0]) (t := 25) ?hr ?_; (case hd => rfl); (case hg => rfl); (case hr => first | (go_simp; done) | (go_simp; rfl)); intro gb102 hg w9 hbox hb; have n0_ := Aside0.mk (Kd.V_below (Kd.V_elderB (by (with_reducible repeat (first | apply Kd.V_alloc | apply Kd.V_drewN | apply Kd.V_drew)); exact HO0_0.out) gb102 (Nat.le_of_eq hg.symm)) hb); have n1_ := Aside0.mk (Kd.V_below (Kd.V_elderB (by (with_reducible repeat (first | apply Kd.V_alloc | apply Kd.V_drewN | apply Kd.V_drew)); exact HO0_1.out) gb102 (Nat.le_of_eq hg.symm)) hb); have n2_ := Aside0.mk (blk_below (g := gb101) (o := .cells #[.slice A0_0 l0_0.length c0_0, .slice A0_1 l0_1.length c0_1] 25 (0, 0)) (by (with_reducible repeat (first | refine blk_drewN ?_ _ | refine blk_drew ?_ | refine blk_alloc ?_ _)); exact BK101.out) hb); have n3_ := Aside0.mk (below_step (by repeat (first | (with_reducible first | exact HB.out | apply below_alloc | apply pw_below_drewN | apply below_drew1 | refine below_set ?_ GE101.out) | exact HB.out)) hb); have n4_ := Aside0.mk (hbox); have n5_ := Aside0.mk ((by rw [hg]; exact (below_size (by repeat (first | (with_reducible first | exact HB.out | apply below_alloc | apply pw_below_drewN | apply below_drew1 | refine below_set ?_ GE101.out) | exact HB.out))) : w.heap.size ≤ gb102)); have n6_ := Aside0.mk ((by rw [hg]; exact (below_size (by repeat (first | (with_reducible first | exact HB.out | apply below_alloc | apply pw_below_drewN | apply below_drew1 | refine below_set ?_ GE101.out) | exact HB.out))) : w.heap.size ≤ gb102)); have n7_ := Aside0.mk ((by rw [hg]; exact Nat.ne_of_lt (blk_lt (g := gb101) (o := .cells #[.slice A0_0 l0_0.length c0_0, .slice A0_1 l0_1.length c0_1] 25 (0, 0)) (by (with_reducible repeat (first | refine blk_drewN ?_ _ | refine blk_drew ?_ | refine blk_alloc ?_ _)); exact BK101.out)) : gb101 ≠ gb102)); have n8_ := Aside0.mk ((by rw [hg]; exact Nat.ne_of_gt (blk_lt (g := gb101) (o := .cells #[.slice A0_0 l0_0.length c0_0, .slice A0_1 l0_1.length c0_1] 25 (0, 0)) (by (with_reducible repeat (first | refine blk_drewN ?_ _ | refine blk_drew ?_ | refine blk_alloc ?_ _)); exact BK101.out)) : gb102 ≠ gb101)); clear HO0_0; clear HO0_1; clear BK101; clear HB; have HO0_0 := n0_; have HO0_1 := n1_; have BK101 := n2_; have HB := n3_; have BK102 := n4_; have GW102 := n5_; have GE102 := n6_; have NB101_102 := n7_; have NB102_101 := n8_; clear n0_ n1_ n2_ n3_ n4_ n5_ n6_ n7_ n8_; clear hb hbox hg))
          have n0_ := Aside0.mk (Kd.V_drew HO0_0.out)
          have n1_ := Aside0.mk (Kd.V_drew HO0_1.out)
          have n2_ := Aside0.mk (blk_drew BK101.out)
          have n3_ := Aside0.mk (blk_drew BK102.out)
          have n4_ := Aside0.mk (below_drew1 HB.out)
          clear HO0_0
          clear HO0_1
          clear BK101
          clear BK102
          clear HB
          have HO0_0 := n0_
          have HO0_1 := n1_
          have BK101 := n2_
          have BK102 := n3_
          have HB := n4_
          clear n0_ n1_ n2_ n3_ n4_
          have q11 : ((ji2) : Int) ≤ ((l0_0.length : Int) : Int) := of_decide_eq_true (by first | (with_reducible assumption) | assumption)
          obtain ⟨i011, hi011, _, hsz11, _⟩ := info_parts info9
          have hroom11 : l0_0.length ≤ c0_0 := (Kd.V_reads' HO0_0.out).2.1
          have hC11 : Kd.F Kd.string _ _ A0_0 l0_0.length l0_0 := (Kd.V_at (base := w.heap.size) HO0_0.out).2.2
          have hcut11 := cut_to (P := Tryd.prog) 22 9 .i64 Tryd.underlying22 hi011 A0_0 l0_0.length c0_0 (ji2) (of_decide_eq_true (by first | (with_reducible assumption) | assumption)) q11 hroom11
          have hr11 := Kd.F_take (m := ((ji2) : Int).toNat) hC11 (by omega)
          have hy11 : y103.length = ((ji2) : Int).toNat := (by rw [Ny103.out, List.length_take]; omega)
          rw [← Ny103.out] at hr11
          rw [← hy11] at hcut11
          have HO107 := Aside0.mk (show Kd.V Kd.string 9 _ w.heap.size _ (.slice A0_0 y103.length c0_0) y103 from Kd.V_mk (by omega) hr11)
          have HC107 := Aside0.mk (show y103.length ≤ c0_0 from by omega)
          clear hr11 hC11 hroom11 hi011 hsz11
          have KY11 := Aside0.mk hy11
          clear hy11
          replace q11 := eq_true q11
          have q12 : ((ji5) : Int) ≤ ((l0_1.length : Int) : Int) := of_decide_eq_true (by first | (with_reducible assumption) | assumption)
          obtain ⟨i012, hi012, _, hsz12, _⟩ := info_parts info42
          have hroom12 : l0_1.length ≤ c0_1 := (Kd.V_reads' HO0_1.out).2.1
          have hC12 : Kd.F k42 _ _ A0_1 l0_1.length l0_1 := (Kd.V_at (base := w.heap.size) HO0_1.out).2.2
          have hcut12 := cut_to (P := Tryd.prog) 23 42 .i64 Tryd.underlying23 hi012 A0_1 l0_1.length c0_1 (ji5) (of_decide_eq_true (by first | (with_reducible assumption) | assumption)) q12 hroom12
          have hr12 := Kd.F_take (m := ((ji5) : Int).toNat) hC12 (by omega)
          have hy12 : y108.length = ((ji5) : Int).toNat := (by rw [Ny108.out, List.length_take]; omega)
          rw [← Ny108.out] at hr12
          rw [← hy12] at hcut12
          have HO112 := Aside0.mk (show Kd.V k42 42 _ w.heap.size _ (.slice A0_1 y108.length c0_1) y108 from Kd.V_mk (by omega) hr12)
          have HC112 := Aside0.mk (show y108.length ≤ c0_1 from by omega)
          clear hr12 hC12 hroom12 hi012 hsz12
          have KY12 := Aside0.mk hy12
          clear hy12
          replace q12 := eq_true q12
          refine start_ (n := 18) (S := fun w' => w'.cell? ⟨gb101, 0, none⟩ = some (.slice A0_0 l0_0.length c0_0) ∧ w'.cell? ⟨gb101, 1, none⟩ = some (.slice A0_1 l0_1.length c0_1)) (ds := [15, 17]) #[false, false, false, false, false, false, false, false, false, false, false, false, false, false, false, false, false, false] (by kernel_rfl) rfl rfl ⟨(blk_cell BK101.out 0).trans rfl, (blk_cell BK101.out 1).trans rfl⟩ (fun hHeld => ?_); refine with_tabW doorwardlaw03_few.tab1 doorwardlaw03_few.bits1 (fun HT_ HW_ => ?_)
          generalize w9.drew = w10 at HO0_0 HO0_1 BK101 BK102 HB HO107 HO112 hHeld ⊢
          refine pure_ (i := 0) (N := some 3) (v := ?_) (a' := ?_) #[true, false, false, false, false, false, false, false, false, false, false, false, false, false, false, false, false, false] rfl rfl (any_of HT_.out (by kernel_rfl)) (fun _ _ _ h => h) (Or.inl ⟨by rfl, ?_⟩) ?_ ?_
          rotate_left
          · intro w'
            go_simp
            with_reducible rfl
          rotate_left
          · simp only [Act.put, List.setIfInBounds_toArray, List.set_cons_zero, List.set_cons_succ, i64_w, i32_w]
            rfl
          refine pure_ (i := 2) (N := some 5) (v := ?_) (a' := ?_) #[true, false, true, false, false, false, false, false, false, false, false, false, false, false, false, false, false, false] rfl rfl (any_of HT_.out (by kernel_rfl)) (fun _ _ _ h => h) (Or.inl ⟨by rfl, ?_⟩) ?_ ?_
          rotate_left
          · intro w'
            go_simp
            with_reducible rfl
          rotate_left
          · simp only [Act.put, List.setIfInBounds_toArray, List.set_cons_zero, List.set_cons_succ, i64_w, i32_w]
            rfl
          refine pure_ (i := 7) (N := some 10) (v := ?_) (a' := ?_) #[true, false, true, false, false, false, false, true, false, false, false, false, false, false, false, false, false, false] rfl rfl (any_of HT_.out (by kernel_rfl)) (fun _ _ _ h => h) (Or.inl ⟨by rfl, ?_⟩) ?_ ?_
          rotate_left
          · intro w'
            go_simp
            with_reducible rfl
          rotate_left
          · simp only [Act.put, List.setIfInBounds_toArray, List.set_cons_zero, List.set_cons_succ, i64_w, i32_w]
            rfl
          refine pure_ (i := 9) (N := some 12) (v := ?_) (a' := ?_) #[true, false, true, false, false, false, false, true, false, true, false, false, false, false, false, false, false, false] rfl rfl (any_of HT_.out (by kernel_rfl)) (fun _ _ _ h => h) (Or.inl ⟨by rfl, ?_⟩) ?_ ?_
          rotate_left
          · intro w'
            go_simp
            with_reducible rfl
          rotate_left
          · simp only [Act.put, List.setIfInBounds_toArray, List.set_cons_zero, List.set_cons_succ, i64_w, i32_w]
            rfl
          refine take_ (i := 1) (N := some 4) (v := ?_) (a' := ?_) #[true, true, true, false, false, false, false, true, false, true, false, false, false, false, false, false, false, false] rfl rfl (take_ofW HT_.out HW_.out (by kernel_rfl)) (fun _ _ _ h => h) (Or.inl ⟨by rfl, ?_⟩) hHeld ?_ ?_
          rotate_left
          · rintro w' ⟨s0, s1⟩
            go_simp
            with_reducible rfl
          rotate_left
          · simp only [Act.put, List.setIfInBounds_toArray, List.set_cons_zero, List.set_cons_succ, i64_w, i32_w]
            rfl
          refine take_ (i := 3) (N := some 6) (v := ?_) (a' := ?_) #[true, true, true, true, false, false, false, true, false, true, false, false, false, false, false, false, false, false] rfl rfl (take_ofW HT_.out HW_.out (by kernel_rfl)) (fun _ _ _ h => h) (Or.inl ⟨by rfl, ?_⟩) hHeld ?_ ?_
          rotate_left
          · rintro w' ⟨s0, s1⟩
            go_simp
            with_reducible rfl
          rotate_left
          · simp only [Act.put, List.setIfInBounds_toArray, List.set_cons_zero, List.set_cons_succ, i64_w, i32_w]
            rfl
          refine pure_ (i := 4) (N := some 7) (v := ?_) (a' := ?_) #[true, true, true, true, true, false, false, true, false, true, false, false, false, false, false, false, false, false] rfl rfl (any_of HT_.out (by kernel_rfl)) (fun _ _ _ h => h) (Or.inl ⟨by rfl, ?_⟩) ?_ ?_
          rotate_left
          · intro w'
            go_simp
            with_reducible rfl
          rotate_left
          · simp only [Act.put, List.setIfInBounds_toArray, List.set_cons_zero, List.set_cons_succ, i64_w, i32_w]
            rfl
          refine pure_ (i := 5) (N := some 8) (v := ?_) (a' := ?_) #[true, true, true, true, true, true, false, true, false, true, false, false, false, false, false, false, false, false] rfl rfl (any_of HT_.out (by kernel_rfl)) (fun _ _ _ h => h) (Or.inl ⟨by rfl, ?_⟩) ?_ ?_
          rotate_left
          · intro w'
            go_simp
            with_reducible rfl
          rotate_left
          · simp only [Act.put, List.setIfInBounds_toArray, List.set_cons_zero, List.set_cons_succ, i64_w, i32_w]
            rfl
          refine pure_ (i := 6) (N := some 9) (v := ?_) (a' := ?_) #[true, true, true, true, true, true, true, true, false, true, false, false, false, false, false, false, false, false] rfl rfl (any_of HT_.out (by kernel_rfl)) (fun _ _ _ h => h) (Or.inl ⟨by rfl, ?_⟩) ?_ ?_
          rotate_left
          · intro w'
            go_simp
            with_reducible rfl
          rotate_left
          · simp only [Act.put, List.setIfInBounds_toArray, List.set_cons_zero, List.set_cons_succ, i64_w, i32_w]
            rfl
          refine take_ (i := 8) (N := some 11) (v := ?_) (a' := ?_) #[true, true, true, true, true, true, true, true, true, true, false, false, false, false, false, false, false, false] rfl rfl (take_ofW HT_.out HW_.out (by kernel_rfl)) (fun _ _ _ h => h) (Or.inl ⟨by rfl, ?_⟩) hHeld ?_ ?_
          rotate_left
          · rintro w' ⟨s0, s1⟩
            go_simp
            with_reducible rfl
          rotate_left
          · simp only [Act.put, List.setIfInBounds_toArray, List.set_cons_zero, List.set_cons_succ, i64_w, i32_w]
            rfl
          refine take_ (i := 10) (N := some 13) (v := ?_) (a' := ?_) #[true, true, true, true, true, true, true, true, true, true, true, false, false, false, false, false, false, false] rfl rfl (take_ofW HT_.out HW_.out (by kernel_rfl)) (fun _ _ _ h => h) (Or.inl ⟨by rfl, ?_⟩) hHeld ?_ ?_
          rotate_left
          · rintro w' ⟨s0, s1⟩
            go_simp
            with_reducible rfl
          rotate_left
          · simp only [Act.put, List.setIfInBounds_toArray, List.set_cons_zero, List.set_cons_succ, i64_w, i32_w]
            rfl
          refine pure_ (i := 11) (N := some 14) (v := ?_) (a' := ?_) #[true, true, true, true, true, true, true, true, true, true, true, true, false, false, false, false, false, false] rfl rfl (any_of HT_.out (by kernel_rfl)) (fun _ _ _ h => h) (Or.inl ⟨by rfl, ?_⟩) ?_ ?_
          rotate_left
          · intro w'
            go_simp
            with_reducible rfl
          rotate_left
          · simp only [Act.put, List.setIfInBounds_toArray, List.set_cons_zero, List.set_cons_succ, i64_w, i32_w]
            rfl
          refine pure_ (i := 12) (N := some 15) (v := ?_) (a' := ?_) #[true, true, true, true, true, true, true, true, true, true, true, true, true, false, false, false, false, false] rfl rfl (any_of HT_.out (by kernel_rfl)) (fun _ _ _ h => h) (Or.inl ⟨by rfl, ?_⟩) ?_ ?_
          rotate_left
          · intro w'
            go_simp
            with_reducible rfl
          rotate_left
          · simp only [Act.put, List.setIfInBounds_toArray, List.set_cons_zero, List.set_cons_succ, i64_w, i32_w]
            rfl
          refine pure_ (i := 13) (N := some 16) (v := ?_) (a' := ?_) #[true, true, true, true, true, true, true, true, true, true, true, true, true, true, false, false, false, false] rfl rfl (any_of HT_.out (by kernel_rfl)) (fun _ _ _ h => h) (Or.inl ⟨by rfl, ?_⟩) ?_ ?_
          rotate_left
          · intro w'
            go_simp
            with_reducible rfl
          rotate_left
          · simp only [Act.put, List.setIfInBounds_toArray, List.set_cons_zero, List.set_cons_succ, i64_w, i32_w]
            rfl
          refine pure_ (i := 14) (N := some 17) (v := ?_) (a' := ?_) #[true, true, true, true, true, true, true, true, true, true, true, true, true, true, true, false, false, false] rfl rfl (any_of HT_.out (by kernel_rfl)) (fun _ _ _ h => h) (Or.inl ⟨by rfl, ?_⟩) ?_ ?_
          rotate_left
          · intro w'
            go_simp
            with_reducible rfl
          rotate_left
          · simp only [Act.put, List.setIfInBounds_toArray, List.set_cons_zero, List.set_cons_succ, i64_w, i32_w]
            rfl
          refine last_ (i := 15) (N := none) #[true, true, true, true, true, true, true, true, true, true, true, true, true, true, true, true, false, false] rfl rfl (one_of HT_.out (by kernel_rfl)) (by decide) (fun K hK => ?_)
          have hs13 : w10.cell? ⟨gb101, 0, none⟩ = some (.slice A0_0 l0_0.length c0_0) := (blk_cell BK101.out 0).trans rfl
          have hfs13 := blk_frozen BK101.out 0
          have hns13_1 := NB102_101.out
          have hms13_1 := NB101_102.out
          refine skip_ (w1 := ?_) (by rfl) rfl ?_ ?_
          rotate_left
          · go_simp
            rfl
          refine hK.out _ _ ?_
          clear hK K
          refine pure_ (i := 16) (N := some 18) (v := ?_) (a' := ?_) #[true, true, true, true, true, true, true, true, true, true, true, true, true, true, true, true, true, false] rfl rfl (any_of HT_.out (by kernel_rfl)) (fun _ _ _ h => h) (Or.inl ⟨by rfl, ?_⟩) ?_ ?_
          rotate_left
          · intro w'
            go_simp
            with_reducible rfl
          rotate_left
          · simp only [Act.put, List.setIfInBounds_toArray, List.set_cons_zero, List.set_cons_succ, i64_w, i32_w]
            rfl
          refine last_ (i := 17) (N := none) #[true, true, true, true, true, true, true, true, true, true, true, true, true, true, true, true, true, true] rfl rfl (one_of HT_.out (by kernel_rfl)) (by decide) (fun K hK => ?_)
          have hs14 : w10.cell? ⟨gb101, 1, none⟩ = some (.slice A0_1 l0_1.length c0_1) := (blk_cell BK101.out 1).trans rfl
          have hfs14 := blk_frozen BK101.out 1
          have hns14_1 := NB102_101.out
          have hms14_1 := NB101_102.out
          refine skip_ (w1 := ?_) (by rfl) rfl ?_ ?_
          rotate_left
          · go_simp
            rfl
          refine hK.out _ _ ?_
          clear hK K
          refine done_ (done_of HT_.out (by kernel_rfl)) ?_
          have hnb15 := NB101_102.out
          have hnc15 := NB102_101.out
          have hcz16_0 : w10.cell? ⟨gb101, 0, none⟩ = some (.slice A0_0 l0_0.length c0_0) := (blk_cell BK101.out 0).trans rfl
          have hcz16_1 : w10.cell? ⟨gb101, 1, none⟩ = some (.slice A0_1 l0_1.length c0_1) := (blk_cell BK101.out 1).trans rfl
          have hfz16_0 := blk_frozen BK101.out 0
          have hfz16_1 := blk_frozen BK101.out 1
          have hcz17_0 : w10.cell? ⟨gb102, 0, none⟩ = some (.slice none 0 0) := (blk_cell BK102.out 0).trans rfl
          have hcz17_1 : w10.cell? ⟨gb102, 1, none⟩ = some (.slice none 0 0) := (blk_cell BK102.out 1).trans rfl
          have hfz17_0 := blk_frozen BK102.out 0
          have hfz17_1 := blk_frozen BK102.out 1
          try go_wp2
          refine bodyPost_ret (results_cell_row rfl _ _ gb102 25 #[.slice A0_0 y103.length c0_0, .slice A0_1 y108.length c0_1] (0, 0) _ rfl (by (with_reducible repeat (first | refine blk_drewN ?_ _ | refine blk_drew ?_ | refine blk_alloc ?_ _)); refine blk_put (cs := #[.slice A0_0 y103.length c0_0, .slice none 0 0]) ?_ 1 _ rfl; (with_reducible repeat (first | refine blk_drewN ?_ _ | refine blk_drew ?_ | refine blk_alloc ?_ _)); refine blk_put (cs := #[.slice none 0 0, .slice none 0 0]) ?_ 0 _ rfl; (with_reducible repeat (first | refine blk_drewN ?_ _ | refine blk_drew ?_ | refine blk_alloc ?_ _)); refine blk_far ?_ NB102_101.out _; (with_reducible repeat (first | refine blk_drewN ?_ _ | refine blk_drew ?_ | refine blk_alloc ?_ _)); refine blk_far ?_ NB102_101.out _; (with_reducible repeat (first | refine blk_drewN ?_ _ | refine blk_drew ?_ | refine blk_alloc ?_ _)); exact BK102.out) Tryd.underlying25 rfl (by kernel_rfl)) rfl ?_
          exact ⟨_, _, by first | rfl | (simp [errW_none, errW_some] <;> rfl) | (simp only [← hji2, ← hji5]; first | rfl | (simp [errW_none, errW_some] <;> rfl)) | (simp [*, errW_none, errW_some] <;> rfl), by (with_reducible repeat (first | apply Kd.V_alloc | apply Kd.V_drewN | apply Kd.V_drew)); exact Kd.V_mono (Kd.V_far (p := ⟨gb102, 1, none⟩) (Kd.V_far (p := ⟨gb102, 0, none⟩) (Kd.V_far (p := ⟨gb101, 1, none⟩) (Kd.V_far (p := ⟨gb101, 0, none⟩) (Kd.V_mono (Kd.V_mono HO107.out (fun k_ hk => (⟨hk, hk.1.2⟩ : _ ∧ k_ ≠ gb101))) (fun k_ hk => (⟨hk, hk.1.2⟩ : _ ∧ k_ ≠ gb102))) (fun _ hk => hk.1.2) (.slice A0_0 y103.length c0_0)) (fun _ hk => hk.1.2) (.slice A0_1 y108.length c0_1)) (fun _ hk => hk.2) (.slice A0_0 y103.length c0_0)) (fun _ hk => hk.2) (.slice A0_1 y108.length c0_1)) (fun _ hk => hk.1.1.1.1), by (with_reducible repeat (first | apply Kd.V_alloc | apply Kd.V_drewN | apply Kd.V_drew)); exact Kd.V_mono (Kd.V_far (p := ⟨gb102, 1, none⟩) (Kd.V_far (p := ⟨gb102, 0, none⟩) (Kd.V_far (p := ⟨gb101, 1, none⟩) (Kd.V_far (p := ⟨gb101, 0, none⟩) (Kd.V_mono (Kd.V_mono HO112.out (fun k_ hk => (⟨hk, hk.1.2⟩ : _ ∧ k_ ≠ gb101))) (fun k_ hk => (⟨hk, hk.1.2⟩ : _ ∧ k_ ≠ gb102))) (fun _ hk => hk.1.2) (.slice A0_0 y103.length c0_0)) (fun _ hk => hk.1.2) (.slice A0_1 y108.length c0_1)) (fun _ hk => hk.2) (.slice A0_0 y103.length c0_0)) (fun _ hk => hk.2) (.slice A0_1 y108.length c0_1)) (fun _ hk => hk.1.1.1.1), by repeat (first | (with_reducible first | exact HB.out | apply below_alloc | apply pw_below_drewN | apply below_drew1 | refine below_set ?_ GE101.out | refine below_set ?_ GE102.out) | exact HB.out)⟩
        · rw [if_neg c7] at H
          exact absurd H (by simp)
      · rw [if_neg c6] at H
        exact absurd H (by simp)
    · rw [if_neg c4] at H
      exact absurd H (by simp)
  · rw [if_neg c3] at H
    exact absurd H (by simp)

/-! ### disk_New: function 16 -/
def disk_New.f (a0 : Int) : Option (List ByteArray × (List (S42)) × Int) := if a0 < 1 then (some (([] : List ByteArray), ([] : List (S42)), 1)) else (if a0 > 256 then (some (([] : List ByteArray), ([] : List (S42)), 1)) else (if 0 ≤ a0 then (if (a0 : Int).toNat ≤ 17592186044416 then (some ((List.replicate (a0 : Int).toNat (⟨#[]⟩ : ByteArray)), ([] : List (S42)), 0)) else (none)) else (none)))
set_option maxHeartbeats 8000000 in
set_option maxRecDepth 100000 in
theorem disk_New.calls (a0 : Int) (r1 : List ByteArray) (r2 : List (S42)) (r3 : Int) (w : World) (h : disk_New.f a0 = some (r1, r2, r3)) :
    Calls Tryd.prog 16 #[.int .i64 a0] w fun e w' => ∃ v0_ v1_ : Value, e = .returned (.tuple #[.agg #[v0_, v1_], .int .i64 r3]) ∧ Kd.R Kd.string 9 w' w.heap.size (fun _ => True) v0_ r1 ∧ Kd.R k42 42 w' w.heap.size (fun _ => True) v1_ r2 ∧ Below w.heap.size w w' := by
  have hu25 := Tryd.underlying25
  have HB := Aside0.mk (Below.refl w.heap.size w)
  have H : (if a0 < 1 then (some (([] : List ByteArray), ([] : List (S42)), 1)) else (if a0 > 256 then (some (([] : List ByteArray), ([] : List (S42)), 1)) else (if 0 ≤ a0 then (if (a0 : Int).toNat ≤ 17592186044416 then (some ((List.replicate (a0 : Int).toNat (⟨#[]⟩ : ByteArray)), ([] : List (S42)), 0)) else (none)) else (none)))) = some (r1, r2, r3) := h
  clear h
  by_cases c2 : a0 < 1
  · rw [if_pos c2] at H
    have c2b0 : decide (a0 < 1) = true := decide_eq_true c2
    clear c2
    simp only [Option.some.injEq, Prod.mk.injEq] at H
    obtain ⟨rfl, rfl, rfl⟩ := H
    go_enter Tryd.func16, Tryd.ntmps16
    go_wp2_with (first | ((with_reducible refine gate_dst (N := 2) rfl ?_); refine box_event ?hg (N := 2) ?hd (cs := #[.slice none 0 0, .slice none 0 0]) (t := 25) ?hr ?_; (case hd => rfl); (case hg => rfl); (case hr => first | (go_simp; done) | (go_simp; rfl)); intro gb113 hg w3 hbox hb; have n0_ := Aside0.mk (below_step (by repeat (first | (with_reducible first | exact HB.out | apply below_alloc | apply pw_below_drewN | apply below_drew1) | exact HB.out)) hb); have n1_ := Aside0.mk (hbox); have n2_ := Aside0.mk ((by rw [hg]; exact (below_size (by repeat (first | (with_reducible first | exact HB.out | apply below_alloc | apply pw_below_drewN | apply below_drew1) | exact HB.out))) : w.heap.size ≤ gb113)); have n3_ := Aside0.mk ((by rw [hg]; exact (below_size (by repeat (first | (with_reducible first | exact HB.out | apply below_alloc | apply pw_below_drewN | apply below_drew1) | exact HB.out))) : w.heap.size ≤ gb113)); clear HB; have HB := n0_; have BK113 := n1_; have GW113 := n2_; have GE113 := n3_; clear n0_ n1_ n2_ n3_; clear hb hbox hg; have hcz4_0 : w3.cell? ⟨gb113, 0, none⟩ = some (.slice none 0 0) := (blk_cell BK113.out 0).trans rfl; have hcz4_1 : w3.cell? ⟨gb113, 1, none⟩ = some (.slice none 0 0) := (blk_cell BK113.out 1).trans rfl; have hfz4_0 := blk_frozen BK113.out 0; have hfz4_1 := blk_frozen BK113.out 1))
    refine bodyPost_ret (results_ct rfl _ _ gb113 25 #[.slice none 0 0, .slice none 0 0] (0, 0) _ rfl (by (with_reducible repeat (first | refine blk_drewN ?_ _ | refine blk_drew ?_ | refine blk_alloc ?_ _)); refine blk_put (cs := #[.slice none 0 0, .slice none 0 0]) ?_ 1 _ rfl; (with_reducible repeat (first | refine blk_drewN ?_ _ | refine blk_drew ?_ | refine blk_alloc ?_ _)); refine blk_put (cs := #[.slice none 0 0, .slice none 0 0]) ?_ 0 _ rfl; (with_reducible repeat (first | refine blk_drewN ?_ _ | refine blk_drew ?_ | refine blk_alloc ?_ _)); exact BK113.out) Tryd.underlying25 rfl (by kernel_rfl)) rfl ?_
    exact ⟨_, _, by first | rfl | (simp [errW_none, errW_some] <;> rfl) | (simp [*, errW_none, errW_some] <;> rfl), by first | exact Kd.R_nil _ _ _ _ _ | exact Kd.N_nil _ _ _ _ _ | exact Kd.V_nil _ _ _ _ _ | exact Kd.Q_nil _ _ _ _ _ | exact Kd.S_nil _ _ _ _ _, by first | exact Kd.R_nil _ _ _ _ _ | exact Kd.N_nil _ _ _ _ _ | exact Kd.V_nil _ _ _ _ _ | exact Kd.Q_nil _ _ _ _ _ | exact Kd.S_nil _ _ _ _ _, by repeat (first | (with_reducible first | exact HB.out | apply below_alloc | apply pw_below_drewN | apply below_drew1 | refine below_set ?_ GE113.out) | exact HB.out)⟩
  · rw [if_neg c2] at H
    have c2b0 : decide (a0 < 1) = false := decide_eq_false c2
    clear c2
    by_cases c5 : a0 > 256
    · rw [if_pos c5] at H
      have c5b0 : decide (256 < a0) = true := decide_eq_true c5
      clear c5
      simp only [Option.some.injEq, Prod.mk.injEq] at H
      obtain ⟨rfl, rfl, rfl⟩ := H
      go_enter Tryd.func16, Tryd.ntmps16
      go_wp2_with (first | ((with_reducible refine gate_dst (N := 2) rfl ?_); refine box_event ?hg (N := 2) ?hd (cs := #[.slice none 0 0, .slice none 0 0]) (t := 25) ?hr ?_; (case hd => rfl); (case hg => rfl); (case hr => first | (go_simp; done) | (go_simp; rfl)); intro gb113 hg w6 hbox hb; have n0_ := Aside0.mk (below_step (by repeat (first | (with_reducible first | exact HB.out | apply below_alloc | apply pw_below_drewN | apply below_drew1) | exact HB.out)) hb); have n1_ := Aside0.mk (hbox); have n2_ := Aside0.mk ((by rw [hg]; exact (below_size (by repeat (first | (with_reducible first | exact HB.out | apply below_alloc | apply pw_below_drewN | apply below_drew1) | exact HB.out))) : w.heap.size ≤ gb113)); have n3_ := Aside0.mk ((by rw [hg]; exact (below_size (by repeat (first | (with_reducible first | exact HB.out | apply below_alloc | apply pw_below_drewN | apply below_drew1) | exact HB.out))) : w.heap.size ≤ gb113)); clear HB; have HB := n0_; have BK113 := n1_; have GW113 := n2_; have GE113 := n3_; clear n0_ n1_ n2_ n3_; clear hb hbox hg; have hcz7_0 : w6.cell? ⟨gb113, 0, none⟩ = some (.slice none 0 0) := (blk_cell BK113.out 0).trans rfl; have hcz7_1 : w6.cell? ⟨gb113, 1, none⟩ = some (.slice none 0 0) := (blk_cell BK113.out 1).trans rfl; have hfz7_0 := blk_frozen BK113.out 0; have hfz7_1 := blk_frozen BK113.out 1))
      refine bodyPost_ret (results_ct rfl _ _ gb113 25 #[.slice none 0 0, .slice none 0 0] (0, 0) _ rfl (by (with_reducible repeat (first | refine blk_drewN ?_ _ | refine blk_drew ?_ | refine blk_alloc ?_ _)); refine blk_put (cs := #[.slice none 0 0, .slice none 0 0]) ?_ 1 _ rfl; (with_reducible repeat (first | refine blk_drewN ?_ _ | refine blk_drew ?_ | refine blk_alloc ?_ _)); refine blk_put (cs := #[.slice none 0 0, .slice none 0 0]) ?_ 0 _ rfl; (with_reducible repeat (first | refine blk_drewN ?_ _ | refine blk_drew ?_ | refine blk_alloc ?_ _)); exact BK113.out) Tryd.underlying25 rfl (by kernel_rfl)) rfl ?_
      exact ⟨_, _, by first | rfl | (simp [errW_none, errW_some] <;> rfl) | (simp [*, errW_none, errW_some] <;> rfl), by first | exact Kd.R_nil _ _ _ _ _ | exact Kd.N_nil _ _ _ _ _ | exact Kd.V_nil _ _ _ _ _ | exact Kd.Q_nil _ _ _ _ _ | exact Kd.S_nil _ _ _ _ _, by first | exact Kd.R_nil _ _ _ _ _ | exact Kd.N_nil _ _ _ _ _ | exact Kd.V_nil _ _ _ _ _ | exact Kd.Q_nil _ _ _ _ _ | exact Kd.S_nil _ _ _ _ _, by repeat (first | (with_reducible first | exact HB.out | apply below_alloc | apply pw_below_drewN | apply below_drew1 | refine below_set ?_ GE113.out) | exact HB.out)⟩
    · rw [if_neg c5] at H
      have c5b0 : decide (256 < a0) = false := decide_eq_false c5
      clear c5
      by_cases c8 : 0 ≤ a0
      · rw [if_pos c8] at H
        have c8b0 := eq_true c8
        have c8b1 : decide (0 ≤ a0) = true := decide_eq_true c8
        clear c8
        by_cases c9 : (a0 : Int).toNat ≤ 17592186044416
        · rw [if_pos c9] at H
          have c9b0 := eq_true c9
          have c9b1 : decide ((a0 : Int).toNat ≤ 17592186044416) = true := decide_eq_true c9
          clear c9
          obtain ⟨y114, hy114⟩ : ∃ y_ : List ByteArray, y_ = (List.replicate (a0 : Int).toNat (⟨#[]⟩ : ByteArray)) := ⟨_, rfl⟩
          replace H : (some (y114, ([] : List (S42)), 0)) = some (r1, r2, r3) := by first | (rw [hy114]; with_reducible exact H) | (have H2_ := (Option.bind_some _ _).symm.trans H; rw [hy114]; with_reducible exact H2_) | (have H2_ := (Option.bind_some _ _).symm.trans H; with_reducible exact H2_) | with_reducible exact H | (rw [hy114]; exact H) | exact H
          have Ny114 := Aside0.mk hy114
          clear hy114
          simp only [Option.some.injEq, Prod.mk.injEq] at H
          obtain ⟨rfl, rfl, rfl⟩ := H
          go_enter Tryd.func16, Tryd.ntmps16
          go_wp2_with (first | ((with_reducible refine gate_dst (N := 2) rfl ?_); refine box_event ?hg (N := 2) ?hd (cs := #[.slice none 0 0, .slice none 0 0]) (t := 25) ?hr ?_; (case hd => rfl); (case hg => rfl); (case hr => first | (go_simp; done) | (go_simp; rfl)); intro gb113 hg w10 hbox hb; have n0_ := Aside0.mk (below_step (by repeat (first | (with_reducible first | exact HB.out | apply below_alloc | apply pw_below_drewN | apply below_drew1) | exact HB.out)) hb); have n1_ := Aside0.mk (hbox); have n2_ := Aside0.mk ((by rw [hg]; exact (below_size (by repeat (first | (with_reducible first | exact HB.out | apply below_alloc | apply pw_below_drewN | apply below_drew1) | exact HB.out))) : w.heap.size ≤ gb113)); have n3_ := Aside0.mk ((by rw [hg]; exact (below_size (by repeat (first | (with_reducible first | exact HB.out | apply below_alloc | apply pw_below_drewN | apply below_drew1) | exact HB.out))) : w.heap.size ≤ gb113)); clear HB; have HB := n0_; have BK113 := n1_; have GW113 := n2_; have GE113 := n3_; clear n0_ n1_ n2_ n3_; clear hb hbox hg) | ((with_reducible refine gate_dst (N := 12) rfl ?_); refine Kd.R_make Kd.string _ 9 rfl (N := 12) rfl 22 _ _ rfl a0 rfl rfl Tryd.underlying22 (.string ⟨#[]⟩) 16 info9 rfl (by decide) (by omega) (⟨#[]⟩ : ByteArray) (ok := fun _ => True) (okp := fun _ => True) rfl (fun _ hk => hk) trivial (of_decide_eq_true (by first | (with_reducible assumption) | assumption)) (Nat.le_trans (Nat.mul_le_mul_right _ (of_decide_eq_true (by first | (with_reducible assumption) | assumption) : a0.toNat ≤ 17592186044416)) (by omega)) (Below.refl _ _) (Nat.le_refl _) ?_; intro v115 w11 ho12 hb hg_ hnew_; clear hg_ hnew_; (first | rw [← Ny114.out] at ho12 | (simp only [Int.reduceToNat] at ho12; rw [← Ny114.out] at ho12)); have n0_ := Aside0.mk (Kd.R_lower ho12 (below_size (by repeat (first | (with_reducible first | exact HB.out | apply below_alloc | apply pw_below_drewN | apply below_drew1 | refine below_set ?_ GE113.out) | exact HB.out)))); have n1_ := Aside0.mk (blk_below (g := gb113) (o := .cells #[.slice none 0 0, .slice none 0 0] 25 (0, 0)) (by (with_reducible repeat (first | refine blk_drewN ?_ _ | refine blk_drew ?_ | refine blk_alloc ?_ _)); exact BK113.out) hb); have n2_ := Aside0.mk (below_step (by repeat (first | (with_reducible first | exact HB.out | apply below_alloc | apply pw_below_drewN | apply below_drew1 | refine below_set ?_ GE113.out) | exact HB.out)) hb); clear BK113; clear HB; have HO116 := n0_; have BK113 := n1_; have HB := n2_; clear n0_ n1_ n2_; clear hb ho12; obtain ⟨Ao13, co13, eo13⟩ := Kd.R_slice HO116.out; subst eo13; have hcz14_0 : w11.cell? ⟨gb113, 0, none⟩ = some (.slice none 0 0) := (blk_cell BK113.out 0).trans rfl; have hcz14_1 : w11.cell? ⟨gb113, 1, none⟩ = some (.slice none 0 0) := (blk_cell BK113.out 1).trans rfl; have hfz14_0 := blk_frozen BK113.out 0; have hfz14_1 := blk_frozen BK113.out 1))
          refine bodyPost_ret (results_ct rfl _ _ gb113 25 #[.slice Ao13 y114.length co13, .slice none 0 0] (0, 0) _ rfl (by (with_reducible repeat (first | refine blk_drewN ?_ _ | refine blk_drew ?_ | refine blk_alloc ?_ _)); refine blk_put (cs := #[.slice Ao13 y114.length co13, .slice none 0 0]) ?_ 1 _ rfl; (with_reducible repeat (first | refine blk_drewN ?_ _ | refine blk_drew ?_ | refine blk_alloc ?_ _)); refine blk_put (cs := #[.slice none 0 0, .slice none 0 0]) ?_ 0 _ rfl; (with_reducible repeat (first | refine blk_drewN ?_ _ | refine blk_drew ?_ | refine blk_alloc ?_ _)); exact BK113.out) Tryd.underlying25 rfl (by kernel_rfl)) rfl ?_
          exact ⟨_, _, by first | rfl | (simp [errW_none, errW_some] <;> rfl) | (simp [*, errW_none, errW_some] <;> rfl), by (with_reducible repeat (first | apply Kd.R_alloc | apply Kd.R_drewN | apply Kd.R_drew)); exact Kd.R_mono (Kd.R_far (p := ⟨gb113, 1, none⟩) (Kd.R_far (p := ⟨gb113, 0, none⟩) (Kd.R_types HO116.out BK113.out (by decide)) (fun _ hk => hk.2) (.slice Ao13 y114.length co13)) (fun _ hk => hk.2) (.slice none 0 0)) (fun _ hk => trivial), by first | exact Kd.R_nil _ _ _ _ _ | exact Kd.N_nil _ _ _ _ _ | exact Kd.V_nil _ _ _ _ _ | exact Kd.Q_nil _ _ _ _ _ | exact Kd.S_nil _ _ _ _ _, by repeat (first | (with_reducible first | exact HB.out | apply below_alloc | apply pw_below_drewN | apply below_drew1 | refine below_set ?_ GE113.out) | exact HB.out)⟩
        · rw [if_neg c9] at H
          exact absurd H (by simp)
      · rw [if_neg c8] at H
        exact absurd H (by simp)

/-! ### strings_trimRightByte: function 81 -/
def strings_trimRightByte.l0 : Nat → ByteArray → Int → Option (ByteArray)
  | 0, _, _ => none
  | k + 1, x0, x1 => if (x0.size : Int) > 0 then (if 0 ≤ (wrap64 ((x0.size : Int) - 1)) then (if (wrap64 ((x0.size : Int) - 1)) < (x0.size : Int) then (if (bt x0 (wrap64 ((x0.size : Int) - 1))) = x1 then (if (wrap64 ((x0.size : Int) - 1)) ≤ (x0.size : Int) then (strings_trimRightByte.l0 k (x0.extract 0 ((wrap64 ((x0.size : Int) - 1)) : Int).toNat) x1) else (none)) else (some x0)) else (none)) else (none)) else (some x0)
def strings_trimRightByte.f (k : Nat) (a0 : ByteArray) (a1 : Int) : Option (ByteArray) := strings_trimRightByte.l0 k a0 a1
theorem strings_trimRightByte.mono_l : ∀ k, (∀ y0 y1, LeO (strings_trimRightByte.l0 k y0 y1) (strings_trimRightByte.l0 (k + 1) y0 y1))
  | 0 => fun _ _ r h => by simp [strings_trimRightByte.l0] at h
  | k + 1 => by
    have ih0 := strings_trimRightByte.mono_l k
    · intro y0 y1
      unfold strings_trimRightByte.l0
      repeat' first
      | (with_reducible exact ih0 _ _)
      | (with_reducible exact LeO.refl _)
      | (with_reducible exact LeO.none _)
      | (with_reducible refine LeO.ite ?_ ?_)
      | (with_reducible refine LeO.bind ?_ (fun _ => ?_))
      | exact ih0 _ _
      | exact LeO.none _
      | refine LeO.ite ?_ ?_
      | refine LeO.bind ?_ (fun _ => ?_)
theorem strings_trimRightByte.mono : ∀ a0 a1 k, LeO (strings_trimRightByte.f k a0 a1) (strings_trimRightByte.f (k + 1) a0 a1) := by
  intro a0 a1 k
  have ih0 := strings_trimRightByte.mono_l k
  unfold strings_trimRightByte.f
  repeat' first
      | (with_reducible exact ih0 _ _)
      | (with_reducible exact LeO.refl _)
      | (with_reducible exact LeO.none _)
      | (with_reducible refine LeO.ite ?_ ?_)
      | (with_reducible refine LeO.bind ?_ (fun _ => ?_))
      | exact ih0 _ _
      | exact LeO.none _
      | refine LeO.ite ?_ ?_
      | refine LeO.bind ?_ (fun _ => ?_)
set_option maxHeartbeats 8000000 in
set_option maxRecDepth 100000 in
theorem strings_trimRightByte.calls (k : Nat) (a0 : ByteArray) (a1 : Int) (r : ByteArray) (w : World) (h : strings_trimRightByte.f k a0 a1 = some r) :
    Calls Tryd.prog 81 #[.string a0, .int .u8 a1] w fun e w' => e = .returned (.string r) ∧ Drawn0 w w' := by
  have H : (strings_trimRightByte.l0 k a0 a1) = some r := h
  clear h
  have H' := Aside0.mk H
  clear H
  go_enter Tryd.func81, Tryd.ntmps81
  go_wp2
  go_loopg [0] k (fun kq v0 w' => ∃ (x0_1 : ByteArray), v0 = .string x0_1 ∧ Aside0 (strings_trimRightByte.l0 kq x0_1 a1 = some r) ∧ Aside0 (kq ≤ k) ∧ Drawn0 w w')
  case atStart => exact ⟨(a0), (by first | rfl | (simp; done) | (simp [*]; done)), H', ⟨Nat.le_refl _⟩, by repeat (first | exact Drawn0.refl _ | apply Drawn0.step)⟩
  case round =>
    clear H'
    try clear p2
    obtain ⟨x0_1, rfl, HA, HK1, ⟨m1, rfl⟩⟩ := hrel
    cases gk with
    | zero => exact absurd HA.out (by simp [strings_trimRightByte.l0])
    | succ k1 =>
      have H := HA.out
      clear HA
      simp only [strings_trimRightByte.l0] at H
      by_cases c3 : (x0_1.size : Int) > 0
      · rw [if_pos c3] at H
        have c3b0 : decide (0 < (x0_1.size : Int)) = true := decide_eq_true c3
        have c3b1 : decide (0 < x0_1.size) = true := decide_eq_true (by omega)
        clear c3
        obtain ⟨ji4, hji4⟩ : ∃ j_ : Int, (wrap64 ((x0_1.size : Int) - 1)) = j_ := ⟨_, rfl⟩
        replace H : (if 0 ≤ (ji4) then (if (ji4) < (x0_1.size : Int) then (if (bt x0_1 (ji4)) = a1 then (if (ji4) ≤ (x0_1.size : Int) then (strings_trimRightByte.l0 k1 (x0_1.extract 0 ((ji4) : Int).toNat) a1) else (none)) else (some x0_1)) else (none)) else (none)) = some r := by first | (rw [hji4] at H; exact H) | (simp only [hji4] at H ⊢; exact H)
        have hji4w : (IntKind.i64.wrap ((x0_1.size : Int) - 1)) = ji4 := (i64_w _).trans hji4
        obtain ⟨x4_x0_1, hx4_x0_1⟩ : ∃ x_ : ByteArray, (x0_1.extract 0 ((ji4) : Int).toNat) = x_ := ⟨_, rfl⟩
        (try simp only [hx4_x0_1] at H)
        by_cases c5 : 0 ≤ (ji4)
        · rw [if_pos c5] at H
          have c5b0 : decide (0 ≤ (ji4)) = true := decide_eq_true c5
          clear c5
          by_cases c6 : (ji4) < (x0_1.size : Int)
          · rw [if_pos c6] at H
            have c6b0 : decide ((ji4) < (x0_1.size : Int)) = true := decide_eq_true c6
            clear c6
            by_cases c8 : (bt x0_1 (ji4)) = a1
            · rw [if_pos c8] at H
              have c8b0 : ((bt x0_1 (ji4)) == a1) = true := beq_iff_eq.mpr c8
              have c8b1 : ((bt x0_1 (ji4)) != a1) = false := bne_eq_false_iff_eq.mpr c8
              clear c8
              have c9b0 := eq_true (of_decide_eq_true (by first | (with_reducible assumption) | assumption) : 0 ≤ (ji4))
              by_cases c10 : (ji4) ≤ (x0_1.size : Int)
              · rw [if_pos c10] at H
                have c10b0 := eq_true c10
                have c10b1 : decide ((ji4) ≤ (x0_1.size : Int)) = true := decide_eq_true c10
                clear c10
                have H' := Aside0.mk H
                clear H
                have p7 : 0 ≤ ((ji4) : Int) := of_decide_eq_true (by first | (with_reducible assumption) | assumption)
                have q7 : (ji4) < (x0_1.size : Int) := of_decide_eq_true (by first | (with_reducible assumption) | assumption)
                have hx7 := bt_at x0_1 (ji4)
                replace p7 := eq_true p7
                replace q7 := eq_true q7
                go_wp2
                go_roundg k1
                case measure => have := HK1.out; omega
                case rel => exact ⟨x4_x0_1, (by first | rfl | (simp; done) | (simp only [← hji4] <;> (first | rfl | simp)) | (simp [*]; done)), H', ⟨by have := HK1.out; omega⟩, by repeat (first | exact Drawn0.refl _ | apply Drawn0.step)⟩
              · rw [if_neg c10] at H
                exact absurd H (by simp)
            · rw [if_neg c8] at H
              have c8b0 : ((bt x0_1 (ji4)) == a1) = false := beq_eq_false_iff_ne.mpr c8
              have c8b1 : ((bt x0_1 (ji4)) != a1) = true := bne_iff_ne.mpr c8
              obtain rfl := Option.some.inj H
              have p7 : 0 ≤ ((ji4) : Int) := of_decide_eq_true (by first | (with_reducible assumption) | assumption)
              have q7 : (ji4) < (x0_1.size : Int) := of_decide_eq_true (by first | (with_reducible assumption) | assumption)
              have hx7 := bt_at x0_1 (ji4)
              replace p7 := eq_true p7
              replace q7 := eq_true q7
              go_wp2
              go_ret
              exact ⟨by first | rfl | (simp; done) | (simp only [← hji4] <;> (first | rfl | simp)) | (simp [*]; done), by repeat (first | exact Drawn0.refl _ | apply Drawn0.step)⟩
          · rw [if_neg c6] at H
            exact absurd H (by simp)
        · rw [if_neg c5] at H
          exact absurd H (by simp)
      · rw [if_neg c3] at H
        have c3b0 : decide (0 < (x0_1.size : Int)) = false := decide_eq_false c3
        have c3b1 : decide (0 < x0_1.size) = false := decide_eq_false (by omega)
        clear c3
        obtain rfl := Option.some.inj H
        go_wp2
        go_ret
        exact ⟨by first | rfl | (simp; done) | (simp [*]; done), by repeat (first | exact Drawn0.refl _ | apply Drawn0.step)⟩

end Go.Proofs.YtniplmjbligmlaaDoor.Q

/-! strings.TrimRight, where the cutset is one zero byte: the zero bytes at the end are taken off. -/
namespace Go.Proofs.YtniplmjbligmlaaDoor.Q
open Go.RowKit Go.Proofs.YtniplmjbligmlaaDoorW.PrintWords Go.Proofs.YtniplmjbligmlaaDoorW.PrintLast Go.Proofs.YtniplmjbligmlaaDoorW.PrintMore Go.Proofs.YtniplmjbligmlaaDoor.Base
set_option linter.unusedVariables false

theorem trb_l0 (n : Nat) : ∀ (k : Nat) (s : ByteArray), s.size = n → n < 9223372036854775808 → n < k → strings_trimRightByte.l0 k s 0 = some (trimS s) := by
  induction n with
  | zero =>
    intro k s hs hn hk
    obtain ⟨k, rfl⟩ : ∃ m, k = m + 1 := ⟨k - 1, by omega⟩
    simp only [strings_trimRightByte.l0]
    rw [if_neg (by omega)]
    have e : L s = [] := List.eq_nil_of_length_eq_zero (by rw [← size_L]; exact hs)
    rw [trimS, e, trimL_nil, ← e, B_L]
  | succ n ih =>
    intro k s hs hn hk
    obtain ⟨k, rfl⟩ : ∃ m, k = m + 1 := ⟨k - 1, by omega⟩
    rcases snoc_cases (L s) with e | ⟨m, b, e⟩
    · rw [size_L, e] at hs; simp at hs
    obtain ⟨h1, h2⟩ := L_take_pred s m b e
    have hw : wrap64 ((s.size : Int) - 1) = (s.size : Int) - 1 := wrap64_id (by omega) (by omega)
    simp only [strings_trimRightByte.l0]
    rw [hw, if_pos (by omega), if_pos (by omega), if_pos (by omega), h2]
    by_cases hb : b = 0
    · subst hb
      rw [if_pos (by decide), if_pos (by omega), show ((s.size : Int) - 1).toNat = s.size - 1 by omega]
      rw [ih k _ (by rw [size_L, h1]; rw [size_L, e] at hs; simpa using hs) (by omega) (by omega)]
      unfold trimS; rw [h1, e, trimL_zero]
    · rw [if_neg (fun h => hb ((byte_zero b).1 h))]
      unfold trimS; rw [e, trimL_other m b hb, ← e, B_L]
theorem trb_ev (s : ByteArray) (h : s.size ≤ 9223372036854775807) : Ev (fun k => strings_trimRightByte.f k s 0) (trimS s) :=
  ev_from (s.size + 1) fun k hk => trb_l0 s.size k s rfl (by omega) (by omega)

def strings_TrimRight.f (a0 a1 : ByteArray) : Option ByteArray := if a1 = (⟨#[0]⟩ : ByteArray) ∧ a0.size ≤ 9223372036854775807 then some (trimS a0) else none
set_option maxHeartbeats 1000000 in
set_option maxRecDepth 100000 in
theorem strings_TrimRight.calls (a0 a1 r : ByteArray) (w : World) (h : strings_TrimRight.f a0 a1 = some r) :
    Calls Tryd.prog 72 #[.string a0, .string a1] w fun e w' => e = .returned (.string r) ∧ Drawn0 w w' := by
  unfold strings_TrimRight.f at h
  split at h
  · rename_i hc
    obtain ⟨rfl, hs⟩ := hc
    obtain rfl := Option.some.inj h
    clear h
    obtain ⟨k, hk⟩ := ev_ex (trb_ev a0 hs)
    have HK := Aside0.mk hk
    clear hk
    by_cases h0 : a0.toList = []
    · have e : L a0 = [] := by rw [← toList_L]; exact h0
      have e2 : trimS a0 = a0 := by unfold trimS; rw [e, trimL_nil, ← e, B_L]
      have E2 := Aside0.mk e2
      clear e e2
      have h1 : (a0.toList == []) = true := by simp [h0]
      have h2 : a0.toList.isEmpty = true := by simp [h0]
      go_enter Tryd.func72, Tryd.ntmps72
      go_wp2
      go_ret
      exact ⟨by rw [E2.out]; rfl, ⟨_, (World.drewN_zero _).symm⟩⟩
    · have h1 : (a0.toList == []) = false := by simp [h0]
      have h2 : a0.toList.isEmpty = false := by simp [h0]
      go_enter Tryd.func72, Tryd.ntmps72
      go_wp2_with (go_at_call 81; refine (strings_trimRightByte.calls k a0 0 _ _ HK.out).mono ?_; rintro e w' ⟨rfl, hd⟩; obtain ⟨nd, rfl⟩ := hd)
      go_ret
      exact ⟨rfl, ⟨_, rfl⟩⟩
  · cases h
end Go.Proofs.YtniplmjbligmlaaDoor.Q

/-! Go functions as Lean functions, each with a proof that the Go code comes to its answers; written by a program of this repository (mk.py, over the printer of the kit). Lean checks it. -/
namespace Go.Proofs.YtniplmjbligmlaaDoor.Q
open Go.RowKit Go.Proofs.YtniplmjbligmlaaDoorW.PrintWords Go.Proofs.YtniplmjbligmlaaDoorW.PrintLast Go.Proofs.YtniplmjbligmlaaDoorW.PrintMore
attribute [local go_sem] max2_int min2_int max_two min_two max_three min_three max_four min_four   -- for this text's walks alone
set_option linter.unusedVariables false
set_option linter.unusedSimpArgs false

/-! ### le_Trim: function 56 -/
def le_Trim.f (a0 : ByteArray) : Option (ByteArray) := (strings_TrimRight.f a0 (⟨#[0]⟩ : ByteArray)).bind fun t117 => (some t117)
set_option maxHeartbeats 8000000 in
set_option maxRecDepth 100000 in
theorem le_Trim.calls (a0 : ByteArray) (r : ByteArray) (w : World) (h : le_Trim.f a0 = some r) :
    Calls Tryd.prog 56 #[.string a0] w fun e w' => e = .returned (.string r) ∧ Drawn0 w w' := by
  have H : ((strings_TrimRight.f a0 (⟨#[0]⟩ : ByteArray)).bind fun t117 => (some t117)) = some r := h
  clear h
  replace H := Option.bind_eq_some_iff.mp H
  obtain ⟨t117, A20, H⟩ := H
  replace H : (some t117) = some r := H
  have A2 := Aside0.mk A20
  clear A20
  obtain rfl := Option.some.inj H
  go_enter Tryd.func56, Tryd.ntmps56
  go_wp2_with (first | ((with_reducible refine gate_callee (f := 72) rfl ?_); refine goesL_ (some 4) rfl rfl Tryd.func72 (by kernel_rfl) rfl #[.string a0, .string (⟨#[0]⟩ : ByteArray)] rfl (by (try simp only [List.map_toArray, List.map_cons, List.map_nil]); first | done | rfl | (simp only [List.length_drop, List.length_take]; rfl) | (simp [Act.eval, IntKind.wrap, IntKind.bits, IntKind.signed]; (repeat (first | (rename (decide _ = false) => h_; replace h_ := of_decide_eq_false h_) | (rename (decide _ = true) => h_; replace h_ := of_decide_eq_true h_))); omega)) ?_; (with_reducible refine (strings_TrimRight.calls a0 (⟨#[0]⟩ : ByteArray) t117 _ A2.out).mono ?_); rintro e w' ⟨rfl, ⟨nd, rfl⟩⟩; refine ⟨_, rfl, ?_⟩))
  go_ret
  exact ⟨by first | rfl | (simp; done) | (simp [*]; done), by repeat (first | exact Drawn0.refl _ | apply Drawn0.step)⟩

/-! ### disk_stands: function 48 -/
def disk_stands.f (a0 : ByteArray) : Option (Bool) := if (a0.size : Int) ≤ 512 then ((le_Trim.f a0).bind fun t118 => (some (t118.toList == a0.toList))) else (some false)
set_option maxHeartbeats 8000000 in
set_option maxRecDepth 100000 in
theorem disk_stands.calls (a0 : ByteArray) (r : Bool) (w : World) (h : disk_stands.f a0 = some r) :
    Calls Tryd.prog 48 #[.string a0] w fun e w' => e = .returned (.bool r) ∧ Drawn0 w w' := by
  have H : (if (a0.size : Int) ≤ 512 then ((le_Trim.f a0).bind fun t118 => (some (t118.toList == a0.toList))) else (some false)) = some r := h
  clear h
  by_cases c2 : (a0.size : Int) ≤ 512
  · rw [if_pos c2] at H
    have c2b0 : decide ((a0.size : Int) ≤ 512) = true := decide_eq_true c2
    have c2b1 : decide (a0.size ≤ 512) = true := decide_eq_true (by omega)
    clear c2
    replace H := Option.bind_eq_some_iff.mp H
    obtain ⟨t118, A30, H⟩ := H
    replace H : (some (t118.toList == a0.toList)) = some r := H
    have A3 := Aside0.mk A30
    clear A30
    obtain rfl := Option.some.inj H
    go_enter Tryd.func48, Tryd.ntmps48
    go_wp2_with (first | (go_at_call 56; (first | (with_reducible refine (le_Trim.calls a0 t118 _ A3.out).mono ?_) | (refine calls_of_args ?hfit_ ((le_Trim.calls a0 t118 _ A3.out).mono ?_); (case hfit_ => (first | rfl | (simp; done) | (simp [*]; done) | (simp; omega) | (simp [ByteArray.size_extract]; omega))))); rintro e w' ⟨rfl, ⟨nd, rfl⟩⟩))
    go_ret
    exact ⟨by first | rfl | (simp; done) | (simp [*]; done), by repeat (first | exact Drawn0.refl _ | apply Drawn0.step)⟩
  · rw [if_neg c2] at H
    have c2b0 : decide ((a0.size : Int) ≤ 512) = false := decide_eq_false c2
    have c2b1 : decide (a0.size ≤ 512) = false := decide_eq_false (by omega)
    clear c2
    obtain rfl := Option.some.inj H
    go_enter Tryd.func48, Tryd.ntmps48
    go_wp2
    go_ret
    exact ⟨by first | rfl | (simp; done) | (simp [*]; done), by repeat (first | exact Drawn0.refl _ | apply Drawn0.step)⟩

/-! ### disk_has: function 51 -/
def disk_has.f (l0_0 : List ByteArray) (l0_1 : List (S42)) (a1 : Int) : Option (Bool) := if a1 ≥ 0 then (some (decide (a1 < (l0_0.length : Int)))) else (some false)
set_option maxHeartbeats 8000000 in
set_option maxRecDepth 100000 in
theorem disk_has.calls (A0_0 : Option Addr) (c0_0 : Nat) (l0_0 : List ByteArray) (A0_1 : Option Addr) (c0_1 : Nat) (l0_1 : List (S42)) (a1 : Int) (r : Bool) (w : World) (hr0_0 : Kd.C Kd.string w A0_0 l0_0.length l0_0) (hc0_0 : l0_0.length ≤ c0_0) (hr0_1 : Kd.C k42 w A0_1 l0_1.length l0_1) (hc0_1 : l0_1.length ≤ c0_1) (h : disk_has.f l0_0 l0_1 a1 = some r) :
    Calls Tryd.prog 51 #[.agg #[.slice A0_0 l0_0.length c0_0, .slice A0_1 l0_1.length c0_1], .int .i64 a1] w fun e w' => e = .returned (.bool r) ∧ Below w.heap.size w w' := by
  have hu25 := Tryd.underlying25
  have HR0_0 := Aside0.mk hr0_0
  have HC0_0 := Aside0.mk hc0_0
  clear hr0_0 hc0_0
  have HR0_1 := Aside0.mk hr0_1
  have HC0_1 := Aside0.mk hc0_1
  clear hr0_1 hc0_1
  have HB := Aside0.mk (Below.refl w.heap.size w)
  have H : (if a1 ≥ 0 then (some (decide (a1 < (l0_0.length : Int)))) else (some false)) = some r := h
  clear h
  by_cases c3 : a1 ≥ 0
  · rw [if_pos c3] at H
    have c3b0 : decide (0 ≤ a1) = true := decide_eq_true c3
    clear c3
    obtain rfl := Option.some.inj H
    go_enter Tryd.func51, Tryd.ntmps51
    go_wp2_with (first | ((with_reducible refine gate_dst (N := 2) rfl ?_); (try (refine gate_guard (by rfl) ?_; dsimp only)); refine box_event ?hg (N := 2) ?hd (cs := #[.slice A0_0 l0_0.length c0_0, .slice A0_1 l0_1.length c0_1]) (t := 25) ?hr ?_; (case hd => rfl); (case hg => rfl); (case hr => first | (go_simp; done) | (go_simp; rfl)); intro gb119 hg w4 hbox hb; have n0_ := Aside0.mk (below_step (by repeat (first | (with_reducible first | exact HB.out | apply below_alloc | apply pw_below_drewN | apply below_drew1) | exact HB.out)) hb); have n1_ := Aside0.mk (hbox); have n2_ := Aside0.mk ((by rw [hg]; exact (below_size (by repeat (first | (with_reducible first | exact HB.out | apply below_alloc | apply pw_below_drewN | apply below_drew1) | exact HB.out))) : w.heap.size ≤ gb119)); have n3_ := Aside0.mk ((by rw [hg]; exact (below_size (by repeat (first | (with_reducible first | exact HB.out | apply below_alloc | apply pw_below_drewN | apply below_drew1) | exact HB.out))) : w.heap.size ≤ gb119)); clear HB; have HB := n0_; have BK119 := n1_; have GW119 := n2_; have GE119 := n3_; clear n0_ n1_ n2_ n3_; clear hb hbox hg; have hcz5_0 : w4.cell? ⟨gb119, 0, none⟩ = some (.slice A0_0 l0_0.length c0_0) := (blk_cell BK119.out 0).trans rfl; have hcz5_1 : w4.cell? ⟨gb119, 1, none⟩ = some (.slice A0_1 l0_1.length c0_1) := (blk_cell BK119.out 1).trans rfl; have hfz5_0 := blk_frozen BK119.out 0; have hfz5_1 := blk_frozen BK119.out 1))
    go_ret
    exact ⟨by first | rfl | (rw [show ∀ n_ : Int, -9223372036854775808 ≤ n_ → n_ < 9223372036854775808 → wrap64 n_ = n_ from fun n_ h1_ h2_ => by unfold wrap64; omega] <;> first | rfl | omega) | (simp [errW_none, errW_some] <;> rfl) | (simp [*, errW_none, errW_some] <;> rfl), by repeat (first | (with_reducible first | exact HB.out | apply below_alloc | apply pw_below_drewN | apply below_drew1 | refine below_set ?_ GE119.out) | exact HB.out)⟩
  · rw [if_neg c3] at H
    have c3b0 : decide (0 ≤ a1) = false := decide_eq_false c3
    clear c3
    obtain rfl := Option.some.inj H
    go_enter Tryd.func51, Tryd.ntmps51
    go_wp2_with (first | ((with_reducible refine gate_dst (N := 2) rfl ?_); (try (refine gate_guard (by rfl) ?_; dsimp only)); refine box_event ?hg (N := 2) ?hd (cs := #[.slice A0_0 l0_0.length c0_0, .slice A0_1 l0_1.length c0_1]) (t := 25) ?hr ?_; (case hd => rfl); (case hg => rfl); (case hr => first | (go_simp; done) | (go_simp; rfl)); intro gb119 hg w6 hbox hb; have n0_ := Aside0.mk (below_step (by repeat (first | (with_reducible first | exact HB.out | apply below_alloc | apply pw_below_drewN | apply below_drew1) | exact HB.out)) hb); have n1_ := Aside0.mk (hbox); have n2_ := Aside0.mk ((by rw [hg]; exact (below_size (by repeat (first | (with_reducible first | exact HB.out | apply below_alloc | apply pw_below_drewN | apply below_drew1) | exact HB.out))) : w.heap.size ≤ gb119)); have n3_ := Aside0.mk ((by rw [hg]; exact (below_size (by repeat (first | (with_reducible first | exact HB.out | apply below_alloc | apply pw_below_drewN | apply below_drew1) | exact HB.out))) : w.heap.size ≤ gb119)); clear HB; have HB := n0_; have BK119 := n1_; have GW119 := n2_; have GE119 := n3_; clear n0_ n1_ n2_ n3_; clear hb hbox hg))
    go_ret
    exact ⟨by first | rfl | (rw [show ∀ n_ : Int, -9223372036854775808 ≤ n_ → n_ < 9223372036854775808 → wrap64 n_ = n_ from fun n_ h1_ h2_ => by unfold wrap64; omega] <;> first | rfl | omega) | (simp [errW_none, errW_some] <;> rfl) | (simp [*, errW_none, errW_some] <;> rfl), by repeat (first | (with_reducible first | exact HB.out | apply below_alloc | apply pw_below_drewN | apply below_drew1 | refine below_set ?_ GE119.out) | exact HB.out)⟩

end Go.Proofs.YtniplmjbligmlaaDoor.Q

/-! disk.Right: which disks may be (its closure, and slices.ContainsFunc over it, by hand). -/
namespace Go.Proofs.YtniplmjbligmlaaDoor.Q
open Go.RowKit Go.Proofs.YtniplmjbligmlaaDoorW.PrintWords Go.Proofs.YtniplmjbligmlaaDoorW.PrintLast Go.Proofs.YtniplmjbligmlaaDoorW.PrintMore Go.Proofs.YtniplmjbligmlaaDoor.Base
attribute [local go_sem] max2_int min2_int max_two min_two max_three min_three max_four min_four
set_option linter.unusedVariables false
theorem stands_eq (s : ByteArray) : disk_stands.f s = some (standsB s) := by
  unfold disk_stands.f standsB
  by_cases h : (s.size : Int) ≤ 512
  · rw [if_pos h]; unfold le_Trim.f strings_TrimRight.f; rw [if_pos ⟨rfl, by omega⟩]
    have h2 : s.size ≤ 512 := by omega
    simp only [Option.bind_some, decide_eq_true h2, Bool.true_and, Option.some.injEq]
    rw [Bool.eq_iff_iff]; simp only [beq_iff_eq, decide_eq_true_eq, toList_L]
    exact ⟨fun e => L_inj e, fun e => by rw [e]⟩
  · rw [if_neg h]; have h2 : ¬ s.size ≤ 512 := by omega
    simp [h2]
theorem has_eq (l0 : List ByteArray) (l1 : List S42) (a : Int) : disk_has.f l0 l1 a = some (hasB l0.length a) := by
  unfold disk_has.f hasB
  by_cases h : a ≥ 0
  · rw [if_pos h]; simp [h]
  · rw [if_neg h]; simp [h]

set_option maxHeartbeats 2000000 in
set_option maxRecDepth 100000 in
theorem disk_Right_1.calls (x : S42) (A0 : Option Addr) (c0 : Nat) (l0 : List ByteArray) (A1 : Option Addr) (c1 : Nat) (l1 : List S42) (g : Nat) (w : World)
    (hb : w.heap[g]? = some (.cells #[.slice A0 l0.length c0, .slice A1 l1.length c1] 25 (0, 0))) (hr0 : Kd.C Kd.string w A0 l0.length l0) (hc0 : l0.length ≤ c0) (hr1 : Kd.C k42 w A1 l1.length l1) (hc1 : l1.length ≤ c1) :
    Calls Tryd.prog 50 #[.agg #[.int .i64 x.f0, .string x.f1], .pointer (some ⟨g, 0, none⟩)] w fun e w' => e = .returned (.bool (badW l0.length x)) ∧ Below w.heap.size w w' := by
  have HR0 := Aside0.mk hr0
  have HR1 := Aside0.mk hr1
  have HC0 := Aside0.mk hc0
  have HC1 := Aside0.mk hc1
  have HB := Aside0.mk hb
  clear hr0 hr1 hc0 hc1 hb
  have hcz0 : w.cell? ⟨g, 0, none⟩ = some (.slice A0 l0.length c0) := (blk_cell HB.out 0).trans rfl
  have hcz1 : w.cell? ⟨g, 1, none⟩ = some (.slice A1 l1.length c1) := (blk_cell HB.out 1).trans rfl
  have hlt : g < w.heap.size := World.block_lt_of_cell? w _ hcz0
  obtain ⟨x0, x1⟩ := x
  have E1 := Aside0.mk (has_eq l0 l1 x0)
  have E2 := Aside0.mk (stands_eq x1)
  have hbad : badW l0.length ⟨x0, x1⟩ = (!(hasB l0.length x0) || !(standsB x1)) := rfl
  rw [hbad]
  clear hbad
  generalize hasB l0.length x0 = b1 at E1 ⊢
  generalize standsB x1 = b2 at E2 ⊢
  cases b1
  · go_enter Tryd.func50, Tryd.ntmps50
    go_wp2_with ((with_reducible refine gate_dst (N := 2) rfl ?_); refine box_event rfl (N := 2) rfl (cs := #[.int .i64 x0, .string x1]) (t := 42) (by first | (go_simp; done) | (go_simp; rfl)) ?_; intro gb hg w1 hbox hb1; clear hg; have HR0' := Aside0.mk (Kd.C_below HR0.out hb1); have HR1' := Aside0.mk (Kd.C_below HR1.out hb1); have hq0 := (hb1.cell (p := ⟨g, 0, none⟩) hlt).trans hcz0; have hq1 := (hb1.cell (p := ⟨g, 1, none⟩) hlt).trans hcz1; have hx0 : w1.cell? ⟨gb, 0, none⟩ = some (.int .i64 x0) := (blk_cell hbox 0).trans rfl; have HX := Aside0.mk hbox; clear hbox; have HB1 := Aside0.mk hb1; clear hb1)
    refine (disk_has.calls A0 c0 l0 A1 c1 l1 x0 _ w1 HR0'.out HC0.out HR1'.out HC1.out E1.out).mono ?_
    rintro e w2 ⟨rfl, hb2⟩
    have HB2 := Aside0.mk (below_step HB1.out hb2)
    clear hb2
    go_wp2
    go_ret
    exact ⟨rfl, HB2.out⟩
  · go_enter Tryd.func50, Tryd.ntmps50
    go_wp2_with ((with_reducible refine gate_dst (N := 2) rfl ?_); refine box_event rfl (N := 2) rfl (cs := #[.int .i64 x0, .string x1]) (t := 42) (by first | (go_simp; done) | (go_simp; rfl)) ?_; intro gb hg w1 hbox hb1; clear hg; have HR0' := Aside0.mk (Kd.C_below HR0.out hb1); have HR1' := Aside0.mk (Kd.C_below HR1.out hb1); have hq0 := (hb1.cell (p := ⟨g, 0, none⟩) hlt).trans hcz0; have hq1 := (hb1.cell (p := ⟨g, 1, none⟩) hlt).trans hcz1; have hx0 : w1.cell? ⟨gb, 0, none⟩ = some (.int .i64 x0) := (blk_cell hbox 0).trans rfl; have HX := Aside0.mk hbox; clear hbox; have HB1 := Aside0.mk hb1; clear hb1)
    refine (disk_has.calls A0 c0 l0 A1 c1 l1 x0 _ w1 HR0'.out HC0.out HR1'.out HC1.out E1.out).mono ?_
    rintro e w2 ⟨rfl, hb2⟩
    have hx1 : w2.cell? ⟨gb, 1, none⟩ = some (.string x1) := (blk_cell (blk_below HX.out hb2) 1).trans rfl
    have HB2 := Aside0.mk (below_step HB1.out hb2)
    clear hb2
    go_wp2_with fail
    refine (disk_stands.calls x1 _ w2 E2.out).mono ?_
    rintro e w3 ⟨rfl, ⟨nd, rfl⟩⟩
    go_wp2
    go_ret
    exact ⟨rfl, pw_below_drewN HB2.out _⟩

def IntBool (b : Bool) (w : World) (e : Ending) (w' : World) : Prop := ∃ n : Int, decide (0 ≤ n) = b ∧ e = .returned (.int .i64 n) ∧ Below w.heap.size w w'
theorem rd_at (l : List S42) (k : Nat) (h : k < l.length) : rd_T42 l (k : Int) = l[k] := by
  simp [rd_T42, List.getD_eq_getElem?_getD, List.getElem?_eq_getElem h]
set_option maxHeartbeats 4000000 in
set_option maxRecDepth 100000 in
theorem index_bad.calls (A0 : Option Addr) (c0 : Nat) (l0 : List ByteArray) (A1 : Option Addr) (c1 : Nat) (l1 : List S42) (g : Nat) (w : World)
    (hb : w.heap[g]? = some (.cells #[.slice A0 l0.length c0, .slice A1 l1.length c1] 25 (0, 0))) (hr0 : Kd.C Kd.string w A0 l0.length l0) (hc0 : l0.length ≤ c0) (hr1 : Kd.C k42 w A1 l1.length l1) (hc1 : l1.length ≤ c1) :
    Calls Tryd.prog 70 #[.slice A1 l1.length c1, .func (.func 50) #[] #[.pointer (some ⟨g, 0, none⟩)]] w (IntBool (l1.any (badW l0.length)) w) := by
  have HR0 := Aside0.mk hr0
  have HR1 := Aside0.mk hr1
  have HC0 := Aside0.mk hc0
  have HC1 := Aside0.mk hc1
  have HB := Aside0.mk hb
  have hmax : l1.length ≤ 9223372036854775807 := hr1.2.1
  clear hr0 hr1 hc0 hc1 hb
  go_enter Tryd.func70, Tryd.ntmps70
  go_wp2
  go_loopw [8] (fun v wr => ∃ k : Nat, k ≤ l1.length ∧ v = .int .i64 k ∧ Aside0 (∀ j, j < k → badW l0.length (rd_T42 l1 (j : Nat)) = false) ∧ Aside0 (Below w.heap.size w wr)) (fun v _ => l1.length - (intOf v).toNat)
  case atStart => exact ⟨0, Nat.zero_le _, rfl, ⟨fun j hj => absurd hj (Nat.not_lt_zero _)⟩, ⟨Below.refl _ _⟩⟩
  case round =>
    obtain ⟨k, hk, rfl, HA, HW⟩ := hrel
    by_cases hlt : k < l1.length
    · obtain ⟨ad, hA, hx0, hx1⟩ := at_T42 (Kd.C_below HR1.out HW.out) (k : Int) (by omega) (by omega)
      subst hA
      simp only [Int.toNat_natCast] at hx0 hx1
      obtain ⟨x, hx⟩ : ∃ x, rd_T42 l1 (k : Int) = x := ⟨_, rfl⟩
      rw [hx] at hx0 hx1
      have HX := Aside0.mk hx
      clear hx
      have h0k : (0 : Int) ≤ k := by omega
      go_wp2_with fail
      refine (disk_Right_1.calls x A0 c0 l0 (some ad) c1 l1 g wr (blk_below HB.out HW.out) (Kd.C_below HR0.out HW.out) HC0.out (Kd.C_below HR1.out HW.out) HC1.out).mono ?_
      rintro e w2 ⟨rfl, hb2⟩
      have HW2 := Aside0.mk (below_step HW.out hb2)
      clear hb2
      obtain ⟨b, hbx⟩ : ∃ b, badW l0.length x = b := ⟨_, rfl⟩
      rw [hbx]
      have HBX := Aside0.mk hbx
      clear hbx
      cases b
      · go_wp2
        go_roundw
        case rel => exact ⟨k + 1, by omega, by go_num, ⟨fun j hj => by
          rcases Nat.lt_or_ge j k with h | h
          · exact HA.out j h
          · obtain rfl : j = k := by omega
            rw [HX.out, HBX.out]⟩, HW2⟩
        case measure => simp [intOf]; omega
      · go_wp2
        go_ret
        refine ⟨k, ?_, rfl, HW2.out⟩
        have h1 := HX.out
        rw [rd_at l1 k hlt] at h1
        have h2 : l1.any (badW l0.length) = true := List.any_eq_true.2 ⟨l1[k], List.getElem_mem _, by rw [h1]; exact HBX.out⟩
        rw [h2]; simp
    · obtain rfl : k = l1.length := by omega
      go_wp2
      go_ret
      refine ⟨-1, ?_, rfl, HW.out⟩
      have h2 : l1.any (badW l0.length) = false := by
        rw [List.any_eq_false]
        intro y hy
        obtain ⟨j, hj, rfl⟩ := List.getElem_of_mem hy
        have := HA.out j hj
        rw [rd_at l1 j hj] at this
        rw [this]; decide
      rw [h2]; rfl
set_option maxHeartbeats 2000000 in
set_option maxRecDepth 100000 in
theorem contains_bad.calls (A0 : Option Addr) (c0 : Nat) (l0 : List ByteArray) (A1 : Option Addr) (c1 : Nat) (l1 : List S42) (g : Nat) (w : World)
    (hb : w.heap[g]? = some (.cells #[.slice A0 l0.length c0, .slice A1 l1.length c1] 25 (0, 0))) (hr0 : Kd.C Kd.string w A0 l0.length l0) (hc0 : l0.length ≤ c0) (hr1 : Kd.C k42 w A1 l1.length l1) (hc1 : l1.length ≤ c1) :
    Calls Tryd.prog 49 #[.slice A1 l1.length c1, .func (.func 50) #[] #[.pointer (some ⟨g, 0, none⟩)]] w fun e w' => e = .returned (.bool (l1.any (badW l0.length))) ∧ Below w.heap.size w w' := by
  have HC := Aside0.mk (index_bad.calls A0 c0 l0 A1 c1 l1 g w hb hr0 hc0 hr1 hc1)
  clear hb hr0 hc0 hr1 hc1
  go_enter Tryd.func49, Tryd.ntmps49
  go_wp2_with fail
  refine HC.out.mono ?_
  rintro e w2 ⟨n, hn, rfl, hb2⟩
  have HB2 := Aside0.mk hb2
  have HN := Aside0.mk hn
  clear hb2 hn
  go_wp2
  go_ret
  exact ⟨by rw [← HN.out]; rfl, HB2.out⟩
def disk_Right.f (l0 : List ByteArray) (l1 : List S42) : Option Bool := some (rightB l0 l1)
set_option maxHeartbeats 4000000 in
set_option maxRecDepth 100000 in
theorem disk_Right.calls (A0_0 : Option Addr) (c0_0 : Nat) (l0_0 : List ByteArray) (A0_1 : Option Addr) (c0_1 : Nat) (l0_1 : List S42) (r : Bool) (w : World)
    (hr0_0 : Kd.C Kd.string w A0_0 l0_0.length l0_0) (hc0_0 : l0_0.length ≤ c0_0) (hr0_1 : Kd.C k42 w A0_1 l0_1.length l0_1) (hc0_1 : l0_1.length ≤ c0_1) (h : disk_Right.f l0_0 l0_1 = some r) :
    Calls Tryd.prog 18 #[.agg #[.slice A0_0 l0_0.length c0_0, .slice A0_1 l0_1.length c0_1]] w fun e w' => e = .returned (.bool r) ∧ Below w.heap.size w w' := by
  obtain rfl := Option.some.inj h
  clear h
  have HR0 := Aside0.mk hr0_0
  have HR1 := Aside0.mk hr0_1
  have HC0 := Aside0.mk hc0_0
  have HC1 := Aside0.mk hc0_1
  have hmax : l0_0.length ≤ 9223372036854775807 := hr0_0.2.1
  clear hr0_0 hr0_1 hc0_0 hc0_1
  have hnil : ∀ b : Bool, b = rightB l0_0 l0_1 → (Ending.returned (.bool b) = Ending.returned (.bool (rightB l0_0 l0_1))) := fun b h => by rw [h]
  by_cases c1 : (l0_0.length : Int) < 1
  · have e1 : decide ((l0_0.length : Int) < 1) = true := decide_eq_true c1
    have e2 : decide (l0_0.length < 1) = true := decide_eq_true (by omega)
    have hr : rightB l0_0 l0_1 = false := by unfold rightB; rw [decide_eq_false (by omega : ¬ 1 ≤ l0_0.length)]; rfl
    rw [hr]
    clear hr hnil c1
    go_enter Tryd.func18, Tryd.ntmps18
    go_wp2
    go_ret
    exact ⟨rfl, below_alloc (Below.refl _ _) _⟩
  have e1 : decide ((l0_0.length : Int) < 1) = false := decide_eq_false c1
  have e2 : decide (l0_0.length < 1) = false := decide_eq_false (by omega)
  have c1' : 1 ≤ l0_0.length := by omega
  clear c1
  by_cases c2 : (l0_0.length : Int) > 256
  · have e3 : decide (256 < (l0_0.length : Int)) = true := decide_eq_true c2
    have e4 : decide (256 < l0_0.length) = true := decide_eq_true (by omega)
    have hr : rightB l0_0 l0_1 = false := by unfold rightB; rw [decide_eq_false (by omega : ¬ l0_0.length ≤ 256)]; simp
    rw [hr]
    clear hr hnil c2 c1'
    go_enter Tryd.func18, Tryd.ntmps18
    go_wp2
    go_ret
    exact ⟨rfl, below_alloc (Below.refl _ _) _⟩
  have e3 : decide (256 < (l0_0.length : Int)) = false := decide_eq_false c2
  have e4 : decide (256 < l0_0.length) = false := decide_eq_false (by omega)
  have c2' : l0_0.length ≤ 256 := by omega
  clear c2
  have hr : rightB l0_0 l0_1 = (l0_0.all standsB && !(l0_1.any (badW l0_0.length))) := by unfold rightB; rw [decide_eq_true c1', decide_eq_true c2']; simp
  rw [hr]
  clear hr hnil
  go_enter Tryd.func18, Tryd.ntmps18
  go_wp2_with ((with_reducible refine gate_dst (N := 1) rfl ?_); refine box_event rfl (N := 1) rfl (cs := #[.slice A0_0 l0_0.length c0_0, .slice A0_1 l0_1.length c0_1]) (t := 25) (by first | (go_simp; done) | (go_simp; rfl)) ?_; intro gb hg w1 hbox hb1; clear hg; have hq0 := (blk_cell hbox 0).trans rfl; have hq1 := (blk_cell hbox 1).trans rfl; have HX := Aside0.mk hbox; have HB1 := Aside0.mk hb1; clear hbox hb1)
  clear e1 e2 e3 e4
  go_loopw [18] (fun v wr => ∃ k : Nat, k ≤ l0_0.length ∧ v = .int .i64 k ∧ Aside0 (∀ j, (h : j < l0_0.length) → j < k → standsB l0_0[j] = true) ∧ Aside0 (wr.heap[gb]? = some (.cells #[.slice A0_0 l0_0.length c0_0, .slice A0_1 l0_1.length c0_1] 25 (0, 0))) ∧ Aside0 (Below w.heap.size w wr)) (fun v _ => l0_0.length - (intOf v).toNat)
  case atStart => exact ⟨0, Nat.zero_le _, rfl, ⟨fun j _ hj => absurd hj (Nat.not_lt_zero _)⟩, HX, HB1⟩
  case round =>
    clear hq0 hq1
    obtain ⟨k, hk, rfl, HA, HX2, HW⟩ := hrel
    by_cases hlt : k < l0_0.length
    · obtain ⟨ad, hA, hx0⟩ := Kd.at_string (Kd.C_below HR0.out HW.out) (k : Int) (by omega) (by omega)
      subst hA
      simp only [Int.toNat_natCast] at hx0
      have hx : rdOf ByteArray.empty l0_0 (k : Int) = l0_0[k] := by simp [rdOf, List.getD_eq_getElem?_getD, List.getElem?_eq_getElem hlt]
      rw [hx] at hx0
      clear hx
      have h0k : (0 : Int) ≤ k := by omega
      have E := Aside0.mk (stands_eq l0_0[k])
      obtain ⟨b, hbx⟩ : ∃ b, standsB l0_0[k] = b := ⟨_, rfl⟩
      rw [hbx] at E
      have HBX := Aside0.mk hbx
      clear hbx
      cases b
      · have hall : l0_0.all standsB = false := by rw [List.all_eq_false]; exact ⟨l0_0[k], List.getElem_mem _, by rw [HBX.out]; decide⟩
        have HALL := Aside0.mk hall
        clear hall
        go_wp2_with (go_at_call 48; refine (disk_stands.calls _ _ _ E.out).mono ?_; rintro e w3 ⟨rfl, ⟨nd, rfl⟩⟩)
        go_ret
        exact ⟨by rw [HALL.out]; rfl, pw_below_drewN HW.out _⟩
      · go_wp2_with (go_at_call 48; refine (disk_stands.calls _ _ _ E.out).mono ?_; rintro e w3 ⟨rfl, ⟨nd, rfl⟩⟩)
        go_roundw
        case rel => exact ⟨k + 1, by omega, by go_num, ⟨fun j hj hjk => by
          rcases Nat.lt_or_ge j k with h | h
          · exact HA.out j hj h
          · obtain rfl : j = k := by omega
            exact HBX.out⟩, ⟨blk_drewN HX2.out _⟩, ⟨pw_below_drewN HW.out _⟩⟩
        case measure => simp [intOf]; omega
    · obtain rfl : k = l0_0.length := by omega
      have hall : l0_0.all standsB = true := by
        rw [List.all_eq_true]
        intro y hy
        obtain ⟨j, hj, rfl⟩ := List.getElem_of_mem hy
        exact HA.out j hj hj
      have HALL := Aside0.mk hall
      clear hall
      have hq0 : wr.cell? ⟨gb, 0, none⟩ = some (.slice A0_0 l0_0.length c0_0) := (blk_cell HX2.out 0).trans rfl
      have hq1 : wr.cell? ⟨gb, 1, none⟩ = some (.slice A0_1 l0_1.length c0_1) := (blk_cell HX2.out 1).trans rfl
      go_wp2_with fail
      refine (contains_bad.calls A0_0 c0_0 l0_0 A0_1 c0_1 l0_1 gb wr HX2.out (Kd.C_below HR0.out HW.out) HC0.out (Kd.C_below HR1.out HW.out) HC1.out).mono ?_
      rintro e w3 ⟨rfl, hb3⟩
      have HW3 := Aside0.mk (below_step HW.out hb3)
      clear hb3
      go_wp2
      go_ret
      exact ⟨by rw [HALL.out]; rfl, HW3.out⟩
end Go.Proofs.YtniplmjbligmlaaDoor.Q

/-! slices.Backward over writes: the row from its end on, for every loop body that keeps what lay below n₀. -/
namespace Go.Proofs.YtniplmjbligmlaaDoor.Q
open Go.RowKit Go.Shelf Go.Proofs.YtniplmjbligmlaaDoorW.PrintWords Go.Proofs.YtniplmjbligmlaaDoorW.PrintLast Go.Proofs.YtniplmjbligmlaaDoorW.PrintMore Go.Proofs.YtniplmjbligmlaaDoor.Base
set_option linter.unusedVariables false
attribute [local go_sem] Oper.semAt_some
/-- what round k brings -/
def backF (l : List S42) (k : Nat) : Int × S42 := ((l.length : Int) - 1 - k, rd_T42 l ((l.length : Int) - 1 - k))
def upto {α : Type} (f : Nat → α) (k : Nat) : List α := (List.range k).map f
theorem upto_succ {α : Type} (f : Nat → α) (k : Nat) : upto f (k + 1) = upto f k ++ [f k] := by simp [upto, List.range_succ]
theorem upto_length {α : Type} (f : Nat → α) (k : Nat) : (upto f k).length = k := by simp [upto]
def encB (x : Int × S42) : Array Value := #[.int .i64 x.1, .agg #[.int .i64 x.2.f0, .string x.2.f1]]

set_option maxRecDepth 100000 in
set_option maxHeartbeats 4000000 in
theorem back1_in (F : Fence) (n : Nat) (hf : F.fn 71) (hro : F.round = none) (hn : 1 ≤ n) (l Bs n₀ : Nat) (A : Option Addr) (c : Nat) (xs : List S42) (w0 : World) (hC : Kd.C k42 w0 A xs.length xs) (hw0 : w0.heap.size ≤ n₀) (hBn : Bs < n₀)
    (J Jx : List (Int × S42) → World → Prop)
    (hY : ∀ pre x W, J pre W → pre.length < xs.length → YieldAt F (n - 1) Tryd.prog l (encB x) W fun e W' =>
      (e = .returned (.bool true) ∧ J (pre ++ [x]) W' ∧ Below n₀ W W') ∨ (e = .returned (.bool false) ∧ Jx (pre ++ [x]) W'))
    (W : World) (hW : Below w0.heap.size w0 W) (hBs : W.cell? ⟨Bs, 0, none⟩ = some (.slice A xs.length c)) (h0 : J [] W) :
    CallsIn F n Tryd.prog 71 #[.func (.yield l) #[] #[], .pointer (some ⟨Bs, 0, none⟩)] W fun e W' => (∃ v, e = .returned v) ∧
      ((∃ ys, ys = upto (backF xs) xs.length ∧ J ys W') ∨ (∃ pre, (∃ k, k ≤ xs.length ∧ pre = upto (backF xs) k) ∧ Jx pre W')) := by
  have hmax : xs.length ≤ 9223372036854775807 := hC.2.1
  have hwr : wrap64 ((xs.length : Int) - 1) = (xs.length : Int) - 1 := wrap64_id (by omega) (by omega)
  have HC := Aside0.mk hC
  have HW := Aside0.mk hW
  clear hC hW
  refine callsIn_of_wp Tryd.func71 rfl hf ?_ hro
  simp only [Tryd.ntmps71, List.size_toArray, List.length_cons, List.length_nil, Nat.reduceAdd, Nat.reduceSub, Array.replicate_succ, Array.replicate_zero, List.push_toArray, List.append_toArray, List.nil_append, List.cons_append]
  gi_wp2
  gi_loopw [3] (fun i wr => ∃ k : Nat, k ≤ xs.length ∧ i = .int .i64 ((xs.length : Int) - 1 - k) ∧ J (upto (backF xs) k) wr ∧ Aside0 (Below n₀ W wr))
    (fun i _ => (intOf i + 1).toNat)
  case atStart => exact ⟨0, Nat.zero_le _, by simp, h0, ⟨Below.refl _ _⟩⟩
  case round =>
    obtain ⟨k, hk, rfl, hJs, hnx⟩ := hrel
    have hBs' : wr.cell? ⟨Bs, 0, none⟩ = some (.slice A xs.length c) := (hnx.out.cell (p := ⟨Bs, 0, none⟩) hBn).trans hBs
    by_cases hlt : k < xs.length
    · obtain ⟨i, hi⟩ : ∃ i : Int, (xs.length : Int) - 1 - k = i := ⟨_, rfl⟩
      have hi0 : 0 ≤ i := by omega
      have hi1 : i < (xs.length : Int) := by omega
      obtain ⟨ad, hA, hx0, hx1⟩ := at_T42 (Kd.C_below HC.out (HW.out.trans (hnx.out.mono hw0))) i hi0 hi1
      subst hA
      obtain ⟨fn, tmps, assign, body, hy, hR⟩ := hY _ (backF xs k) wr hJs (by rw [upto_length]; exact hlt)
      have hbf : backF xs k = (i, rd_T42 xs i) := by unfold backF; rw [hi]
      rw [hbf] at hy
      obtain ⟨x, hx⟩ : ∃ x, rd_T42 xs i = x := ⟨_, rfl⟩
      rw [hx] at hx0 hx1 hy
      unfold encB at hy
      dsimp only at hy
      have hww : wrap64 (i - 1) = i - 1 := wrap64_id (by omega) (by omega)
      have HI := Aside0.mk hi
      rw [hi]
      clear hi
      gi_wp2
      refine hR.mono ?_
      rintro e W3 (⟨rfl, hJ3, hk3⟩ | ⟨rfl, hJx3⟩)
      · gi_wp2
        go_roundw
        case rel => exact ⟨k + 1, by omega, by rw [← HI.out]; congr 1; omega, by rw [upto_succ]; exact hJ3, ⟨hnx.out.trans hk3⟩⟩
        case measure => simp only [intOf]; omega
      · gi_wp2
        refine bodyPost_ret (results_none rfl _ _ _) rfl ?_
        exact ⟨⟨_, rfl⟩, .inr ⟨_, ⟨k + 1, by omega, (upto_succ _ _).symm⟩, hJx3⟩⟩
    · obtain rfl : k = xs.length := by omega
      have he : (xs.length : Int) - 1 - (xs.length : Nat) = -1 := by omega
      rw [he]
      gi_wp2
      go_end0
      exact ⟨⟨_, rfl⟩, .inl ⟨_, rfl, hJs⟩⟩

set_option maxHeartbeats 1000000 in
theorem back_in (F : Fence) (n : Nat) (hf : F.fn 53) (hro : F.round = none) (a : Option Addr) (len cap : Nat) (w : World) :
    CallsIn F n Tryd.prog 53 #[.slice a len cap] w fun e w' => e = .returned (.func (.func 71) #[] #[.pointer (some ⟨w.heap.size, 0, none⟩)]) ∧ w' = w.alloc (.cells #[.slice a len cap] 23) := by
  refine callsIn_of_wp Tryd.func53 rfl hf ?_ hro
  simp only [Tryd.ntmps53, List.size_toArray, List.length_cons, List.length_nil, Nat.reduceAdd, Nat.reduceSub, Array.replicate_succ, Array.replicate_zero, List.push_toArray, List.append_toArray, List.nil_append, List.cons_append]
  gi_wp2
  go_ret
  exact ⟨rfl, rfl⟩

theorem back_stops (F : Fence) (n : Nat) (hf : F.fn 71) (hro : F.round = none) (hn : 1 ≤ n) (Bs n₀ : Nat) (A : Option Addr) (c : Nat) (xs : List S42) (w0 : World) (hC : Kd.C k42 w0 A xs.length xs) (w : World) (hw : Below w0.heap.size w0 w) (hw0 : w0.heap.size ≤ n₀) (hn₀ : n₀ ≤ w.heap.size) (hBn : Bs < n₀)
    (hBs : w.cell? ⟨Bs, 0, none⟩ = some (.slice A xs.length c)) :
    SeqStopsK F n Tryd.prog 71 #[.pointer (some ⟨Bs, 0, none⟩)] encB (Below n₀) (fun ys => ys = upto (backF xs) xs.length) (fun pre => ∃ k, k ≤ xs.length ∧ pre = upto (backF xs) k) xs.length w := fun l J Jx W hW _ _ hY h0 =>
  back1_in F n hf hro hn l Bs n₀ A c xs w0 hC hw0 hBn J Jx hY W (hw.trans (hW.mono hw.size)) ((hW.cell (p := ⟨Bs, 0, none⟩) (show Bs < w.heap.size by omega)).trans hBs) h0
end Go.Proofs.YtniplmjbligmlaaDoor.Q

/-! disk.Read by hand. -/
namespace Go.Proofs.YtniplmjbligmlaaDoor.Q
open Go.RowKit Go.Shelf Go.Proofs.YtniplmjbligmlaaDoorW.PrintWords Go.Proofs.YtniplmjbligmlaaDoorW.PrintLast Go.Proofs.YtniplmjbligmlaaDoorW.PrintMore Go.Proofs.YtniplmjbligmlaaDoor.Base
set_option linter.unusedVariables false
attribute [local go_sem] Oper.semAt_some
/-- the last write to a sector, or what the sector has -/
def lastW : List S42 → Int → ByteArray → ByteArray
  | [], _, s => s
  | x :: xs, a, s => lastW xs a (if x.f0 = a then x.f1 else s)
def disk_Read.f (l0 : List ByteArray) (l1 : List S42) (a : Int) : Option (ByteArray × Int) :=
  if rightB l0 l1 = true then (if hasB l0.length a = true then some (lastW l1 a (rdOf ByteArray.empty l0 a), 0) else some (⟨#[]⟩, 20)) else some (⟨#[]⟩, 1)

theorem four (w : World) (o1 o2 o3 o4 : Obj) : ∃ W, (((w.alloc o1).alloc o2).alloc o3).alloc o4 = W ∧ W.heap[w.heap.size]? = some o1 ∧ W.heap[w.heap.size + 1]? = some o2 ∧ W.heap[w.heap.size + 1 + 1]? = some o3 ∧ W.heap[w.heap.size + 1 + 1 + 1]? = some o4 ∧ Below w.heap.size w W ∧ W.heap.size = w.heap.size + 4 := by
  have e1 := World.size_alloc w o1
  have e2 := World.size_alloc (w.alloc o1) o2
  have e3 := World.size_alloc ((w.alloc o1).alloc o2) o3
  have e4 := World.size_alloc (((w.alloc o1).alloc o2).alloc o3) o4
  have n1 := World.alloc_heap_new w o1
  have n2 := World.alloc_heap_new (w.alloc o1) o2
  have n3 := World.alloc_heap_new ((w.alloc o1).alloc o2) o3
  have n4 := World.alloc_heap_new (((w.alloc o1).alloc o2).alloc o3) o4
  rw [e1] at n2; rw [e2, e1] at n3; rw [e3, e2, e1] at n4
  refine ⟨_, rfl, ?_, ?_, ?_, n4, below_alloc (below_alloc (below_alloc (below_alloc (Below.refl _ _) _) _) _) _, by omega⟩
  · exact ((Below.heap_alloc _ _ _ (by omega)).trans ((Below.heap_alloc _ _ _ (by omega)).trans (Below.heap_alloc _ _ _ (by omega)))).trans n1
  · exact ((Below.heap_alloc _ _ _ (by omega)).trans (Below.heap_alloc _ _ _ (by omega))).trans n2
  · exact (Below.heap_alloc _ _ _ (by omega)).trans n3
set_option maxHeartbeats 4000000 in
set_option maxRecDepth 100000 in
theorem read_wrong (A0_0 : Option Addr) (c0_0 : Nat) (l0_0 : List ByteArray) (A0_1 : Option Addr) (c0_1 : Nat) (l0_1 : List S42) (a1 : Int) (w : World)
    (hr0_0 : Kd.C Kd.string w A0_0 l0_0.length l0_0) (hc0_0 : l0_0.length ≤ c0_0) (hr0_1 : Kd.C k42 w A0_1 l0_1.length l0_1) (hc0_1 : l0_1.length ≤ c0_1) (hno : rightB l0_0 l0_1 = false) :
    Calls Tryd.prog 20 #[.agg #[.slice A0_0 l0_0.length c0_0, .slice A0_1 l0_1.length c0_1], .int .i64 a1] w fun e w' => e = .returned (.tuple #[.string ⟨#[]⟩, .int .i64 1]) ∧ Below w.heap.size w w' := by
  have HR0 := Aside0.mk hr0_0
  have HR1 := Aside0.mk hr0_1
  have HC0 := Aside0.mk hc0_0
  have HC1 := Aside0.mk hc0_1
  have HN := Aside0.mk (show disk_Right.f l0_0 l0_1 = some false by unfold disk_Right.f; rw [hno])
  clear hr0_0 hr0_1 hc0_0 hc0_1 hno
  refine (callsIn_wide (n := 3)).1 ?_
  refine callsIn_of_wp_marks Tryd.func20 rfl trivial ?_ rfl
  simp only [Tryd.ntmps20, List.size_toArray, List.length_cons, List.length_nil, Nat.reduceAdd, Nat.reduceSub, Array.replicate_succ, Array.replicate_zero, List.push_toArray, List.append_toArray, List.nil_append, List.cons_append]
  gi_wp2_with fail
  refine ⟨trivial, ?_⟩
  obtain ⟨W4, hW4, h1, h2, h3, h4, hb, hs⟩ := four w (Obj.cells #[Value.slice A0_0 l0_0.length c0_0, Value.slice A0_1 l0_1.length c0_1] 25) (Obj.cells #[Value.int IntKind.i64 a1] 3) (Obj.cells #[Value.string { data := #[] }] 9) (Obj.cells #[Value.int IntKind.i64 0] 27)
  rw [hW4]
  clear hW4
  refine (callsIn_wide.2 (disk_Right.calls A0_0 c0_0 l0_0 A0_1 c0_1 l0_1 _ W4 (Kd.C_below HR0.out hb) HC0.out (Kd.C_below HR1.out hb) HC1.out HN.out)).mono ?_
  rintro e w5 ⟨rfl, hb5⟩
  have c4 := (blk_cell (blk_below h3 hb5) 0).trans rfl
  have c5 := (blk_cell (blk_below h4 hb5) 0).trans rfl
  have f4 := blk_frozen (blk_below h3 hb5) 0
  have f5 := blk_frozen (blk_below h4 hb5) 0
  have b4 : Boxed w5 (w.heap.size + 1 + 1) 9 (.string ⟨#[]⟩) := blk_below h3 hb5
  have b5 : Boxed w5 (w.heap.size + 1 + 1 + 1) 27 (.int .i64 0) := blk_below h4 hb5
  clear h1 h2 h3 h4
  gi_wp2
  have r4 := ((b4.set (.string ⟨#[]⟩)).other (B' := w.heap.size + 1 + 1 + 1) (by omega) (.int .i64 1)).cell
  have r5 := ((b5.other (B' := w.heap.size + 1 + 1) (by omega) (.string ⟨#[]⟩)).set (.int .i64 1)).cell
  refine ⟨_, ?_, rfl, ?_⟩
  · simp [results, Tryd.f20, go_sem, r4, r5]
  · exact ((hb.trans (hb5.mono hb.size)).setCell (p := ⟨w.heap.size + 1 + 1, 0, none⟩) (show w.heap.size ≤ w.heap.size + 1 + 1 by omega) _).setCell (p := ⟨w.heap.size + 1 + 1 + 1, 0, none⟩) (show w.heap.size ≤ w.heap.size + 1 + 1 + 1 by omega) _
set_option maxHeartbeats 4000000 in
set_option maxRecDepth 100000 in
theorem read_nosector (A0_0 : Option Addr) (c0_0 : Nat) (l0_0 : List ByteArray) (A0_1 : Option Addr) (c0_1 : Nat) (l0_1 : List S42) (a1 : Int) (w : World)
    (hr0_0 : Kd.C Kd.string w A0_0 l0_0.length l0_0) (hc0_0 : l0_0.length ≤ c0_0) (hr0_1 : Kd.C k42 w A0_1 l0_1.length l0_1) (hc0_1 : l0_1.length ≤ c0_1) (hno : rightB l0_0 l0_1 = true) (hhas : hasB l0_0.length a1 = false) :
    Calls Tryd.prog 20 #[.agg #[.slice A0_0 l0_0.length c0_0, .slice A0_1 l0_1.length c0_1], .int .i64 a1] w fun e w' => e = .returned (.tuple #[.string ⟨#[]⟩, .int .i64 20]) ∧ Below w.heap.size w w' := by
  have HR0 := Aside0.mk hr0_0
  have HR1 := Aside0.mk hr0_1
  have HC0 := Aside0.mk hc0_0
  have HC1 := Aside0.mk hc0_1
  have HN := Aside0.mk (show disk_Right.f l0_0 l0_1 = some true by unfold disk_Right.f; rw [hno])
  have HH := Aside0.mk (show disk_has.f l0_0 l0_1 a1 = some false by rw [has_eq, hhas])
  clear hr0_0 hr0_1 hc0_0 hc0_1 hno hhas
  refine (callsIn_wide (n := 3)).1 ?_
  refine callsIn_of_wp_marks Tryd.func20 rfl trivial ?_ rfl
  simp only [Tryd.ntmps20, List.size_toArray, List.length_cons, List.length_nil, Nat.reduceAdd, Nat.reduceSub, Array.replicate_succ, Array.replicate_zero, List.push_toArray, List.append_toArray, List.nil_append, List.cons_append]
  gi_wp2_with fail
  refine ⟨trivial, ?_⟩
  obtain ⟨W4, hW4, h1, h2, h3, h4, hb, hs⟩ := four w (Obj.cells #[Value.slice A0_0 l0_0.length c0_0, Value.slice A0_1 l0_1.length c0_1] 25) (Obj.cells #[Value.int IntKind.i64 a1] 3) (Obj.cells #[Value.string { data := #[] }] 9) (Obj.cells #[Value.int IntKind.i64 0] 27)
  rw [hW4]
  clear hW4
  refine (callsIn_wide.2 (disk_Right.calls A0_0 c0_0 l0_0 A0_1 c0_1 l0_1 _ W4 (Kd.C_below HR0.out hb) HC0.out (Kd.C_below HR1.out hb) HC1.out HN.out)).mono ?_
  rintro e w5 ⟨rfl, hb5⟩
  have d0 := (blk_cell (blk_below h1 hb5) 0).trans rfl
  have d1 := (blk_cell (blk_below h1 hb5) 1).trans rfl
  have d3 := (blk_cell (blk_below h2 hb5) 0).trans rfl
  gi_wp2_with fail
  refine ⟨trivial, ?_⟩
  have hb6 := hb.trans (hb5.mono hb.size)
  refine (callsIn_wide.2 (disk_has.calls A0_0 c0_0 l0_0 A0_1 c0_1 l0_1 a1 _ w5 (Kd.C_below HR0.out hb6) HC0.out (Kd.C_below HR1.out hb6) HC1.out HH.out)).mono ?_
  rintro e w7 ⟨rfl, hb7⟩
  clear d0 d1 d3
  have hb5 := hb5.trans (hb7.mono hb5.size)
  have c4 := (blk_cell (blk_below h3 hb5) 0).trans rfl
  have c5 := (blk_cell (blk_below h4 hb5) 0).trans rfl
  have f4 := blk_frozen (blk_below h3 hb5) 0
  have f5 := blk_frozen (blk_below h4 hb5) 0
  have b4 : Boxed w7 (w.heap.size + 1 + 1) 9 (.string ⟨#[]⟩) := blk_below h3 hb5
  have b5 : Boxed w7 (w.heap.size + 1 + 1 + 1) 27 (.int .i64 0) := blk_below h4 hb5
  clear h1 h2 h3 h4
  gi_wp2
  have r4 := ((b4.set (.string ⟨#[]⟩)).other (B' := w.heap.size + 1 + 1 + 1) (by omega) (.int .i64 20)).cell
  have r5 := ((b5.other (B' := w.heap.size + 1 + 1) (by omega) (.string ⟨#[]⟩)).set (.int .i64 20)).cell
  refine ⟨_, ?_, rfl, ?_⟩
  · simp [results, Tryd.f20, go_sem, r4, r5]
  · exact ((hb.trans (hb5.mono hb.size)).setCell (p := ⟨w.heap.size + 1 + 1, 0, none⟩) (show w.heap.size ≤ w.heap.size + 1 + 1 by omega) _).setCell (p := ⟨w.heap.size + 1 + 1 + 1, 0, none⟩) (show w.heap.size ≤ w.heap.size + 1 + 1 + 1 by omega) _

theorem lastW_app (a : Int) : ∀ (xs ys : List S42) (s : ByteArray), lastW (xs ++ ys) a s = lastW ys a (lastW xs a s)
  | [], _, _ => rfl
  | x :: xs, ys, s => lastW_app a xs ys _
theorem lastW_none (a : Int) : ∀ (xs : List S42) (s : ByteArray), (∀ x ∈ xs, x.f0 ≠ a) → lastW xs a s = s
  | [], _, _ => rfl
  | x :: xs, s, h => by
    unfold lastW; rw [if_neg (h x (List.mem_cons_self ..))]
    exact lastW_none a xs s (fun y hy => h y (List.mem_cons_of_mem _ hy))
theorem lastW_at (a : Int) (xs : List S42) (s : ByteArray) (j : Nat) (hj : j < xs.length) (e : xs[j].f0 = a) (h : ∀ i, j < i → (hi : i < xs.length) → xs[i].f0 ≠ a) : lastW xs a s = xs[j].f1 := by
  have e1 : xs = xs.take j ++ (xs[j] :: xs.drop (j + 1)) := by rw [← List.drop_eq_getElem_cons hj, List.take_append_drop]
  have e2 : lastW xs a s = lastW (xs.take j ++ (xs[j] :: xs.drop (j + 1))) a s := by rw [← e1]
  rw [e2, lastW_app]
  show lastW (xs.drop (j + 1)) a (if xs[j].f0 = a then xs[j].f1 else _) = _
  rw [if_pos e]
  refine lastW_none a _ _ fun x hx => ?_
  obtain ⟨i, hi, rfl⟩ := List.getElem_of_mem hx
  rw [List.getElem_drop]
  exact h _ (by omega) _
theorem backF_at (l : List S42) (k j : Nat) (hk : k + j + 1 = l.length) : backF l k = ((j : Int), l[j]) := by
  unfold backF
  have e : (l.length : Int) - 1 - k = (j : Int) := by omega
  rw [e, rd_at l j (by omega)]
theorem mem_upto {α : Type} (f : Nat → α) (n k : Nat) (h : k < n) : f k ∈ upto f n := List.mem_map.2 ⟨k, List.mem_range.2 h, rfl⟩
theorem back_done (l : List S42) (a : Int) (s : ByteArray) (h : ∀ p ∈ upto (backF l) l.length, p.2.f0 ≠ a) : lastW l a s = s := by
  refine lastW_none a l s fun x hx => ?_
  obtain ⟨j, hj, rfl⟩ := List.getElem_of_mem hx
  have := h _ (mem_upto (backF l) l.length (l.length - 1 - j) (by omega))
  rwa [backF_at l (l.length - 1 - j) j (by omega)] at this
theorem back_stop (l : List S42) (a : Int) (s : ByteArray) (k : Nat) (ini : List (Int × S42)) (last : Int × S42) (hk : k ≤ l.length) (e : upto (backF l) k = ini ++ [last]) (h : ∀ p ∈ ini, p.2.f0 ≠ a) (hl : last.2.f0 = a) : lastW l a s = last.2.f1 := by
  cases k with
  | zero => simp [upto] at e
  | succ k =>
    rw [upto_succ] at e
    obtain ⟨rfl, e5⟩ := List.append_inj' e rfl
    obtain rfl : backF l k = last := by simpa using e5
    obtain ⟨j, hj⟩ : ∃ j, k + j + 1 = l.length := ⟨l.length - 1 - k, by omega⟩
    rw [backF_at l k j hj] at hl ⊢
    refine lastW_at a l s j (by omega) hl fun i hi hi2 => ?_
    have := h _ (mem_upto (backF l) k (l.length - 1 - i) (by omega))
    rwa [backF_at l (l.length - 1 - i) i (by omega)] at this

theorem own_blk {X Y : World} {row : Option Nat} {B : Nat} {cs : Array Value} {t : TypeId} (hs : X.heap[B]? = some (.cells cs t (0, 0))) (hg : X.grownBy Y row) (hrow : ∀ r, row = some r → ∃ o : Obj, X.heap[r]? = some o ∧ o.isCells = false) : Y.heap[B]? = some (.cells cs t (0, 0)) :=
  (hg.block B (Array.getElem?_eq_some_iff.1 hs).1 (fun e' => by obtain ⟨o, ho, hc⟩ := hrow B e'.symm; rw [hs] at ho; cases ho; cases hc)).trans hs
set_option maxHeartbeats 4000000 in
set_option maxRecDepth 100000 in
theorem read_full (A0_0 : Option Addr) (c0_0 : Nat) (l0_0 : List ByteArray) (A0_1 : Option Addr) (c0_1 : Nat) (l0_1 : List S42) (a1 : Int) (w : World)
    (hr0_0 : Kd.C Kd.string w A0_0 l0_0.length l0_0) (hc0_0 : l0_0.length ≤ c0_0) (hr0_1 : Kd.C k42 w A0_1 l0_1.length l0_1) (hc0_1 : l0_1.length ≤ c0_1) (hno : rightB l0_0 l0_1 = true) (hhas : hasB l0_0.length a1 = true) :
    Calls Tryd.prog 20 #[.agg #[.slice A0_0 l0_0.length c0_0, .slice A0_1 l0_1.length c0_1], .int .i64 a1] w fun e w' => e = .returned (.tuple #[.string (lastW l0_1 a1 (rdOf ByteArray.empty l0_0 a1)), .int .i64 0]) ∧ Below w.heap.size w w' := by
  have hh0 : (0 : Int) ≤ a1 ∧ a1 < (l0_0.length : Int) := by unfold hasB at hhas; simpa using hhas
  obtain ⟨ad, rfl, -⟩ := Kd.at_string hr0_0 a1 hh0.1 hh0.2
  have HR0 := Aside0.mk hr0_0
  have HR1 := Aside0.mk hr0_1
  have HC0 := Aside0.mk hc0_0
  have HC1 := Aside0.mk hc0_1
  have HN := Aside0.mk (show disk_Right.f l0_0 l0_1 = some true by unfold disk_Right.f; rw [hno])
  have HH := Aside0.mk (show disk_has.f l0_0 l0_1 a1 = some true by rw [has_eq, hhas])
  clear hr0_0 hr0_1 hc0_0 hc0_1 hno
  refine (callsIn_wide (n := 3)).1 ?_
  refine callsIn_of_wp_marks Tryd.func20 rfl trivial ?_ rfl
  simp only [Tryd.ntmps20, List.size_toArray, List.length_cons, List.length_nil, Nat.reduceAdd, Nat.reduceSub, Array.replicate_succ, Array.replicate_zero, List.push_toArray, List.append_toArray, List.nil_append, List.cons_append]
  gi_wp2_with fail
  refine ⟨trivial, ?_⟩
  obtain ⟨W4, hW4, h1, h2, h3, h4, hb, hs⟩ := four w (Obj.cells #[Value.slice (some ad) l0_0.length c0_0, Value.slice A0_1 l0_1.length c0_1] 25) (Obj.cells #[Value.int IntKind.i64 a1] 3) (Obj.cells #[Value.string { data := #[] }] 9) (Obj.cells #[Value.int IntKind.i64 0] 27)
  rw [hW4]
  clear hW4
  refine (callsIn_wide.2 (disk_Right.calls (some ad) c0_0 l0_0 A0_1 c0_1 l0_1 _ W4 (Kd.C_below HR0.out hb) HC0.out (Kd.C_below HR1.out hb) HC1.out HN.out)).mono ?_
  rintro e w5 ⟨rfl, hb5⟩
  have d0 := (blk_cell (blk_below h1 hb5) 0).trans rfl
  have d1 := (blk_cell (blk_below h1 hb5) 1).trans rfl
  have d3 := (blk_cell (blk_below h2 hb5) 0).trans rfl
  gi_wp2_with fail
  refine ⟨trivial, ?_⟩
  have hb6 := hb.trans (hb5.mono hb.size)
  refine (callsIn_wide.2 (disk_has.calls (some ad) c0_0 l0_0 A0_1 c0_1 l0_1 a1 _ w5 (Kd.C_below HR0.out hb6) HC0.out (Kd.C_below HR1.out hb6) HC1.out HH.out)).mono ?_
  rintro e w7 ⟨rfl, hb7⟩
  clear d0 d1 d3
  have d0 := (blk_cell (blk_below h1 (hb5.trans (hb7.mono hb5.size))) 0).trans rfl
  have d1 := (blk_cell (blk_below h1 (hb5.trans (hb7.mono hb5.size))) 1).trans rfl
  have hb5 := hb5.trans (hb7.mono hb5.size)
  gi_wp2_with fail
  refine ⟨trivial, ?_⟩
  refine (back_in Fence.wide _ trivial rfl _ _ _ _).mono ?_
  rintro e w8 ⟨rfl, rfl⟩
  gi_wp2_with fail
  have hbw7 := hb.trans (hb5.mono hb.size)
  have m2 := blk_below h1 hb5
  have m3 := blk_below h2 hb5
  have m4 := blk_below h3 hb5
  have m5 := blk_below h4 hb5
  have bN := Boxed.new w7 23 (Value.slice A0_1 l0_1.length c0_1)
  have hs7 := hbw7.size
  have hs47 := hb5.size
  have h1_3 : 1 ≤ 3 := by omega
  have hbL : Below w.heap.size w (w7.alloc (Obj.cells #[Value.slice A0_1 l0_1.length c0_1] 23)) := below_alloc hbw7 _
  have hsL := World.size_alloc w7 (Obj.cells #[Value.slice A0_1 l0_1.length c0_1] 23)
  clear d0 d1 h1 h2 h3 h4
  refine wpIn_rangeFunc_ownH rfl h1_3 (gf := 71) (lb := #[.pointer (some ⟨w7.heap.size, 0, none⟩)]) rfl trivial (enters_of Tryd.func71 (by kernel_rfl) rfl)
    (back_stops Fence.wide (3 - 1) trivial rfl (by omega) w7.heap.size (w7.heap.size + 1) A0_1 c0_1 l0_1 w HR1.out _ hbL (by omega) (by omega) (by omega) bN.cell) belowK_t (belowK_b (by omega)) (Below.refl _ _) (fun _ => rfl)
    (fun pre W => ((∀ p ∈ pre, p.2.f0 ≠ a1) ∧ W.heap[w.heap.size]? = some (Obj.cells #[Value.slice (some ad) l0_0.length c0_0, Value.slice A0_1 l0_1.length c0_1] 25 (0, 0)) ∧ W.heap[w.heap.size + 1]? = some (Obj.cells #[Value.int IntKind.i64 a1] 3 (0, 0)) ∧ Boxed W (w.heap.size + 1 + 1) 9 (.string ⟨#[]⟩) ∧ Boxed W (w.heap.size + 1 + 1 + 1) 27 (.int .i64 0) ∧ Boxed W w7.heap.size 23 (Value.slice A0_1 l0_1.length c0_1)) ∧ Below w.heap.size w W)
    (fun c pre W => (c = .ret ∧ ∃ ini last, pre = ini ++ [last] ∧ (∀ p ∈ ini, p.2.f0 ≠ a1) ∧ last.2.f0 = a1 ∧ Boxed W (w.heap.size + 1 + 1) 9 (.string last.2.f1) ∧ Boxed W (w.heap.size + 1 + 1 + 1) 27 (.int .i64 0)) ∧ Below w.heap.size w W)
    (OwnFrom.and (Own.from (fun s A B row hs hg hr => ⟨hs.1, own_blk hs.2.1 hg hr, own_blk hs.2.2.1 hg hr, own_blk hs.2.2.2.1 hg hr, own_blk hs.2.2.2.2.1 hg hr, own_blk hs.2.2.2.2.2 hg hr⟩) _) (ownFrom_below (Nat.le_refl _) (by omega)))
    (fun c => OwnFrom.and (Own.from (fun s A B row hs hg hr => by obtain ⟨hc, ini, last, e1, e2, e3, e4, e5⟩ := hs; exact ⟨hc, ini, last, e1, e2, e3, own_blk e4 hg hr, own_blk e5 hg hr⟩) _) (ownFrom_below (Nat.le_refl _) (by omega)))
    ⟨⟨fun p hp => absurd hp (List.not_mem_nil), (Below.heap_alloc _ _ _ (Array.getElem?_eq_some_iff.1 m2).1).trans m2, (Below.heap_alloc _ _ _ (Array.getElem?_eq_some_iff.1 m3).1).trans m3, (Below.heap_alloc _ _ _ (Array.getElem?_eq_some_iff.1 m4).1).trans m4, (Below.heap_alloc _ _ _ (Array.getElem?_eq_some_iff.1 m5).1).trans m5, bN⟩, hbL⟩
    (fun x a' W => ∃ Bx, W.heap[Bx]? = some (Obj.cells #[.int .i64 x.2.f0, .string x.2.f1] 42 (0, 0)) ∧ a' = { defers := [], tmps := #[Value.agg #[Value.slice (some ad) l0_0.length c0_0, Value.slice A0_1 l0_1.length c0_1], Value.int IntKind.i64 a1,
          Value.pointer (some { block := w.heap.size, off := 0 }),
          Value.pointer (some { block := w.heap.size + 1, off := 0 }),
          Value.pointer (some { block := w.heap.size + 1 + 1, off := 0 }),
          Value.pointer (some { block := w.heap.size + 1 + 1 + 1, off := 0 }), undef, Value.pointer (some { block := Bx, off := 0 }), Value.bool false,
          Value.agg #[Value.slice (some ad) l0_0.length c0_0, Value.slice A0_1 l0_1.length c0_1], Value.bool true,
          Value.bool false, Value.bool false,
          Value.agg #[Value.slice (some ad) l0_0.length c0_0, Value.slice A0_1 l0_1.length c0_1], Value.int IntKind.i64 a1,
          Value.bool true, Value.bool false, Value.pointer (some { block := w.heap.size, off := 1 }),
          Value.slice A0_1 l0_1.length c0_1,
          Value.func (Fn.func 71) #[] #[Value.pointer (some { block := w7.heap.size, off := 0 })], .int .i64 x.1, .agg #[.int .i64 x.2.f0, .string x.2.f1], undef,
          undef, undef, undef, undef, undef, undef, undef, undef, undef, undef] })
    (fun x a' => Own.from (fun s X Y row hs hg hrow => by obtain ⟨Bx, h, e⟩ := hs; exact ⟨Bx, own_blk h hg hrow, e⟩) _) ?assign ?body ?done ?stop
  case assign =>
    rintro l pre x W K hi hK
    unfold encB
    gi_wp2
    obtain ⟨⟨hp, k2, k3, k4, k5, k6⟩, hB⟩ := hi
    have hlt := fun {g : Nat} {o : Obj} (h : W.heap[g]? = some o) => (Array.getElem?_eq_some_iff.1 h).1
    refine hK _ _ ((KeepsOthers.alloc _ _).from _) ?_ ⟨⟨hp, (Below.heap_alloc _ _ _ (hlt k2)).trans k2, (Below.heap_alloc _ _ _ (hlt k3)).trans k3, k4.alloc _, k5.alloc _, k6.alloc _⟩, below_alloc hB _⟩ ⟨W.heap.size, World.alloc_heap_new _ _, rfl⟩
    exact (Below.refl _ _).alloc (by have := k6.lt; omega) _
  case body =>
    rintro l pre x a' W hl ⟨r, hr⟩ ⟨⟨hp, k2, k3, k4, k5, k6⟩, hB⟩ ⟨Bx, hx, rfl⟩ hlt
    have y0 : W.cell? ⟨Bx, 0, none⟩ = some (.int .i64 x.2.f0) := (blk_cell hx 0).trans rfl
    have y1 : W.cell? ⟨Bx, 1, none⟩ = some (.string x.2.f1) := (blk_cell hx 1).trans rfl
    have y3 : W.cell? ⟨w.heap.size + 1, 0, none⟩ = some (.int .i64 a1) := (blk_cell k3 0).trans rfl
    have z4 := k4.cell
    have z5 := k5.cell
    have q4 := k4.frozen
    have q5 := k5.frozen
    by_cases hxa : x.2.f0 = a1
    · have hxb : (x.2.f0 == a1) = true := by simp [hxa]
      gi_wp2
      have b4 := (k4.set (.string x.2.f1)).other (B' := w.heap.size + 1 + 1 + 1) (by omega) (.int .i64 0)
      have b5 := (k5.other (B' := w.heap.size + 1 + 1) (by omega) (.string x.2.f1)).set (.int .i64 0)
      exact ⟨((KeepsOthers.setCell _ _ _).trans (KeepsOthers.setCell _ _ _)).from _, ⟨rfl, pre, x, rfl, hp, hxa, b4, b5⟩, (hB.setCell (p := ⟨w.heap.size + 1 + 1, 0, none⟩) (show w.heap.size ≤ w.heap.size + 1 + 1 by omega) _).setCell (p := ⟨w.heap.size + 1 + 1 + 1, 0, none⟩) (show w.heap.size ≤ w.heap.size + 1 + 1 + 1 by omega) _⟩
    · have hxb : (x.2.f0 == a1) = false := by simp [hxa]
      gi_wp2
      exact ⟨KeepsFrom.refl _ _, Below.refl _ _, ⟨fun p hp' => (List.mem_append.1 hp').elim (hp p) (fun e => by simp at e; subst e; exact hxa), k2, k3, k4, k5, k6⟩, hB⟩
  case done =>
    rintro D ys W hD rfl ⟨⟨hp, k2, k3, k4, k5, k6⟩, hB⟩ hK
    have y2 : W.cell? ⟨w.heap.size, 0, none⟩ = some (.slice (some ad) l0_0.length c0_0) := (blk_cell k2 0).trans rfl
    have y3 : W.cell? ⟨w.heap.size + 1, 0, none⟩ = some (.int .i64 a1) := (blk_cell k3 0).trans rfl
    have z4 := k4.cell
    have z5 := k5.cell
    have q4 := k4.frozen
    have q5 := k5.frozen
    have hl := back_done l0_1 a1 (rdOf ByteArray.empty l0_0 a1) hp
    obtain ⟨ad', e', hx⟩ := Kd.at_string (Kd.C_below HR0.out hB) a1 hh0.1 hh0.2
    obtain rfl := Option.some.inj e'
    obtain ⟨v, hv⟩ : ∃ v, rdOf ByteArray.empty l0_0 a1 = v := ⟨_, rfl⟩
    rw [hv] at hx hl
    have HLL := Aside0.mk hl
    have HV := Aside0.mk hv
    clear hl hv
    have h0 := hh0.1
    have h1 := hh0.2
    gi_wp2
    have b4 := (k4.set (.string v)).other (B' := w.heap.size + 1 + 1 + 1) (by omega) (.int .i64 0)
    have b5 := (k5.other (B' := w.heap.size + 1 + 1) (by omega) (.string v)).set (.int .i64 0)
    have hK' := ((KeepsOthers.setCell W ⟨w.heap.size + 1 + 1, 0, none⟩ (.string v)).trans (KeepsOthers.setCell _ ⟨w.heap.size + 1 + 1 + 1, 0, none⟩ (.int .i64 0))).same D _ hK rfl
    refine ⟨by simp, .inl ⟨_, _, rfl, run_takeDeferred hK', ?_⟩⟩
    have r4 := cell_kept b4.cell (grownBy_putObj' _ D (.deferred none)) (fun r e => by cases e; exact ⟨_, hK', rfl⟩)
    have r5 := cell_kept b5.cell (grownBy_putObj' _ D (.deferred none)) (fun r e => by cases e; exact ⟨_, hK', rfl⟩)
    refine ⟨_, ?_, rfl, ?_⟩
    · rw [HV.out]; simp [results, Tryd.f20, go_sem, r4, r5, HLL.out]
    · exact ((hB.setCell (p := ⟨w.heap.size + 1 + 1, 0, none⟩) (show w.heap.size ≤ w.heap.size + 1 + 1 by omega) _).setCell (p := ⟨w.heap.size + 1 + 1 + 1, 0, none⟩) (show w.heap.size ≤ w.heap.size + 1 + 1 + 1 by omega) _).trans (belowK_b (w := w) (Nat.le_refl _) _ D _ _ (by omega) hK' rfl rfl)
  case stop =>
    rintro D c pre W hD ⟨k, hk, rfl⟩ ⟨⟨rfl, ini, last, e1, e2, e3, e4, e5⟩, hB⟩ hK
    have hl := back_stop l0_1 a1 (rdOf ByteArray.empty l0_0 a1) k ini last hk e1 e2 e3
    have HLL := Aside0.mk hl
    clear hl
    gi_wp2
    refine ⟨by simp, .inl ⟨_, _, rfl, run_takeDeferred hK, ?_⟩⟩
    have r4 := cell_kept e4.cell (grownBy_putObj' _ D (.deferred none)) (fun r e => by cases e; exact ⟨_, hK, rfl⟩)
    have r5 := cell_kept e5.cell (grownBy_putObj' _ D (.deferred none)) (fun r e => by cases e; exact ⟨_, hK, rfl⟩)
    refine ⟨_, ?_, rfl, ?_⟩
    · simp [results, Tryd.f20, go_sem, r4, r5, HLL.out]
    · exact hB.trans (belowK_b (w := w) (Nat.le_refl _) W D _ _ (by omega) hK rfl rfl)

theorem disk_Read.calls (A0_0 : Option Addr) (c0_0 : Nat) (l0_0 : List ByteArray) (A0_1 : Option Addr) (c0_1 : Nat) (l0_1 : List (S42)) (a1 : Int) (r1 : ByteArray) (r2 : Int) (w : World) (hr0_0 : Kd.C Kd.string w A0_0 l0_0.length l0_0) (hc0_0 : l0_0.length ≤ c0_0) (hr0_1 : Kd.C k42 w A0_1 l0_1.length l0_1) (hc0_1 : l0_1.length ≤ c0_1) (h : disk_Read.f l0_0 l0_1 a1 = some (r1, r2)) :
    Calls Tryd.prog 20 #[.agg #[.slice A0_0 l0_0.length c0_0, .slice A0_1 l0_1.length c0_1], .int .i64 a1] w fun e w' => e = .returned (.tuple #[.string r1, .int .i64 r2]) ∧ Below w.heap.size w w' := by
  unfold disk_Read.f at h
  by_cases h1 : rightB l0_0 l0_1 = true
  · by_cases h2 : hasB l0_0.length a1 = true
    · rw [if_pos h1, if_pos h2] at h; cases h
      exact read_full A0_0 c0_0 l0_0 A0_1 c0_1 l0_1 a1 w hr0_0 hc0_0 hr0_1 hc0_1 h1 h2
    · rw [if_pos h1, if_neg h2] at h; cases h
      exact read_nosector A0_0 c0_0 l0_0 A0_1 c0_1 l0_1 a1 w hr0_0 hc0_0 hr0_1 hc0_1 h1 (by simpa using h2)
  · rw [if_neg h1] at h; cases h
    exact read_wrong A0_0 c0_0 l0_0 A0_1 c0_1 l0_1 a1 w hr0_0 hc0_0 hr0_1 hc0_1 (by simpa using h1)
end Go.Proofs.YtniplmjbligmlaaDoor.Q

/-! slices.Clone of rows of strings and of writes. -/
namespace Go.Proofs.YtniplmjbligmlaaDoor.Q
open Go.RowKit Go.Proofs.YtniplmjbligmlaaDoorW.PrintWords Go.Proofs.YtniplmjbligmlaaDoorW.PrintLast Go.Proofs.YtniplmjbligmlaaDoorW.PrintMore Go.Proofs.YtniplmjbligmlaaDoor.Base
set_option linter.unusedVariables false

def slices_Clone_string_string.f (l0 : List ByteArray) : Option (List ByteArray) := if l0.length < 8796093022208 then some l0 else none
set_option maxHeartbeats 2000000 in
set_option maxRecDepth 100000 in
theorem slices_Clone_string_string.calls (A0 : Option Addr) (c0 : Nat) (l0 : List ByteArray) (r : List ByteArray) (w : World) (hr0 : Kd.C Kd.string w A0 l0.length l0) (hc0 : l0.length ≤ c0) (h : slices_Clone_string_string.f l0 = some r) :
    Calls Tryd.prog 54 #[.slice A0 l0.length c0] w fun e w' => ∃ v0_ : Value, e = .returned (v0_) ∧ Kd.R Kd.string 9 w' w.heap.size (fun _ => True) v0_ r ∧ Below w.heap.size w w' := by
  unfold slices_Clone_string_string.f at h
  by_cases hlt : l0.length < 8796093022208
  · rw [if_pos hlt] at h; obtain rfl := Option.some.inj h
    have hnil : ∀ (w : World) (a : Option Addr) (n c n' c' : Nat), (binOp .eql 22 (.slice a n c) (.slice none n' c')).run Tryd.prog w = .ok (.bool a.isNone) w := fun w a n c n' c' => Lib.run_eql_slice_nil w _ _ a n c n' c' Tryd.underlying22
    have HR := Aside0.mk hr0
    have HL := Aside0.mk hlt
    clear hr0 hlt h
    rcases A0 with _ | ad
    · have e0 : l0 = [] := by
        have h1 := HR.out
        rcases Nat.eq_zero_or_pos l0.length with h0 | h0
        · exact List.eq_nil_of_length_eq_zero h0
        · obtain ⟨ad, h, _⟩ := h1.2.2 h0; cases h
      subst e0
      go_enter Tryd.func54, Tryd.ntmps54
      go_wp2
      go_ret
      exact ⟨_, rfl, Kd.R_nil _ _ _ _ _, Below.refl _ _⟩
    · go_enter Tryd.func54, Tryd.ntmps54
      go_wp2_with (first | ((with_reducible refine gate_dst (N := 5) rfl ?_); refine Kd.R_lit (Kd.string) (w0 := w) w.heap.size 9 ?hg (N := 5) ?hd (xs := ([] : List (ByteArray))) (inner := []) (ok := fun _ => True) (okp := fun _ => True) ?hr ?hp (fun _ hk => hk) trivial (Below.refl _ _) (Nat.le_refl _) (by simp) ?_; (case hd => rfl); (case hg => rfl); (case hr => first | (go_simp; done) | (go_simp; rfl)); (case hp => exact (Reps.none _ _)); intro v1 w1 hR1 hB1 hG1 _; have HR1 := Aside0.mk hR1; have HB1 := Aside0.mk hB1; have HC1 := Aside0.mk (Kd.C_below HR.out hB1); clear hR1 hB1 hG1) | ((with_reducible refine gate_builtin (b := .append) (xs := #[.tmp 5, .tmp 6]) rfl ?_); at_builtin; refine Kd.R_append_rows Kd.string (w0 := w) w.heap.size rfl (.tmp 5) (.tmp 6) 22 9 (.string ⟨#[]⟩) 16 rfl Tryd.underlying22 info9 rfl (by decide) (by omega) v1 ([] : List (ByteArray)) l0 _ _ _ (fun _ => True) (fun _ => False) rfl rfl HR1.out HC1.out (fun _ _ h => h) (fun _ h => h.elim) (fun _ _ => trivial) HB1.out (below_size HB1.out) (by have := HL.out; simp only [List.length_nil]; omega) ?_; intro v2 w2 hR2 hB2 _ _; have HR2 := Aside0.mk hR2; have HB2 := Aside0.mk hB2; clear hR2 hB2))
      go_wp2
      go_ret
      exact ⟨_, rfl, HR2.out, HB2.out⟩
  · rw [if_neg hlt] at h; cases h

def api_Write.f (l0 : List S42) : Option (List S42) := if l0.length < 5864062014805 then some l0 else none
set_option maxHeartbeats 2000000 in
set_option maxRecDepth 100000 in
theorem api_Write.calls (A0 : Option Addr) (c0 : Nat) (l0 : List S42) (r : List S42) (w : World) (hr0 : Kd.C k42 w A0 l0.length l0) (hc0 : l0.length ≤ c0) (h : api_Write.f l0 = some r) :
    Calls Tryd.prog 59 #[.slice A0 l0.length c0] w fun e w' => ∃ v0_ : Value, e = .returned (v0_) ∧ Kd.R k42 42 w' w.heap.size (fun _ => True) v0_ r ∧ Below w.heap.size w w' := by
  unfold api_Write.f at h
  by_cases hlt : l0.length < 5864062014805
  · rw [if_pos hlt] at h; obtain rfl := Option.some.inj h
    have hnil : ∀ (w : World) (a : Option Addr) (n c n' c' : Nat), (binOp .eql 23 (.slice a n c) (.slice none n' c')).run Tryd.prog w = .ok (.bool a.isNone) w := fun w a n c n' c' => Lib.run_eql_slice_nil w _ _ a n c n' c' Tryd.underlying23
    have HR := Aside0.mk hr0
    have HL := Aside0.mk hlt
    clear hr0 hlt h
    rcases A0 with _ | ad
    · have e0 : l0 = [] := by
        have h1 := HR.out
        rcases Nat.eq_zero_or_pos l0.length with h0 | h0
        · exact List.eq_nil_of_length_eq_zero h0
        · obtain ⟨ad, h, _⟩ := h1.2.2 h0; cases h
      subst e0
      go_enter Tryd.func59, Tryd.ntmps59
      go_wp2
      go_ret
      exact ⟨_, rfl, Kd.R_nil _ _ _ _ _, Below.refl _ _⟩
    · go_enter Tryd.func59, Tryd.ntmps59
      go_wp2_with (first | ((with_reducible refine gate_dst (N := 5) rfl ?_); refine Kd.R_lit (k42) (w0 := w) w.heap.size 42 ?hg (N := 5) ?hd (xs := ([] : List (S42))) (inner := []) (ok := fun _ => True) (okp := fun _ => True) ?hr ?hp (fun _ hk => hk) trivial (Below.refl _ _) (Nat.le_refl _) (by simp) ?_; (case hd => rfl); (case hg => rfl); (case hr => first | (go_simp; done) | (go_simp; rfl)); (case hp => exact (Reps.none _ _)); intro v1 w1 hR1 hB1 hG1 _; have HR1 := Aside0.mk hR1; have HB1 := Aside0.mk hB1; have HC1 := Aside0.mk (Kd.C_below HR.out hB1); clear hR1 hB1 hG1) | ((with_reducible refine gate_builtin (b := .append) (xs := #[.tmp 5, .tmp 6]) rfl ?_); at_builtin; refine Kd.R_append_rows k42 (w0 := w) w.heap.size rfl (.tmp 5) (.tmp 6) 23 42 (.agg #[(.int .i64 0), (.string ⟨#[]⟩)]) 24 rfl Tryd.underlying23 info42 rfl (by decide) (by omega) v1 ([] : List (S42)) l0 _ _ _ (fun _ => True) (fun _ => False) rfl rfl HR1.out HC1.out (fun _ _ h => h) (fun _ h => h.elim) (fun _ _ => trivial) HB1.out (below_size HB1.out) (by have := HL.out; simp only [List.length_nil]; omega) ?_; intro v2 w2 hR2 hB2 _ _; have HR2 := Aside0.mk hR2; have HB2 := Aside0.mk hB2; clear hR2 hB2))
      go_wp2
      go_ret
      exact ⟨_, rfl, HR2.out, HB2.out⟩
  · rw [if_neg hlt] at h; cases h
end Go.Proofs.YtniplmjbligmlaaDoor.Q

/-! disk.Write, disk.Flush, and what they do, by hand. -/
namespace Go.Proofs.YtniplmjbligmlaaDoor.Q
open Go.RowKit Go.Proofs.YtniplmjbligmlaaDoorW.PrintWords Go.Proofs.YtniplmjbligmlaaDoorW.PrintLast Go.Proofs.YtniplmjbligmlaaDoorW.PrintMore Go.Proofs.YtniplmjbligmlaaDoor.Base
set_option linter.unusedVariables false
set_option linter.unusedSimpArgs false

/-- what a disk is handed back as: rows that came in, or new ones -/
def DiskOut (w : World) (P0 P1 : Nat → Prop) (r1 : List ByteArray) (r2 : List S42) (r3 : Int) (e : Ending) (w' : World) : Prop :=
  ∃ v0_ v1_ : Value, e = .returned (.tuple #[.agg #[v0_, v1_], .int .i64 r3]) ∧ Kd.V Kd.string 9 w' w.heap.size (fun k_ => ((P0 k_ ∨ P1 k_) ∨ w.heap.size ≤ k_)) v0_ r1 ∧ Kd.V k42 42 w' w.heap.size (fun k_ => ((P0 k_ ∨ P1 k_) ∨ w.heap.size ≤ k_)) v1_ r2 ∧ Below w.heap.size w w'

def write1F (l0 : List ByteArray) (l1 : List S42) (a : Int) (s : ByteArray) : Option (List ByteArray × List S42 × Int) :=
  if hasB l0.length a = true then (if s.size ≤ 512 then (if l1.length < 5864062014804 then some (l0, l1 ++ [⟨a, s⟩], 0) else none) else some (l0, l1, 2)) else some (l0, l1, 20)

theorem lit_row {W : World} {g : Nat} (x : S42) (h : W.heap[g]? = some (.cells #[.int .i64 x.f0, .string x.f1] 42 (0, 0))) : ReadsRow (fun (y : S42) cs => cs = [.int .i64 y.f0, .string y.f1]) (Kd.sz k42) W (some ⟨g, 0, none⟩) 1 [x] := by
  refine ⟨rfl, by omega, fun _ => ⟨_, rfl, fun j p hj => ?_⟩⟩
  match j, hj with
  | 0, hj =>
    obtain rfl : x = p := by simpa using hj
    refine ⟨_, rfl, rfl, fun i u hi => ?_⟩
    rw [Nat.zero_mul, Nat.zero_add, Addr.add_lit, Nat.zero_add, blk_cell h i]
    simpa using hi
  | j + 1, hj => simp at hj
theorem clone_ok {Wc w4 : World} {n gb gr : Nat} {o1 o2 : Obj} {v : Value} {l : List S42} (hR : Kd.R k42 42 w4 Wc.heap.size (fun _ => True) v l) (h1 : Wc.heap[gb]? = some o1) (h2 : Wc.heap[gr]? = some o2) (hn : n ≤ gb) : Kd.R k42 42 w4 n (fun k => n ≤ k ∧ k ≠ gb ∧ k ≠ gr) v l := by
  have g1 := blk_lt h1
  have g2 := blk_lt h2
  exact Kd.R_lower (Kd.R_mono (Kd.R_bound hR) (fun k hk => ⟨by have := hk.2.1; omega, by have := hk.2.1; omega, by have := hk.2.1; omega⟩)) (by omega)
theorem grown_cells {W w1 : World} {v : Value} {ok : Nat → Prop} {g : Nat} {cs : Array Value} {t : TypeId} (hg : W.grownBy w1 v.ownBlock) (h : W.heap[g]? = some (.cells cs t (0, 0))) (hv : ∀ k, v.ownBlock = some k → ok k) (hne : ¬ ok g) : w1.heap[g]? = some (.cells cs t (0, 0)) :=
  blk_grown h hg (fun e => hne (hv g e.symm))

theorem fresh3 {W : World} {n gb gr k : Nat} {o1 o2 : Obj} (h1 : W.heap[gb]? = some o1) (h2 : W.heap[gr]? = some o2) (hk : W.heap.size ≤ k) (hn : n ≤ gb) : n ≤ k ∧ k ≠ gb ∧ k ≠ gr := by
  have g1 := blk_lt h1
  have g2 := blk_lt h2
  exact ⟨by omega, by omega, by omega⟩
set_option maxHeartbeats 4000000 in
set_option maxRecDepth 100000 in
theorem write1_add (P0 : Nat → Prop) (A0 : Option Addr) (c0 : Nat) (l0 : List ByteArray) (P1 : Nat → Prop) (A1 : Option Addr) (c1 : Nat) (l1 : List S42) (a : Int) (s : ByteArray) (g h : Nat) (w : World)
    (hs0 : Kd.V Kd.string 9 w w.heap.size P0 (.slice A0 l0.length c0) l0) (hs1 : Kd.V k42 42 w w.heap.size P1 (.slice A1 l1.length c1) l1)
    (hg : w.heap[g]? = some (.cells #[.int .i64 a] 3 (0, 0))) (hh : w.heap[h]? = some (.cells #[.string s] 9 (0, 0)))
    (h1 : hasB l0.length a = true) (h2 : s.size ≤ 512) (h3 : l1.length < 5864062014804) :
    Calls Tryd.prog 58 #[.agg #[.slice A0 l0.length c0, .slice A1 l1.length c1], .pointer (some ⟨g, 0, none⟩), .pointer (some ⟨h, 0, none⟩)] w (DiskOut w P0 P1 l0 (l1 ++ [⟨a, s⟩]) 0) := by
  have HO0 := Aside0.mk (show Kd.V Kd.string 9 w w.heap.size (fun k_ => ((P0 k_ ∨ P1 k_) ∨ w.heap.size ≤ k_)) (.slice A0 l0.length c0) l0 from Kd.V_mono hs0 (fun k_ hk => .inl (.inl hk)))
  have HO1 := Aside0.mk (show Kd.V k42 42 w w.heap.size (fun k_ => ((P0 k_ ∨ P1 k_) ∨ w.heap.size ≤ k_)) (.slice A1 l1.length c1) l1 from Kd.V_mono hs1 (fun k_ hk => .inl (.inr hk)))
  have HG := Aside0.mk hg
  have HH := Aside0.mk hh
  have E := Aside0.mk (show disk_has.f l0 l1 a = some true by rw [has_eq, h1])
  have HL := Aside0.mk h3
  have h2' : decide ((s.size : Int) > 512) = false := decide_eq_false (by omega)
  have h2'' : ¬ 512 < s.size := by omega
  have h2c : decide (512 < (s.size : Int)) = false := decide_eq_false (by omega)
  clear hs0 hs1 hg hh h1 h3
  go_enter Tryd.func58, Tryd.ntmps58
  go_wp2_with (first
    | ((with_reducible refine gate_dst (N := 3) rfl ?_); refine box_event rfl (N := 3) rfl (cs := #[.slice A0 l0.length c0, .slice A1 l1.length c1]) (t := 25) (by first | (go_simp; done) | (go_simp; rfl)) ?_; intro gb hgb w1 hbox1 hb1; have HX1 := Aside0.mk hbox1; have HB1 := Aside0.mk hb1; have HG1 := Aside0.mk (blk_below HG.out hb1); have HH1 := Aside0.mk (blk_below HH.out hb1); have HGB := Aside0.mk hgb; clear hbox1 hb1 hgb)
    | ((with_reducible refine gate_dst (N := 4) rfl ?_); refine box_event rfl (N := 4) rfl (cs := #[.slice none 0 0, .slice none 0 0]) (t := 25) (by first | (go_simp; done) | (go_simp; rfl)) ?_; intro gr hgr w2 hbox2 hb2; have d0 := (blk_cell (blk_below HX1.out hb2) 0).trans rfl; have d1 := (blk_cell (blk_below HX1.out hb2) 1).trans rfl; have dg := (blk_cell (blk_below HG1.out hb2) 0).trans rfl; have HX2 := Aside0.mk (blk_below HX1.out hb2); have HG2 := Aside0.mk (blk_below HG1.out hb2); have HH2 := Aside0.mk (blk_below HH1.out hb2); have HY2 := Aside0.mk hbox2; have HB2 := Aside0.mk (below_step HB1.out hb2); have HGR := Aside0.mk (show gb ≠ gr by have h1 := blk_lt HX1.out; omega); have HGE := Aside0.mk (show w.heap.size ≤ gr by have h1 := blk_lt HX1.out; have h2 := HGB.out; omega); clear hbox2 hb2 hgr HX1 HG1 HH1 HB1)
    | (go_at_call 51; refine (disk_has.calls A0 c0 l0 A1 c1 l1 a _ w2 (Kd.C_below (Kd.V_reads' HO0.out).2.2 HB2.out) (Kd.V_reads' HO0.out).2.1 (Kd.C_below (Kd.V_reads' HO1.out).2.2 HB2.out) (Kd.V_reads' HO1.out).2.1 E.out).mono ?_; rintro e w3 ⟨rfl, hb3⟩; have HX := Aside0.mk (blk_below HX2.out hb3); have HG3 := Aside0.mk (blk_below HG2.out hb3); have HH3 := Aside0.mk (blk_below HH2.out hb3); have HY := Aside0.mk (blk_below HY2.out hb3); have HB := Aside0.mk (below_step HB2.out hb3); clear d0 d1 dg; have dh := (blk_cell HH3.out 0).trans rfl; clear HX2 HG2 HH2 HY2 HB2 hb3))
  clear dh
  have q1 : w3.cell? ⟨gb, 1, none⟩ = some (.slice A1 l1.length c1) := (blk_cell HX.out 1).trans rfl
  have q2 : w3.cell? ⟨g, 0, none⟩ = some (.int .i64 a) := (blk_cell HG3.out 0).trans rfl
  have q3 : w3.cell? ⟨h, 0, none⟩ = some (.string s) := (blk_cell HH3.out 0).trans rfl
  have EC := Aside0.mk (show api_Write.f l1 = some l1 by unfold api_Write.f; have := HL.out; rw [if_pos (by omega)])
  refine start_ (n := 10) (S := fun w' => w'.cell? ⟨gb, 1, none⟩ = some (.slice A1 l1.length c1) ∧ w'.cell? ⟨g, 0, none⟩ = some (.int .i64 a) ∧ w'.cell? ⟨h, 0, none⟩ = some (.string s)) (ds := [9]) #[false, false, false, false, false, false, false, false, false, false] (by kernel_rfl) rfl rfl ⟨q1, q2, q3⟩ (fun hHeld => ?_)
  generalize hw4_ : w3.drew = w4 at hHeld ⊢
  have HX' := Aside0.mk (blk_drew HX.out); rw [hw4_] at HX'
  have HG3' := Aside0.mk (blk_drew HG3.out); rw [hw4_] at HG3'
  have HH3' := Aside0.mk (blk_drew HH3.out); rw [hw4_] at HH3'
  have HY' := Aside0.mk (blk_drew HY.out); rw [hw4_] at HY'
  have HB' := Aside0.mk (below_drew1 HB.out); rw [hw4_] at HB'
  clear HX HG3 HH3 HY HB q1 q2 q3 hw4_
  refine pure_ (i := 0) (N := some 17) (v := ?_) (a' := ?_) #[true, false, false, false, false, false, false, false, false, false] rfl rfl (by kernel_rfl) (fun _ _ _ h => h) (Or.inl ⟨by rfl, ?_⟩) ?_ ?_
  rotate_left
  · intro w'; go_simp; with_reducible rfl
  rotate_left
  · simp only [Act.put, List.setIfInBounds_toArray, List.set_cons_zero, List.set_cons_succ, i64_w, i32_w]; rfl
  refine take_ (i := 1) (N := some 18) (v := ?_) (a' := ?_) #[true, true, false, false, false, false, false, false, false, false] rfl rfl (by kernel_rfl) (fun _ _ _ h => h) (Or.inl ⟨by rfl, ?_⟩) hHeld ?_ ?_
  rotate_left
  · rintro w' ⟨s0, s1, s2⟩; go_simp; with_reducible rfl
  rotate_left
  · simp only [Act.put, List.setIfInBounds_toArray, List.set_cons_zero, List.set_cons_succ, i64_w, i32_w]; rfl
  refine take_ (i := 3) (N := some 20) (v := ?_) (a' := ?_) #[true, true, false, true, false, false, false, false, false, false] rfl rfl (by kernel_rfl) (fun _ _ _ h => h) (Or.inl ⟨by rfl, ?_⟩) hHeld ?_ ?_
  rotate_left
  · rintro w' ⟨s0, s1, s2⟩; go_simp; with_reducible rfl
  rotate_left
  · simp only [Act.put, List.setIfInBounds_toArray, List.set_cons_zero, List.set_cons_succ, i64_w, i32_w]; rfl
  refine take_ (i := 4) (N := some 21) (v := ?_) (a' := ?_) #[true, true, false, true, true, false, false, false, false, false] rfl rfl (by kernel_rfl) (fun _ _ _ h => h) (Or.inl ⟨by rfl, ?_⟩) hHeld ?_ ?_
  rotate_left
  · rintro w' ⟨s0, s1, s2⟩; go_simp; with_reducible rfl
  rotate_left
  · simp only [Act.put, List.setIfInBounds_toArray, List.set_cons_zero, List.set_cons_succ, i64_w, i32_w]; rfl
  refine pure_ (i := 5) (N := some 22) (v := ?_) (a' := ?_) #[true, true, false, true, true, true, false, false, false, false] rfl rfl (by kernel_rfl) (fun _ _ _ h => h) (Or.inl ⟨by rfl, ?_⟩) ?_ ?_
  rotate_left
  · intro w'; go_simp; with_reducible rfl
  rotate_left
  · simp only [Act.put, List.setIfInBounds_toArray, List.set_cons_zero, List.set_cons_succ, i64_w, i32_w]; rfl
  refine two_ (i := 2) (j := 6) (Ni := some 19) (Nj := some 23) #[true, true, true, true, true, true, false, false, false, false] #[true, true, false, true, true, true, true, false, false, false] rfl rfl rfl rfl (by kernel_rfl) (by decide) (by decide) (fun K hK => ?_) (fun K hK => ?_)
  · refine goes_ Tryd.func59 (by kernel_rfl) rfl #[.slice A1 l1.length c1] (by rfl) rfl rfl (by (try simp only [List.map_toArray, List.map_cons, List.map_nil]); first | done | rfl) ?_
    refine (api_Write.calls A1 c1 l1 _ _ (by repeat (first | exact (Kd.C_below (Kd.V_reads' HO1.out).2.2 HB'.out) | (with_reducible refine Kd.C_alloc ?_ _))) (Kd.V_reads' HO1.out).2.1 EC.out).mono ?_
    rintro e w5 ⟨v, rfl, hR, hB5⟩
    refine ⟨_, rfl, ?_⟩
    have X5 : w5.heap[gb]? = some (.cells #[.slice A0 l0.length c0, .slice A1 l1.length c1] 25 (0, 0)) := blk_below (o := .cells #[.slice A0 l0.length c0, .slice A1 l1.length c1] 25 (0, 0)) (by repeat (first | exact HX'.out | refine blk_alloc ?_ _ | refine blk_drew ?_ | refine blk_drewN ?_ _)) hB5
    have G5 : w5.heap[g]? = some (.cells #[.int .i64 a] 3 (0, 0)) := blk_below (o := .cells #[.int .i64 a] 3 (0, 0)) (by repeat (first | exact HG3'.out | refine blk_alloc ?_ _ | refine blk_drew ?_ | refine blk_drewN ?_ _)) hB5
    have H5 : w5.heap[h]? = some (.cells #[.string s] 9 (0, 0)) := blk_below (o := .cells #[.string s] 9 (0, 0)) (by repeat (first | exact HH3'.out | refine blk_alloc ?_ _ | refine blk_drew ?_ | refine blk_drewN ?_ _)) hB5
    have Y5 : w5.heap[gr]? = some (.cells #[.slice none 0 0, .slice none 0 0] 25 (0, 0)) := blk_below (o := .cells #[.slice none 0 0, .slice none 0 0] 25 (0, 0)) (by repeat (first | exact HY'.out | refine blk_alloc ?_ _ | refine blk_drew ?_ | refine blk_drewN ?_ _)) hB5
    have R5 := clone_ok (gb := gb) (gr := gr) (o1 := .cells #[.slice A0 l0.length c0, .slice A1 l1.length c1] 25 (0, 0)) (o2 := .cells #[.slice none 0 0, .slice none 0 0] 25 (0, 0)) hR (by repeat (first | exact HX'.out | refine blk_alloc ?_ _ | refine blk_drew ?_ | refine blk_drewN ?_ _)) (by repeat (first | exact HY'.out | refine blk_alloc ?_ _ | refine blk_drew ?_ | refine blk_drewN ?_ _)) (Nat.le_of_eq HGB.out.symm)
    have B5 := below_step (w := w) (by repeat (first | exact HB'.out | apply below_alloc | apply below_drew1 | apply pw_below_drewN)) hB5
    refine hK.out _ _ ⟨(blk_cell X5 1).trans rfl, (blk_cell G5 0).trans rfl, (blk_cell H5 0).trans rfl⟩ (fun hHeld => ?_)
    clear hK K
    refine norm_ (a' := ?_) ?_ ?_
    rotate_left
    · show Act.put _ (some 19) _ = _; simp only [Act.put, List.setIfInBounds_toArray, List.set_cons_zero, List.set_cons_succ, i64_w, i32_w]; rfl
    refine one_ (i := 6) (N := some 23) #[true, true, true, true, true, true, true, false, false, false] rfl rfl (by kernel_rfl) (by decide) (fun K hK => ?_)
    refine value_ (w1 := ?_) (v := ?_) (by rfl) rfl ?_ ?_
    rotate_left 2
    · go_simp; constructor; · rfl
      · rfl
    refine hK.out _ _ ⟨(blk_cell (blk_alloc X5 _) 1).trans rfl, (blk_cell (blk_alloc G5 _) 0).trans rfl, (blk_cell (blk_alloc H5 _) 0).trans rfl⟩ (fun hHeld => ?_)
    clear hK K
    refine norm_ (a' := ?_) ?_ ?_
    rotate_left
    · show Act.put _ (some 23) _ = _; simp only [Act.put, List.setIfInBounds_toArray, List.set_cons_zero, List.set_cons_succ, i64_w, i32_w]; rfl
    refine one_ (i := 7) (N := some 24) #[true, true, true, true, true, true, true, true, false, false] rfl rfl (by kernel_rfl) (by decide) (fun K hK => ?_)
    refine Kd.R_append_rows_step k42 (w0 := w) w.heap.size (by rfl) (.tmp 19) (.tmp 23) 23 42 (.agg #[(.int .i64 0), (.string ⟨#[]⟩)]) 24 (by rfl) Tryd.underlying23 info42 rfl (by decide) (by omega) v l1 [(⟨a, s⟩ : S42)] _ _ _ (fun k => w.heap.size ≤ k ∧ k ≠ gb ∧ k ≠ gr) (fun _ => False) (by rfl) (by rfl) (by (with_reducible repeat (first | apply Kd.R_alloc | apply Kd.R_drewN | apply Kd.R_drew)); exact R5) (lit_row ⟨a, s⟩ (blk_new _ _)) (fun x cs e => by subst e; exact k42_mkM _ _ _ _) (fun _ h => h.elim) (fun k hk => ?fresh) (by repeat (first | exact B5 | apply below_alloc | apply below_drew1 | apply pw_below_drewN)) (below_size (by repeat (first | exact B5 | apply below_alloc | apply below_drew1 | apply pw_below_drewN))) (by have := HL.out; omega) ?_
    case fresh => exact fresh3 (o1 := .cells #[.slice A0 l0.length c0, .slice A1 l1.length c1] 25 (0, 0)) (o2 := .cells #[.slice none 0 0, .slice none 0 0] 25 (0, 0)) (by repeat (first | exact X5 | refine blk_alloc ?_ _ | refine blk_drew ?_ | refine blk_drewN ?_ _)) (by repeat (first | exact Y5 | refine blk_alloc ?_ _ | refine blk_drew ?_ | refine blk_drewN ?_ _)) hk (Nat.le_of_eq HGB.out.symm)
    intro v1 w6 hR6 hB6 hg6 _
    have X6 := grown_cells (g := gb) (cs := #[.slice A0 l0.length c0, .slice A1 l1.length c1]) (t := 25) hg6 (by repeat (first | exact X5 | refine blk_alloc ?_ _ | refine blk_drew ?_ | refine blk_drewN ?_ _)) R5.1 (fun h => h.2.1 rfl)
    have Y6 := grown_cells (g := gr) (cs := #[.slice none 0 0, .slice none 0 0]) (t := 25) hg6 (by repeat (first | exact Y5 | refine blk_alloc ?_ _ | refine blk_drew ?_ | refine blk_drewN ?_ _)) R5.1 (fun h => h.2.2 rfl)
    obtain ⟨A6, c6, rfl⟩ := Kd.R_slice hR6
    have G6 := blk_below HG.out hB6
    have H6 := blk_below HH.out hB6
    refine hK.out _ _ ⟨(blk_cell X6 1).trans rfl, (blk_cell G6 0).trans rfl, (blk_cell H6 0).trans rfl⟩ (fun hHeld => ?_)
    clear hK K
    refine norm_ (a' := ?_) ?_ ?_
    rotate_left
    · show Act.put _ (some 24) _ = _; simp only [Act.put, List.setIfInBounds_toArray, List.set_cons_zero, List.set_cons_succ, i64_w, i32_w]; rfl
    refine pure_ (i := 8) (N := some 25) (v := ?_) (a' := ?_) #[true, true, true, true, true, true, true, true, true, false] rfl rfl (by kernel_rfl) (fun _ _ _ h => h) (Or.inl ⟨by rfl, ?_⟩) ?_ ?_
    rotate_left
    · intro w'; go_simp; with_reducible rfl
    rotate_left
    · simp only [Act.put, List.setIfInBounds_toArray, List.set_cons_zero, List.set_cons_succ, i64_w, i32_w]; rfl
    refine last_ (i := 9) (N := none) #[true, true, true, true, true, true, true, true, true, true] rfl rfl (by kernel_rfl) (by decide) (fun K hK => ?_)
    have p1 := (blk_cell X6 1).trans rfl
    have p2 := blk_frozen X6 1
    refine skip_ (w1 := ?_) (by rfl) rfl ?_ ?_
    rotate_left
    · go_simp; rfl
    refine hK.out _ _ ?_
    clear hK K
    refine done_ (by kernel_rfl) ?_
    have e0 := blk_put (cs' := #[.slice A0 l0.length c0, .slice A6 (l1 ++ [(⟨a, s⟩ : S42)]).length c6]) X6 1 (.slice A6 (l1 ++ [(⟨a, s⟩ : S42)]).length c6) rfl
    have e1 := blk_far Y6 (p := ⟨gb, 1, none⟩) (Ne.symm HGR.out) (.slice A6 (l1 ++ [(⟨a, s⟩ : S42)]).length c6)
    have hB7 := below_set (j := 1) (v := .slice A6 (l1 ++ [(⟨a, s⟩ : S42)]).length c6) hB6 (Nat.le_of_eq HGB.out.symm)
    have R7 := Kd.R_far (p := ⟨gb, 1, none⟩) hR6 (fun _ hk => hk.2.1) (.slice A6 (l1 ++ [(⟨a, s⟩ : S42)]).length c6)
    have hln : (l1.length + 1) = (l1 ++ [(⟨a, s⟩ : S42)]).length := by simp
    try rw [hln]
    generalize w6.setCell ⟨gb, 1, none⟩ (.slice A6 (l1 ++ [(⟨a, s⟩ : S42)]).length c6) = w7 at e0 e1 hB7 R7 ⊢
    clear X6 Y6 G6 H6 hB6 hg6 hR6 p1 p2 hHeld X5 Y5 G5 H5 R5 B5 hR hB5
    have p0 := (blk_cell e0 0).trans rfl
    have p1 := (blk_cell e0 1).trans rfl
    have p2 := (blk_cell e1 0).trans rfl
    have p3 := (blk_cell e1 1).trans rfl
    have p4 := blk_frozen e1 0
    have p5 := blk_frozen e1 1
    generalize hrow_ : (l1 ++ [(⟨a, s⟩ : S42)]) = row at *
    go_wp2
    have e2 := blk_put (cs' := #[.slice A0 l0.length c0, .slice none 0 0]) e1 0 (.slice A0 l0.length c0) rfl
    have e3 := blk_put (cs' := #[.slice A0 l0.length c0, .slice A6 row.length c6]) e2 1 (.slice A6 row.length c6) rfl
    refine bodyPost_ret (results_ct rfl _ _ gr 25 #[.slice A0 l0.length c0, .slice A6 row.length c6] (0, 0) _ rfl e3 Tryd.underlying25 rfl (by kernel_rfl)) rfl ?_
    have hB8 := below_set (j := 1) (v := .slice A6 row.length c6) (below_set (j := 0) (v := .slice A0 l0.length c0) hB7 HGE.out) HGE.out
    exact ⟨_, _, rfl, Kd.V_below HO0.out hB8, Kd.V_mono (Kd.R_V (base' := w.heap.size) (Kd.R_far (p := ⟨gr, 1, none⟩) (Kd.R_far (p := ⟨gr, 0, none⟩) R7 (fun _ hk => hk.2.2) (.slice A0 l0.length c0)) (fun _ hk => hk.2.2) (.slice A6 row.length c6))) (fun _ hk => .inr hk.1), hB8⟩
  · refine value_ (w1 := ?_) (v := ?_) (by rfl) rfl ?_ ?_
    rotate_left 2
    · go_simp; constructor; · rfl
      · rfl
    refine hK.out _ _ ⟨(blk_cell (blk_alloc HX'.out _) 1).trans rfl, (blk_cell (blk_alloc HG3'.out _) 0).trans rfl, (blk_cell (blk_alloc HH3'.out _) 0).trans rfl⟩ (fun hHeld => ?_)
    clear hK K
    refine norm_ (a' := ?_) ?_ ?_
    rotate_left
    · show Act.put _ (some 23) _ = _; simp only [Act.put, List.setIfInBounds_toArray, List.set_cons_zero, List.set_cons_succ, i64_w, i32_w]; rfl
    refine one_ (i := 2) (N := some 19) #[true, true, true, true, true, true, true, false, false, false] rfl rfl (by kernel_rfl) (by decide) (fun K hK => ?_)
    refine goes_ Tryd.func59 (by kernel_rfl) rfl #[.slice A1 l1.length c1] (by rfl) rfl rfl (by (try simp only [List.map_toArray, List.map_cons, List.map_nil]); first | done | rfl) ?_
    refine (api_Write.calls A1 c1 l1 _ _ (by repeat (first | exact (Kd.C_below (Kd.V_reads' HO1.out).2.2 HB'.out) | (with_reducible refine Kd.C_alloc ?_ _))) (Kd.V_reads' HO1.out).2.1 EC.out).mono ?_
    rintro e w5 ⟨v, rfl, hR, hB5⟩
    refine ⟨_, rfl, ?_⟩
    have X5 : w5.heap[gb]? = some (.cells #[.slice A0 l0.length c0, .slice A1 l1.length c1] 25 (0, 0)) := blk_below (o := .cells #[.slice A0 l0.length c0, .slice A1 l1.length c1] 25 (0, 0)) (by repeat (first | exact HX'.out | refine blk_alloc ?_ _ | refine blk_drew ?_ | refine blk_drewN ?_ _)) hB5
    have G5 : w5.heap[g]? = some (.cells #[.int .i64 a] 3 (0, 0)) := blk_below (o := .cells #[.int .i64 a] 3 (0, 0)) (by repeat (first | exact HG3'.out | refine blk_alloc ?_ _ | refine blk_drew ?_ | refine blk_drewN ?_ _)) hB5
    have H5 : w5.heap[h]? = some (.cells #[.string s] 9 (0, 0)) := blk_below (o := .cells #[.string s] 9 (0, 0)) (by repeat (first | exact HH3'.out | refine blk_alloc ?_ _ | refine blk_drew ?_ | refine blk_drewN ?_ _)) hB5
    have Y5 : w5.heap[gr]? = some (.cells #[.slice none 0 0, .slice none 0 0] 25 (0, 0)) := blk_below (o := .cells #[.slice none 0 0, .slice none 0 0] 25 (0, 0)) (by repeat (first | exact HY'.out | refine blk_alloc ?_ _ | refine blk_drew ?_ | refine blk_drewN ?_ _)) hB5
    have R5 := clone_ok (gb := gb) (gr := gr) (o1 := .cells #[.slice A0 l0.length c0, .slice A1 l1.length c1] 25 (0, 0)) (o2 := .cells #[.slice none 0 0, .slice none 0 0] 25 (0, 0)) hR (by repeat (first | exact HX'.out | refine blk_alloc ?_ _ | refine blk_drew ?_ | refine blk_drewN ?_ _)) (by repeat (first | exact HY'.out | refine blk_alloc ?_ _ | refine blk_drew ?_ | refine blk_drewN ?_ _)) (Nat.le_of_eq HGB.out.symm)
    have B5 := below_step (w := w) (by repeat (first | exact HB'.out | apply below_alloc | apply below_drew1 | apply pw_below_drewN)) hB5
    refine hK.out _ _ ⟨(blk_cell X5 1).trans rfl, (blk_cell G5 0).trans rfl, (blk_cell H5 0).trans rfl⟩ (fun hHeld => ?_)
    clear hK K
    refine norm_ (a' := ?_) ?_ ?_
    rotate_left
    · show Act.put _ (some 19) _ = _; simp only [Act.put, List.setIfInBounds_toArray, List.set_cons_zero, List.set_cons_succ, i64_w, i32_w]; rfl
    refine one_ (i := 7) (N := some 24) #[true, true, true, true, true, true, true, true, false, false] rfl rfl (by kernel_rfl) (by decide) (fun K hK => ?_)
    refine Kd.R_append_rows_step k42 (w0 := w) w.heap.size (by rfl) (.tmp 19) (.tmp 23) 23 42 (.agg #[(.int .i64 0), (.string ⟨#[]⟩)]) 24 (by rfl) Tryd.underlying23 info42 rfl (by decide) (by omega) v l1 [(⟨a, s⟩ : S42)] _ _ _ (fun k => w.heap.size ≤ k ∧ k ≠ gb ∧ k ≠ gr) (fun _ => False) (by rfl) (by rfl) (by (with_reducible repeat (first | apply Kd.R_alloc | apply Kd.R_drewN | apply Kd.R_drew)); exact R5) (lit_row ⟨a, s⟩ (blk_below (blk_new _ _) hB5)) (fun x cs e => by subst e; exact k42_mkM _ _ _ _) (fun _ h => h.elim) (fun k hk => ?fresh) (by repeat (first | exact B5 | apply below_alloc | apply below_drew1 | apply pw_below_drewN)) (below_size (by repeat (first | exact B5 | apply below_alloc | apply below_drew1 | apply pw_below_drewN))) (by have := HL.out; omega) ?_
    case fresh => exact fresh3 (o1 := .cells #[.slice A0 l0.length c0, .slice A1 l1.length c1] 25 (0, 0)) (o2 := .cells #[.slice none 0 0, .slice none 0 0] 25 (0, 0)) (by repeat (first | exact X5 | refine blk_alloc ?_ _ | refine blk_drew ?_ | refine blk_drewN ?_ _)) (by repeat (first | exact Y5 | refine blk_alloc ?_ _ | refine blk_drew ?_ | refine blk_drewN ?_ _)) hk (Nat.le_of_eq HGB.out.symm)
    intro v1 w6 hR6 hB6 hg6 _
    have X6 := grown_cells (g := gb) (cs := #[.slice A0 l0.length c0, .slice A1 l1.length c1]) (t := 25) hg6 (by repeat (first | exact X5 | refine blk_alloc ?_ _ | refine blk_drew ?_ | refine blk_drewN ?_ _)) R5.1 (fun h => h.2.1 rfl)
    have Y6 := grown_cells (g := gr) (cs := #[.slice none 0 0, .slice none 0 0]) (t := 25) hg6 (by repeat (first | exact Y5 | refine blk_alloc ?_ _ | refine blk_drew ?_ | refine blk_drewN ?_ _)) R5.1 (fun h => h.2.2 rfl)
    obtain ⟨A6, c6, rfl⟩ := Kd.R_slice hR6
    have G6 := blk_below HG.out hB6
    have H6 := blk_below HH.out hB6
    refine hK.out _ _ ⟨(blk_cell X6 1).trans rfl, (blk_cell G6 0).trans rfl, (blk_cell H6 0).trans rfl⟩ (fun hHeld => ?_)
    clear hK K
    refine norm_ (a' := ?_) ?_ ?_
    rotate_left
    · show Act.put _ (some 24) _ = _; simp only [Act.put, List.setIfInBounds_toArray, List.set_cons_zero, List.set_cons_succ, i64_w, i32_w]; rfl
    refine pure_ (i := 8) (N := some 25) (v := ?_) (a' := ?_) #[true, true, true, true, true, true, true, true, true, false] rfl rfl (by kernel_rfl) (fun _ _ _ h => h) (Or.inl ⟨by rfl, ?_⟩) ?_ ?_
    rotate_left
    · intro w'; go_simp; with_reducible rfl
    rotate_left
    · simp only [Act.put, List.setIfInBounds_toArray, List.set_cons_zero, List.set_cons_succ, i64_w, i32_w]; rfl
    refine last_ (i := 9) (N := none) #[true, true, true, true, true, true, true, true, true, true] rfl rfl (by kernel_rfl) (by decide) (fun K hK => ?_)
    have p1 := (blk_cell X6 1).trans rfl
    have p2 := blk_frozen X6 1
    refine skip_ (w1 := ?_) (by rfl) rfl ?_ ?_
    rotate_left
    · go_simp; rfl
    refine hK.out _ _ ?_
    clear hK K
    refine done_ (by kernel_rfl) ?_
    have e0 := blk_put (cs' := #[.slice A0 l0.length c0, .slice A6 (l1 ++ [(⟨a, s⟩ : S42)]).length c6]) X6 1 (.slice A6 (l1 ++ [(⟨a, s⟩ : S42)]).length c6) rfl
    have e1 := blk_far Y6 (p := ⟨gb, 1, none⟩) (Ne.symm HGR.out) (.slice A6 (l1 ++ [(⟨a, s⟩ : S42)]).length c6)
    have hB7 := below_set (j := 1) (v := .slice A6 (l1 ++ [(⟨a, s⟩ : S42)]).length c6) hB6 (Nat.le_of_eq HGB.out.symm)
    have R7 := Kd.R_far (p := ⟨gb, 1, none⟩) hR6 (fun _ hk => hk.2.1) (.slice A6 (l1 ++ [(⟨a, s⟩ : S42)]).length c6)
    have hln : (l1.length + 1) = (l1 ++ [(⟨a, s⟩ : S42)]).length := by simp
    try rw [hln]
    generalize w6.setCell ⟨gb, 1, none⟩ (.slice A6 (l1 ++ [(⟨a, s⟩ : S42)]).length c6) = w7 at e0 e1 hB7 R7 ⊢
    clear X6 Y6 G6 H6 hB6 hg6 hR6 p1 p2 hHeld X5 Y5 G5 H5 R5 B5 hR hB5
    have p0 := (blk_cell e0 0).trans rfl
    have p1 := (blk_cell e0 1).trans rfl
    have p2 := (blk_cell e1 0).trans rfl
    have p3 := (blk_cell e1 1).trans rfl
    have p4 := blk_frozen e1 0
    have p5 := blk_frozen e1 1
    generalize hrow_ : (l1 ++ [(⟨a, s⟩ : S42)]) = row at *
    go_wp2
    have e2 := blk_put (cs' := #[.slice A0 l0.length c0, .slice none 0 0]) e1 0 (.slice A0 l0.length c0) rfl
    have e3 := blk_put (cs' := #[.slice A0 l0.length c0, .slice A6 row.length c6]) e2 1 (.slice A6 row.length c6) rfl
    refine bodyPost_ret (results_ct rfl _ _ gr 25 #[.slice A0 l0.length c0, .slice A6 row.length c6] (0, 0) _ rfl e3 Tryd.underlying25 rfl (by kernel_rfl)) rfl ?_
    have hB8 := below_set (j := 1) (v := .slice A6 row.length c6) (below_set (j := 0) (v := .slice A0 l0.length c0) hB7 HGE.out) HGE.out
    exact ⟨_, _, rfl, Kd.V_below HO0.out hB8, Kd.V_mono (Kd.R_V (base' := w.heap.size) (Kd.R_far (p := ⟨gr, 1, none⟩) (Kd.R_far (p := ⟨gr, 0, none⟩) R7 (fun _ hk => hk.2.2) (.slice A0 l0.length c0)) (fun _ hk => hk.2.2) (.slice A6 row.length c6))) (fun _ hk => .inr hk.1), hB8⟩
end Go.Proofs.YtniplmjbligmlaaDoor.Q

/-! disk.Write's closure, where it refuses; disk.call; disk.Write. -/
namespace Go.Proofs.YtniplmjbligmlaaDoor.Q
open Go.RowKit Go.Proofs.YtniplmjbligmlaaDoorW.PrintWords Go.Proofs.YtniplmjbligmlaaDoorW.PrintLast Go.Proofs.YtniplmjbligmlaaDoorW.PrintMore Go.Proofs.YtniplmjbligmlaaDoor.Base
set_option linter.unusedVariables false
set_option linter.unusedSimpArgs false

set_option maxHeartbeats 4000000 in
set_option maxRecDepth 100000 in
theorem write1_nosector (P0 : Nat → Prop) (A0 : Option Addr) (c0 : Nat) (l0 : List ByteArray) (P1 : Nat → Prop) (A1 : Option Addr) (c1 : Nat) (l1 : List S42) (a : Int) (s : ByteArray) (g h : Nat) (w : World)
    (hs0 : Kd.V Kd.string 9 w w.heap.size P0 (.slice A0 l0.length c0) l0) (hs1 : Kd.V k42 42 w w.heap.size P1 (.slice A1 l1.length c1) l1)
    (hg : w.heap[g]? = some (.cells #[.int .i64 a] 3 (0, 0))) (hh : w.heap[h]? = some (.cells #[.string s] 9 (0, 0))) (h1 : hasB l0.length a = false) :
    Calls Tryd.prog 58 #[.agg #[.slice A0 l0.length c0, .slice A1 l1.length c1], .pointer (some ⟨g, 0, none⟩), .pointer (some ⟨h, 0, none⟩)] w (DiskOut w P0 P1 l0 l1 20) := by
  have HO0 := Aside0.mk (show Kd.V Kd.string 9 w w.heap.size (fun k_ => ((P0 k_ ∨ P1 k_) ∨ w.heap.size ≤ k_)) (.slice A0 l0.length c0) l0 from Kd.V_mono hs0 (fun k_ hk => .inl (.inl hk)))
  have HO1 := Aside0.mk (show Kd.V k42 42 w w.heap.size (fun k_ => ((P0 k_ ∨ P1 k_) ∨ w.heap.size ≤ k_)) (.slice A1 l1.length c1) l1 from Kd.V_mono hs1 (fun k_ hk => .inl (.inr hk)))
  have HG := Aside0.mk hg
  have HH := Aside0.mk hh
  have E := Aside0.mk (show disk_has.f l0 l1 a = some false by rw [has_eq, h1])
  clear hs0 hs1 hg hh h1
  go_enter Tryd.func58, Tryd.ntmps58
  go_wp2_with (first
    | ((with_reducible refine gate_dst (N := 3) rfl ?_); refine box_event rfl (N := 3) rfl (cs := #[.slice A0 l0.length c0, .slice A1 l1.length c1]) (t := 25) (by first | (go_simp; done) | (go_simp; rfl)) ?_; intro gb hgb w1 hbox1 hb1; have HX1 := Aside0.mk hbox1; have HB1 := Aside0.mk hb1; have HG1 := Aside0.mk (blk_below HG.out hb1); have HH1 := Aside0.mk (blk_below HH.out hb1); have HGB := Aside0.mk hgb; clear hbox1 hb1 hgb)
    | ((with_reducible refine gate_dst (N := 4) rfl ?_); refine box_event rfl (N := 4) rfl (cs := #[.slice none 0 0, .slice none 0 0]) (t := 25) (by first | (go_simp; done) | (go_simp; rfl)) ?_; intro gr hgr w2 hbox2 hb2; have d0 := (blk_cell (blk_below HX1.out hb2) 0).trans rfl; have d1 := (blk_cell (blk_below HX1.out hb2) 1).trans rfl; have dg := (blk_cell (blk_below HG1.out hb2) 0).trans rfl; have HX2 := Aside0.mk (blk_below HX1.out hb2); have HH2 := Aside0.mk (blk_below HH1.out hb2); have HY2 := Aside0.mk hbox2; have HB2 := Aside0.mk (below_step HB1.out hb2); have HGE := Aside0.mk (show w.heap.size ≤ gr by have h1 := blk_lt HX1.out; have h2 := HGB.out; omega); clear hbox2 hb2 hgr HX1 HG1 HH1 HB1)
    | (go_at_call 51; refine (disk_has.calls A0 c0 l0 A1 c1 l1 a _ w2 (Kd.C_below (Kd.V_reads' HO0.out).2.2 HB2.out) (Kd.V_reads' HO0.out).2.1 (Kd.C_below (Kd.V_reads' HO1.out).2.2 HB2.out) (Kd.V_reads' HO1.out).2.1 E.out).mono ?_; rintro e w3 ⟨rfl, hb3⟩; have HB := Aside0.mk (below_step HB2.out hb3); clear d0 d1 dg; have d0 := (blk_cell (blk_below HX2.out hb3) 0).trans rfl; have d1 := (blk_cell (blk_below HX2.out hb3) 1).trans rfl; have dh := (blk_cell (blk_below HH2.out hb3) 0).trans rfl; have HY := Aside0.mk (blk_below HY2.out hb3); have y0 := (blk_cell HY.out 0).trans rfl; have y1 := (blk_cell HY.out 1).trans rfl; have y2 := blk_frozen HY.out 0; have y3 := blk_frozen HY.out 1; clear HX2 HH2 HY2 HB2 hb3))
  have e2 := blk_put (cs' := #[.slice A0 l0.length c0, .slice none 0 0]) HY.out 0 (.slice A0 l0.length c0) rfl
  have e3 := blk_put (cs' := #[.slice A0 l0.length c0, .slice A1 l1.length c1]) e2 1 (.slice A1 l1.length c1) rfl
  refine bodyPost_ret (results_ct rfl _ _ gr 25 #[.slice A0 l0.length c0, .slice A1 l1.length c1] (0, 0) _ rfl e3 Tryd.underlying25 rfl (by kernel_rfl)) rfl ?_
  have hB8 := below_set (j := 1) (v := .slice A1 l1.length c1) (below_set (j := 0) (v := .slice A0 l0.length c0) HB.out HGE.out) HGE.out
  exact ⟨_, _, rfl, Kd.V_below HO0.out hB8, Kd.V_below HO1.out hB8, hB8⟩

set_option maxHeartbeats 4000000 in
set_option maxRecDepth 100000 in
theorem write1_long (P0 : Nat → Prop) (A0 : Option Addr) (c0 : Nat) (l0 : List ByteArray) (P1 : Nat → Prop) (A1 : Option Addr) (c1 : Nat) (l1 : List S42) (a : Int) (s : ByteArray) (g h : Nat) (w : World)
    (hs0 : Kd.V Kd.string 9 w w.heap.size P0 (.slice A0 l0.length c0) l0) (hs1 : Kd.V k42 42 w w.heap.size P1 (.slice A1 l1.length c1) l1)
    (hg : w.heap[g]? = some (.cells #[.int .i64 a] 3 (0, 0))) (hh : w.heap[h]? = some (.cells #[.string s] 9 (0, 0))) (h1 : hasB l0.length a = true) (h2 : ¬ s.size ≤ 512) :
    Calls Tryd.prog 58 #[.agg #[.slice A0 l0.length c0, .slice A1 l1.length c1], .pointer (some ⟨g, 0, none⟩), .pointer (some ⟨h, 0, none⟩)] w (DiskOut w P0 P1 l0 l1 2) := by
  have HO0 := Aside0.mk (show Kd.V Kd.string 9 w w.heap.size (fun k_ => ((P0 k_ ∨ P1 k_) ∨ w.heap.size ≤ k_)) (.slice A0 l0.length c0) l0 from Kd.V_mono hs0 (fun k_ hk => .inl (.inl hk)))
  have HO1 := Aside0.mk (show Kd.V k42 42 w w.heap.size (fun k_ => ((P0 k_ ∨ P1 k_) ∨ w.heap.size ≤ k_)) (.slice A1 l1.length c1) l1 from Kd.V_mono hs1 (fun k_ hk => .inl (.inr hk)))
  have HG := Aside0.mk hg
  have HH := Aside0.mk hh
  have E := Aside0.mk (show disk_has.f l0 l1 a = some true by rw [has_eq, h1])
  have h2c : decide (512 < (s.size : Int)) = true := decide_eq_true (by omega)
  have h2d : 512 < s.size := by omega
  clear hs0 hs1 hg hh h1
  go_enter Tryd.func58, Tryd.ntmps58
  go_wp2_with (first
    | ((with_reducible refine gate_dst (N := 3) rfl ?_); refine box_event rfl (N := 3) rfl (cs := #[.slice A0 l0.length c0, .slice A1 l1.length c1]) (t := 25) (by first | (go_simp; done) | (go_simp; rfl)) ?_; intro gb hgb w1 hbox1 hb1; have HX1 := Aside0.mk hbox1; have HB1 := Aside0.mk hb1; have HG1 := Aside0.mk (blk_below HG.out hb1); have HH1 := Aside0.mk (blk_below HH.out hb1); have HGB := Aside0.mk hgb; clear hbox1 hb1 hgb)
    | ((with_reducible refine gate_dst (N := 4) rfl ?_); refine box_event rfl (N := 4) rfl (cs := #[.slice none 0 0, .slice none 0 0]) (t := 25) (by first | (go_simp; done) | (go_simp; rfl)) ?_; intro gr hgr w2 hbox2 hb2; have d0 := (blk_cell (blk_below HX1.out hb2) 0).trans rfl; have d1 := (blk_cell (blk_below HX1.out hb2) 1).trans rfl; have dg := (blk_cell (blk_below HG1.out hb2) 0).trans rfl; have HX2 := Aside0.mk (blk_below HX1.out hb2); have HH2 := Aside0.mk (blk_below HH1.out hb2); have HY2 := Aside0.mk hbox2; have HB2 := Aside0.mk (below_step HB1.out hb2); have HGE := Aside0.mk (show w.heap.size ≤ gr by have h1 := blk_lt HX1.out; have h2 := HGB.out; omega); clear hbox2 hb2 hgr HX1 HG1 HH1 HB1)
    | (go_at_call 51; refine (disk_has.calls A0 c0 l0 A1 c1 l1 a _ w2 (Kd.C_below (Kd.V_reads' HO0.out).2.2 HB2.out) (Kd.V_reads' HO0.out).2.1 (Kd.C_below (Kd.V_reads' HO1.out).2.2 HB2.out) (Kd.V_reads' HO1.out).2.1 E.out).mono ?_; rintro e w3 ⟨rfl, hb3⟩; have HB := Aside0.mk (below_step HB2.out hb3); clear d0 d1 dg; have d0 := (blk_cell (blk_below HX2.out hb3) 0).trans rfl; have d1 := (blk_cell (blk_below HX2.out hb3) 1).trans rfl; have dh := (blk_cell (blk_below HH2.out hb3) 0).trans rfl; have HY := Aside0.mk (blk_below HY2.out hb3); have y0 := (blk_cell HY.out 0).trans rfl; have y1 := (blk_cell HY.out 1).trans rfl; have y2 := blk_frozen HY.out 0; have y3 := blk_frozen HY.out 1; clear HX2 HH2 HY2 HB2 hb3))
  have e2 := blk_put (cs' := #[.slice A0 l0.length c0, .slice none 0 0]) HY.out 0 (.slice A0 l0.length c0) rfl
  have e3 := blk_put (cs' := #[.slice A0 l0.length c0, .slice A1 l1.length c1]) e2 1 (.slice A1 l1.length c1) rfl
  refine bodyPost_ret (results_ct rfl _ _ gr 25 #[.slice A0 l0.length c0, .slice A1 l1.length c1] (0, 0) _ rfl e3 Tryd.underlying25 rfl (by kernel_rfl)) rfl ?_
  have hB8 := below_set (j := 1) (v := .slice A1 l1.length c1) (below_set (j := 0) (v := .slice A0 l0.length c0) HB.out HGE.out) HGE.out
  exact ⟨_, _, rfl, Kd.V_below HO0.out hB8, Kd.V_below HO1.out hB8, hB8⟩

set_option maxHeartbeats 4000000 in
set_option maxRecDepth 100000 in
theorem write1_calls (P0 : Nat → Prop) (A0 : Option Addr) (c0 : Nat) (l0 : List ByteArray) (P1 : Nat → Prop) (A1 : Option Addr) (c1 : Nat) (l1 : List S42) (a : Int) (s : ByteArray) (g h : Nat) (r1 : List ByteArray) (r2 : List S42) (r3 : Int) (w : World)
    (hs0 : Kd.V Kd.string 9 w w.heap.size P0 (.slice A0 l0.length c0) l0) (hs1 : Kd.V k42 42 w w.heap.size P1 (.slice A1 l1.length c1) l1)
    (hg : w.heap[g]? = some (.cells #[.int .i64 a] 3 (0, 0))) (hh : w.heap[h]? = some (.cells #[.string s] 9 (0, 0))) (hf : write1F l0 l1 a s = some (r1, r2, r3)) :
    Calls Tryd.prog 58 #[.agg #[.slice A0 l0.length c0, .slice A1 l1.length c1], .pointer (some ⟨g, 0, none⟩), .pointer (some ⟨h, 0, none⟩)] w (DiskOut w P0 P1 r1 r2 r3) := by
  unfold write1F at hf
  by_cases h1 : hasB l0.length a = true
  · rw [if_pos h1] at hf
    by_cases h2 : s.size ≤ 512
    · rw [if_pos h2] at hf
      by_cases h3 : l1.length < 5864062014804
      · rw [if_pos h3] at hf; cases hf
        exact write1_add P0 A0 c0 l0 P1 A1 c1 l1 a s g h w hs0 hs1 hg hh h1 h2 h3
      · rw [if_neg h3] at hf; cases hf
    · rw [if_neg h2] at hf; cases hf
      exact write1_long P0 A0 c0 l0 P1 A1 c1 l1 a s g h w hs0 hs1 hg hh h1 h2
  · rw [if_neg h1] at hf; cases hf
    exact write1_nosector P0 A0 c0 l0 P1 A1 c1 l1 a s g h w hs0 hs1 hg hh (by simpa using h1)


theorem vq {α : Type} {d : Kd α} {e b gb gr : Nat} {P0 P1 : Nat → Prop} {w w3 w4 : World} {o1 o2 : Obj} {v : Value} {l : List α} (hv : Kd.V d e w4 b (fun k => ((P0 k ∧ k < w.heap.size) ∨ (P1 k ∧ k < w.heap.size)) ∨ w3.heap.size ≤ k) v l) (h1 : w.heap.size ≤ gb) (g1 : w3.heap[gb]? = some o1) (h2 : w.heap.size ≤ gr) (g2 : w3.heap[gr]? = some o2) : Kd.V d e w4 b (fun k => ((P0 k ∨ P1 k) ∨ w.heap.size ≤ k) ∧ k ≠ gb ∧ k ≠ gr ∧ k < w4.heap.size) v l :=
  Kd.V_mono (Kd.V_bound hv) (fun k hk => by
    have l1 := blk_lt g1
    have l2 := blk_lt g2
    obtain ⟨(h | h) | h, h5⟩ := hk
    · exact ⟨.inl (.inl h.1), by have := h.2; omega, by have := h.2; omega, h5⟩
    · exact ⟨.inl (.inr h.1), by have := h.2; omega, by have := h.2; omega, h5⟩
    · exact ⟨.inr (by omega), by omega, by omega, h5⟩)
/-- what a disk with power is handed back as -/
def PowerOut (w : World) (P0 P1 : Nat → Prop) (r1 : List ByteArray) (r2 : List S42) (r3 r4 : Int) (e : Ending) (w' : World) : Prop :=
  ∃ v0_ v1_ : Value, e = .returned (.tuple #[.agg #[v0_, v1_, .int .i64 r3], .int .i64 r4]) ∧ Kd.V Kd.string 9 w' w.heap.size (fun k_ => ((P0 k_ ∨ P1 k_) ∨ w.heap.size ≤ k_)) v0_ r1 ∧ Kd.V k42 42 w' w.heap.size (fun k_ => ((P0 k_ ∨ P1 k_) ∨ w.heap.size ≤ k_)) v1_ r2 ∧ Below w.heap.size w w'
def callF (l0 : List ByteArray) (l1 : List S42) (left : Int) (res : Option (List ByteArray × List S42 × Int)) : Option (List ByteArray × List S42 × Int × Int) :=
  if left = 0 then some (l0, l1, left, 21) else if rightB l0 l1 = true then res.bind (fun r => if r.2.2 = 0 then some (r.1, r.2.1, if left > 0 then wrap64 (left - 1) else left, 0) else some (l0, l1, left, r.2.2)) else some (l0, l1, left, 1)

set_option maxHeartbeats 4000000 in
set_option maxRecDepth 100000 in
theorem call_w_down (P0 : Nat → Prop) (A0 : Option Addr) (c0 : Nat) (l0 : List ByteArray) (P1 : Nat → Prop) (A1 : Option Addr) (c1 : Nat) (l1 : List S42) (left : Int) (a : Int) (s : ByteArray) (g h : Nat) (w : World)
    (hs0 : Kd.V Kd.string 9 w w.heap.size P0 (.slice A0 l0.length c0) l0) (hs1 : Kd.V k42 42 w w.heap.size P1 (.slice A1 l1.length c1) l1)
    (hg : w.heap[g]? = some (.cells #[.int .i64 a] 3 (0, 0))) (hh : w.heap[h]? = some (.cells #[.string s] 9 (0, 0))) (h1 : left = 0) :
    Calls Tryd.prog 57 #[.agg #[.slice A0 l0.length c0, .slice A1 l1.length c1, .int .i64 left], .func (.func 58) #[] #[.pointer (some ⟨g, 0, none⟩), .pointer (some ⟨h, 0, none⟩)]] w (PowerOut w P0 P1 l0 l1 left 21) := by
  have HS0 := Aside0.mk hs0
  have HS1 := Aside0.mk hs1
  have HG := Aside0.mk hg
  have HH := Aside0.mk hh
  clear hg hh
  clear hs0 hs1
  subst h1
  go_enter Tryd.func57, Tryd.ntmps57
  go_wp2_with (first
    | ((with_reducible refine gate_dst (N := 2) rfl ?_); refine box_event rfl (N := 2) rfl (cs := #[.slice A0 l0.length c0, .slice A1 l1.length c1, .int .i64 0]) (t := 46) (by first | (go_simp; done) | (go_simp; rfl)) ?_; intro gb hgb w1 hbox1 hb1; have HX1 := Aside0.mk hbox1; have HB1 := Aside0.mk hb1; have HGB := Aside0.mk (Nat.le_of_eq hgb.symm); clear hbox1 hb1 hgb)
    | ((with_reducible refine gate_dst (N := 4) rfl ?_); refine box_event rfl (N := 4) rfl (cs := #[.slice none 0 0, .slice none 0 0, .int .i64 0]) (t := 46) (by first | (go_simp; done) | (go_simp; rfl)) ?_; intro gr hgr w2 hbox2 hb2; have HX2 := Aside0.mk (blk_below HX1.out hb2); have HY2 := Aside0.mk hbox2; have HB2 := Aside0.mk (below_step HB1.out hb2); have HGE := Aside0.mk (show w.heap.size ≤ gr by have h1 := blk_lt HX1.out; have h2 := HGB.out; omega); have HNE := Aside0.mk (show gb ≠ gr by have h1 := blk_lt HX1.out; omega); have hne1 := HNE.out; have hne2 := hne1.symm; have x0 := (blk_cell HX2.out 0).trans rfl; have x1 := (blk_cell HX2.out 1).trans rfl; have x2 := (blk_cell HX2.out 2).trans rfl; have y0 := (blk_cell HY2.out 0).trans rfl; have y1 := (blk_cell HY2.out 1).trans rfl; have y2 := (blk_cell HY2.out 2).trans rfl; have y3 := blk_frozen HY2.out 0; have y4 := blk_frozen HY2.out 1; have y5 := blk_frozen HY2.out 2; clear hbox2 hb2 hgr HX1 HB1))
  have e0 := blk_put (cs' := #[.slice A0 l0.length c0, .slice none 0 0, .int .i64 0]) HY2.out 0 (.slice A0 l0.length c0) rfl
  have e1 := blk_put (cs' := #[.slice A0 l0.length c0, .slice A1 l1.length c1, .int .i64 0]) e0 1 (.slice A1 l1.length c1) rfl
  have e2 := blk_put (cs' := #[.slice A0 l0.length c0, .slice A1 l1.length c1, .int .i64 0]) e1 2 (.int .i64 0) rfl
  have hB8 := below_set (j := 2) (v := .int .i64 0) (below_set (j := 1) (v := .slice A1 l1.length c1) (below_set (j := 0) (v := .slice A0 l0.length c0) HB2.out HGE.out) HGE.out) HGE.out
  refine bodyPost_ret (results_ct rfl _ _ gr 46 #[.slice A0 l0.length c0, .slice A1 l1.length c1, .int .i64 0] (0, 0) _ rfl e2 Tryd.underlying46 rfl (by kernel_rfl)) rfl ?_
  exact ⟨_, _, rfl, Kd.V_mono (Kd.V_below HS0.out hB8) (fun _ hk => .inl (.inl hk)), Kd.V_mono (Kd.V_below HS1.out hB8) (fun _ hk => .inl (.inr hk)), hB8⟩

set_option maxHeartbeats 4000000 in
set_option maxRecDepth 100000 in
theorem call_w_wrong (P0 : Nat → Prop) (A0 : Option Addr) (c0 : Nat) (l0 : List ByteArray) (P1 : Nat → Prop) (A1 : Option Addr) (c1 : Nat) (l1 : List S42) (left : Int) (a : Int) (s : ByteArray) (g h : Nat) (w : World)
    (hs0 : Kd.V Kd.string 9 w w.heap.size P0 (.slice A0 l0.length c0) l0) (hs1 : Kd.V k42 42 w w.heap.size P1 (.slice A1 l1.length c1) l1)
    (hg : w.heap[g]? = some (.cells #[.int .i64 a] 3 (0, 0))) (hh : w.heap[h]? = some (.cells #[.string s] 9 (0, 0))) (h1 : ¬ left = 0) (h2 : rightB l0 l1 = false) :
    Calls Tryd.prog 57 #[.agg #[.slice A0 l0.length c0, .slice A1 l1.length c1, .int .i64 left], .func (.func 58) #[] #[.pointer (some ⟨g, 0, none⟩), .pointer (some ⟨h, 0, none⟩)]] w (PowerOut w P0 P1 l0 l1 left 1) := by
  have HS0 := Aside0.mk hs0
  have HS1 := Aside0.mk hs1
  have HG := Aside0.mk hg
  have HH := Aside0.mk hh
  clear hg hh
  clear hs0 hs1
  have z1 : decide (left = 0) = false := decide_eq_false h1
  have z2 : (left == 0) = false := by simp [h1]
  have HR := Aside0.mk (show disk_Right.f l0 l1 = some false by unfold disk_Right.f; rw [h2])
  clear h2
  go_enter Tryd.func57, Tryd.ntmps57
  go_wp2_with (first
    | ((with_reducible refine gate_dst (N := 2) rfl ?_); refine box_event rfl (N := 2) rfl (cs := #[.slice A0 l0.length c0, .slice A1 l1.length c1, .int .i64 left]) (t := 46) (by first | (go_simp; done) | (go_simp; rfl)) ?_; intro gb hgb w1 hbox1 hb1; have HX1 := Aside0.mk hbox1; have HB1 := Aside0.mk hb1; have HGB := Aside0.mk (Nat.le_of_eq hgb.symm); clear hbox1 hb1 hgb)
    | ((with_reducible refine gate_dst (N := 4) rfl ?_); refine box_event rfl (N := 4) rfl (cs := #[.slice none 0 0, .slice none 0 0, .int .i64 0]) (t := 46) (by first | (go_simp; done) | (go_simp; rfl)) ?_; intro gr hgr w2 hbox2 hb2; have HX2 := Aside0.mk (blk_below HX1.out hb2); have HY2 := Aside0.mk hbox2; have HB2 := Aside0.mk (below_step HB1.out hb2); have HGE := Aside0.mk (show w.heap.size ≤ gr by have h1 := blk_lt HX1.out; have h2 := HGB.out; omega); have HNE := Aside0.mk (show gb ≠ gr by have h1 := blk_lt HX1.out; omega); have hne1 := HNE.out; have hne2 := hne1.symm; have x0 := (blk_cell HX2.out 0).trans rfl; have x1 := (blk_cell HX2.out 1).trans rfl; have x2 := (blk_cell HX2.out 2).trans rfl; have y0 := (blk_cell HY2.out 0).trans rfl; have y1 := (blk_cell HY2.out 1).trans rfl; have y2 := (blk_cell HY2.out 2).trans rfl; have y3 := blk_frozen HY2.out 0; have y4 := blk_frozen HY2.out 1; have y5 := blk_frozen HY2.out 2; clear hbox2 hb2 hgr HX1 HB1)
    | (go_at_call 18; refine (disk_Right.calls A0 c0 l0 A1 c1 l1 _ w2 (Kd.C_below (Kd.V_reads' HS0.out).2.2 HB2.out) (Kd.V_reads' HS0.out).2.1 (Kd.C_below (Kd.V_reads' HS1.out).2.2 HB2.out) (Kd.V_reads' HS1.out).2.1 HR.out).mono ?_; rintro e w3 ⟨rfl, hb3⟩; clear x0 x1 x2 y0 y1 y2 y3 y4 y5; have HX3 := Aside0.mk (blk_below HX2.out hb3); have HY3 := Aside0.mk (blk_below HY2.out hb3); have HB3 := Aside0.mk (below_step HB2.out hb3); have x0 := (blk_cell HX3.out 0).trans rfl; have x1 := (blk_cell HX3.out 1).trans rfl; have x2 := (blk_cell HX3.out 2).trans rfl; have y0 := (blk_cell HY3.out 0).trans rfl; have y1 := (blk_cell HY3.out 1).trans rfl; have y2 := (blk_cell HY3.out 2).trans rfl; have y3 := blk_frozen HY3.out 0; have y4 := blk_frozen HY3.out 1; have y5 := blk_frozen HY3.out 2; clear HX2 HY2 HB2 hb3))
  have e0 := blk_put (cs' := #[.slice A0 l0.length c0, .slice none 0 0, .int .i64 0]) HY3.out 0 (.slice A0 l0.length c0) rfl
  have e1 := blk_put (cs' := #[.slice A0 l0.length c0, .slice A1 l1.length c1, .int .i64 0]) e0 1 (.slice A1 l1.length c1) rfl
  have e2 := blk_put (cs' := #[.slice A0 l0.length c0, .slice A1 l1.length c1, .int .i64 left]) e1 2 (.int .i64 left) rfl
  have hB8 := below_set (j := 2) (v := .int .i64 left) (below_set (j := 1) (v := .slice A1 l1.length c1) (below_set (j := 0) (v := .slice A0 l0.length c0) HB3.out HGE.out) HGE.out) HGE.out
  refine bodyPost_ret (results_ct rfl _ _ gr 46 #[.slice A0 l0.length c0, .slice A1 l1.length c1, .int .i64 left] (0, 0) _ rfl e2 Tryd.underlying46 rfl (by kernel_rfl)) rfl ?_
  exact ⟨_, _, rfl, Kd.V_mono (Kd.V_below HS0.out hB8) (fun _ hk => .inl (.inl hk)), Kd.V_mono (Kd.V_below HS1.out hB8) (fun _ hk => .inl (.inr hk)), hB8⟩

set_option maxHeartbeats 4000000 in
set_option maxRecDepth 100000 in
theorem call_w_bad (P0 : Nat → Prop) (A0 : Option Addr) (c0 : Nat) (l0 : List ByteArray) (P1 : Nat → Prop) (A1 : Option Addr) (c1 : Nat) (l1 : List S42) (left : Int) (a : Int) (s : ByteArray) (g h : Nat) (w : World)
    (hs0 : Kd.V Kd.string 9 w w.heap.size P0 (.slice A0 l0.length c0) l0) (hs1 : Kd.V k42 42 w w.heap.size P1 (.slice A1 l1.length c1) l1)
    (hg : w.heap[g]? = some (.cells #[.int .i64 a] 3 (0, 0))) (hh : w.heap[h]? = some (.cells #[.string s] 9 (0, 0))) (r1 : List ByteArray) (r2 : List S42) (r3 : Int) (h1 : ¬ left = 0) (h2 : rightB l0 l1 = true) (hf : write1F l0 l1 a s = some (r1, r2, r3)) (h3 : ¬ r3 = 0) :
    Calls Tryd.prog 57 #[.agg #[.slice A0 l0.length c0, .slice A1 l1.length c1, .int .i64 left], .func (.func 58) #[] #[.pointer (some ⟨g, 0, none⟩), .pointer (some ⟨h, 0, none⟩)]] w (PowerOut w P0 P1 l0 l1 left r3) := by
  have HS0 := Aside0.mk hs0
  have HS1 := Aside0.mk hs1
  have HG := Aside0.mk hg
  have HH := Aside0.mk hh
  clear hg hh
  clear hs0 hs1
  have z1 : decide (left = 0) = false := decide_eq_false h1
  have z2 : (left == 0) = false := by simp [h1]
  have z3 : decide (r3 = 0) = false := decide_eq_false h3
  have z4 : (r3 == 0) = false := by simp [h3]
  have z5 : (r3 != 0) = true := by simp [h3]
  have HF := Aside0.mk hf
  clear hf h3
  have HR := Aside0.mk (show disk_Right.f l0 l1 = some true by unfold disk_Right.f; rw [h2])
  clear h2
  go_enter Tryd.func57, Tryd.ntmps57
  go_wp2_with (first
    | ((with_reducible refine gate_dst (N := 2) rfl ?_); refine box_event rfl (N := 2) rfl (cs := #[.slice A0 l0.length c0, .slice A1 l1.length c1, .int .i64 left]) (t := 46) (by first | (go_simp; done) | (go_simp; rfl)) ?_; intro gb hgb w1 hbox1 hb1; have HX1 := Aside0.mk hbox1; have HB1 := Aside0.mk hb1; have HGB := Aside0.mk (Nat.le_of_eq hgb.symm); clear hbox1 hb1 hgb)
    | ((with_reducible refine gate_dst (N := 4) rfl ?_); refine box_event rfl (N := 4) rfl (cs := #[.slice none 0 0, .slice none 0 0, .int .i64 0]) (t := 46) (by first | (go_simp; done) | (go_simp; rfl)) ?_; intro gr hgr w2 hbox2 hb2; have HX2 := Aside0.mk (blk_below HX1.out hb2); have HY2 := Aside0.mk hbox2; have HB2 := Aside0.mk (below_step HB1.out hb2); have HGE := Aside0.mk (show w.heap.size ≤ gr by have h1 := blk_lt HX1.out; have h2 := HGB.out; omega); have HNE := Aside0.mk (show gb ≠ gr by have h1 := blk_lt HX1.out; omega); have hne1 := HNE.out; have hne2 := hne1.symm; have x0 := (blk_cell HX2.out 0).trans rfl; have x1 := (blk_cell HX2.out 1).trans rfl; have x2 := (blk_cell HX2.out 2).trans rfl; have y0 := (blk_cell HY2.out 0).trans rfl; have y1 := (blk_cell HY2.out 1).trans rfl; have y2 := (blk_cell HY2.out 2).trans rfl; have y3 := blk_frozen HY2.out 0; have y4 := blk_frozen HY2.out 1; have y5 := blk_frozen HY2.out 2; clear hbox2 hb2 hgr HX1 HB1)
    | (go_at_call 18; refine (disk_Right.calls A0 c0 l0 A1 c1 l1 _ w2 (Kd.C_below (Kd.V_reads' HS0.out).2.2 HB2.out) (Kd.V_reads' HS0.out).2.1 (Kd.C_below (Kd.V_reads' HS1.out).2.2 HB2.out) (Kd.V_reads' HS1.out).2.1 HR.out).mono ?_; rintro e w3 ⟨rfl, hb3⟩; clear x0 x1 x2 y0 y1 y2 y3 y4 y5; have HX3 := Aside0.mk (blk_below HX2.out hb3); have HY3 := Aside0.mk (blk_below HY2.out hb3); have HB3 := Aside0.mk (below_step HB2.out hb3); have x0 := (blk_cell HX3.out 0).trans rfl; have x1 := (blk_cell HX3.out 1).trans rfl; have x2 := (blk_cell HX3.out 2).trans rfl; have y0 := (blk_cell HY3.out 0).trans rfl; have y1 := (blk_cell HY3.out 1).trans rfl; have y2 := (blk_cell HY3.out 2).trans rfl; have y3 := blk_frozen HY3.out 0; have y4 := blk_frozen HY3.out 1; have y5 := blk_frozen HY3.out 2; clear HX2 HY2 HB2 hb3))
  refine (write1_calls (fun k => P0 k ∧ k < w.heap.size) A0 c0 l0 (fun k => P1 k ∧ k < w.heap.size) A1 c1 l1 a s g h _ _ _ w3 (Kd.V_below (Kd.V_bound HS0.out) HB3.out) (Kd.V_below (Kd.V_bound HS1.out) HB3.out) (blk_below HG.out HB3.out) (blk_below HH.out HB3.out) HF.out).mono ?_; rintro e w4 ⟨v0, v1, rfl, hv0, hv1, hb4⟩; obtain ⟨A2, c2, rfl⟩ := Kd.V_slice hv0; obtain ⟨A3, c3, rfl⟩ := Kd.V_slice hv1; clear x0 x1 x2 y0 y1 y2 y3 y4 y5; have HV0 := Aside0.mk (vq hv0 HGB.out HX3.out HGE.out HY3.out); have HV1 := Aside0.mk (vq hv1 HGB.out HX3.out HGE.out HY3.out); have HX4 := Aside0.mk (blk_below HX3.out hb4); have HY4 := Aside0.mk (blk_below HY3.out hb4); have HB4 := Aside0.mk (below_step HB3.out hb4); clear HX3 HY3 HB3 hb4 hv0 hv1
  go_wp2_with ((with_reducible refine gate_dst (N := 6) rfl ?_); refine box_event rfl (N := 6) rfl (cs := #[.slice none 0 0, .slice none 0 0]) (t := 25) (by first | (go_simp; done) | (go_simp; rfl)) ?_; intro gd hgd w5 hbox5 hb5; have HD5 := Aside0.mk hbox5; have HX5 := Aside0.mk (blk_below HX4.out hb5); have HY5 := Aside0.mk (blk_below HY4.out hb5); have HB5 := Aside0.mk (below_step HB4.out hb5); have hne3 : gb ≠ gd := (by have h1 := blk_lt HX4.out; omega); have hne4 := hne3.symm; have hne5 : gr ≠ gd := (by have h1 := blk_lt HY4.out; omega); have hne6 := hne5.symm; have HGD := Aside0.mk (show w.heap.size ≤ gd by have h1 := below_size HB4.out; omega); have HW0 := Aside0.mk (Kd.V_below (Kd.V_mono HV0.out (fun k hk => (⟨hk.1, hk.2.1, hk.2.2.1, (by have h1 := hk.2.2.2; omega)⟩ : ((P0 k ∨ P1 k) ∨ w.heap.size ≤ k) ∧ k ≠ gb ∧ k ≠ gr ∧ k ≠ gd))) hb5); have HW1 := Aside0.mk (Kd.V_below (Kd.V_mono HV1.out (fun k hk => (⟨hk.1, hk.2.1, hk.2.2.1, (by have h1 := hk.2.2.2; omega)⟩ : ((P0 k ∨ P1 k) ∨ w.heap.size ≤ k) ∧ k ≠ gb ∧ k ≠ gr ∧ k ≠ gd))) hb5); have x0 := (blk_cell HX5.out 0).trans rfl; have x1 := (blk_cell HX5.out 1).trans rfl; have x2 := (blk_cell HX5.out 2).trans rfl; have x3 := blk_frozen HX5.out 0; have x4 := blk_frozen HX5.out 1; have x5 := blk_frozen HX5.out 2; have y0 := (blk_cell HY5.out 0).trans rfl; have y1 := (blk_cell HY5.out 1).trans rfl; have y2 := (blk_cell HY5.out 2).trans rfl; have y3 := blk_frozen HY5.out 0; have y4 := blk_frozen HY5.out 1; have y5 := blk_frozen HY5.out 2; have u0 := (blk_cell HD5.out 0).trans rfl; have u1 := (blk_cell HD5.out 1).trans rfl; have u3 := blk_frozen HD5.out 0; have u4 := blk_frozen HD5.out 1; clear HX4 HY4 HB4 hb5 hbox5 hgd HV0 HV1)
  have q0 := blk_far HY5.out (p := ⟨gd, 0, none⟩) hne5 (.slice A2 r1.length c2)
  have q1 := blk_far q0 (p := ⟨gd, 1, none⟩) hne5 (.slice A3 r2.length c3)
  have q2 := blk_put (cs' := #[.slice A0 l0.length c0, .slice none 0 0, .int .i64 0]) q1 0 (.slice A0 l0.length c0) rfl
  have q3 := blk_put (cs' := #[.slice A0 l0.length c0, .slice A1 l1.length c1, .int .i64 0]) q2 1 (.slice A1 l1.length c1) rfl
  have q4 := blk_put (cs' := #[.slice A0 l0.length c0, .slice A1 l1.length c1, .int .i64 left]) q3 2 (.int .i64 left) rfl
  have hB8 := below_set (j := 2) (v := .int .i64 left) (below_set (j := 1) (v := .slice A1 l1.length c1) (below_set (j := 0) (v := .slice A0 l0.length c0) (below_set (j := 1) (v := .slice A3 r2.length c3) (below_set (j := 0) (v := .slice A2 r1.length c2) (HB5.out) HGD.out) HGD.out) HGE.out) HGE.out) HGE.out
  refine bodyPost_ret (results_ct rfl _ _ gr 46 #[.slice A0 l0.length c0, .slice A1 l1.length c1, .int .i64 left] (0, 0) _ rfl q4 Tryd.underlying46 rfl (by kernel_rfl)) rfl ?_
  exact ⟨_, _, rfl, Kd.V_mono (Kd.V_below HS0.out hB8) (fun _ hk => .inl (.inl hk)), Kd.V_mono (Kd.V_below HS1.out hB8) (fun _ hk => .inl (.inr hk)), hB8⟩

set_option maxHeartbeats 4000000 in
set_option maxRecDepth 100000 in
theorem call_w_okneg (P0 : Nat → Prop) (A0 : Option Addr) (c0 : Nat) (l0 : List ByteArray) (P1 : Nat → Prop) (A1 : Option Addr) (c1 : Nat) (l1 : List S42) (left : Int) (a : Int) (s : ByteArray) (g h : Nat) (w : World)
    (hs0 : Kd.V Kd.string 9 w w.heap.size P0 (.slice A0 l0.length c0) l0) (hs1 : Kd.V k42 42 w w.heap.size P1 (.slice A1 l1.length c1) l1)
    (hg : w.heap[g]? = some (.cells #[.int .i64 a] 3 (0, 0))) (hh : w.heap[h]? = some (.cells #[.string s] 9 (0, 0))) (r1 : List ByteArray) (r2 : List S42) (h1 : ¬ left = 0) (h2 : rightB l0 l1 = true) (hf : write1F l0 l1 a s = some (r1, r2, 0)) (h3 : ¬ left > 0) :
    Calls Tryd.prog 57 #[.agg #[.slice A0 l0.length c0, .slice A1 l1.length c1, .int .i64 left], .func (.func 58) #[] #[.pointer (some ⟨g, 0, none⟩), .pointer (some ⟨h, 0, none⟩)]] w (PowerOut w P0 P1 r1 r2 left 0) := by
  have HS0 := Aside0.mk hs0
  have HS1 := Aside0.mk hs1
  have HG := Aside0.mk hg
  have HH := Aside0.mk hh
  clear hg hh
  clear hs0 hs1
  have z1 : decide (left = 0) = false := decide_eq_false h1
  have z2 : (left == 0) = false := by simp [h1]
  have z3 : decide (left > 0) = false := decide_eq_false h3
  have z4 : decide (0 < left) = false := decide_eq_false h3
  have HF := Aside0.mk hf
  clear hf h3
  have HR := Aside0.mk (show disk_Right.f l0 l1 = some true by unfold disk_Right.f; rw [h2])
  clear h2
  go_enter Tryd.func57, Tryd.ntmps57
  go_wp2_with (first
    | ((with_reducible refine gate_dst (N := 2) rfl ?_); refine box_event rfl (N := 2) rfl (cs := #[.slice A0 l0.length c0, .slice A1 l1.length c1, .int .i64 left]) (t := 46) (by first | (go_simp; done) | (go_simp; rfl)) ?_; intro gb hgb w1 hbox1 hb1; have HX1 := Aside0.mk hbox1; have HB1 := Aside0.mk hb1; have HGB := Aside0.mk (Nat.le_of_eq hgb.symm); clear hbox1 hb1 hgb)
    | ((with_reducible refine gate_dst (N := 4) rfl ?_); refine box_event rfl (N := 4) rfl (cs := #[.slice none 0 0, .slice none 0 0, .int .i64 0]) (t := 46) (by first | (go_simp; done) | (go_simp; rfl)) ?_; intro gr hgr w2 hbox2 hb2; have HX2 := Aside0.mk (blk_below HX1.out hb2); have HY2 := Aside0.mk hbox2; have HB2 := Aside0.mk (below_step HB1.out hb2); have HGE := Aside0.mk (show w.heap.size ≤ gr by have h1 := blk_lt HX1.out; have h2 := HGB.out; omega); have HNE := Aside0.mk (show gb ≠ gr by have h1 := blk_lt HX1.out; omega); have hne1 := HNE.out; have hne2 := hne1.symm; have x0 := (blk_cell HX2.out 0).trans rfl; have x1 := (blk_cell HX2.out 1).trans rfl; have x2 := (blk_cell HX2.out 2).trans rfl; have y0 := (blk_cell HY2.out 0).trans rfl; have y1 := (blk_cell HY2.out 1).trans rfl; have y2 := (blk_cell HY2.out 2).trans rfl; have y3 := blk_frozen HY2.out 0; have y4 := blk_frozen HY2.out 1; have y5 := blk_frozen HY2.out 2; clear hbox2 hb2 hgr HX1 HB1)
    | (go_at_call 18; refine (disk_Right.calls A0 c0 l0 A1 c1 l1 _ w2 (Kd.C_below (Kd.V_reads' HS0.out).2.2 HB2.out) (Kd.V_reads' HS0.out).2.1 (Kd.C_below (Kd.V_reads' HS1.out).2.2 HB2.out) (Kd.V_reads' HS1.out).2.1 HR.out).mono ?_; rintro e w3 ⟨rfl, hb3⟩; clear x0 x1 x2 y0 y1 y2 y3 y4 y5; have HX3 := Aside0.mk (blk_below HX2.out hb3); have HY3 := Aside0.mk (blk_below HY2.out hb3); have HB3 := Aside0.mk (below_step HB2.out hb3); have x0 := (blk_cell HX3.out 0).trans rfl; have x1 := (blk_cell HX3.out 1).trans rfl; have x2 := (blk_cell HX3.out 2).trans rfl; have y0 := (blk_cell HY3.out 0).trans rfl; have y1 := (blk_cell HY3.out 1).trans rfl; have y2 := (blk_cell HY3.out 2).trans rfl; have y3 := blk_frozen HY3.out 0; have y4 := blk_frozen HY3.out 1; have y5 := blk_frozen HY3.out 2; clear HX2 HY2 HB2 hb3))
  refine (write1_calls (fun k => P0 k ∧ k < w.heap.size) A0 c0 l0 (fun k => P1 k ∧ k < w.heap.size) A1 c1 l1 a s g h _ _ _ w3 (Kd.V_below (Kd.V_bound HS0.out) HB3.out) (Kd.V_below (Kd.V_bound HS1.out) HB3.out) (blk_below HG.out HB3.out) (blk_below HH.out HB3.out) HF.out).mono ?_; rintro e w4 ⟨v0, v1, rfl, hv0, hv1, hb4⟩; obtain ⟨A2, c2, rfl⟩ := Kd.V_slice hv0; obtain ⟨A3, c3, rfl⟩ := Kd.V_slice hv1; clear x0 x1 x2 y0 y1 y2 y3 y4 y5; have HV0 := Aside0.mk (vq hv0 HGB.out HX3.out HGE.out HY3.out); have HV1 := Aside0.mk (vq hv1 HGB.out HX3.out HGE.out HY3.out); have HX4 := Aside0.mk (blk_below HX3.out hb4); have HY4 := Aside0.mk (blk_below HY3.out hb4); have HB4 := Aside0.mk (below_step HB3.out hb4); clear HX3 HY3 HB3 hb4 hv0 hv1
  go_wp2_with ((with_reducible refine gate_dst (N := 6) rfl ?_); refine box_event rfl (N := 6) rfl (cs := #[.slice none 0 0, .slice none 0 0]) (t := 25) (by first | (go_simp; done) | (go_simp; rfl)) ?_; intro gd hgd w5 hbox5 hb5; have HD5 := Aside0.mk hbox5; have HX5 := Aside0.mk (blk_below HX4.out hb5); have HY5 := Aside0.mk (blk_below HY4.out hb5); have HB5 := Aside0.mk (below_step HB4.out hb5); have hne3 : gb ≠ gd := (by have h1 := blk_lt HX4.out; omega); have hne4 := hne3.symm; have hne5 : gr ≠ gd := (by have h1 := blk_lt HY4.out; omega); have hne6 := hne5.symm; have HGD := Aside0.mk (show w.heap.size ≤ gd by have h1 := below_size HB4.out; omega); have HW0 := Aside0.mk (Kd.V_below (Kd.V_mono HV0.out (fun k hk => (⟨hk.1, hk.2.1, hk.2.2.1, (by have h1 := hk.2.2.2; omega)⟩ : ((P0 k ∨ P1 k) ∨ w.heap.size ≤ k) ∧ k ≠ gb ∧ k ≠ gr ∧ k ≠ gd))) hb5); have HW1 := Aside0.mk (Kd.V_below (Kd.V_mono HV1.out (fun k hk => (⟨hk.1, hk.2.1, hk.2.2.1, (by have h1 := hk.2.2.2; omega)⟩ : ((P0 k ∨ P1 k) ∨ w.heap.size ≤ k) ∧ k ≠ gb ∧ k ≠ gr ∧ k ≠ gd))) hb5); have x0 := (blk_cell HX5.out 0).trans rfl; have x1 := (blk_cell HX5.out 1).trans rfl; have x2 := (blk_cell HX5.out 2).trans rfl; have x3 := blk_frozen HX5.out 0; have x4 := blk_frozen HX5.out 1; have x5 := blk_frozen HX5.out 2; have y0 := (blk_cell HY5.out 0).trans rfl; have y1 := (blk_cell HY5.out 1).trans rfl; have y2 := (blk_cell HY5.out 2).trans rfl; have y3 := blk_frozen HY5.out 0; have y4 := blk_frozen HY5.out 1; have y5 := blk_frozen HY5.out 2; have u0 := (blk_cell HD5.out 0).trans rfl; have u1 := (blk_cell HD5.out 1).trans rfl; have u3 := blk_frozen HD5.out 0; have u4 := blk_frozen HD5.out 1; clear HX4 HY4 HB4 hb5 hbox5 hgd HV0 HV1)
  have q0 := blk_far HY5.out (p := ⟨gd, 0, none⟩) hne5 (.slice A2 r1.length c2)
  have q1 := blk_far q0 (p := ⟨gd, 1, none⟩) hne5 (.slice A3 r2.length c3)
  have q2 := blk_far q1 (p := ⟨gb, 0, none⟩) hne2 (.slice A2 r1.length c2)
  have q3 := blk_far q2 (p := ⟨gb, 1, none⟩) hne2 (.slice A3 r2.length c3)
  have q4 := blk_put (cs' := #[.slice A2 r1.length c2, .slice none 0 0, .int .i64 0]) q3 0 (.slice A2 r1.length c2) rfl
  have q5 := blk_put (cs' := #[.slice A2 r1.length c2, .slice A3 r2.length c3, .int .i64 0]) q4 1 (.slice A3 r2.length c3) rfl
  have q6 := blk_put (cs' := #[.slice A2 r1.length c2, .slice A3 r2.length c3, .int .i64 left]) q5 2 (.int .i64 left) rfl
  have hB8 := below_set (j := 2) (v := .int .i64 left) (below_set (j := 1) (v := .slice A3 r2.length c3) (below_set (j := 0) (v := .slice A2 r1.length c2) (below_set (j := 1) (v := .slice A3 r2.length c3) (below_set (j := 0) (v := .slice A2 r1.length c2) (below_set (j := 1) (v := .slice A3 r2.length c3) (below_set (j := 0) (v := .slice A2 r1.length c2) (HB5.out) HGD.out) HGD.out) HGB.out) HGB.out) HGE.out) HGE.out) HGE.out
  refine bodyPost_ret (results_ct rfl _ _ gr 46 #[.slice A2 r1.length c2, .slice A3 r2.length c3, .int .i64 left] (0, 0) _ rfl q6 Tryd.underlying46 rfl (by kernel_rfl)) rfl ?_
  exact ⟨_, _, rfl, Kd.V_mono (Kd.V_far (p := ⟨gr, 2, none⟩) (Kd.V_far (p := ⟨gr, 1, none⟩) (Kd.V_far (p := ⟨gr, 0, none⟩) (Kd.V_far (p := ⟨gb, 1, none⟩) (Kd.V_far (p := ⟨gb, 0, none⟩) (Kd.V_far (p := ⟨gd, 1, none⟩) (Kd.V_far (p := ⟨gd, 0, none⟩) (HW0.out) (fun _ hk => hk.2.2.2) (.slice A2 r1.length c2)) (fun _ hk => hk.2.2.2) (.slice A3 r2.length c3)) (fun _ hk => hk.2.1) (.slice A2 r1.length c2)) (fun _ hk => hk.2.1) (.slice A3 r2.length c3)) (fun _ hk => hk.2.2.1) (.slice A2 r1.length c2)) (fun _ hk => hk.2.2.1) (.slice A3 r2.length c3)) (fun _ hk => hk.2.2.1) (.int .i64 left)) (fun _ hk => hk.1), Kd.V_mono (Kd.V_far (p := ⟨gr, 2, none⟩) (Kd.V_far (p := ⟨gr, 1, none⟩) (Kd.V_far (p := ⟨gr, 0, none⟩) (Kd.V_far (p := ⟨gb, 1, none⟩) (Kd.V_far (p := ⟨gb, 0, none⟩) (Kd.V_far (p := ⟨gd, 1, none⟩) (Kd.V_far (p := ⟨gd, 0, none⟩) (HW1.out) (fun _ hk => hk.2.2.2) (.slice A2 r1.length c2)) (fun _ hk => hk.2.2.2) (.slice A3 r2.length c3)) (fun _ hk => hk.2.1) (.slice A2 r1.length c2)) (fun _ hk => hk.2.1) (.slice A3 r2.length c3)) (fun _ hk => hk.2.2.1) (.slice A2 r1.length c2)) (fun _ hk => hk.2.2.1) (.slice A3 r2.length c3)) (fun _ hk => hk.2.2.1) (.int .i64 left)) (fun _ hk => hk.1), hB8⟩

set_option maxHeartbeats 4000000 in
set_option maxRecDepth 100000 in
theorem call_w_okpos (P0 : Nat → Prop) (A0 : Option Addr) (c0 : Nat) (l0 : List ByteArray) (P1 : Nat → Prop) (A1 : Option Addr) (c1 : Nat) (l1 : List S42) (left : Int) (a : Int) (s : ByteArray) (g h : Nat) (w : World)
    (hs0 : Kd.V Kd.string 9 w w.heap.size P0 (.slice A0 l0.length c0) l0) (hs1 : Kd.V k42 42 w w.heap.size P1 (.slice A1 l1.length c1) l1)
    (hg : w.heap[g]? = some (.cells #[.int .i64 a] 3 (0, 0))) (hh : w.heap[h]? = some (.cells #[.string s] 9 (0, 0))) (r1 : List ByteArray) (r2 : List S42) (h1 : ¬ left = 0) (h2 : rightB l0 l1 = true) (hf : write1F l0 l1 a s = some (r1, r2, 0)) (h3 : left > 0) :
    Calls Tryd.prog 57 #[.agg #[.slice A0 l0.length c0, .slice A1 l1.length c1, .int .i64 left], .func (.func 58) #[] #[.pointer (some ⟨g, 0, none⟩), .pointer (some ⟨h, 0, none⟩)]] w (PowerOut w P0 P1 r1 r2 (wrap64 (left - 1)) 0) := by
  have HS0 := Aside0.mk hs0
  have HS1 := Aside0.mk hs1
  have HG := Aside0.mk hg
  have HH := Aside0.mk hh
  clear hg hh
  clear hs0 hs1
  have z1 : decide (left = 0) = false := decide_eq_false h1
  have z2 : (left == 0) = false := by simp [h1]
  have z3 : decide (left > 0) = true := decide_eq_true h3
  have z4 : decide (0 < left) = true := decide_eq_true h3
  have HF := Aside0.mk hf
  clear hf h3
  have HR := Aside0.mk (show disk_Right.f l0 l1 = some true by unfold disk_Right.f; rw [h2])
  clear h2
  go_enter Tryd.func57, Tryd.ntmps57
  go_wp2_with (first
    | ((with_reducible refine gate_dst (N := 2) rfl ?_); refine box_event rfl (N := 2) rfl (cs := #[.slice A0 l0.length c0, .slice A1 l1.length c1, .int .i64 left]) (t := 46) (by first | (go_simp; done) | (go_simp; rfl)) ?_; intro gb hgb w1 hbox1 hb1; have HX1 := Aside0.mk hbox1; have HB1 := Aside0.mk hb1; have HGB := Aside0.mk (Nat.le_of_eq hgb.symm); clear hbox1 hb1 hgb)
    | ((with_reducible refine gate_dst (N := 4) rfl ?_); refine box_event rfl (N := 4) rfl (cs := #[.slice none 0 0, .slice none 0 0, .int .i64 0]) (t := 46) (by first | (go_simp; done) | (go_simp; rfl)) ?_; intro gr hgr w2 hbox2 hb2; have HX2 := Aside0.mk (blk_below HX1.out hb2); have HY2 := Aside0.mk hbox2; have HB2 := Aside0.mk (below_step HB1.out hb2); have HGE := Aside0.mk (show w.heap.size ≤ gr by have h1 := blk_lt HX1.out; have h2 := HGB.out; omega); have HNE := Aside0.mk (show gb ≠ gr by have h1 := blk_lt HX1.out; omega); have hne1 := HNE.out; have hne2 := hne1.symm; have x0 := (blk_cell HX2.out 0).trans rfl; have x1 := (blk_cell HX2.out 1).trans rfl; have x2 := (blk_cell HX2.out 2).trans rfl; have y0 := (blk_cell HY2.out 0).trans rfl; have y1 := (blk_cell HY2.out 1).trans rfl; have y2 := (blk_cell HY2.out 2).trans rfl; have y3 := blk_frozen HY2.out 0; have y4 := blk_frozen HY2.out 1; have y5 := blk_frozen HY2.out 2; clear hbox2 hb2 hgr HX1 HB1)
    | (go_at_call 18; refine (disk_Right.calls A0 c0 l0 A1 c1 l1 _ w2 (Kd.C_below (Kd.V_reads' HS0.out).2.2 HB2.out) (Kd.V_reads' HS0.out).2.1 (Kd.C_below (Kd.V_reads' HS1.out).2.2 HB2.out) (Kd.V_reads' HS1.out).2.1 HR.out).mono ?_; rintro e w3 ⟨rfl, hb3⟩; clear x0 x1 x2 y0 y1 y2 y3 y4 y5; have HX3 := Aside0.mk (blk_below HX2.out hb3); have HY3 := Aside0.mk (blk_below HY2.out hb3); have HB3 := Aside0.mk (below_step HB2.out hb3); have x0 := (blk_cell HX3.out 0).trans rfl; have x1 := (blk_cell HX3.out 1).trans rfl; have x2 := (blk_cell HX3.out 2).trans rfl; have y0 := (blk_cell HY3.out 0).trans rfl; have y1 := (blk_cell HY3.out 1).trans rfl; have y2 := (blk_cell HY3.out 2).trans rfl; have y3 := blk_frozen HY3.out 0; have y4 := blk_frozen HY3.out 1; have y5 := blk_frozen HY3.out 2; clear HX2 HY2 HB2 hb3))
  refine (write1_calls (fun k => P0 k ∧ k < w.heap.size) A0 c0 l0 (fun k => P1 k ∧ k < w.heap.size) A1 c1 l1 a s g h _ _ _ w3 (Kd.V_below (Kd.V_bound HS0.out) HB3.out) (Kd.V_below (Kd.V_bound HS1.out) HB3.out) (blk_below HG.out HB3.out) (blk_below HH.out HB3.out) HF.out).mono ?_; rintro e w4 ⟨v0, v1, rfl, hv0, hv1, hb4⟩; obtain ⟨A2, c2, rfl⟩ := Kd.V_slice hv0; obtain ⟨A3, c3, rfl⟩ := Kd.V_slice hv1; clear x0 x1 x2 y0 y1 y2 y3 y4 y5; have HV0 := Aside0.mk (vq hv0 HGB.out HX3.out HGE.out HY3.out); have HV1 := Aside0.mk (vq hv1 HGB.out HX3.out HGE.out HY3.out); have HX4 := Aside0.mk (blk_below HX3.out hb4); have HY4 := Aside0.mk (blk_below HY3.out hb4); have HB4 := Aside0.mk (below_step HB3.out hb4); clear HX3 HY3 HB3 hb4 hv0 hv1
  go_wp2_with ((with_reducible refine gate_dst (N := 6) rfl ?_); refine box_event rfl (N := 6) rfl (cs := #[.slice none 0 0, .slice none 0 0]) (t := 25) (by first | (go_simp; done) | (go_simp; rfl)) ?_; intro gd hgd w5 hbox5 hb5; have HD5 := Aside0.mk hbox5; have HX5 := Aside0.mk (blk_below HX4.out hb5); have HY5 := Aside0.mk (blk_below HY4.out hb5); have HB5 := Aside0.mk (below_step HB4.out hb5); have hne3 : gb ≠ gd := (by have h1 := blk_lt HX4.out; omega); have hne4 := hne3.symm; have hne5 : gr ≠ gd := (by have h1 := blk_lt HY4.out; omega); have hne6 := hne5.symm; have HGD := Aside0.mk (show w.heap.size ≤ gd by have h1 := below_size HB4.out; omega); have HW0 := Aside0.mk (Kd.V_below (Kd.V_mono HV0.out (fun k hk => (⟨hk.1, hk.2.1, hk.2.2.1, (by have h1 := hk.2.2.2; omega)⟩ : ((P0 k ∨ P1 k) ∨ w.heap.size ≤ k) ∧ k ≠ gb ∧ k ≠ gr ∧ k ≠ gd))) hb5); have HW1 := Aside0.mk (Kd.V_below (Kd.V_mono HV1.out (fun k hk => (⟨hk.1, hk.2.1, hk.2.2.1, (by have h1 := hk.2.2.2; omega)⟩ : ((P0 k ∨ P1 k) ∨ w.heap.size ≤ k) ∧ k ≠ gb ∧ k ≠ gr ∧ k ≠ gd))) hb5); have x0 := (blk_cell HX5.out 0).trans rfl; have x1 := (blk_cell HX5.out 1).trans rfl; have x2 := (blk_cell HX5.out 2).trans rfl; have x3 := blk_frozen HX5.out 0; have x4 := blk_frozen HX5.out 1; have x5 := blk_frozen HX5.out 2; have y0 := (blk_cell HY5.out 0).trans rfl; have y1 := (blk_cell HY5.out 1).trans rfl; have y2 := (blk_cell HY5.out 2).trans rfl; have y3 := blk_frozen HY5.out 0; have y4 := blk_frozen HY5.out 1; have y5 := blk_frozen HY5.out 2; have u0 := (blk_cell HD5.out 0).trans rfl; have u1 := (blk_cell HD5.out 1).trans rfl; have u3 := blk_frozen HD5.out 0; have u4 := blk_frozen HD5.out 1; clear HX4 HY4 HB4 hb5 hbox5 hgd HV0 HV1)
  have q0 := blk_far HY5.out (p := ⟨gd, 0, none⟩) hne5 (.slice A2 r1.length c2)
  have q1 := blk_far q0 (p := ⟨gd, 1, none⟩) hne5 (.slice A3 r2.length c3)
  have q2 := blk_far q1 (p := ⟨gb, 0, none⟩) hne2 (.slice A2 r1.length c2)
  have q3 := blk_far q2 (p := ⟨gb, 1, none⟩) hne2 (.slice A3 r2.length c3)
  have q4 := blk_far q3 (p := ⟨gb, 2, none⟩) hne2 (.int .i64 (wrap64 (left - 1)))
  have q5 := blk_put (cs' := #[.slice A2 r1.length c2, .slice none 0 0, .int .i64 0]) q4 0 (.slice A2 r1.length c2) rfl
  have q6 := blk_put (cs' := #[.slice A2 r1.length c2, .slice A3 r2.length c3, .int .i64 0]) q5 1 (.slice A3 r2.length c3) rfl
  have q7 := blk_put (cs' := #[.slice A2 r1.length c2, .slice A3 r2.length c3, .int .i64 (wrap64 (left - 1))]) q6 2 (.int .i64 (wrap64 (left - 1))) rfl
  have hB8 := below_set (j := 2) (v := .int .i64 (wrap64 (left - 1))) (below_set (j := 1) (v := .slice A3 r2.length c3) (below_set (j := 0) (v := .slice A2 r1.length c2) (below_set (j := 2) (v := .int .i64 (wrap64 (left - 1))) (below_set (j := 1) (v := .slice A3 r2.length c3) (below_set (j := 0) (v := .slice A2 r1.length c2) (below_set (j := 1) (v := .slice A3 r2.length c3) (below_set (j := 0) (v := .slice A2 r1.length c2) (HB5.out) HGD.out) HGD.out) HGB.out) HGB.out) HGB.out) HGE.out) HGE.out) HGE.out
  refine bodyPost_ret (results_ct rfl _ _ gr 46 #[.slice A2 r1.length c2, .slice A3 r2.length c3, .int .i64 (wrap64 (left - 1))] (0, 0) _ rfl q7 Tryd.underlying46 rfl (by kernel_rfl)) rfl ?_
  exact ⟨_, _, rfl, Kd.V_mono (Kd.V_far (p := ⟨gr, 2, none⟩) (Kd.V_far (p := ⟨gr, 1, none⟩) (Kd.V_far (p := ⟨gr, 0, none⟩) (Kd.V_far (p := ⟨gb, 2, none⟩) (Kd.V_far (p := ⟨gb, 1, none⟩) (Kd.V_far (p := ⟨gb, 0, none⟩) (Kd.V_far (p := ⟨gd, 1, none⟩) (Kd.V_far (p := ⟨gd, 0, none⟩) (HW0.out) (fun _ hk => hk.2.2.2) (.slice A2 r1.length c2)) (fun _ hk => hk.2.2.2) (.slice A3 r2.length c3)) (fun _ hk => hk.2.1) (.slice A2 r1.length c2)) (fun _ hk => hk.2.1) (.slice A3 r2.length c3)) (fun _ hk => hk.2.1) (.int .i64 (wrap64 (left - 1)))) (fun _ hk => hk.2.2.1) (.slice A2 r1.length c2)) (fun _ hk => hk.2.2.1) (.slice A3 r2.length c3)) (fun _ hk => hk.2.2.1) (.int .i64 (wrap64 (left - 1)))) (fun _ hk => hk.1), Kd.V_mono (Kd.V_far (p := ⟨gr, 2, none⟩) (Kd.V_far (p := ⟨gr, 1, none⟩) (Kd.V_far (p := ⟨gr, 0, none⟩) (Kd.V_far (p := ⟨gb, 2, none⟩) (Kd.V_far (p := ⟨gb, 1, none⟩) (Kd.V_far (p := ⟨gb, 0, none⟩) (Kd.V_far (p := ⟨gd, 1, none⟩) (Kd.V_far (p := ⟨gd, 0, none⟩) (HW1.out) (fun _ hk => hk.2.2.2) (.slice A2 r1.length c2)) (fun _ hk => hk.2.2.2) (.slice A3 r2.length c3)) (fun _ hk => hk.2.1) (.slice A2 r1.length c2)) (fun _ hk => hk.2.1) (.slice A3 r2.length c3)) (fun _ hk => hk.2.1) (.int .i64 (wrap64 (left - 1)))) (fun _ hk => hk.2.2.1) (.slice A2 r1.length c2)) (fun _ hk => hk.2.2.1) (.slice A3 r2.length c3)) (fun _ hk => hk.2.2.1) (.int .i64 (wrap64 (left - 1)))) (fun _ hk => hk.1), hB8⟩

theorem call_w (P0 : Nat → Prop) (A0 : Option Addr) (c0 : Nat) (l0 : List ByteArray) (P1 : Nat → Prop) (A1 : Option Addr) (c1 : Nat) (l1 : List S42) (left : Int) (a : Int) (s : ByteArray) (g h : Nat) (w : World)
    (hs0 : Kd.V Kd.string 9 w w.heap.size P0 (.slice A0 l0.length c0) l0) (hs1 : Kd.V k42 42 w w.heap.size P1 (.slice A1 l1.length c1) l1)
    (hg : w.heap[g]? = some (.cells #[.int .i64 a] 3 (0, 0))) (hh : w.heap[h]? = some (.cells #[.string s] 9 (0, 0))) (r1 : List ByteArray) (r2 : List S42) (r3 r4 : Int) (hf : callF l0 l1 left (write1F l0 l1 a s) = some (r1, r2, r3, r4)) :
    Calls Tryd.prog 57 #[.agg #[.slice A0 l0.length c0, .slice A1 l1.length c1, .int .i64 left], .func (.func 58) #[] #[.pointer (some ⟨g, 0, none⟩), .pointer (some ⟨h, 0, none⟩)]] w (PowerOut w P0 P1 r1 r2 r3 r4) := by
  unfold callF at hf
  by_cases h1 : left = 0
  · rw [if_pos h1] at hf; cases hf
    exact call_w_down P0 A0 c0 l0 P1 A1 c1 l1 left a s g h w hs0 hs1 hg hh h1
  rw [if_neg h1] at hf
  by_cases h2 : rightB l0 l1 = true
  · rw [if_pos h2] at hf
    obtain ⟨⟨x1, x2, x3⟩, hx, hf⟩ := Option.bind_eq_some_iff.1 hf
    dsimp only at hf
    by_cases h3 : x3 = 0
    · subst h3
      rw [if_pos rfl] at hf
      by_cases h4 : left > 0
      · rw [if_pos h4] at hf; cases hf
        exact call_w_okpos P0 A0 c0 l0 P1 A1 c1 l1 left a s g h w hs0 hs1 hg hh _ _ h1 h2 hx h4
      · rw [if_neg h4] at hf; cases hf
        exact call_w_okneg P0 A0 c0 l0 P1 A1 c1 l1 left a s g h w hs0 hs1 hg hh _ _ h1 h2 hx h4
    · rw [if_neg h3] at hf; cases hf
      exact call_w_bad P0 A0 c0 l0 P1 A1 c1 l1 left a s g h w hs0 hs1 hg hh _ _ _ h1 h2 hx h3
  · rw [if_neg h2] at hf; cases hf
    exact call_w_wrong P0 A0 c0 l0 P1 A1 c1 l1 left a s g h w hs0 hs1 hg hh h1 (by simpa using h2)

end Go.Proofs.YtniplmjbligmlaaDoor.Q

/-! disk.Write by hand. -/
namespace Go.Proofs.YtniplmjbligmlaaDoor.Q
open Go.RowKit Go.Proofs.YtniplmjbligmlaaDoorW.PrintWords Go.Proofs.YtniplmjbligmlaaDoorW.PrintLast Go.Proofs.YtniplmjbligmlaaDoorW.PrintMore Go.Proofs.YtniplmjbligmlaaDoor.Base
set_option linter.unusedVariables false
set_option linter.unusedSimpArgs false
def disk_Write.f (l0_0 : List ByteArray) (l0_1 : List (S42)) (a0_2 : Int) (a1 : Int) (a2 : ByteArray) : Option (List ByteArray × (List (S42)) × Int × Int) :=
  if a2.size ≤ 9223372036854775807 then callF l0_0 l0_1 a0_2 (write1F l0_0 l0_1 a1 (trimS a2)) else none

set_option maxHeartbeats 4000000 in
set_option maxRecDepth 100000 in
theorem disk_Write.calls (P0_0_ : Nat → Prop) (A0_0 : Option Addr) (c0_0 : Nat) (l0_0 : List ByteArray) (P0_1_ : Nat → Prop) (A0_1 : Option Addr) (c0_1 : Nat) (l0_1 : List (S42)) (a0_2 : Int) (a1 : Int) (a2 : ByteArray) (r1 : List ByteArray) (r2 : List (S42)) (r3 : Int) (r4 : Int) (w : World) (hs0_0 : Kd.V Kd.string 9 w w.heap.size (fun k_ => P0_0_ k_) (.slice A0_0 l0_0.length c0_0) l0_0) (hs0_1 : Kd.V k42 42 w w.heap.size (fun k_ => P0_1_ k_) (.slice A0_1 l0_1.length c0_1) l0_1) (h : disk_Write.f l0_0 l0_1 a0_2 a1 a2 = some (r1, r2, r3, r4)) :
    Calls Tryd.prog 25 #[.agg #[.slice A0_0 l0_0.length c0_0, .slice A0_1 l0_1.length c0_1, .int .i64 a0_2], .int .i64 a1, .string a2] w fun e w' => ∃ v0_ v1_ : Value, e = .returned (.tuple #[.agg #[v0_, v1_, .int .i64 r3], .int .i64 r4]) ∧ Kd.V Kd.string 9 w' w.heap.size (fun k_ => ((P0_0_ k_ ∨ P0_1_ k_) ∨ w.heap.size ≤ k_)) v0_ r1 ∧ Kd.V k42 42 w' w.heap.size (fun k_ => ((P0_0_ k_ ∨ P0_1_ k_) ∨ w.heap.size ≤ k_)) v1_ r2 ∧ Below w.heap.size w w' := by
  have HS0 := Aside0.mk hs0_0
  have HS1 := Aside0.mk hs0_1
  unfold disk_Write.f at h
  by_cases hsz : a2.size ≤ 9223372036854775807
  · rw [if_pos hsz] at h
    have HF := Aside0.mk h
    have HT := Aside0.mk (show le_Trim.f a2 = some (trimS a2) by unfold le_Trim.f strings_TrimRight.f; rw [if_pos ⟨rfl, hsz⟩]; rfl)
    have HB := Aside0.mk (Below.refl w.heap.size w)
    clear hs0_0 hs0_1 h hsz
    go_enter Tryd.func25, Tryd.ntmps25
    go_wp2_with (first
      | ((with_reducible refine gate_dst (N := 3) rfl ?_); refine box_event rfl (N := 3) rfl (cs := #[.slice A0_0 l0_0.length c0_0, .slice A0_1 l0_1.length c0_1, .int .i64 a0_2]) (t := 46) (by first | (go_simp; done) | (go_simp; rfl)) ?_; intro g3 hg_ w1 hbox_ hb_; have Kg3 := Aside0.mk hbox_; have Gg3 := Aside0.mk (Nat.le_of_eq hg_.symm); have HB' := Aside0.mk (below_step HB.out hb_); clear HB; have HB := HB'; clear HB'; clear hbox_ hb_ hg_)
      | ((with_reducible refine gate_dst (N := 4) rfl ?_); refine box_event rfl (N := 4) rfl (cs := #[.int .i64 a1]) (t := 3) (by first | (go_simp; done) | (go_simp; rfl)) ?_; intro g4 hg_ w2 hbox_ hb_; have Kg3' := Aside0.mk (blk_below Kg3.out hb_); clear Kg3; have Kg3 := Kg3'; clear Kg3'; have Kg4 := Aside0.mk hbox_; have Gg4 := Aside0.mk (show w.heap.size ≤ g4 by rw [hg_]; exact below_size HB.out); have HB' := Aside0.mk (below_step HB.out hb_); clear HB; have HB := HB'; clear HB'; clear hbox_ hb_ hg_)
      | ((with_reducible refine gate_dst (N := 5) rfl ?_); refine box_event rfl (N := 5) rfl (cs := #[.string a2]) (t := 9) (by first | (go_simp; done) | (go_simp; rfl)) ?_; intro g5 hg_ w3 hbox_ hb_; have NE45 : g4 ≠ g5 := (by have h1 := blk_lt Kg4.out; omega); have NE35 : g3 ≠ g5 := (by have h1 := blk_lt Kg3.out; omega); have Kg3' := Aside0.mk (blk_below Kg3.out hb_); clear Kg3; have Kg3 := Kg3'; clear Kg3'; have Kg4' := Aside0.mk (blk_below Kg4.out hb_); clear Kg4; have Kg4 := Kg4'; clear Kg4'; have Kg5 := Aside0.mk hbox_; have Gg5 := Aside0.mk (show w.heap.size ≤ g5 by rw [hg_]; exact below_size HB.out); have HB' := Aside0.mk (below_step HB.out hb_); clear HB; have HB := HB'; clear HB'; have n45 := Aside0.mk (show g4 ≠ g5 by exact NE45); have n35 := Aside0.mk (show g3 ≠ g5 by exact NE35); clear hbox_ hb_ hg_ NE45 NE35)
      | ((with_reducible refine gate_dst (N := 6) rfl ?_); refine box_event rfl (N := 6) rfl (cs := #[.slice none 0 0, .slice none 0 0, .int .i64 0]) (t := 46) (by first | (go_simp; done) | (go_simp; rfl)) ?_; intro g6 hg_ w4 hbox_ hb_; have NE56 : g5 ≠ g6 := (by have h1 := blk_lt Kg5.out; omega); have Kg3' := Aside0.mk (blk_below Kg3.out hb_); clear Kg3; have Kg3 := Kg3'; clear Kg3'; have Kg4' := Aside0.mk (blk_below Kg4.out hb_); clear Kg4; have Kg4 := Kg4'; clear Kg4'; have Kg5' := Aside0.mk (blk_below Kg5.out hb_); clear Kg5; have Kg5 := Kg5'; clear Kg5'; have Kg6 := Aside0.mk hbox_; have Gg6 := Aside0.mk (show w.heap.size ≤ g6 by rw [hg_]; exact below_size HB.out); have HB' := Aside0.mk (below_step HB.out hb_); clear HB; have HB := HB'; clear HB'; have n56 := Aside0.mk NE56; clear hbox_ hb_ hg_ NE56; have s0 := (blk_cell Kg5.out 0).trans rfl; have s1 := blk_frozen Kg5.out 0; have s2 := (blk_cell Kg3.out 0).trans rfl; have s3 := (blk_cell Kg3.out 1).trans rfl; have s4 := (blk_cell Kg3.out 2).trans rfl; have s5 := n35.out; have s6 := s5.symm)
      | (go_at_call 56; refine (le_Trim.calls a2 _ _ HT.out).mono ?_; rintro e w5 ⟨rfl, ⟨nd, rfl⟩⟩))
    have hBW := below_set (j := 0) (v := .string (trimS a2)) (pw_below_drewN HB.out nd) Gg5.out
    have hW4 := blk_far (blk_drewN Kg4.out nd) (p := ⟨g5, 0, none⟩) n45.out (.string (trimS a2))
    have hW5 := blk_put (cs' := #[.string (trimS a2)]) (blk_drewN Kg5.out nd) 0 (.string (trimS a2)) rfl
    have hW6 := blk_far (blk_drewN Kg6.out nd) (p := ⟨g5, 0, none⟩) (Ne.symm n56.out) (.string (trimS a2))
    clear s0 s1 s2 s3 s4 s5 s6
    generalize (w4.drewN nd).setCell ⟨g5, 0, none⟩ (.string (trimS a2)) = w6 at hBW hW4 hW5 hW6 ⊢
    refine (call_w (fun k => P0_0_ k ∧ k < w.heap.size) A0_0 c0_0 l0_0 (fun k => P0_1_ k ∧ k < w.heap.size) A0_1 c0_1 l0_1 a0_2 a1 (trimS a2) g4 g5 w6 (Kd.V_below (Kd.V_bound HS0.out) hBW) (Kd.V_below (Kd.V_bound HS1.out) hBW) hW4 hW5 _ _ _ _ HF.out).mono ?_
    rintro e w7 ⟨v0, v1, rfl, hv0, hv1, hb7⟩
    obtain ⟨A2, c2, rfl⟩ := Kd.V_slice hv0
    obtain ⟨A3, c3, rfl⟩ := Kd.V_slice hv1
    have hv0' := vq hv0 Gg6.out hW6 Gg6.out hW6
    have hv1' := vq hv1 Gg6.out hW6 Gg6.out hW6
    have K7 := blk_below hW6 hb7
    have hB7 := below_step hBW hb7
    have y0 := (blk_cell K7 0).trans rfl
    have y1 := (blk_cell K7 1).trans rfl
    have y2 := (blk_cell K7 2).trans rfl
    have y3 := blk_frozen K7 0
    have y4 := blk_frozen K7 1
    have y5 := blk_frozen K7 2
    clear hW4 hW5 hv0 hv1 hb7 hBW
    go_wp2
    have q0 := blk_put (cs' := #[.slice A2 r1.length c2, .slice none 0 0, .int .i64 0]) K7 0 (.slice A2 r1.length c2) rfl
    have q1 := blk_put (cs' := #[.slice A2 r1.length c2, .slice A3 r2.length c3, .int .i64 0]) q0 1 (.slice A3 r2.length c3) rfl
    have q2 := blk_put (cs' := #[.slice A2 r1.length c2, .slice A3 r2.length c3, .int .i64 r3]) q1 2 (.int .i64 r3) rfl
    refine bodyPost_ret (results_ct rfl _ _ g6 46 #[.slice A2 r1.length c2, .slice A3 r2.length c3, .int .i64 r3] (0, 0) _ rfl q2 Tryd.underlying46 rfl (by kernel_rfl)) rfl ?_
    have hB8 := below_set (j := 2) (v := .int .i64 r3) (below_set (j := 1) (v := .slice A3 r2.length c3) (below_set (j := 0) (v := .slice A2 r1.length c2) hB7 Gg6.out) Gg6.out) Gg6.out
    exact ⟨_, _, rfl, Kd.V_mono (Kd.V_far (p := ⟨g6, 2, none⟩) (Kd.V_far (p := ⟨g6, 1, none⟩) (Kd.V_far (p := ⟨g6, 0, none⟩) hv0' (fun _ hk => hk.2.1) _) (fun _ hk => hk.2.1) _) (fun _ hk => hk.2.1) _) (fun _ hk => hk.1), Kd.V_mono (Kd.V_far (p := ⟨g6, 2, none⟩) (Kd.V_far (p := ⟨g6, 1, none⟩) (Kd.V_far (p := ⟨g6, 0, none⟩) hv1' (fun _ hk => hk.2.1) _) (fun _ hk => hk.2.1) _) (fun _ hk => hk.2.1) _) (fun _ hk => hk.1), hB8⟩
  · rw [if_neg hsz] at h; cases h
end Go.Proofs.YtniplmjbligmlaaDoor.Q

/-! Go functions as Lean functions, each with a proof that the Go code comes to its answers; written by a program of this repository (mk.py, over the printer of the kit). Lean checks it. -/
namespace Go.Proofs.YtniplmjbligmlaaDoor.Q
open Go.RowKit Go.Proofs.YtniplmjbligmlaaDoorW.PrintWords Go.Proofs.YtniplmjbligmlaaDoorW.PrintLast Go.Proofs.YtniplmjbligmlaaDoorW.PrintMore
attribute [local go_sem] max2_int min2_int max_two min_two max_three min_three max_four min_four   -- for this text's walks alone
set_option linter.unusedVariables false
set_option linter.unusedSimpArgs false

theorem eqA42 (d : Nat) (w : World) (x0 y0 : Int) (x1 y1 : ByteArray) :
    (Op.equalIn (d + 2) 42 (.agg #[.int .i64 x0, .string x1]) (.agg #[.int .i64 y0, .string y1])).run Tryd.prog w = .ok (x0 == y0 && (x1.toList == y1.toList)) w := by
  refine eqA_of Tryd.underlying42 (by kernel_rfl) ?_
  refine eqf_cons (by rfl) (by go_simp; rfl) (by go_simp; rfl) (by go_simp) ?_
  exact eqf_last (by rfl) (by go_simp; rfl) (by go_simp; rfl) (by go_simp)
end Go.Proofs.YtniplmjbligmlaaDoor.Q
