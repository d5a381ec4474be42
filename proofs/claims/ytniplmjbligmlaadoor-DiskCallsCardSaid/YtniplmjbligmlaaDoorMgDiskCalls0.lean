/- Texts of this claim, one behind the other. -/
import Derived.Below
import Derived.Deep.Draws
import Derived.Deep.AppendLies
import Derived.Maps.AppendAt
import Derived.OwnWalk
import Derived.Laws.MakeOwn
import Derived.Laws.OwnMore
import Derived.Deep.OwnRows
import Derived.Tactics
import Derived.Laws.Slices
import Derived.WalkKit
import Derived.KernelRfl
import Derived.Laws.Rows
import Derived.ArgAppend
import Derived.RowKit
import Derived.RowKit3
import Derived.Laws.BytesString
import Derived.Laws.CopyRow
import Derived.Deep.AppendSrc
import Derived.Deep.Upon
import Derived.Deep.Quiet
import Derived.ChangeArms
import Derived.Carry
import Derived.SizedLaws
import Derived.OpenShut
import Derived.Laws.BitsLemmas
import Derived.Lib.Bytes
/-! A memory told whole: kinds of data, the call's own blocks (B), what is read and stays (R, on the blocks F). Each step of a walk is one law on it. No word of a print is needed. -/
namespace Go.Proofs.YtniplmjbligmlaaDoor.V
open Go.RowKit
set_option linter.unusedVariables false
set_option linter.unusedSimpArgs false
/-! What holds in each world that has these blocks. -/
def Foot (p : World → Prop) (w : World) (F : Nat → Prop) : Prop := ∀ W : World, (∀ k, F k → k < w.heap.size → W.heap[k]? = w.heap[k]?) → p W
theorem heap_lt {w W : World} {k : Nat} (h : W.heap[k]? = w.heap[k]?) (hlt : k < w.heap.size) : k < W.heap.size := by
  rw [Array.getElem?_eq_getElem hlt] at h
  exact (Array.getElem?_eq_some_iff.1 h).1
namespace Foot
variable {p q : World → Prop} {w w1 : World} {F F' : Nat → Prop}
theorem now (h : Foot p w F) : p w := h w (fun _ _ _ => rfl)
theorem mono (h : Foot p w F) (hF : ∀ k, F k → F' k) : Foot p w F' := fun W hW => h W (fun k hk hlt => hW k (hF k hk) hlt)
theorem bound (h : Foot p w F) : Foot p w (fun k => F k ∧ k < w.heap.size) := fun W hW => h W (fun k hk hlt => hW k ⟨hk, hlt⟩ hlt)
theorem step (h : Foot p w F) (hm : ∀ k, F k → k < w.heap.size → w1.heap[k]? = w.heap[k]?) : Foot p w1 F := fun W hW => h W (fun k hk hlt => (hW k hk (heap_lt (hm k hk hlt) hlt)).trans (hm k hk hlt))
theorem imp (h : Foot p w F) (hi : ∀ W, p W → q W) : Foot q w F := fun W hW => hi W (h W hW)
theorem and (h : Foot p w F) (h' : Foot q w F) : Foot (fun W => p W ∧ q W) w F := fun W hW => ⟨h W hW, h' W hW⟩
end Foot
/-- A row's room, kept out of what arithmetic looks at. -/
structure Cap (n c : Nat) : Prop where
  le : n ≤ c
/-! Kinds of data: how many cells, what they say, and that this hangs on blocks alone. -/
structure Kd (α : Type) where
  sz : Nat
  K : World → α → List Value → Prop
  len : ∀ {w x cs}, K w x cs → cs.length = sz
  one : ∀ {w x cs}, K w x cs → ∀ u ∈ cs, u.oneCell' = true
  loc : ∀ {w W : World} {x cs}, K w x cs → (∀ k, k < w.heap.size → W.heap[k]? = w.heap[k]?) → K W x cs
/-- A row that is read. -/
def rdc {α : Type} (d : Kd α) (A : Option Addr) (xs : List α) : World → Prop := fun w =>
  0 < xs.length → ∃ a, A = some a ∧ ∀ (i : Nat) (x : α), xs[i]? = some x → ∃ c, d.K w x c ∧ ∀ j u, c[j]? = some u → w.cell? (a.add (i * d.sz + j)) = some u
theorem cell_loc {w W : World} (h : ∀ k, k < w.heap.size → W.heap[k]? = w.heap[k]?) {a : Addr} {u : Value} (hc : w.cell? a = some u) : W.cell? a = some u := by
  rw [World.cell?_of_block (h a.block (World.block_lt_of_cell? w _ hc))]; exact hc
theorem rdc_loc {α : Type} {d : Kd α} {A : Option Addr} {xs : List α} {w W : World} (hr : rdc d A xs w) (h : ∀ k, k < w.heap.size → W.heap[k]? = w.heap[k]?) : rdc d A xs W := fun h0 => by
  obtain ⟨a, e, hc⟩ := hr h0
  exact ⟨a, e, fun i x hx => by
    obtain ⟨c, h1, h2⟩ := hc i x hx
    exact ⟨c, d.loc h1 h, fun j u hu => cell_loc h (h2 j u hu)⟩⟩
theorem rdc_nil {α : Type} (d : Kd α) (A : Option Addr) (w : World) : rdc d A [] w := fun h => absurd h (by simp)
namespace Kd
def scalar {α : Type} (enc : α → Value) (h1 : ∀ x, (enc x).oneCell' = true) : Kd α where
  sz := 1
  K := fun _ x cs => cs = [enc x]
  len := fun h => by rw [h]; rfl
  one := fun h u hu => by rw [h] at hu; rw [List.mem_singleton.1 hu]; exact h1 _
  loc := fun h _ => h
def int (k : IntKind) : Kd Int := scalar (Value.int k) (fun _ => rfl)
def bool : Kd Bool := scalar Value.bool (fun _ => rfl)
def string : Kd ByteArray := scalar Value.string (fun _ => rfl)
def slice {α : Type} (d : Kd α) : Kd (List α) where
  sz := 1
  K := fun w xs cs => ∃ A c, cs = [.slice A xs.length c] ∧ xs.length ≤ c ∧ rdc d A xs w
  len := by rintro w x cs ⟨A, c, rfl, _⟩; rfl
  one := by rintro w x cs ⟨A, c, rfl, _⟩ u hu; rw [List.mem_singleton.1 hu]; rfl
  loc := by rintro w W x cs ⟨A, c, rfl, h1, h2⟩ h; exact ⟨A, c, rfl, h1, rdc_loc h2 h⟩
def pair {α β : Type} (a : Kd α) (b : Kd β) : Kd (α × β) where
  sz := a.sz + b.sz
  K := fun w x cs => ∃ c0 c1, cs = c0 ++ c1 ∧ a.K w x.1 c0 ∧ b.K w x.2 c1
  len := by rintro w x cs ⟨c0, c1, rfl, h0, h1⟩; rw [List.length_append, a.len h0, b.len h1]
  one := by
    rintro w x cs ⟨c0, c1, rfl, h0, h1⟩ u hu
    rcases List.mem_append.1 hu with hu | hu
    · exact a.one h0 u hu
    · exact b.one h1 u hu
  loc := by rintro w W x cs ⟨c0, c1, rfl, h0, h1⟩ h; exact ⟨c0, c1, rfl, a.loc h0 h, b.loc h1 h⟩
def iso {α β : Type} (d : Kd α) (f : β → α) : Kd β where
  sz := d.sz
  K := fun w x cs => d.K w (f x) cs
  len := d.len
  one := d.one
  loc := d.loc
end Kd
/-- What the cells of x are, on the blocks F. -/
abbrev fk {α : Type} (d : Kd α) (x : α) (c : List Value) : World → Prop := fun W => d.K W x c
theorem fk_all {α : Type} {d : Kd α} {x : α} {c : List Value} {w : World} (h : d.K w x c) : Foot (fk d x c) w (fun k => k < w.heap.size) := fun W hW => d.loc h (fun k hk => hW k hk hk)
theorem rdc_all {α : Type} {d : Kd α} {A : Option Addr} {xs : List α} {w : World} (h : rdc d A xs w) : Foot (rdc d A xs) w (fun k => k < w.heap.size) := fun W hW => rdc_loc h (fun k hk => hW k hk hk)
section
variable {α β : Type} {w : World} {F : Nat → Prop} {c : List Value}
theorem fk_scalar {enc : α → Value} {h1 : ∀ x, (enc x).oneCell' = true} {x : α} (h : Foot (fk (Kd.scalar enc h1) x c) w F) : c = [enc x] := h.now
theorem fk_slice {d : Kd α} {xs : List α} (h : Foot (fk (Kd.slice d) xs c) w F) : ∃ A cc, c = [.slice A xs.length cc] ∧ Cap xs.length cc ∧ Foot (rdc d A xs) w F := by
  obtain ⟨A, cc, rfl, h1, _⟩ := h.now
  refine ⟨A, cc, rfl, ⟨h1⟩, fun W hW => ?_⟩
  obtain ⟨A', c', e, _, h3⟩ := h W hW
  injection e with e _
  injection e with e1 e2 e3
  rw [e1]; exact h3
theorem fk_pair {a : Kd α} {b : Kd β} {x : α × β} (h : Foot (fk (Kd.pair a b) x c) w F) : ∃ c0 c1, c = c0 ++ c1 ∧ Foot (fk a x.1 c0) w F ∧ Foot (fk b x.2 c1) w F := by
  obtain ⟨c0, c1, rfl, h0, h1⟩ := h.now
  have key : ∀ W, (∀ k, F k → k < w.heap.size → W.heap[k]? = w.heap[k]?) → a.K W x.1 c0 ∧ b.K W x.2 c1 := fun W hW => by
    obtain ⟨d0, d1, e, g0, g1⟩ := h W hW
    obtain ⟨e0, e1⟩ := List.append_inj e ((a.len h0).trans (a.len g0).symm)
    rw [e0, e1]; exact ⟨g0, g1⟩
  exact ⟨c0, c1, rfl, fun W hW => (key W hW).1, fun W hW => (key W hW).2⟩
theorem mk_slice {d : Kd α} {xs : List α} {A : Option Addr} {cc : Nat} (h : Foot (rdc d A xs) w F) (hc : Cap xs.length cc) : Foot (fk (Kd.slice d) xs [.slice A xs.length cc]) w F := fun W hW => ⟨A, cc, rfl, hc.le, h W hW⟩
theorem mk_pair {a : Kd α} {b : Kd β} {x : α × β} {c0 c1 : List Value} (h0 : Foot (fk a x.1 c0) w F) (h1 : Foot (fk b x.2 c1) w F) : Foot (fk (Kd.pair a b) x (c0 ++ c1)) w F := fun W hW => ⟨c0, c1, rfl, h0 W hW, h1 W hW⟩
theorem mk_scalar {enc : α → Value} {h1 : ∀ x, (enc x).oneCell' = true} (x : α) : Foot (fk (Kd.scalar enc h1) x [enc x]) w F := fun _ _ => rfl
end
/-! Rows of cells. -/
def Reps {α : Type} (d : Kd α) (ys : List α) (cs : List Value) : World → Prop := fun W => cs.length = ys.length * d.sz ∧ ∀ (j : Nat) (y : α), ys[j]? = some y → d.K W y ((cs.drop (j * d.sz)).take d.sz)
theorem blk_lt {w : World} {g : Nat} {o : Obj} (h : w.heap[g]? = some o) : g < w.heap.size := (Array.getElem?_eq_some_iff.1 h).1
theorem blk_new (w : World) (o : Obj) : (w.alloc o).heap[w.heap.size]? = some o := heap_alloc_new w o
theorem blk_cell {w : World} {g : Nat} {t : TypeId} {cs : Array Value} (h : w.heap[g]? = some (.cells cs t (0, 0))) (i : Nat) : w.cell? ⟨g, i, none⟩ = cs[i]? := cell_of_row w g i cs t (0, 0) h
theorem own_lt {w : World} {base : Nat} {e : TypeId} {size n : Nat} {v : Value} {xs : List Value} (h : w.ownsRow base e size v n xs) (k : Nat) (hk : v.ownBlock = some k) : k < w.heap.size := by
  rcases h.2 with ⟨rfl, _⟩ | ⟨g, cap, cur, rfl, hg, hh, r⟩
  · simp [Value.ownBlock] at hk
  · have : g = k := by simpa [Value.ownBlock] using hk
    subst this; exact blk_lt hh
theorem own_move {w w1 : World} {base : Nat} {e : TypeId} {size n : Nat} {v : Value} {xs : List Value} (h : w.ownsRow base e size v n xs) (hm : ∀ k, v.ownBlock = some k → w1.heap[k]? = w.heap[k]?) : w1.ownsRow base e size v n xs := by
  obtain ⟨h1, h2⟩ := h
  refine ⟨h1, ?_⟩
  rcases h2 with h2 | ⟨g, cap, cur, rfl, hg, hh, r⟩
  · exact .inl h2
  · exact .inr ⟨g, cap, cur, rfl, hg, (hm g (by simp [Value.ownBlock])).trans hh, r⟩
/-- What the call owns: a block that is known whole; a row (a slice of its own, with what lies behind its length unknown); a block of another sort. -/
inductive Box : Type 1 where
  | mk (b : Nat) (t : TypeId) (cs : List Value)
  | row {α : Type} (d : Kd α) (e : TypeId) (A : Option Addr) (c : Nat) (ys : List α)
  | obj (b : Nat) (o : Obj)
def Box.foot : Box → Option Nat
  | .mk b _ _ => some b
  | .row _ _ A _ _ => A.map (·.block)
  | .obj b _ => some b
def Box.holds (w : World) (F : Nat → Prop) : Box → Prop
  | .mk b t cs => w.heap[b]? = some (.cells cs.toArray t (0, 0))
  | .row d e A c ys => ∃ cs, w.ownsRow 0 e d.sz (.slice A ys.length c) ys.length cs ∧ Foot (Reps d ys cs) w F
  | .obj b o => w.heap[b]? = some o
def Box.apart (x y : Box) : Prop := ∀ k, x.foot = some k → y.foot ≠ some k
theorem own_foot {A : Option Addr} {n c : Nat} : (Value.slice A n c).ownBlock = A.map (·.block) := by cases A <;> rfl
theorem Box.lt {w : World} {F : Nat → Prop} {x : Box} (h : x.holds w F) {k : Nat} (hk : x.foot = some k) : k < w.heap.size := by
  cases x with
  | mk b t cs => obtain rfl := Option.some.inj hk; exact blk_lt h
  | row d e A c ys => obtain ⟨cs, h1, _⟩ := h; exact own_lt h1 k (own_foot.trans hk)
  | obj b o => obtain rfl := Option.some.inj hk; exact blk_lt h
theorem Box.move {w w' : World} {F : Nat → Prop} {x : Box} (h : x.holds w F) (hm : ∀ k, x.foot = some k → w'.heap[k]? = w.heap[k]?) (hF : ∀ k, F k → k < w.heap.size → w'.heap[k]? = w.heap[k]?) : x.holds w' F := by
  cases x with
  | mk b t cs => exact (hm b rfl).trans h
  | row d e A c ys => obtain ⟨cs, h1, h2⟩ := h; exact ⟨cs, own_move h1 (fun k hk => hm k (own_foot.symm.trans hk)), h2.step hF⟩
  | obj b o => exact (hm b rfl).trans h
theorem Box.wide {w : World} {F F' : Nat → Prop} {x : Box} (h : x.holds w F) (hF : ∀ k, F k → F' k) : x.holds w F' := by
  cases x with
  | mk b t cs => exact h
  | row d e A c ys => obtain ⟨cs, h1, h2⟩ := h; exact ⟨cs, h1, h2.mono hF⟩
  | obj b o => exact h
/-- M: the elder blocks that may turn; F0: the elder blocks that are known to stay. -/
structure St (M F0 : Nat → Prop) (w0 : World) (F : Nat → Prop) (B : List Box) (R : List (World → Prop)) (w : World) : Prop where
  os : w.os = w0.os
  tape : w.tape = w0.tape
  out : w.output = w0.output
  size : w0.heap.size ≤ w.heap.size
  keep : ∀ k, k < w0.heap.size → ¬ M k → w.heap[k]? = w0.heap[k]?
  flt : ∀ k, F k → k < w.heap.size
  fin : ∀ k, F k → F0 k ∨ w0.heap.size ≤ k
  box : ∀ x ∈ B, x.holds w F
  nf : ∀ x ∈ B, ∀ k, x.foot = some k → ¬ F k
  nd : B.Pairwise Box.apart
  mine : ∀ x ∈ B, ∀ k, x.foot = some k → M k ∨ w0.heap.size ≤ k
  ro : ∀ p ∈ R, Foot p w F
/-- x stands in B; x' in its place is B'. -/
inductive Upd : List Box → Box → Box → List Box → Prop where
  | hd {x x' : Box} {l : List Box} : Upd (x :: l) x x' (x' :: l)
  | tl {x x' y : Box} {l l' : List Box} (h : Upd l x x' l') : Upd (y :: l) x x' (y :: l')
/-- x stands in B; without it B is B'. -/
inductive Del : List Box → Box → List Box → Prop where
  | hd {x : Box} {l : List Box} : Del (x :: l) x l
  | tl {x y : Box} {l l' : List Box} (h : Del l x l') : Del (y :: l) x (y :: l')
theorem Upd.mem {B B' : List Box} {x x' : Box} (h : Upd B x x' B') : x ∈ B := by
  induction h with
  | hd => exact List.mem_cons_self
  | tl _ ih => exact List.mem_cons_of_mem _ ih
theorem Del.mem {B B' : List Box} {x : Box} (h : Del B x B') : x ∈ B := by
  induction h with
  | hd => exact List.mem_cons_self
  | tl _ ih => exact List.mem_cons_of_mem _ ih
theorem Del.sub {B B' : List Box} {x : Box} (h : Del B x B') : B'.Sublist B := by
  induction h with
  | hd => exact List.sublist_cons_self _ _
  | tl _ ih => exact ih.cons_cons _
theorem Box.apart.symm {x y : Box} (h : x.apart y) : y.apart x := fun k hy hx => h k hx hy
theorem Del.apart {B B' : List Box} {x : Box} (h : Del B x B') : B.Pairwise Box.apart → ∀ y ∈ B', x.apart y := by
  induction h with
  | hd => intro hp y hy; exact (List.pairwise_cons.1 hp).1 y hy
  | tl h ih =>
    intro hp y hy
    obtain ⟨h1, h2⟩ := List.pairwise_cons.1 hp
    rcases List.mem_cons.1 hy with rfl | hy
    · exact (h1 _ h.mem).symm
    · exact ih h2 y hy
/-- x' lies where x lay, or where nothing of B lies. -/
theorem Upd.of {B B' : List Box} {x x' : Box} (h : Upd B x x' B') {m : Nat} (hB : ∀ y ∈ B, ∀ k, y.foot = some k → k < m) (hx : ∀ k, x'.foot = some k → x.foot = some k ∨ m ≤ k) : B.Pairwise Box.apart → (∀ y ∈ B', y = x' ∨ (y ∈ B ∧ x.apart y)) ∧ B'.Pairwise Box.apart := by
  induction h with
  | @hd x x' l =>
    intro hp
    obtain ⟨h1, h2⟩ := List.pairwise_cons.1 hp
    refine ⟨fun y hy => ?_, List.pairwise_cons.2 ⟨fun y hy k hk e => (hx k hk).elim (fun h => h1 y hy k h e) (fun h => by have := hB y (List.mem_cons_of_mem _ hy) k e; omega), h2⟩⟩
    rcases List.mem_cons.1 hy with rfl | hy
    · exact .inl rfl
    · exact .inr ⟨List.mem_cons_of_mem _ hy, h1 y hy⟩
  | @tl x x' y l l' h ih =>
    intro hp
    obtain ⟨h1, h2⟩ := List.pairwise_cons.1 hp
    obtain ⟨i1, i2⟩ := ih (fun y hy => hB y (List.mem_cons_of_mem _ hy)) hx h2
    have hm := h.mem
    refine ⟨fun z hz => ?_, List.pairwise_cons.2 ⟨fun z hz => ?_, i2⟩⟩
    · rcases List.mem_cons.1 hz with rfl | hz
      · exact .inr ⟨List.mem_cons_self, (h1 _ hm).symm⟩
      · rcases i1 z hz with h | h
        · exact .inl h
        · exact .inr ⟨List.mem_cons_of_mem _ h.1, h.2⟩
    · rcases i1 z hz with rfl | h
      · exact fun k hk hk' => (hx k hk').elim (fun h => h1 _ hm k hk h) (fun h => by have := hB y List.mem_cons_self k hk; omega)
      · exact h1 z h.1
section
variable {M F0 F : Nat → Prop} {w0 w w' : World} {B B' : List Box} {R : List (World → Prop)}
theorem St.start (w : World) (F0 : Nat → Prop) (h0 : ∀ k, F0 k → k < w.heap.size) : St (fun _ => False) F0 w F0 [] [] w :=
  ⟨rfl, rfl, rfl, Nat.le_refl _, fun _ _ _ => rfl, h0, fun _ h => .inl h, fun _ h => absurd h (List.not_mem_nil), fun _ h => absurd h (List.not_mem_nil), .nil, fun _ h => absurd h (List.not_mem_nil), fun _ h => absurd h (List.not_mem_nil)⟩
/-- A call on boxes that came in and may turn. -/
theorem St.startM (w : World) (F0 : Nat → Prop) (B : List Box) (h0 : ∀ k, F0 k → k < w.heap.size) (hb : ∀ x ∈ B, x.holds w F0) (hf : ∀ x ∈ B, ∀ k, x.foot = some k → ¬ F0 k) (hn : B.Pairwise Box.apart) : St (fun k => ∃ x ∈ B, x.foot = some k) F0 w F0 B [] w :=
  ⟨rfl, rfl, rfl, Nat.le_refl _, fun _ _ _ => rfl, h0, fun _ h => .inl h, hb, hf, hn, fun x h k hk => .inl ⟨x, h, hk⟩, fun _ h => absurd h (List.not_mem_nil)⟩
theorem St.below (H : St (fun _ => False) F0 w0 F B R w) : Below w0.heap.size w0 w := ⟨H.os, H.tape, H.out, H.size, fun k hk => H.keep k hk id⟩
theorem St.lt (H : St M F0 w0 F B R w) {x : Box} (hx : x ∈ B) {k : Nat} (hk : x.foot = some k) : k < w.heap.size := Box.lt (H.box x hx) hk
theorem St.fact (H : St M F0 w0 F B R w) {p : World → Prop} (hp : Foot p w F) : St M F0 w0 F B (p :: R) w :=
  { H with ro := fun q hq => (List.mem_cons.1 hq).elim (fun e => e ▸ hp) (H.ro q) }
theorem St.get (H : St M F0 w0 F B R w) {p : World → Prop} (hp : p ∈ R := by (repeat (first | with_reducible exact List.mem_cons_self | apply List.mem_cons_of_mem))) : Foot p w F := H.ro p hp
theorem St.less (H : St M F0 w0 F B R w) {R' : List (World → Prop)} (hR : R'.Sublist R) : St M F0 w0 F B R' w := { H with ro := fun p hp => H.ro p (hR.subset hp) }
theorem St.only (H : St M F0 w0 F B R w) {R' : List (World → Prop)} (hR : ∀ p ∈ R', p ∈ R) : St M F0 w0 F B R' w := { H with ro := fun p hp => H.ro p (hR p hp) }
theorem St.drop (H : St M F0 w0 F B R w) {B' : List Box} (hB : B'.Sublist B) : St M F0 w0 F B' R w :=
  { H with box := fun x hx => H.box x (hB.subset hx), nf := fun x hx => H.nf x (hB.subset hx), mine := fun x hx => H.mine x (hB.subset hx), nd := H.nd.sublist hB }
theorem St.drew (H : St M F0 w0 F B R w) (n : Nat) : St M F0 w0 F B R (w.drewN n) :=
  { H with os := H.os, tape := H.tape, out := H.out, box := fun x hx => Box.move (H.box x hx) (fun _ _ => rfl) (fun _ _ _ => rfl), ro := fun p hp => (H.ro p hp).step (fun _ _ _ => rfl) }
/-- What the call owns is no longer to be written: it joins what stays. -/
theorem St.freeze (H : St M F0 w0 F B R w) {x : Box} (hd : Del B x B') (hM : ∀ k, x.foot = some k → ¬ M k) : St M F0 w0 (fun k => F k ∨ x.foot = some k) B' R w :=
  { St.drop H hd.sub with
    flt := fun k hk => hk.elim (H.flt k) (fun e => H.lt hd.mem e)
    fin := fun k hk => hk.elim (H.fin k) (fun e => .inr ((H.mine x hd.mem k e).elim (fun h => absurd h (hM k e)) id))
    box := fun y hy => Box.wide (H.box y (hd.sub.subset hy)) (fun k h => .inl h)
    nf := fun y hy k hk hf => hf.elim (H.nf y (hd.sub.subset hy) k hk) (fun e => hd.apart H.nd y hy k e hk)
    ro := fun p hp => (H.ro p hp).mono (fun _ h => .inl h) }
/-- All that is there stays as it is, and something new is owned. -/
theorem St.grow (H : St M F0 w0 F B R w) (hos : w'.os = w.os) (htape : w'.tape = w.tape) (hout : w'.output = w.output) (hsize : w.heap.size ≤ w'.heap.size) (hk : ∀ k, k < w.heap.size → w'.heap[k]? = w.heap[k]?)
    {x : Box} (hx : x.holds w' F) (hf : ∀ k, x.foot = some k → w.heap.size ≤ k) : St M F0 w0 F (x :: B) R w' where
  os := hos.trans H.os
  tape := htape.trans H.tape
  out := hout.trans H.out
  size := Nat.le_trans H.size hsize
  keep := fun k hlt hM => (hk k (Nat.lt_of_lt_of_le hlt H.size)).trans (H.keep k hlt hM)
  flt := fun k h => Nat.lt_of_lt_of_le (H.flt k h) hsize
  fin := H.fin
  box := fun y hy => by
    rcases List.mem_cons.1 hy with rfl | hy
    · exact hx
    · exact Box.move (H.box y hy) (fun k e => hk k (H.lt hy e)) (fun k _ hlt => hk k hlt)
  nf := fun y hy k e h => by
    rcases List.mem_cons.1 hy with rfl | hy
    · have := H.flt k h; have := hf k e; omega
    · exact H.nf y hy k e h
  nd := List.pairwise_cons.2 ⟨fun y hy k e e' => by have := H.lt hy e'; have := hf k e; omega, H.nd⟩
  mine := fun y hy k e => by
    rcases List.mem_cons.1 hy with rfl | hy
    · exact .inr (Nat.le_trans H.size (hf k e))
    · exact H.mine y hy k e
  ro := fun p hp => (H.ro p hp).step (fun k _ hlt => hk k hlt)
theorem St.alloc (H : St M F0 w0 F B R w) (t : TypeId) (cs : List Value) : St M F0 w0 F (.mk w.heap.size t cs :: B) R (w.alloc (.cells cs.toArray t (0, 0))) :=
  H.grow (w' := w.alloc (.cells cs.toArray t (0, 0))) rfl rfl rfl (by rw [World.size_alloc]; omega) (fun k hk => Below.heap_alloc w _ k hk) (x := .mk w.heap.size t cs) (blk_new w _) (fun k e => Nat.le_of_eq (Option.some.inj e))
/-- What is owned is turned, or moved to where nothing was. -/
theorem St.turn (H : St M F0 w0 F B R w) {x x' : Box} (hu : Upd B x x' B') (hos : w'.os = w.os) (htape : w'.tape = w.tape) (hout : w'.output = w.output) (hsize : w.heap.size ≤ w'.heap.size)
    (hk : ∀ k, k < w.heap.size → x.foot ≠ some k → w'.heap[k]? = w.heap[k]?) (hx : x'.holds w' F) (hf : ∀ k, x'.foot = some k → x.foot = some k ∨ w.heap.size ≤ k) : St M F0 w0 F B' R w' := by
  obtain ⟨h1, h2⟩ := hu.of (fun y hy k e => H.lt hy e) hf H.nd
  have hm := hu.mem
  have hnb : ∀ k, k < w0.heap.size → ¬ M k → x.foot ≠ some k := fun k hlt hM e => (H.mine _ hm k e).elim hM (fun h => by omega)
  have hkF : ∀ k, F k → k < w.heap.size → w'.heap[k]? = w.heap[k]? := fun k hf hlt => hk k hlt (fun e => H.nf _ hm k e hf)
  exact {
    os := hos.trans H.os
    tape := htape.trans H.tape
    out := hout.trans H.out
    size := Nat.le_trans H.size hsize
    keep := fun k hlt hM => (hk k (Nat.lt_of_lt_of_le hlt H.size) (hnb k hlt hM)).trans (H.keep k hlt hM)
    flt := fun k hf => Nat.lt_of_lt_of_le (H.flt k hf) hsize
    fin := H.fin
    box := fun y hy => by
      rcases h1 y hy with rfl | h
      · exact hx
      · exact Box.move (H.box y h.1) (fun k e => hk k (H.lt h.1 e) (fun e' => h.2 k e' e)) hkF
    nf := fun y hy k e hF => by
      rcases h1 y hy with rfl | h
      · rcases hf k e with h | h
        · exact H.nf _ hm k h hF
        · have := H.flt k hF; omega
      · exact H.nf y h.1 k e hF
    nd := h2
    mine := fun y hy k e => by
      rcases h1 y hy with rfl | h
      · rcases hf k e with h | h
        · exact H.mine _ hm k h
        · exact .inr (Nat.le_trans H.size h)
      · exact H.mine y h.1 k e
    ro := fun p hp => (H.ro p hp).step hkF }
/-- A call that turns nothing that was there. -/
theorem St.call (H : St M F0 w0 F B R w) (hb : Below w.heap.size w w') : St M F0 w0 (fun k => F k ∨ (w.heap.size ≤ k ∧ k < w'.heap.size)) B R w' where
  os := hb.os.trans H.os
  tape := hb.tape.trans H.tape
  out := hb.output.trans H.out
  size := Nat.le_trans H.size hb.size
  keep := fun k hk hM => (hb.block k (Nat.lt_of_lt_of_le hk H.size)).trans (H.keep k hk hM)
  flt := fun k hk => hk.elim (fun h => Nat.lt_of_lt_of_le (H.flt k h) hb.size) (·.2)
  fin := fun k hk => hk.elim (H.fin k) (fun h => .inr (Nat.le_trans H.size h.1))
  box := fun x hx => Box.wide (Box.move (H.box x hx) (fun k e => hb.block k (H.lt hx e)) (fun k _ hlt => hb.block k hlt)) (fun k h => .inl h)
  nf := fun x hx k e hf => hf.elim (H.nf x hx k e) (fun h => absurd (H.lt hx e) (by omega))
  nd := H.nd
  mine := H.mine
  ro := fun p hp => ((H.ro p hp).step (fun k _ hlt => hb.block k hlt)).mono (fun _ h => .inl h)
/-- The same, where something new is owned: x, whose block is among the new ones. -/
theorem St.callOwn (H : St M F0 w0 F B R w) (hb : Below w.heap.size w w') {x : Box} (hx : x.holds w' (fun k => (F k ∨ (w.heap.size ≤ k ∧ k < w'.heap.size)) ∧ x.foot ≠ some k)) (hf : ∀ k, x.foot = some k → w.heap.size ≤ k) : St M F0 w0 (fun k => (F k ∨ (w.heap.size ≤ k ∧ k < w'.heap.size)) ∧ x.foot ≠ some k) (x :: B) R w' where
  os := hb.os.trans H.os
  tape := hb.tape.trans H.tape
  out := hb.output.trans H.out
  size := Nat.le_trans H.size hb.size
  keep := fun k hk hM => (hb.block k (Nat.lt_of_lt_of_le hk H.size)).trans (H.keep k hk hM)
  flt := fun k hk => hk.1.elim (fun h => Nat.lt_of_lt_of_le (H.flt k h) hb.size) (·.2)
  fin := fun k hk => hk.1.elim (H.fin k) (fun h => .inr (Nat.le_trans H.size h.1))
  box := fun y hy => by
    rcases List.mem_cons.1 hy with rfl | hy
    · exact hx
    · exact Box.wide (Box.move (H.box y hy) (fun k e => hb.block k (H.lt hy e)) (fun k _ hlt => hb.block k hlt)) (fun k h => ⟨.inl h, fun e => by have := hf k e; have := H.flt k h; omega⟩)
  nf := fun y hy k e hF => by
    rcases List.mem_cons.1 hy with rfl | hy
    · exact hF.2 e
    · exact hF.1.elim (H.nf y hy k e) (fun h => absurd (H.lt hy e) (by omega))
  nd := List.pairwise_cons.2 ⟨fun y hy k e e' => by have := H.lt hy e'; have := hf k e; omega, H.nd⟩
  mine := fun y hy k e => by
    rcases List.mem_cons.1 hy with rfl | hy
    · exact .inr (Nat.le_trans H.size (hf k e))
    · exact H.mine y hy k e
  ro := fun p hp => ((H.ro p hp).step (fun k _ hlt => hb.block k hlt)).mono (fun k h => ⟨.inl h, fun e => by have := hf k e; have := H.flt k h; omega⟩)
end
def putC (cs : List Value) (i : Nat) (vs : List Value) : List Value := cs.take i ++ vs ++ cs.drop (i + vs.length)
theorem St.store {P : Program} {M F0 F : Nat → Prop} {w0 w : World} {B B' : List Box} {R : List (World → Prop)} (H : St M F0 w0 F B R w) {b i : Nat} {t : TypeId} {cs vs : List Value} (hu : Upd B (.mk b t cs) (.mk b t (putC cs i vs)) B') (hl : i + vs.length ≤ cs.length) (h1 : ∀ v ∈ vs, v.oneCell' = true) :
    ∃ w', (storeCells ⟨b, i, none⟩ vs).run P w = .ok () w' ∧ St M F0 w0 F B' R w' := by
  have hb : w.heap[b]? = some (.cells cs.toArray t (0, 0)) := H.box _ hu.mem
  refine ⟨_, run_storeCells_at P b i t vs 0 cs.toArray w hb (by simpa using hl) h1, H.turn hu rfl rfl rfl (by simp [World.setRow]) (fun k _ hk => ?_) ?_ (fun _ h => .inl h)⟩
  · have hne : k ≠ b := fun e => hk (by subst e; rfl)
    simp only [World.setRow, Array.getElem?_modify]
    rw [if_neg (Ne.symm hne)]
  · show (w.setRow b _).heap[b]? = _
    rw [setRow_heap w b _ _ t _ hb]
    simp [putC]
end Go.Proofs.YtniplmjbligmlaaDoor.V

/-! A walk by small laws: the slots of a frame that are known (T), the types that are used (tb), and one law for each kind of operation. Nothing of the program stands here. -/
namespace Go.Proofs.YtniplmjbligmlaaDoor.V
open Go.RowKit
set_option linter.unusedVariables false
set_option linter.unusedSimpArgs false
abbrev Tm := List (Nat × Value)
structure Fr (n : Nat) (D : List Deferred) (T : Tm) (a : Act) : Prop where
  size : a.tmps.size = n
  defs : a.defers = D
  at_ : ∀ i v, T.lookup i = some v → a.tmps[i]? = some v
def ev (T : Tm) : Operand → Option Value
  | .tmp i => T.lookup i
  | .const v => some v
  | .global g => some (.pointer (some ⟨g, 0, none⟩))
  | .func f => some (.func (.func f) #[] #[])
section
variable {n : Nat} {D : List Deferred} {T T' : Tm} {a : Act}
theorem Fr.get (A : Fr n D T a) {i : Nat} {v : Value} (h : T.lookup i = some v) : a.tmps.getD i undef = v := by
  have := A.at_ i v h
  simp [Array.getD_eq_getD_getElem?, this]
theorem Fr.ev (A : Fr n D T a) {x : Operand} {v : Value} (h : ev T x = some v) : a.eval x = v := by
  cases x with
  | tmp i => exact A.get h
  | const u => exact Option.some.inj h
  | global g => exact Option.some.inj h
  | func f => exact Option.some.inj h
theorem Fr.put (A : Fr n D T a) {d : Nat} (hd : d < n) (v : Value) : Fr n D ((d, v) :: T) (a.put (some d) v) := by
  refine ⟨by simp [Act.put, A.size], A.defs, fun i u h => ?_⟩
  simp only [Act.put]
  rw [Array.getElem?_setIfInBounds]
  by_cases e : i = d
  · subst e
    simp at h
    subst h
    rw [if_pos rfl, if_pos (by rw [A.size]; exact hd)]
  · rw [if_neg (Ne.symm e)]
    refine A.at_ i u ?_
    have e' : (i == d) = false := by simpa using e
    simpa [List.lookup, e'] using h
def Sub : Tm → Tm → Prop
  | [], _ => True
  | p :: l, T => T.lookup p.1 = some p.2 ∧ Sub l T
theorem Sub.get : ∀ {T' : Tm} {i : Nat} {v : Value}, Sub T' T → T'.lookup i = some v → T.lookup i = some v
  | [], _, _, _, h => by simp at h
  | (j, u) :: l, i, v, hs, h => by
    by_cases e : i = j
    · subst e; simp at h; subst h; exact hs.1
    · have e' : (i == j) = false := by simpa using e
      exact hs.2.get (by simpa [List.lookup, e'] using h)
theorem Fr.sub (A : Fr n D T a) (hs : Sub T' T) : Fr n D T' a := ⟨A.size, A.defs, fun i v h => A.at_ i v (hs.get h)⟩
def argT : Nat → List Value → Tm
  | _, [] => []
  | i, v :: l => (i, v) :: argT (i + 1) l
theorem argT_at : ∀ (l : List Value) (k i : Nat) (v : Value), (argT k l).lookup i = some v → k ≤ i ∧ l[i - k]? = some v
  | [], k, i, v, h => by simp [argT] at h
  | u :: l, k, i, v, h => by
    by_cases e : i = k
    · subst e; simp [argT] at h; subst h; exact ⟨Nat.le_refl _, by simp⟩
    · have e' : (i == k) = false := by simpa using e
      obtain ⟨h1, h2⟩ := argT_at l (k + 1) i v (by simpa [argT, List.lookup, e'] using h)
      refine ⟨by omega, ?_⟩
      rw [show i - k = (i - (k + 1)) + 1 by omega]
      simpa using h2
theorem Fr.enter (args : List Value) (n : Nat) (h : args.length ≤ n) : Fr n [] (argT 0 args) { tmps := args.toArray ++ Array.replicate (n - args.toArray.size) undef, defers := [] } := by
  refine ⟨by simp; omega, rfl, fun i v hv => ?_⟩
  obtain ⟨_, h2⟩ := argT_at args 0 i v hv
  have hlt : i < args.length := (List.getElem?_eq_some_iff.1 h2).1
  simp only [Nat.sub_zero] at h2
  show (args.toArray ++ Array.replicate (n - args.toArray.size) undef)[i]? = some v
  rw [Array.getElem?_append_left (by simpa using hlt)]
  simpa using h2
end
/-! The types that are used. -/
inductive TK where
  | bool | int (k : IntKind) | string | slice (e : TypeId) | struct (fs : List (TypeId × Nat)) | array (n : Nat) (e : TypeId) | ptr (t : TypeId) | map (k e : TypeId) | iface | other
def tk : TypeDesc → TK
  | .bool => .bool
  | .int k => .int k
  | .string => .string
  | .slice e => .slice e
  | .struct fs => .struct (fs.toList.map fun f => (f.type, f.offset))
  | .array n e => .array n e
  | .pointer t => .ptr t
  | .map k e => .map k e
  | .interface _ => .iface
  | _ => .other
structure TyI where
  kind : TK
  size : Nat
  bytes : Nat
  zero : List Value
def TK.row : TK → Bool
  | .struct _ | .array _ _ => true
  | _ => false
def TyI.zv (i : TyI) : Value := match i.kind.row with
  | true => .agg i.zero.toArray
  | false => i.zero.headD undef
structure TyOk (P : Program) (t : TypeId) (i : TyI) : Prop where
  und : ∃ d, P.underlying t = some d ∧ tk d = i.kind
  inf : ∃ inf, P.info? t = some inf ∧ inf.size = i.size ∧ inf.bytes = i.bytes ∧ inf.zero = some i.zv
  zc : i.zv.cells = i.zero.toArray
  zl : i.zero.length = i.size
  z1 : i.zero.all (·.oneCell') = true
abbrev Tb := List (Nat × TyI)
def TbOk (P : Program) (tb : Tb) : Prop := ∀ t i, tb.lookup t = some i → TyOk P t i
theorem tbOk_nil (P : Program) : TbOk P [] := fun t i h => by simp at h
theorem tbOk_cons {P : Program} {t : Nat} {i : TyI} {tb : Tb} (h : TyOk P t i) (hs : TbOk P tb) : TbOk P ((t, i) :: tb) := fun u j hu => by
  by_cases e : u = t
  · subst e; simp at hu; subst hu; exact h
  · have e' : (u == t) = false := by simpa using e
    exact hs u j (by simpa [List.lookup, e'] using hu)
section
variable {P : Program} {t : TypeId} {i : TyI} (h : TyOk P t i) (w : World)
include h
theorem TyOk.run_und : ∃ d, (underlying t).run P w = .ok d w ∧ P.underlying t = some d ∧ tk d = i.kind := by
  obtain ⟨d, hd, hk⟩ := h.und
  exact ⟨d, run_underlying hd w, hd, hk⟩
theorem TyOk.run_size : (sizeOf t).run P w = .ok i.size w := by
  obtain ⟨inf, hi, hs, _⟩ := h.inf
  simp [sizeOf, typeInfo, hi, hs]
theorem TyOk.run_info : ∃ inf, (typeInfo t).run P w = .ok inf w ∧ inf.size = i.size ∧ inf.bytes = i.bytes ∧ inf.zero = some i.zv := by
  obtain ⟨inf, hi, hs⟩ := h.inf
  exact ⟨inf, by simp [typeInfo, hi], hs⟩
theorem TyOk.run_zero : (zeroValue t).run P w = .ok i.zv w := by
  obtain ⟨inf, hi, _, _, hz⟩ := h.inf
  simp [zeroValue, typeInfo, hi, hz]
theorem TyOk.run_agg : (isAgg t).run P w = .ok i.kind.row w := by
  obtain ⟨d, hd, hu, hk⟩ := h.run_und w
  unfold isAgg
  rw [Sem.run_bind, hd, ← hk]
  cases d <;> simp [tk, TK.row]
end
/-- What is read at an offset of a row of cells: a struct or an array of its own, or one cell. -/
def partC (i : TyI) (cs : List Value) (off : Nat) : Option Value := match i.kind.row with
  | true => some (.agg ((cs.drop off).take i.size).toArray)
  | false => cs[off]?
def fillC : List Value → List (Nat × List Value) → List Value
  | cs, [] => cs
  | cs, (o, vs) :: l => fillC (putC cs o vs) l
def evs (T : Tm) : List Operand → Option (List Value)
  | [] => some []
  | x :: xs => match ev T x with
    | some v => match evs T xs with
      | some vs => some (v :: vs)
      | none => none
    | none => none
theorem evs_ok {n : Nat} {D : List Deferred} {T : Tm} {a : Act} (A : Fr n D T a) : ∀ (xs : List Operand) (vs : List Value), evs T xs = some vs → xs.map a.eval = vs
  | [], vs, h => Option.some.inj h
  | x :: xs, vs, h => by
    unfold evs at h
    split at h
    · rename_i v hv
      split at h
      · rename_i us hu
        obtain rfl := Option.some.inj h
        simp [A.ev hv, evs_ok A xs us hu]
      · cases h
    · cases h
def TK.face : TK → Bool
  | .iface => true
  | _ => false
/-- Operations that only reckon, on values that are known. -/
def pureOp (tb : Tb) (T : Tm) : Op → Option Value
  | .move x => ev T x
  | .assign x => ev T x
  | .pick c x y => match ev T c with
    | some (.bool true) => ev T x
    | some (.bool false) => ev T y
    | _ => none
  | .fieldAddr s x f => match ev T x, tb.lookup s with
    | some (.pointer (some ⟨b, o, none⟩)), some ⟨.struct fs, _, _, _⟩ => match fs[f]? with
      | some (u, off) => match tb.lookup u with
        | some ⟨_, k + 1, _, _⟩ => some (.pointer (some ⟨b, o + off, none⟩))
        | _ => none
      | _ => none
    | _, _ => none
  | .field s x f => match ev T x, tb.lookup s with
    | some (.agg cs), some ⟨.struct fs, _, _, _⟩ => match fs[f]? with
      | some (u, off) => match tb.lookup u with
        | some i => partC i cs.toList off
        | _ => none
      | _ => none
    | _, _ => none
  | .unOp .not _ x => match ev T x with
    | some (.bool b) => some (.bool (!b))
    | _ => none
  | .extract x k => match ev T x with
    | some (.tuple vs) => vs.toList[k]?
    | _ => none
  | .nilCheck x => match ev T x with
    | some (.pointer (some p)) => some (.pointer (some p))
    | some (.func (.func f) a b) => some (.func (.func f) a b)
    | _ => none
  | .makeFunc fn first cap => match evs T first.toList, evs T cap.toList with
    | some fs, some cs => some (.func fn fs.toArray cs.toArray)
    | _, _ => none
  | .makeInterface t x => match ev T x, tb.lookup t with
    | some v, some i => match i.kind.face with
      | true => none
      | false => some (.iface t v)
    | _, _ => none
  | .typeAssert x _ t ok => match ev T x, tb.lookup t with
    | some (.iface u v), some i => match i.kind.face, Nat.beq u t, ok with
      | false, true, true => some (.tuple #[v, .bool true])
      | false, true, false => some v
      | false, false, true => some (.tuple #[i.zv, .bool false])
      | _, _, _ => none
    | some .nilIface, some i => match i.kind.face, ok with
      | false, true => some (.tuple #[i.zv, .bool false])
      | _, _ => none
    | _, _ => none
  | .convert u t x => match ev T x, tb.lookup u, tb.lookup t with
    | some (.string s), some _, some ⟨.string, _, _, _⟩ => some (.string s)
    | _, _, _ => none
  | .call ⟨.builtin .len, xs0, ts⟩ => match xs0.toList, ts.toList with
    | [x], [t] => match ev T x, tb.lookup t with
      | some (.string s), some ⟨.string, _, _, _⟩ => some (.int .i64 s.size)
      | some (.slice _ m _), some ⟨.slice _, _, _, _⟩ => some (.int .i64 m)
      | _, _ => none
    | _, _ => none
  | _ => none
section
variable {P : Program} {tb : Tb} {n : Nat} {D : List Deferred} {T : Tm} {a : Act} {w : World}
theorem add_spot (b o k : Nat) : (⟨b, o, none⟩ : Addr).add k = ⟨b, o + k, none⟩ := by unfold Addr.add; split <;> simp_all
theorem run_part {u : TypeId} {i : TyI} (h : TyOk P u i) {cs : Array Value} {off : Nat} {v : Value} (hv : partC i cs.toList off = some v) : (part u cs off).run P w = .ok v w := by
  unfold part
  simp only [Sem.run_bind, h.run_agg w, Result.andThen_ok]
  unfold partC at hv
  cases hr : i.kind.row with
  | true =>
    rw [hr] at hv
    obtain rfl := Option.some.inj hv
    simp only [if_true, Sem.run_bind, h.run_size w, Result.andThen_ok, Sem.run_pure]
    congr 2
    apply Array.toList_inj.1
    simp [Array.toList_extract, List.extract_eq_take_drop]
  | false =>
    rw [hr] at hv
    have : cs[off]? = some v := by simpa using hv
    simp [this]
theorem pure_run (hT : TbOk P tb) (A : Fr n D T a) {o : Oper} {v : Value} (hv : pureOp tb T o.op = some v) : (execOp a.eval o).run P w = .ok (.value v) w := by
  unfold execOp
  cases ho : o.op with
  | move x => rw [ho] at hv; simp [A.ev hv]
  | assign x => rw [ho] at hv; simp [A.ev hv]
  | pick c x y =>
    rw [ho] at hv
    simp only [pureOp] at hv
    split at hv
    · rename_i hc; simp [A.ev hc, asBool, A.ev hv]
    · rename_i hc; simp [A.ev hc, asBool, A.ev hv]
    · cases hv
  | fieldAddr s x f =>
    rw [ho] at hv
    simp only [pureOp] at hv
    split at hv
    · rename_i b o' fs sz by_ z hx hs
      split at hv
      · rename_i u off hf
        split at hv
        · rename_i kd k by2 z2 hu
          obtain rfl := Option.some.inj hv
          obtain ⟨d, hd, _, hk⟩ := (hT _ _ hs).run_und w
          have hsz := (hT _ _ hu).run_size w
          cases d <;> simp only [tk] at hk <;> try cases hk
          rename_i fa _u
          have hf' : ∃ fl : Field, fa[f]? = some fl ∧ fl.type = u ∧ fl.offset = off := by
            rw [List.getElem?_map] at hf
            cases hq : fa.toList[f]? with
            | none => rw [hq] at hf; cases hf
            | some fl => rw [hq] at hf; simp at hf; exact ⟨fl, by simpa using hq, hf.1, hf.2⟩
          obtain ⟨fl, hfl, rfl, rfl⟩ := hf'
          simp [Instr.fieldAt, Sem.run_bind, hd, hfl, A.ev hx, Instr.sureAddr, fieldPlace, hsz, add_spot]
        · cases hv
      · cases hv
    · cases hv
  | field s x f =>
    rw [ho] at hv
    simp only [pureOp] at hv
    split at hv
    · rename_i cs fs sz by_ z hx hs
      split at hv
      · rename_i u off hf
        split at hv
        · rename_i i hu
          obtain ⟨d, hd, _, hk⟩ := (hT _ _ hs).run_und w
          cases d <;> simp only [tk] at hk <;> try cases hk
          rename_i fa _u
          have hf' : ∃ fl : Field, fa[f]? = some fl ∧ fl.type = u ∧ fl.offset = off := by
            rw [List.getElem?_map] at hf
            cases hq : fa.toList[f]? with
            | none => rw [hq] at hf; cases hf
            | some fl => rw [hq] at hf; simp at hf; exact ⟨fl, by simpa using hq, hf.1, hf.2⟩
          obtain ⟨fl, hfl, rfl, rfl⟩ := hf'
          have hp := run_part (w := w) (hT _ _ hu) hv
          simp [Instr.field, Sem.run_bind, hd, hfl, A.ev hx, asAgg, hp]
        · cases hv
      · cases hv
    · cases hv
  | unOp u t x =>
    rw [ho] at hv
    cases u <;> simp only [pureOp] at hv <;> try cases hv
    split at hv
    · rename_i b hx
      obtain rfl := Option.some.inj hv
      simp [A.ev hx, Op.unary]
    · cases hv
  | extract x k =>
    rw [ho] at hv
    simp only [pureOp] at hv
    split at hv
    · rename_i vs hx
      have : vs[k]? = some v := by simpa using hv
      simp [A.ev hx, Instr.extract, this]
    · cases hv
  | nilCheck x =>
    rw [ho] at hv
    simp only [pureOp] at hv
    split at hv
    · rename_i p hx; obtain rfl := Option.some.inj hv; simp [A.ev hx]
    · rename_i f u u2 hx; obtain rfl := Option.some.inj hv; simp [A.ev hx]
    · cases hv
  | makeFunc fn first cap =>
    rw [ho] at hv
    simp only [pureOp] at hv
    split at hv
    · rename_i fs cs h1 h2
      obtain rfl := Option.some.inj hv
      have e1 := evs_ok A _ _ h1
      have e2 := evs_ok A _ _ h2
      have e3 : first.map a.eval = fs.toArray := by apply Array.toList_inj.1; rw [Array.toList_map, e1]
      have e4 : cap.map a.eval = cs.toArray := by apply Array.toList_inj.1; rw [Array.toList_map, e2]
      simp [Instr.makeFunc, e3, e4]
    · cases hv
  | makeInterface t x =>
    rw [ho] at hv
    simp only [pureOp] at hv
    split at hv
    · rename_i u i h1 h2
      split at hv
      · cases hv
      · rename_i hf
        obtain rfl := Option.some.inj hv
        obtain ⟨d, hd, _, hk⟩ := (hT _ _ h2).run_und w
        rw [← hk] at hf
        cases d <;> simp [tk, TK.face] at hf <;> simp [Instr.makeInterface, hd, A.ev h1]
    · cases hv
  | typeAssert x xt t ok =>
    rw [ho] at hv
    simp only [pureOp] at hv
    split at hv
    · rename_i u y i h1 h2
      obtain ⟨d, hd, _, hk⟩ := (hT _ _ h2).run_und w
      have hz := (hT _ _ h2).run_zero w
      split at hv
      · rename_i hf hb
        obtain rfl := Option.some.inj hv
        obtain rfl := Nat.eq_of_beq_eq_true hb
        rw [← hk] at hf
        cases d <;> simp [tk, TK.face] at hf <;> simp [Instr.typeAssert, hd, A.ev h1]
      · rename_i hf hb
        obtain rfl := Option.some.inj hv
        obtain rfl := Nat.eq_of_beq_eq_true hb
        rw [← hk] at hf
        cases d <;> simp [tk, TK.face] at hf <;> simp [Instr.typeAssert, hd, A.ev h1]
      · rename_i hf hb
        obtain rfl := Option.some.inj hv
        have hne : u ≠ t := fun e => by rw [e, Nat.beq_refl] at hb; cases hb
        rw [← hk] at hf
        cases d <;> simp [tk, TK.face] at hf <;> simp [Instr.typeAssert, hd, A.ev h1, hne, hz]
      · cases hv
    · rename_i i h1 h2
      obtain ⟨d, hd, _, hk⟩ := (hT _ _ h2).run_und w
      have hz := (hT _ _ h2).run_zero w
      split at hv
      · rename_i hf
        obtain rfl := Option.some.inj hv
        rw [← hk] at hf
        cases d <;> simp [tk, TK.face] at hf <;> simp [Instr.typeAssert, hd, A.ev h1, hz]
      · cases hv
    · cases hv
  | convert u t x =>
    rw [ho] at hv
    simp only [pureOp] at hv
    split at hv
    · rename_i s iu sz by_ z h1 h2 h3
      obtain rfl := Option.some.inj hv
      obtain ⟨du, hdu, _, _⟩ := (hT _ _ h2).run_und w
      obtain ⟨d, hd, _, hk⟩ := (hT _ _ h3).run_und w
      cases d <;> simp only [tk] at hk <;> try cases hk
      cases du <;> simp [convert, hd, hdu, A.ev h1]
    · cases hv
  | call c =>
    rw [ho] at hv
    obtain ⟨cal, xs0, ts⟩ := c
    cases cal with
    | value x => simp [pureOp] at hv
    | invoke x y => simp [pureOp] at hv
    | builtin b =>
      cases b <;> simp only [pureOp] at hv <;> try cases hv
      split at hv
      · rename_i x t has hts
        obtain ⟨xs0⟩ := xs0; obtain ⟨ts⟩ := ts
        simp at has hts; subst has; subst hts
        split at hv
        · rename_i s sz by_ z hx ht
          obtain rfl := Option.some.inj hv
          obtain ⟨d, hd, _, hk⟩ := (hT _ _ ht).run_und w
          cases d <;> simp only [tk] at hk <;> try cases hk
          simp [resolve, invoke, builtin, Builtin.len_, hd, A.ev hx, goInt]
        · rename_i u m c e sz by_ z hx ht
          obtain rfl := Option.some.inj hv
          obtain ⟨d, hd, _, hk⟩ := (hT _ _ ht).run_und w
          cases d <;> simp only [tk] at hk <;> try cases hk
          simp [resolve, invoke, builtin, Builtin.len_, hd, A.ev hx, goInt]
        · cases hv
      · cases hv
  | _ => rw [ho] at hv; simp [pureOp] at hv
end
end Go.Proofs.YtniplmjbligmlaaDoor.V

/-! The walk's laws, one for each form of code and each kind of operation, on a frame (Fr) and a memory (St) that are told. -/
namespace Go.Proofs.YtniplmjbligmlaaDoor.V
open Go.RowKit
set_option linter.unusedVariables false
set_option linter.unusedSimpArgs false
section
variable {P : Program} {Q : Exit → Act → World → Prop} {a : Act} {w : World} {n : Nat} {D : List Deferred} {T : Tm} {tb : Tb}
theorem sx_enter {f : FuncId} {fn : Func} {c : Code} {args : List Value} {R : Ending → World → Prop} {n : Nat} (hf : P.funcs[f]? = some fn) (hn : fn.ntmps = n) (hb : fn.body = some c) (hl : Nat.ble args.length n = true)
    (k : ∀ a, Fr n [] (argT 0 args) a → c.wp P (bodyPost P fn R) a w) : Calls P f args.toArray w R :=
  calls_of_wp hf hb (k _ (by rw [hn]; exact Fr.enter args n (Nat.le_of_ble_eq_true hl)))
theorem sx_region {id : Nat} {l : List Oper} (h : wpList P l.toArray Q l a w) : (Code.region id l.toArray false).wp P Q a w := wp_region_lit h
theorem sx_then {next : Act → World → Prop} (h : next a w) : Exit.then next Q .normal a w := h
theorem sx_inb {id : Nat} (h : Q .normal a w) : Exit.inBlock id Q .normal a w := h
theorem sx_then_exit {next : Act → World → Prop} {id : Nat} (h : Q (.exit id) a w) : Exit.then next Q (.exit id) a w := h
theorem sx_inb_exit {id : Nat} (h : Q .normal a w) : Exit.inBlock id Q (.exit id) a w := by simp only [Exit.inBlock, if_true]; exact h
theorem sx_inb_other {id id' : Nat} (hne : Nat.beq id' id = false) (h : Q (.exit id') a w) : Exit.inBlock id Q (.exit id') a w := by
  simp only [Exit.inBlock]; rw [if_neg (by intro e; subst e; simp at hne)]; exact h
theorem sx_then_ret {next : Act → World → Prop} (h : Q .ret a w) : Exit.then next Q .ret a w := h
theorem sx_inb_ret {id : Nat} (h : Q .ret a w) : Exit.inBlock id Q .ret a w := h
theorem sx_if_t (A : Fr n D T a) {c : Operand} {x y : Code} (hc : ev T c = some (.bool true)) (h : x.wp P Q a w) : (Code.cond c x y).wp P Q a w := wp_cond_true (A.ev hc) h
theorem sx_if_f (A : Fr n D T a) {c : Operand} {x y : Code} (hc : ev T c = some (.bool false)) (h : y.wp P Q a w) : (Code.cond c x y).wp P Q a w := wp_cond_false (A.ev hc) h
theorem sx_if (A : Fr n D T a) {c : Operand} {x y : Code} {b : Bool} (hc : ev T c = some (.bool b)) (h1 : b = true → x.wp P Q a w) (h2 : b = false → y.wp P Q a w) : (Code.cond c x y).wp P Q a w := wp_cond_split (A.ev hc) h1 h2
theorem least {p : Nat → Prop} : ∀ m, p m → ∃ m, p m ∧ ∀ k, p k → m ≤ k := fun m => by
  induction m using Nat.strongRecOn with
  | ind m ih =>
    intro hm
    by_cases h : ∃ k, k < m ∧ p k
    · obtain ⟨k, hk, hp⟩ := h; exact ih k hk hp
    · exact ⟨m, hm, fun k hk => Nat.le_of_not_lt fun hlt => h ⟨k, hlt, hk⟩⟩
theorem blt_lt {d n : Nat} (h : Nat.blt d n = true) : d < n := Nat.le_of_ble_eq_true h
open Classical in
/-- A loop: I is what holds at its head, told by an index; each round comes to a smaller measure. -/
theorem sx_loop {ι : Type} {c : Code} (I : ι → Act → World → Prop) (μ : ι → Nat) (i0 : ι) (h0 : I i0 a w)
    (round : ∀ i a w, I i a w → c.wp P (Exit.then (fun a' w' => ∃ j, I j a' w' ∧ μ j < μ i) Q) a w) : (Code.loop c).wp P Q a w := by
  have hP : ∀ a w, (∃ i, I i a w) → ∃ m, (∃ i, I i a w ∧ μ i = m) ∧ ∀ k, (∃ i, I i a w ∧ μ i = k) → m ≤ k := fun a w ⟨i, h⟩ => least (p := fun m => ∃ i, I i a w ∧ μ i = m) _ ⟨i, h, rfl⟩
  refine wp_loop (fun a w => ∃ i, I i a w) (fun a w => if h : ∃ i, I i a w then Classical.choose (hP a w h) else 0) ⟨i0, h0⟩ (fun a w h => ?_)
  obtain ⟨⟨i, hi, hm⟩, _⟩ := Classical.choose_spec (hP a w h)
  refine wp_mono (round i a w hi) (fun e a' w' hq => ?_)
  cases e with
  | normal =>
    obtain ⟨j, hj, hlt⟩ := hq
    have hx : ∃ i, I i a' w' := ⟨j, hj⟩
    refine ⟨hx, ?_⟩
    rw [dif_pos hx, dif_pos h]
    exact Nat.lt_of_le_of_lt ((Classical.choose_spec (hP a' w' hx)).2 _ ⟨j, hj, rfl⟩) (by rw [← hm]; exact hlt)
  | exit => exact hq
  | goto => exact hq
  | ret => exact hq
  | panic => exact hq
  | outgrown => exact hq
end
/-! A region's list. -/
def wantedT (T : Tm) (ops : List Oper) : Option (Nat × Bool) → Option Bool
  | none => some true
  | some (j, want) => match ops[j]? with
    | some ⟨some d, _, _, _, _, _⟩ => match T.lookup d with
      | some (.bool b) => some (b == want)
      | some (.tuple _) => some false
      | _ => none
    | _ => none
section
variable {P : Program} {l : List Oper} {a : Act} {rest : List Oper} {Q : Exit → Act → World → Prop} {w : World} {n : Nat} {D : List Deferred} {T : Tm} {tb : Tb}
variable {d : Nat} {op : Op} {ty : TypeId} {pos : String} {aft : Array Edge} {g : Option (Nat × Bool)}
variable {M F0 F : Nat → Prop} {w0 : World} {B B' : List Box} {R : List (World → Prop)}
theorem wanted_of (A : Fr n D T a) {o : Oper} {b : Bool} (h : wantedT T l o.guard = some b) : Region.wanted o (yielded l.toArray a.tmps) = b := by
  unfold Region.wanted
  unfold wantedT at h
  cases hg : o.guard with
  | none => rw [hg] at h; exact (Option.some.inj h)
  | some p =>
    obtain ⟨j, want⟩ := p
    rw [hg] at h
    simp only at h ⊢
    split at h
    · rename_i d op ty pos aft g hj
      split at h
      · rename_i b' hb
        obtain rfl := Option.some.inj h
        have := A.at_ _ _ hb
        unfold yielded
        simp [hj, this]
      · rename_i vs hb
        obtain rfl := Option.some.inj h
        have := A.at_ _ _ hb
        unfold yielded
        simp [hj, this]
      · cases h
    · cases h
theorem list_run {o : Oper} (A : Fr n D T a) (hw : wantedT T l o.guard = some true) {v : Value} {w' : World} (hr : (execOp a.eval o).run P w = .ok (.value v) w') (k : wpList P l.toArray Q rest (a.put o.dst v) w') : wpList P l.toArray Q (o :: rest) a w := by
  refine wpList_step fun K hK => ?_
  rw [if_pos (wanted_of A hw)]
  unfold Oper.wp
  rw [hr]
  exact hK _ _ k
theorem list_run_skip {o : Oper} (A : Fr n D T a) (hw : wantedT T l o.guard = some true) {w' : World} (hr : (execOp a.eval o).run P w = .ok .skip w') (k : wpList P l.toArray Q rest (a.put o.dst undef) w') : wpList P l.toArray Q (o :: rest) a w := by
  refine wpList_step fun K hK => ?_
  rw [if_pos (wanted_of A hw)]
  unfold Oper.wp
  rw [hr]
  exact hK _ _ k
theorem sx_at {o : Oper} (h : wpList P l.toArray Q (o :: rest) a w) : wpList P l.toArray Q (o :: rest) a w := h
theorem g_bin {bop : BinOp} {t u : TypeId} {x y : Operand} (h : wpList P l.toArray Q (⟨some d, .binOp bop t x y u, ty, pos, aft, g⟩ :: rest) a w) : wpList P l.toArray Q (⟨some d, .binOp bop t x y u, ty, pos, aft, g⟩ :: rest) a w := h
theorem g_load {t : TypeId} {x : Operand} (h : wpList P l.toArray Q (⟨some d, .load t x, ty, pos, aft, g⟩ :: rest) a w) : wpList P l.toArray Q (⟨some d, .load t x, ty, pos, aft, g⟩ :: rest) a w := h
theorem g_store {t : TypeId} {x y : Operand} (h : wpList P l.toArray Q (⟨none, .store t x y, ty, pos, aft, g⟩ :: rest) a w) : wpList P l.toArray Q (⟨none, .store t x y, ty, pos, aft, g⟩ :: rest) a w := h
theorem g_box {t : TypeId} {x : Operand} (h : wpList P l.toArray Q (⟨some d, .box t x, ty, pos, aft, g⟩ :: rest) a w) : wpList P l.toArray Q (⟨some d, .box t x, ty, pos, aft, g⟩ :: rest) a w := h
theorem g_alloc {t : TypeId} (h : wpList P l.toArray Q (⟨some d, .alloc t, ty, pos, aft, g⟩ :: rest) a w) : wpList P l.toArray Q (⟨some d, .alloc t, ty, pos, aft, g⟩ :: rest) a w := h
theorem g_build {t : TypeId} {ps : Array (Nat × Operand)} (h : wpList P l.toArray Q (⟨some d, .build t ps, ty, pos, aft, g⟩ :: rest) a w) : wpList P l.toArray Q (⟨some d, .build t ps, ty, pos, aft, g⟩ :: rest) a w := h
theorem g_call {x : Operand} {xs : Array Operand} {ts : Array TypeId} (h : wpList P l.toArray Q (⟨some d, .call ⟨.value x, xs, ts⟩, ty, pos, aft, g⟩ :: rest) a w) : wpList P l.toArray Q (⟨some d, .call ⟨.value x, xs, ts⟩, ty, pos, aft, g⟩ :: rest) a w := h
theorem g_call0 {x : Operand} {xs : Array Operand} {ts : Array TypeId} (h : wpList P l.toArray Q (⟨none, .call ⟨.value x, xs, ts⟩, ty, pos, aft, g⟩ :: rest) a w) : wpList P l.toArray Q (⟨none, .call ⟨.value x, xs, ts⟩, ty, pos, aft, g⟩ :: rest) a w := h
theorem g_builtin {b : Builtin} {xs : Array Operand} {ts : Array TypeId} (h : wpList P l.toArray Q (⟨some d, .call ⟨.builtin b, xs, ts⟩, ty, pos, aft, g⟩ :: rest) a w) : wpList P l.toArray Q (⟨some d, .call ⟨.builtin b, xs, ts⟩, ty, pos, aft, g⟩ :: rest) a w := h
theorem g_slice {t : TypeId} {x : Operand} {lo hi mx : Option Operand} (h : wpList P l.toArray Q (⟨some d, .slice t x lo hi mx, ty, pos, aft, g⟩ :: rest) a w) : wpList P l.toArray Q (⟨some d, .slice t x lo hi mx, ty, pos, aft, g⟩ :: rest) a w := h
theorem g_index {t : TypeId} {x y : Operand} (h : wpList P l.toArray Q (⟨some d, .index t x y, ty, pos, aft, g⟩ :: rest) a w) : wpList P l.toArray Q (⟨some d, .index t x y, ty, pos, aft, g⟩ :: rest) a w := h
theorem g_idx {t : TypeId} {x y : Operand} (h : wpList P l.toArray Q (⟨some d, .indexAddr t x y, ty, pos, aft, g⟩ :: rest) a w) : wpList P l.toArray Q (⟨some d, .indexAddr t x y, ty, pos, aft, g⟩ :: rest) a w := h
theorem g_make {t : TypeId} {x y : Operand} (h : wpList P l.toArray Q (⟨some d, .makeSlice t x y, ty, pos, aft, g⟩ :: rest) a w) : wpList P l.toArray Q (⟨some d, .makeSlice t x y, ty, pos, aft, g⟩ :: rest) a w := h
theorem g_lit {t : TypeId} {n1 : Nat} {ps : Array (Nat × Operand)} (h : wpList P l.toArray Q (⟨some d, .buildSlice t n1 ps, ty, pos, aft, g⟩ :: rest) a w) : wpList P l.toArray Q (⟨some d, .buildSlice t n1 ps, ty, pos, aft, g⟩ :: rest) a w := h
theorem g_conv {t u : TypeId} {x : Operand} (h : wpList P l.toArray Q (⟨some d, .convert t u x, ty, pos, aft, g⟩ :: rest) a w) : wpList P l.toArray Q (⟨some d, .convert t u x, ty, pos, aft, g⟩ :: rest) a w := h
theorem g_int (A : Fr n D T a) {bop : BinOp} {t u : TypeId} {x y : Operand} {k : IntKind} {m : Int} (hx : ev T x = some (.int k m)) (h : wpList P l.toArray Q (⟨some d, .binOp bop t x y u, ty, pos, aft, g⟩ :: rest) a w) : wpList P l.toArray Q (⟨some d, .binOp bop t x y u, ty, pos, aft, g⟩ :: rest) a w := h
theorem g_str (A : Fr n D T a) {bop : BinOp} {t u : TypeId} {x y : Operand} {s : ByteArray} (hx : ev T x = some (.string s)) (h : wpList P l.toArray Q (⟨some d, .binOp bop t x y u, ty, pos, aft, g⟩ :: rest) a w) : wpList P l.toArray Q (⟨some d, .binOp bop t x y u, ty, pos, aft, g⟩ :: rest) a w := h
theorem sx_pure (A : Fr n D T a) (hT : TbOk P tb) (hw : wantedT T l g = some true) {v : Value} (hv : pureOp tb T op = some v) (hd : Nat.blt d n = true)
    (k : ∀ a', Fr n D ((d, v) :: T) a' → wpList P l.toArray Q rest a' w) : wpList P l.toArray Q (⟨some d, op, ty, pos, aft, g⟩ :: rest) a w :=
  list_run A hw (pure_run hT A hv) (k _ (A.put (blt_lt hd) v))
theorem sx_skip (A : Fr n D T a) (hw : wantedT T l g = some false) (hd : Nat.blt d n = true)
    (k : ∀ a', Fr n D ((d, undef) :: T) a' → wpList P l.toArray Q rest a' w) : wpList P l.toArray Q (⟨some d, op, ty, pos, aft, g⟩ :: rest) a w :=
  wpList_skip (wanted_of A hw) (k _ (A.put (blt_lt hd) undef))
theorem sx_skip0 (A : Fr n D T a) (hw : wantedT T l g = some false) (k : wpList P l.toArray Q rest a w) : wpList P l.toArray Q (⟨none, op, ty, pos, aft, g⟩ :: rest) a w :=
  wpList_skip (wanted_of A hw) k
theorem Fr.dup (A : Fr n D T a) {i : Nat} {v : Value} (h : T.lookup i = some v) : Fr n D ((i, v) :: T) a := ⟨A.size, A.defs, fun j u hu => by
  by_cases e : j = i
  · subst e; simp at hu; subst hu; exact A.at_ _ _ h
  · have e' : (j == i) = false := by simpa using e
    exact A.at_ j u (by simpa [List.lookup, e'] using hu)⟩
/-- A test whose answer isn't known yet: both ways. -/
theorem sx_both (A : Fr n D T a) {G : Prop} (i : Nat) {b : Bool} (h : T.lookup i = some (.bool b)) (h1 : b = true → Fr n D ((i, .bool true) :: T) a → G) (h2 : b = false → Fr n D ((i, .bool false) :: T) a → G) : G := by
  cases b
  · exact h2 rfl (A.dup h)
  · exact h1 rfl (A.dup h)
/-! Reckoning with whole numbers. -/
def arithI : BinOp → IntKind → Int → Int → Option Int
  | .add, k, x, y => some (k.wrap (x + y))
  | .sub, k, x, y => some (k.wrap (x - y))
  | .mul, k, x, y => some (k.wrap (x * y))
  | .quo, k, x, y => if y = 0 then none else some (k.wrap (x.tdiv y))
  | .rem, k, x, y => if y = 0 then none else some (x.tmod y)
  | .and, k, x, y => some (k.wrap (BitVec.ofInt k.bits x &&& BitVec.ofInt k.bits y).toNat)
  | .or, k, x, y => some (k.wrap (BitVec.ofInt k.bits x ||| BitVec.ofInt k.bits y).toNat)
  | .xor, k, x, y => some (k.wrap (BitVec.ofInt k.bits x ^^^ BitVec.ofInt k.bits y).toNat)
  | .andNot, k, x, y => some (k.wrap (BitVec.ofInt k.bits x &&& ~~~(BitVec.ofInt k.bits y)).toNat)
  | _, _, _, _ => none
def cmpI : BinOp → Int → Int → Option Bool
  | .eql, x, y => some (decide (x = y))
  | .neq, x, y => some (decide (x ≠ y))
  | .lss, x, y => some (decide (x < y))
  | .leq, x, y => some (decide (x ≤ y))
  | .gtr, x, y => some (decide (x > y))
  | .geq, x, y => some (decide (x ≥ y))
  | _, _, _ => none
theorem wrap_i64 {z : Int} (h1 : -9223372036854775808 ≤ z) (h2 : z < 9223372036854775808) : IntKind.i64.wrap z = z := by
  simp [IntKind.wrap, IntKind.bits, IntKind.signed]; omega
theorem add_i64 {x y : Int} (h1 : -9223372036854775808 ≤ x + y) (h2 : x + y < 9223372036854775808) : arithI .add .i64 x y = some (x + y) := congrArg some (wrap_i64 h1 h2)
theorem sub_i64 {x y : Int} (h1 : -9223372036854775808 ≤ x - y) (h2 : x - y < 9223372036854775808) : arithI .sub .i64 x y = some (x - y) := congrArg some (wrap_i64 h1 h2)
theorem mul_i64 {x y : Int} (h1 : -9223372036854775808 ≤ x * y) (h2 : x * y < 9223372036854775808) : arithI .mul .i64 x y = some (x * y) := congrArg some (wrap_i64 h1 h2)
theorem rem_any {k : IntKind} {x y : Int} (h : y ≠ 0) : arithI .rem k x y = some (x.tmod y) := if_neg h
theorem rem_pos {k : IntKind} {x y : Int} (h : 0 ≤ x) (hy : 0 < y) : arithI .rem k x y = some (x % y) := (rem_any (by omega)).trans (by rw [Int.tmod_eq_emod_of_nonneg h])
theorem quo_pos {x y : Int} (h : 0 ≤ x) (hx : x < 9223372036854775808) (hy : 0 < y) : arithI .quo .i64 x y = some (x / y) := by
  have h1 : x / y ≤ x := Int.ediv_le_self _ h
  have h2 : 0 ≤ x / y := Int.ediv_nonneg h (by omega)
  refine (if_neg (by omega)).trans ?_
  rw [Int.tdiv_eq_ediv_of_nonneg h, wrap_i64 (by omega) (by omega)]
theorem bv_of (r : BitVec 32) : BitVec.ofInt IntKind.u32.bits (r.toNat : Int) = r := by
  show BitVec.ofInt 32 (r.toNat : Int) = r
  rw [BitVec.ofInt_natCast]; simp
theorem bv_wrap (r : BitVec 32) : IntKind.u32.wrap (r.toNat : Int) = (r.toNat : Int) := by
  have := r.isLt
  simp [IntKind.wrap, IntKind.bits, IntKind.signed]; omega
theorem bv_xor (r s : BitVec 32) : arithI .xor .u32 (r.toNat : Int) (s.toNat : Int) = some ((r ^^^ s).toNat : Int) := by
  show some (IntKind.u32.wrap ((BitVec.ofInt IntKind.u32.bits (r.toNat : Int) ^^^ BitVec.ofInt IntKind.u32.bits (s.toNat : Int)).toNat : Int)) = _
  rw [bv_of, bv_of]; exact congrArg some (bv_wrap _)
theorem bv_and (r s : BitVec 32) : arithI .and .u32 (r.toNat : Int) (s.toNat : Int) = some ((r &&& s).toNat : Int) := by
  show some (IntKind.u32.wrap ((BitVec.ofInt IntKind.u32.bits (r.toNat : Int) &&& BitVec.ofInt IntKind.u32.bits (s.toNat : Int)).toNat : Int)) = _
  rw [bv_of, bv_of]; exact congrArg some (bv_wrap _)
theorem bvz_xor (r : BitVec 32) (z : Int) : arithI .xor .u32 (r.toNat : Int) z = some ((r ^^^ BitVec.ofInt 32 z).toNat : Int) := by
  show some (IntKind.u32.wrap ((BitVec.ofInt IntKind.u32.bits (r.toNat : Int) ^^^ BitVec.ofInt IntKind.u32.bits z).toNat : Int)) = _
  rw [bv_of]; exact congrArg some (bv_wrap _)
theorem bvz_and (r : BitVec 32) (z : Int) : arithI .and .u32 (r.toNat : Int) z = some ((r &&& BitVec.ofInt 32 z).toNat : Int) := by
  show some (IntKind.u32.wrap ((BitVec.ofInt IntKind.u32.bits (r.toNat : Int) &&& BitVec.ofInt IntKind.u32.bits z).toNat : Int)) = _
  rw [bv_of]; exact congrArg some (bv_wrap _)
theorem lss_t {x y : Int} (h : x < y) : cmpI .lss x y = some true := congrArg some (decide_eq_true h)
theorem lss_f {x y : Int} (h : y ≤ x) : cmpI .lss x y = some false := congrArg some (decide_eq_false (by omega))
theorem leq_t {x y : Int} (h : x ≤ y) : cmpI .leq x y = some true := congrArg some (decide_eq_true h)
theorem leq_f {x y : Int} (h : y < x) : cmpI .leq x y = some false := congrArg some (decide_eq_false (by omega))
theorem gtr_t {x y : Int} (h : y < x) : cmpI .gtr x y = some true := congrArg some (decide_eq_true h)
theorem gtr_f {x y : Int} (h : x ≤ y) : cmpI .gtr x y = some false := congrArg some (decide_eq_false (by omega))
theorem geq_t {x y : Int} (h : y ≤ x) : cmpI .geq x y = some true := congrArg some (decide_eq_true h)
theorem geq_f {x y : Int} (h : x < y) : cmpI .geq x y = some false := congrArg some (decide_eq_false (by omega))
theorem eql_t {x y : Int} (h : x = y) : cmpI .eql x y = some true := congrArg some (decide_eq_true h)
theorem eql_f {x y : Int} (h : x ≠ y) : cmpI .eql x y = some false := congrArg some (decide_eq_false h)
theorem neq_t {x y : Int} (h : x ≠ y) : cmpI .neq x y = some true := congrArg some (decide_eq_true h)
theorem neq_f {x y : Int} (h : x = y) : cmpI .neq x y = some false := congrArg some (decide_eq_false (fun h' => h' h))
theorem arith_run {k : IntKind} {bop : BinOp} {x y z : Int} (h : arithI bop k x y = some z) (t : TypeId) : (binOp bop t (.int k x) (.int k y)).run P w = .ok (.int k z) w := by
  cases bop <;> simp only [arithI] at h <;> first
    | (cases h; done)
    | (obtain rfl := Option.some.inj h; simp [binOp, Op.intArith, Op.intBits]; done)
    | (split at h
       · cases h
       · rename_i hy; obtain rfl := Option.some.inj h; simp [binOp, Op.intDiv, hy])
theorem cmp_run {k : IntKind} {bop : BinOp} {x y : Int} {b : Bool} (h : cmpI bop x y = some b) (t : TypeId) : (binOp bop t (.int k x) (.int k y)).run P w = .ok (.bool b) w := by
  cases bop <;> simp only [cmpI] at h <;> first
    | (cases h; done)
    | (obtain rfl := Option.some.inj h; simp [binOp, Op.intCmp]; done)
    | (obtain rfl := Option.some.inj h; simp [binOp, Op.intCmp]; rfl)
theorem bin_run {bop : BinOp} {t u : TypeId} {x y : Operand} {vx vy v : Value} (A : Fr n D T a) {o : Oper} (ho : o.op = .binOp bop t x y u) (hx : ev T x = some vx) (hy : ev T y = some vy) (hg : (eqGuard bop t x y vx vy).run P w = .ok () w) (hr : (binOp bop t vx vy).run P w = .ok v w) :
    (execOp a.eval o).run P w = .ok (.value v) w := by
  unfold execOp
  simp [ho, A.ev hx, A.ev hy, hg, hr]
theorem eqGuard_int (bop : BinOp) (t : TypeId) (x y : Operand) (k k' : IntKind) (m m' : Int) : (eqGuard bop t x y (.int k m) (.int k' m')).run P w = .ok () w := by
  unfold eqGuard; split <;> rfl
theorem eqGuard_str (bop : BinOp) (t : TypeId) (x y : Operand) (s s' : ByteArray) : (eqGuard bop t x y (.string s) (.string s')).run P w = .ok () w := by
  unfold eqGuard; split <;> rfl
theorem eqGuard_bool (bop : BinOp) (t : TypeId) (x y : Operand) (s s' : Bool) : (eqGuard bop t x y (.bool s) (.bool s')).run P w = .ok () w := by
  unfold eqGuard; split <;> rfl
theorem sx_arith (A : Fr n D T a) (hw : wantedT T l g = some true) {bop : BinOp} {t u : TypeId} {x y : Operand} {k : IntKind} {m m' z : Int} (hx : ev T x = some (.int k m)) (hy : ev T y = some (.int k m')) (hd : Nat.blt d n = true)
    (K : ∀ a', Fr n D ((d, .int k z) :: T) a' → wpList P l.toArray Q rest a' w) (hr : arithI bop k m m' = some z := by first | assumption | with_reducible exact bv_xor _ _ | with_reducible exact bv_and _ _ | with_reducible exact bvz_xor _ _ | with_reducible exact bvz_and _ _ | ((with_reducible refine add_i64 ?_ ?_) <;> omega) | ((with_reducible refine sub_i64 ?_ ?_) <;> omega) | ((with_reducible refine mul_i64 ?_ ?_) <;> omega) | ((with_reducible refine rem_pos ?_ ?_) <;> omega) | ((with_reducible refine quo_pos ?_ ?_ ?_) <;> omega) | ((with_reducible refine rem_any ?_); omega) | exact rfl) : wpList P l.toArray Q (⟨some d, .binOp bop t x y u, ty, pos, aft, g⟩ :: rest) a w :=
  list_run A hw (bin_run A rfl hx hy (eqGuard_int ..) (arith_run hr t)) (K _ (A.put (blt_lt hd) _))
theorem sx_cmp (A : Fr n D T a) (hw : wantedT T l g = some true) {bop : BinOp} {t u : TypeId} {x y : Operand} {k : IntKind} {m m' : Int} {b : Bool} (hx : ev T x = some (.int k m)) (hy : ev T y = some (.int k m')) (hd : Nat.blt d n = true)
    (K : ∀ a', Fr n D ((d, .bool b) :: T) a' → wpList P l.toArray Q rest a' w) (hr : cmpI bop m m' = some b := by first | with_reducible assumption | with_reducible exact neq_f rfl | with_reducible exact eql_t rfl | ((with_reducible refine lss_t ?_); omega) | ((with_reducible refine lss_f ?_); omega) | ((with_reducible refine leq_t ?_); omega) | ((with_reducible refine leq_f ?_); omega) | ((with_reducible refine gtr_t ?_); omega) | ((with_reducible refine gtr_f ?_); omega) | ((with_reducible refine geq_t ?_); omega) | ((with_reducible refine geq_f ?_); omega) | ((with_reducible refine eql_t ?_); omega) | ((with_reducible refine eql_f ?_); omega) | ((with_reducible refine neq_t ?_); omega) | ((with_reducible refine neq_f ?_); omega) | exact rfl) : wpList P l.toArray Q (⟨some d, .binOp bop t x y u, ty, pos, aft, g⟩ :: rest) a w :=
  list_run A hw (bin_run A rfl hx hy (eqGuard_int ..) (cmp_run hr t)) (K _ (A.put (blt_lt hd) _))
/-! Texts. -/
def cmpS : BinOp → ByteArray → ByteArray → Option Bool
  | .eql, x, y => some (decide (x = y))
  | .neq, x, y => some (!decide (x = y))
  | .lss, x, y => some (Op.bytesLess x.toList y.toList)
  | .leq, x, y => some (Op.bytesLess x.toList y.toList || decide (x = y))
  | .gtr, x, y => some (!(Op.bytesLess x.toList y.toList || decide (x = y)))
  | .geq, x, y => some (!(Op.bytesLess x.toList y.toList))
  | _, _, _ => none
theorem bytes_ext {x y : ByteArray} (h : x.toList = y.toList) : x = y := by
  have h2 : x.data.toList = y.data.toList := by
    rw [← ByteArray.toList_eq x, ← ByteArray.toList_eq y]; exact h
  cases x; cases y; congr; exact Array.toList_inj.1 h2
theorem str_beq (x y : ByteArray) : (x.toList == y.toList) = decide (x = y) := by
  by_cases h : x = y
  · subst h; simp
  · rw [decide_eq_false h]; simp; exact fun e => h (bytes_ext e)
theorem cmpS_run {bop : BinOp} {x y : ByteArray} {b : Bool} (h : cmpS bop x y = some b) (t : TypeId) : (binOp bop t (.string x) (.string y)).run P w = .ok (.bool b) w := by
  cases bop <;> simp only [cmpS] at h <;> first
    | (cases h; done)
    | (obtain rfl := Option.some.inj h; simp [binOp, Op.stringOp, str_beq]; done)
theorem seq_t {x y : ByteArray} (h : x = y) : cmpS .eql x y = some true := congrArg some (decide_eq_true h)
theorem seq_f {x y : ByteArray} (h : x ≠ y) : cmpS .eql x y = some false := congrArg some (decide_eq_false h)
theorem sne_t {x y : ByteArray} (h : x ≠ y) : cmpS .neq x y = some true := congrArg (fun b => some (!b)) (decide_eq_false h)
theorem sne_f {x y : ByteArray} (h : x = y) : cmpS .neq x y = some false := congrArg (fun b => some (!b)) (decide_eq_true h)
theorem sx_scmp (A : Fr n D T a) (hw : wantedT T l g = some true) {bop : BinOp} {t u : TypeId} {x y : Operand} {s s' : ByteArray} {b : Bool} (hx : ev T x = some (.string s)) (hy : ev T y = some (.string s')) (hd : Nat.blt d n = true)
    (K : ∀ a', Fr n D ((d, .bool b) :: T) a' → wpList P l.toArray Q rest a' w) (hr : cmpS bop s s' = some b := by first | with_reducible exact seq_t rfl | with_reducible exact sne_f rfl | exact seq_t (by with_reducible assumption) | exact seq_f (by with_reducible assumption) | exact sne_t (by with_reducible assumption) | exact sne_f (by with_reducible assumption) | exact rfl) : wpList P l.toArray Q (⟨some d, .binOp bop t x y u, ty, pos, aft, g⟩ :: rest) a w :=
  list_run A hw (bin_run A rfl hx hy (eqGuard_str ..) (cmpS_run hr t)) (K _ (A.put (blt_lt hd) _))
theorem sx_concat (A : Fr n D T a) (hw : wantedT T l g = some true) {t u : TypeId} {x y : Operand} {s s' : ByteArray} (hx : ev T x = some (.string s)) (hy : ev T y = some (.string s')) (hd : Nat.blt d n = true)
    (K : ∀ a', Fr n D ((d, .string (s ++ s')) :: T) a' → wpList P l.toArray Q rest a' w) (hr : s.size + s'.size ≤ 9223372036854775807 := by first | omega | (simp only [ByteArray.size_append, size_B, putL_length, List.length_append, List.length_cons, List.length_nil]; omega)) : wpList P l.toArray Q (⟨some d, .binOp .add t x y u, ty, pos, aft, g⟩ :: rest) a w :=
  list_run A hw (bin_run A rfl hx hy (eqGuard_str ..) (by
    have h1 : ¬ ((s.size + s'.size : Nat) : Int) > IntKind.i64.max := by rw [show IntKind.i64.max = 9223372036854775807 by decide]; omega
    simp only [binOp, Op.stringOp]; rw [if_neg h1]; rfl)) (K _ (A.put (blt_lt hd) _))
end
end Go.Proofs.YtniplmjbligmlaaDoor.V

/-! The walk's laws for memory, calls and what is handed back. -/
namespace Go.Proofs.YtniplmjbligmlaaDoor.V
open Go.RowKit
set_option linter.unusedVariables false
set_option linter.unusedSimpArgs false
section
variable {P : Program} {l : List Oper} {a : Act} {rest : List Oper} {Q : Exit → Act → World → Prop} {w : World} {n : Nat} {D : List Deferred} {T : Tm} {tb : Tb}
variable {d : Nat} {op : Op} {ty : TypeId} {pos : String} {aft : Array Edge} {g : Option (Nat × Bool)}
variable {M F0 F : Nat → Prop} {w0 : World} {B B' : List Box} {R : List (World → Prop)}
theorem load_row {b : Nat} {t : TypeId} {cs : List Value} (hb : w.heap[b]? = some (.cells cs.toArray t (0, 0))) {u : TypeId} {i : TyI} (hu : TyOk P u i) (o : Nat) :
    (i.kind.row = true → o + i.size ≤ cs.length → (loadVar u ⟨b, o, none⟩).run P w = .ok (.agg ((cs.drop o).take i.size).toArray) w) ∧
    (i.kind.row = false → ∀ v, cs[o]? = some v → (loadVar u ⟨b, o, none⟩).run P w = .ok v w) := by
  have hc : ∀ j, w.cell? ⟨b, j, none⟩ = cs[j]? := fun j => by rw [blk_cell hb j]; simp
  refine ⟨fun hr hl => ?_, fun hr v hv => ?_⟩
  · have h1 : (loadCells ⟨b, o, none⟩ ((cs.drop o).take i.size).length).run P w = .ok ((cs.drop o).take i.size).toArray w :=
      run_loadCells_list (P := P) w ⟨b, o, none⟩ _ (fun j v hv => by
        rw [add_spot, hc]
        rw [List.getElem?_take] at hv
        split at hv
        · simpa using hv
        · cases hv)
    have h2 : ((cs.drop o).take i.size).length = i.size := by simp; omega
    rw [h2] at h1
    simp [loadVar, Sem.run_bind, hu.run_agg w, hr, hu.run_size w, h1]
  · have h1 : w.cell? ⟨b, o, none⟩ = some v := by rw [hc]; exact hv
    simp [loadVar, Sem.run_bind, hu.run_agg w, hr, load, Sem.run, h1]
/-- What a load finds at an offset of a block's cells. -/
def loadC (i : TyI) (cs : List Value) (o : Nat) : Option Value := match i.kind.row with
  | true => bif Nat.ble (o + i.size) cs.length then some (.agg ((cs.drop o).take i.size).toArray) else none
  | false => cs[o]?
theorem sx_load (H : St M F0 w0 F B R w) (A : Fr n D T a) (hT : TbOk P tb) (hw : wantedT T l g = some true) {t : TypeId} {x : Operand} {b o : Nat} {tt : TypeId} {cs : List Value} {i : TyI} {v v' : Value} (hx : ev T x = some (.pointer (some ⟨b, o, none⟩))) (hi : tb.lookup t = some i) (hd : Nat.blt d n = true) (k : ∀ a', Fr n D ((d, v') :: T) a' → wpList P l.toArray Q rest a' w) (hm : .mk b tt cs ∈ B := by (repeat (first | with_reducible exact List.mem_cons_self | apply List.mem_cons_of_mem)))
    (hv : loadC i cs o = some v := by rfl) (hn : v = v' := by first | (simp only [putC, fillC, Value.cells, List.toList_toArray, List.take_zero, List.take_succ_cons, List.take_nil, List.drop_zero, List.drop_succ_cons, List.drop_nil, List.nil_append, List.cons_append, List.append_nil, List.length_cons, List.length_nil, Nat.reduceAdd, Nat.add_zero, Nat.zero_add, Array.toArray_toList, List.take_length, List.drop_length]; done) | (simp only [putC, fillC, Value.cells, List.toList_toArray, List.take_zero, List.take_succ_cons, List.take_nil, List.drop_zero, List.drop_succ_cons, List.drop_nil, List.nil_append, List.cons_append, List.append_nil, List.length_cons, List.length_nil, Nat.reduceAdd, Nat.add_zero, Nat.zero_add, Array.toArray_toList, List.take_length, List.drop_length]; rfl) | rfl) : wpList P l.toArray Q (⟨some d, .load t x, ty, pos, aft, g⟩ :: rest) a w := by
  subst hn
  obtain ⟨h1, h2⟩ := load_row (H.box _ hm) (hT _ _ hi) o
  have hr : (loadVar t ⟨b, o, none⟩).run P w = .ok v w := by
    unfold loadC at hv
    cases hk : i.kind.row with
    | true =>
      rw [hk] at hv
      cases hb : Nat.ble (o + i.size) cs.length with
      | true => simp only [hb, cond_true] at hv; rw [← Option.some.inj hv]; exact h1 hk (Nat.le_of_ble_eq_true hb)
      | false => simp [hb] at hv
    | false => rw [hk] at hv; exact h2 hk v hv
  refine list_run A hw (v := v) (w' := w) ?_ (k _ (A.put (blt_lt hd) _))
  unfold execOp
  simp [A.ev hx, Instr.loadAt, Instr.sureAddr, hr]
/-- The whole of a block. -/
theorem sx_load_all (H : St M F0 w0 F B R w) (A : Fr n D T a) (hT : TbOk P tb) (hw : wantedT T l g = some true) {t : TypeId} {x : Operand} {b : Nat} {tt : TypeId} {cs : List Value} {i : TyI} (hx : ev T x = some (.pointer (some ⟨b, 0, none⟩))) (hi : tb.lookup t = some i)
    (hk : i.kind.row = true) (hd : Nat.blt d n = true) (k : ∀ a', Fr n D ((d, .agg cs.toArray) :: T) a' → wpList P l.toArray Q rest a' w) (hm : .mk b tt cs ∈ B := by (repeat (first | with_reducible exact List.mem_cons_self | apply List.mem_cons_of_mem))) (hs : i.size = cs.length := by rfl) : wpList P l.toArray Q (⟨some d, .load t x, ty, pos, aft, g⟩ :: rest) a w :=
  sx_load H A hT hw hx hi hd k hm (v := .agg ((cs.drop 0).take i.size).toArray) (by unfold loadC; rw [hk]; simp [hs, show cs.length.ble cs.length = true from Nat.ble_eq_true_of_le (Nat.le_refl _)]) (by rw [hs]; simp)
theorem sx_store (H : St M F0 w0 F B R w) (A : Fr n D T a) (hT : TbOk P tb) (hw : wantedT T l g = some true) {t : TypeId} {x y : Operand} {b i : Nat} {tt : TypeId} {v : Value} {cs cs' : List Value} {ti : TyI} (hx : ev T x = some (.pointer (some ⟨b, i, none⟩))) (hy : ev T y = some v)
    (hi : tb.lookup t = some ti) (k : ∀ w', St M F0 w0 F B' R w' → wpList P l.toArray Q rest a w') (hu : Upd B (.mk b tt cs) (.mk b tt cs') B' := by (repeat (first | with_reducible exact Upd.hd | apply Upd.tl))) (hc : putC cs i v.cells.toList = cs' := by first | (simp only [putC, fillC, Value.cells, List.toList_toArray, List.take_zero, List.take_succ_cons, List.take_nil, List.drop_zero, List.drop_succ_cons, List.drop_nil, List.nil_append, List.cons_append, List.append_nil, List.length_cons, List.length_nil, Nat.reduceAdd, Nat.add_zero, Nat.zero_add, Array.toArray_toList, List.take_length, List.drop_length]; done) | (simp only [putC, fillC, Value.cells, List.toList_toArray, List.take_zero, List.take_succ_cons, List.take_nil, List.drop_zero, List.drop_succ_cons, List.drop_nil, List.nil_append, List.cons_append, List.append_nil, List.length_cons, List.length_nil, Nat.reduceAdd, Nat.add_zero, Nat.zero_add, Array.toArray_toList, List.take_length, List.drop_length]; rfl) | rfl)
    (hs : v.cells.toList.length = ti.size := by rfl) (hl : Nat.ble (i + ti.size) cs.length = true := by rfl) (h1 : v.cells.toList.all (·.oneCell') = true := by rfl) : wpList P l.toArray Q (⟨none, .store t x y, ty, pos, aft, g⟩ :: rest) a w := by
  subst hc
  obtain ⟨w', hr, H'⟩ := H.store (P := P) hu (by rw [hs]; exact Nat.le_of_ble_eq_true hl) (fun v hv => List.all_eq_true.1 h1 v hv)
  refine list_run_skip A hw (w' := w') ?_ (k _ H')
  have hz := (hT _ _ hi).run_size w
  have hs' : v.cells.size = ti.size := by rw [← hs]; simp
  unfold execOp
  simp [A.ev hx, A.ev hy, Instr.storeAt, Instr.sureAddr, storeVar, hz, hs', hr]
theorem sx_box (H : St M F0 w0 F B R w) (A : Fr n D T a) (hw : wantedT T l g = some true) {t : TypeId} {x : Operand} {v : Value} {cs : List Value} (hx : ev T x = some v) (hd : Nat.blt d n = true)
    (k : ∀ b a' w', Fr n D ((d, .pointer (some ⟨b, 0, none⟩)) :: T) a' → St M F0 w0 F (.mk b t cs :: B) R w' → wpList P l.toArray Q rest a' w') (hc : v.cells.toList = cs := by first | (simp only [putC, fillC, Value.cells, List.toList_toArray, List.take_zero, List.take_succ_cons, List.take_nil, List.drop_zero, List.drop_succ_cons, List.drop_nil, List.nil_append, List.cons_append, List.append_nil, List.length_cons, List.length_nil, Nat.reduceAdd, Nat.add_zero, Nat.zero_add, Array.toArray_toList, List.take_length, List.drop_length]; done) | (simp only [putC, fillC, Value.cells, List.toList_toArray, List.take_zero, List.take_succ_cons, List.take_nil, List.drop_zero, List.drop_succ_cons, List.drop_nil, List.nil_append, List.cons_append, List.append_nil, List.length_cons, List.length_nil, Nat.reduceAdd, Nat.add_zero, Nat.zero_add, Array.toArray_toList, List.take_length, List.drop_length]; rfl) | rfl) : wpList P l.toArray Q (⟨some d, .box t x, ty, pos, aft, g⟩ :: rest) a w := by
  subst hc
  refine list_run A hw (v := .pointer (some ⟨w.heap.size, 0, none⟩)) (w' := w.alloc (.cells v.cells t (0, 0))) ?_ (k _ _ _ (A.put (blt_lt hd) _) (by have := H.alloc t v.cells.toList; simpa using this))
  unfold execOp
  simp [A.ev hx, Instr.box, newVar, newRow, newObj, Sem.run]
theorem sx_alloc (H : St M F0 w0 F B R w) (A : Fr n D T a) (hT : TbOk P tb) (hw : wantedT T l g = some true) {t : TypeId} {kd : TK} {sz by_ : Nat} {zs : List Value} (hi : tb.lookup t = some ⟨kd, sz, by_, zs⟩) (hd : Nat.blt d n = true)
    (k : ∀ b a' w', Fr n D ((d, .pointer (some ⟨b, 0, none⟩)) :: T) a' → St M F0 w0 F (.mk b t zs :: B) R w' → wpList P l.toArray Q rest a' w') : wpList P l.toArray Q (⟨some d, .alloc t, ty, pos, aft, g⟩ :: rest) a w := by
  have hz := (hT _ _ hi).run_zero w
  have hc : (TyI.zv ⟨kd, sz, by_, zs⟩).cells = zs.toArray := (hT _ _ hi).zc
  refine list_run A hw (v := .pointer (some ⟨w.heap.size, 0, none⟩)) (w' := w.alloc (.cells zs.toArray t (0, 0))) ?_ (k _ _ _ (A.put (blt_lt hd) _) (H.alloc t zs))
  unfold execOp
  simp [Instr.alloc, newVar, newRow, newObj, Sem.run_bind, hz, hc, Sem.run]
/-! A struct or an array out of its parts. -/
theorem fold_put (o : Nat) : ∀ (vs : List Value) (k : Nat) (cs : List Value), o + k + vs.length ≤ cs.length →
    (vs.zipIdx k).foldl (fun (cs : Array Value) (x : Value × Nat) => cs.setIfInBounds (o + x.2) x.1) cs.toArray = (cs.take (o + k) ++ vs ++ cs.drop (o + k + vs.length)).toArray
  | [], k, cs, h => by simp
  | v :: vs, k, cs, h => by
    simp only [List.length_cons] at h
    have h1 : o + k < cs.length := by omega
    rw [List.zipIdx_cons, List.foldl_cons]
    have e1 : cs.toArray.setIfInBounds (o + (v, k).2) (v, k).1 = (cs.set (o + k) v).toArray := by simp
    rw [e1, fold_put o vs (k + 1) (cs.set (o + k) v) (by simp; omega)]
    congr 1
    have e2 : (cs.set (o + k) v).take (o + (k + 1)) = cs.take (o + k) ++ [v] := by
      rw [show o + (k + 1) = o + k + 1 by omega, List.take_succ_eq_append_getElem (by simpa using h1)]
      simp [List.take_set_of_le]
    have e3 : (cs.set (o + k) v).drop (o + (k + 1) + vs.length) = cs.drop (o + k + (vs.length + 1)) := by
      rw [List.drop_set_of_lt (by omega)]; congr 1; omega
    rw [e2, e3]
    simp
theorem run_fill (place : Nat → Option (Nat × Nat)) : ∀ (ps : List (Nat × Value)) (qs : List (Nat × List Value)) (cs : List Value), ps.length = qs.length →
    (∀ (j : Nat) (p : Nat × Value) (q : Nat × List Value), ps[j]? = some p → qs[j]? = some q → place p.1 = some (q.1, q.2.length) ∧ p.2.cells = q.2.toArray ∧ q.1 + q.2.length ≤ cs.length) →
    Instr.fill place cs.toArray ps = some (fillC cs qs).toArray
  | [], [], cs, _, _ => by rw [Instr.fill.eq_1]; rfl
  | [], _ :: _, _, h, _ => by simp at h
  | _ :: _, [], _, h, _ => by simp at h
  | (i, v) :: ps, (o, vs) :: qs, cs, h, hh => by
    obtain ⟨h1, h2, h3⟩ := hh 0 _ _ rfl rfl
    simp only at h1 h2 h3
    rw [Instr.fill.eq_2, h1]
    simp only
    have hf : Array.foldl (fun (cs : Array Value) (x : Value × Nat) => match x with | (c, j) => cs.setIfInBounds (o + j) c) cs.toArray v.cells.zipIdx = (putC cs o vs).toArray := by
      rw [h2]
      have := fold_put o vs 0 cs (by simpa using h3)
      simpa [putC] using this
    rw [if_neg (by rw [h2]; simp; omega), hf]
    refine run_fill place ps qs _ (by simpa using h) (fun j p q hp hq => ?_)
    obtain ⟨g1, g2, g3⟩ := hh (j + 1) p q (by simpa using hp) (by simpa using hq)
    refine ⟨g1, g2, ?_⟩
    simp [putC]; omega
/-- The parts of a struct, as offsets and cells. -/
def partsC (tb : Tb) (T : Tm) (fs : List (TypeId × Nat)) : List (Nat × Operand) → Option (List (Nat × List Value))
  | [] => some []
  | (f, x) :: ps => match fs[f]? with
    | some (u, off) => match tb.lookup u with
      | some i => match ev T x with
        | some v => bif Nat.beq v.cells.toList.length i.size then (match partsC tb T fs ps with
          | some qs => some ((off, v.cells.toList) :: qs)
          | none => none) else none
        | none => none
      | none => none
    | none => none
theorem partsC_ok (hT : TbOk P tb) (A : Fr n D T a) (fa : Array Field) (places : Array (Nat × Nat)) (hp : ∀ (f : Nat) (fl : Field) (i : TyI), fa[f]? = some fl → tb.lookup fl.type = some i → places[f]? = some (fl.offset, i.size)) :
    ∀ (ps : List (Nat × Operand)) (qs : List (Nat × List Value)), partsC tb T (fa.toList.map fun f => (f.type, f.offset)) ps = some qs →
      ps.length = qs.length ∧ ∀ (j : Nat) (p : Nat × Operand) (q : Nat × List Value), ps[j]? = some p → qs[j]? = some q → places[p.1]? = some (q.1, q.2.length) ∧ (a.eval p.2).cells = q.2.toArray
  | [], qs, h => by
    obtain rfl := Option.some.inj h
    exact ⟨rfl, fun j p q hp => by simp at hp⟩
  | (f, x) :: ps, qs, h => by
    unfold partsC at h
    split at h
    · rename_i u off hf
      split at h
      · rename_i i hu
        split at h
        · rename_i v hx
          cases hb : Nat.beq v.cells.toList.length i.size with
          | false => rw [hb] at h; cases h
          | true =>
            rw [hb] at h
            simp only [cond_true] at h
            split at h
            · rename_i qs' hq
              obtain rfl := Option.some.inj h
              obtain ⟨h1, h2⟩ := partsC_ok hT A fa places hp ps qs' hq
              refine ⟨by rw [List.length_cons, List.length_cons, h1], fun j p q hp' hq' => ?_⟩
              cases j with
              | zero =>
                simp at hp' hq'
                subst hp'; subst hq'
                rw [List.getElem?_map] at hf
                cases hfl : fa.toList[f]? with
                | none => rw [hfl] at hf; cases hf
                | some fl =>
                  rw [hfl] at hf
                  simp at hf
                  obtain ⟨rfl, rfl⟩ := hf
                  refine ⟨?_, by rw [A.ev hx]⟩
                  have := hp f fl i (by simpa using hfl) hu
                  rw [← Nat.eq_of_beq_eq_true hb] at this
                  exact this
              | succ j => exact h2 j p q (by simpa using hp') (by simpa using hq')
            · cases h
        · cases h
      · cases h
    · cases h
theorem partsC_in (tb : Tb) (T : Tm) (m : Nat) : ∀ (qs : List (Nat × List Value)), (qs.all fun q : Nat × List Value => Nat.ble (q.1 + q.2.length) m) = true → ∀ (j : Nat) (q : Nat × List Value), qs[j]? = some q → q.1 + q.2.length ≤ m := fun qs h j q hq =>
  Nat.le_of_ble_eq_true (List.all_eq_true.1 h q (List.mem_of_getElem? hq))
theorem run_places (hT : TbOk P tb) : ∀ (fl : List Field), (∀ f ∈ fl, ∃ i, tb.lookup f.type = some i) →
    ∃ ps : List (Nat × Nat), (fl.mapM (fun f => do pure (f.offset, ← sizeOf f.type)) : Sem (List (Nat × Nat))).run P w = .ok ps w ∧ ∀ (k : Nat) (f : Field) (i : TyI), fl[k]? = some f → tb.lookup f.type = some i → ps[k]? = some (f.offset, i.size)
  | [], _ => ⟨[], by simp, fun k f i h => by simp at h⟩
  | f :: fl, h => by
    obtain ⟨i, hi⟩ := h f List.mem_cons_self
    obtain ⟨ps, h1, h2⟩ := run_places hT fl (fun g hg => h g (List.mem_cons_of_mem _ hg))
    refine ⟨(f.offset, i.size) :: ps, ?_, fun k g j hk hj => ?_⟩
    · rw [List.mapM_cons]
      simp only [Sem.run_bind, (hT _ _ hi).run_size w, h1, Result.andThen_ok, Sem.run_pure]
    · cases k with
      | zero => simp at hk; subst hk; rw [hi] at hj; obtain rfl := Option.some.inj hj; rfl
      | succ k => exact h2 k g j (by simpa using hk) hj
theorem build_run (A : Fr n D T a) (hT : TbOk P tb) {t : TypeId} {ps : List (Nat × Operand)} {fs : List (TypeId × Nat)} {sz by_ : Nat} {zs : List Value} {qs : List (Nat × List Value)} (hi : tb.lookup t = some ⟨.struct fs, sz, by_, zs⟩)
    (hfs : (fs.all fun f => (tb.lookup f.1).isSome) = true) (hq : partsC tb T fs ps = some qs) (hin : (qs.all fun q => Nat.ble (q.1 + q.2.length) zs.length) = true) (w : World) : (execOp a.eval ⟨some d, .build t ps.toArray, ty, pos, aft, g⟩).run P w = .ok (.value (.agg (fillC zs qs).toArray)) w := by
  have hz := (hT _ _ hi).run_zero w
  have hzc : (TyI.zv ⟨.struct fs, sz, by_, zs⟩).cells = zs.toArray := (hT _ _ hi).zc
  obtain ⟨dd, hdd, _, hk⟩ := (hT _ _ hi).run_und w
  cases dd <;> simp only [tk] at hk <;> try cases hk
  rename_i fa _u
  obtain ⟨pl, hp1, hp2⟩ := run_places (w := w) hT fa.toList (fun f hf => by
    have := List.all_eq_true.1 hfs (f.type, f.offset) (List.mem_map.2 ⟨f, hf, rfl⟩)
    exact Option.isSome_iff_exists.1 this)
  obtain ⟨h1, h2⟩ := partsC_ok hT A fa pl.toArray (fun f fl i hf hl => by simpa using hp2 f fl i (by simpa using hf) hl) ps qs hq
  have hf := run_fill (fun x => pl.toArray[x]?) (ps.map fun p => (p.1, a.eval p.2)) qs zs (by simpa using h1) (fun j p q hp hq' => by
    rw [List.getElem?_map] at hp
    cases hpj : ps[j]? with
    | none => rw [hpj] at hp; cases hp
    | some p0 =>
      rw [hpj] at hp
      obtain rfl := Option.some.inj hp
      obtain ⟨g1, g2⟩ := h2 j p0 q hpj hq'
      exact ⟨g1, g2, partsC_in tb T _ qs hin j q hq'⟩)
  have hpm : (fa.mapM (fun f => do pure (f.offset, ← sizeOf f.type)) : Sem (Array (Nat × Nat))).run P w = .ok pl.toArray w := by
    rw [← Array.toArray_toList (xs := fa), List.mapM_toArray]
    simp only [Sem.run_map, hp1, Array.toArray_toList]
    first | rfl | simp
  unfold execOp
  simp only [Instr.build, Sem.run_bind, hz, hdd, Result.andThen_ok, hpm, hzc]
  have hmap : (Array.map (fun x : Nat × Operand => (x.1, a.eval x.2)) ps.toArray).toList = ps.map fun p => (p.1, a.eval p.2) := by simp
  simp only [hmap, hf, Sem.run_pure, Result.andThen_ok]
theorem sx_build (A : Fr n D T a) (hT : TbOk P tb) (hw : wantedT T l g = some true) {t : TypeId} {ps : List (Nat × Operand)} {fs : List (TypeId × Nat)} {sz by_ : Nat} {zs cs : List Value} {qs : List (Nat × List Value)} (hi : tb.lookup t = some ⟨.struct fs, sz, by_, zs⟩)
    (hfs : (fs.all fun f => (tb.lookup f.1).isSome) = true) (hq : partsC tb T fs ps = some qs) (hin : (qs.all fun q => Nat.ble (q.1 + q.2.length) zs.length) = true) (hd : Nat.blt d n = true)
    (k : ∀ a', Fr n D ((d, .agg cs.toArray) :: T) a' → wpList P l.toArray Q rest a' w) (hc : fillC zs qs = cs := by first | (simp only [putC, fillC, Value.cells, List.toList_toArray, List.take_zero, List.take_succ_cons, List.take_nil, List.drop_zero, List.drop_succ_cons, List.drop_nil, List.nil_append, List.cons_append, List.append_nil, List.length_cons, List.length_nil, Nat.reduceAdd, Nat.add_zero, Nat.zero_add, Array.toArray_toList, List.take_length, List.drop_length]; done) | (simp only [putC, fillC, Value.cells, List.toList_toArray, List.take_zero, List.take_succ_cons, List.take_nil, List.drop_zero, List.drop_succ_cons, List.drop_nil, List.nil_append, List.cons_append, List.append_nil, List.length_cons, List.length_nil, Nat.reduceAdd, Nat.add_zero, Nat.zero_add, Array.toArray_toList, List.take_length, List.drop_length]; rfl) | rfl) : wpList P l.toArray Q (⟨some d, .build t ps.toArray, ty, pos, aft, g⟩ :: rest) a w := by
  subst hc
  exact list_run A hw (build_run A hT hi hfs hq hin w) (k _ (A.put (blt_lt hd) _))
/-! Calls of functions that are named. -/
theorem call_go {o : Oper} (A : Fr n D T a) (hw : wantedT T l o.guard = some true) {f : FuncId} {xs : List Operand} {ts : Array TypeId} {vs : List Value} (ho : o.op = .call ⟨.value (.func f), xs.toArray, ts⟩) (hc : ∀ (args : Array Value) (w : World), (callFunc f args).run P w = .ok (.enter f args) w) (hv : evs T xs = some vs)
    (k : Calls P f vs.toArray w fun e w' => ∃ v, e = .returned v ∧ wpList P l.toArray Q rest (a.put o.dst v) w') : wpList P l.toArray Q (o :: rest) a w := by
  refine wpList_step fun K hK => ?_
  rw [if_pos (wanted_of A hw)]
  have hrun : (execOp a.eval o).run P w = .ok (.enter f vs.toArray) w := by
    unfold execOp
    simp [ho, resolve, Deferred.ofValue, invoke, Act.eval, hc, ← evs_ok A xs vs hv]
  unfold Oper.wp
  rw [hrun, Oper.upon_enter]
  refine k.mono fun e w'' hh => ?_
  obtain ⟨v, rfl, hk⟩ := hh
  exact hK _ _ hk
theorem sx_call (A : Fr n D T a) (hw : wantedT T l g = some true) {f : FuncId} {xs : List Operand} {ts : Array TypeId} {vs : List Value} (hc : ∀ (args : Array Value) (w : World), (callFunc f args).run P w = .ok (.enter f args) w) (hv : evs T xs = some vs) (hd : Nat.blt d n = true)
    (k : Calls P f vs.toArray w fun e w' => ∃ v, e = .returned v ∧ ∀ a', Fr n D ((d, v) :: T) a' → wpList P l.toArray Q rest a' w') : wpList P l.toArray Q (⟨some d, .call ⟨.value (.func f), xs.toArray, ts⟩, ty, pos, aft, g⟩ :: rest) a w :=
  call_go A hw rfl hc hv (k.mono fun e w' ⟨v, he, hk⟩ => ⟨v, he, hk _ (A.put (blt_lt hd) _)⟩)
theorem sx_call0 (A : Fr n D T a) (hw : wantedT T l g = some true) {f : FuncId} {xs : List Operand} {ts : Array TypeId} {vs : List Value} (hc : ∀ (args : Array Value) (w : World), (callFunc f args).run P w = .ok (.enter f args) w) (hv : evs T xs = some vs)
    (k : Calls P f vs.toArray w fun e w' => ∃ v, e = .returned v ∧ wpList P l.toArray Q rest a w') : wpList P l.toArray Q (⟨none, .call ⟨.value (.func f), xs.toArray, ts⟩, ty, pos, aft, g⟩ :: rest) a w :=
  call_go A hw rfl hc hv (k.mono fun e w' ⟨v, he, hk⟩ => ⟨v, he, hk⟩)
end
/-! What is handed back. -/
inductive Res (tb : Tb) (T : Tm) (B : List Box) : List ResultVar → List Value → Prop where
  | nil : Res tb T B [] []
  | tmp {u : Tmp} {v : Value} {rs : List ResultVar} {vs : List Value} (h : T.lookup u = some v) (k : Res tb T B rs vs) : Res tb T B (.tmp u :: rs) (v :: vs)
  | cell {p : Tmp} {t : TypeId} {b : Nat} {tt : TypeId} {cs : List Value} {i : TyI} {rs : List ResultVar} {vs : List Value} (h : T.lookup p = some (.pointer (some ⟨b, 0, none⟩))) (hm : .mk b tt cs ∈ B) (ho : tb.lookup t = some i) (hr : i.kind.row = true) (hs : i.size = cs.length) (k : Res tb T B rs vs) : Res tb T B (.cell p t :: rs) (.agg cs.toArray :: vs)
  | one {p : Tmp} {t : TypeId} {b : Nat} {tt : TypeId} {v : Value} {i : TyI} {rs : List ResultVar} {vs : List Value} (h : T.lookup p = some (.pointer (some ⟨b, 0, none⟩))) (hm : .mk b tt [v] ∈ B) (ho : tb.lookup t = some i) (hr : i.kind.row = false) (k : Res tb T B rs vs) : Res tb T B (.cell p t :: rs) (v :: vs)
section
variable {P : Program} {a : Act} {w : World} {n : Nat} {D : List Deferred} {T : Tm} {tb : Tb}
variable {M F0 F : Nat → Prop} {w0 : World} {B : List Box} {R : List (World → Prop)}
theorem res_run (hT : TbOk P tb) (H : St M F0 w0 F B R w) (A : Fr n D T a) {rs : List ResultVar} {vs : List Value} (hv : Res tb T B rs vs) (f : ResultVar → Sem Value) (hf : ∀ u, f (.tmp u) = pure (a.tmps.getD u undef)) (hc : ∀ p t, f (.cell p t) = (do loadVar t (← asAddr (a.tmps.getD p undef)))) :
    (rs.mapM f).run P w = .ok vs w := by
  induction hv with
  | nil => simp
  | tmp h k ih => simp [List.mapM_cons, hf, A.get h, ih]
  | cell h hm ho hr hs k ih =>
    have := (load_row (P := P) (H.box _ hm) (hT _ _ ho) 0).1 hr (by rw [hs]; simp)
    rw [hs] at this
    simp only [List.drop_zero, List.take_length] at this
    simp [List.mapM_cons, hc, A.get h, asAddr, this, ih]
  | one h hm ho hr k ih =>
    have := (load_row (P := P) (H.box _ hm) (hT _ _ ho) 0).2 hr _ rfl
    simp [List.mapM_cons, hc, A.get h, asAddr, this, ih]
def tupV : List Value → Value
  | [v] => v
  | vs => .tuple vs.toArray
theorem results_of (hT : TbOk P tb) (H : St M F0 w0 F B R w) (A : Fr n D T a) {fn : Func} {rs : List ResultVar} {vs : List Value} (h : fn.results = rs.toArray) (hv : Res tb T B rs vs) : (results fn a.tmps).run P w = .ok (tupV vs) w := by
  unfold results
  rw [h, List.mapM_toArray]
  simp only [Sem.run_bind, Sem.run_map]
  rw [res_run hT H A hv _ (fun u => rfl) (fun p t => rfl)]
  cases vs with
  | nil => simp [tupV]
  | cons v vs => cases vs with
    | nil => simp [tupV]
    | cons u us => simp [tupV]
theorem sx_ret (hT : TbOk P tb) (H : St M F0 w0 F B R w) (A : Fr n [] T a) {fn : Func} {rs : List ResultVar} {vs : List Value} {S : Ending → World → Prop} (h : fn.results = rs.toArray) (k : S (.returned (tupV vs)) w) (hv : Res tb T B rs vs := by (repeat (first | exact Res.nil | (apply Res.tmp; rfl) | (apply Res.cell; rfl; (repeat (first | with_reducible exact List.mem_cons_self | apply List.mem_cons_of_mem)); rfl; rfl; rfl) | (apply Res.one; rfl; (repeat (first | with_reducible exact List.mem_cons_self | apply List.mem_cons_of_mem)); rfl; rfl)))) : bodyPost P fn S .ret a w :=
  bodyPost_ret (results_of hT H A h hv) A.defs k
theorem sx_end (hT : TbOk P tb) (H : St M F0 w0 F B R w) (A : Fr n [] T a) {fn : Func} {rs : List ResultVar} {vs : List Value} {S : Ending → World → Prop} (h : fn.results = rs.toArray) (k : S (.returned (tupV vs)) w) (hv : Res tb T B rs vs := by (repeat (first | exact Res.nil | (apply Res.tmp; rfl) | (apply Res.cell; rfl; (repeat (first | with_reducible exact List.mem_cons_self | apply List.mem_cons_of_mem)); rfl; rfl; rfl) | (apply Res.one; rfl; (repeat (first | with_reducible exact List.mem_cons_self | apply List.mem_cons_of_mem)); rfl; rfl)))) : bodyPost P fn S .normal a w :=
  bodyPost_end (results_of hT H A h hv) A.defs k
end
end Go.Proofs.YtniplmjbligmlaaDoor.V

/-! The walk's laws for rows: an element's place, loaded, stored; a row cut, made, written out, appended to, and only read from then on. -/
namespace Go.Proofs.YtniplmjbligmlaaDoor.V
open Go.RowKit
set_option linter.unusedVariables false
set_option linter.unusedSimpArgs false
/-- The place of an element of a row, and of a field of it. -/
def eAt (A : Option Addr) (i sz o : Nat) : Value := .pointer (A.map (·.add (i * sz + o)))
section
variable {P : Program} {l : List Oper} {a : Act} {rest : List Oper} {Q : Exit → Act → World → Prop} {w : World} {n : Nat} {D : List Deferred} {T : Tm} {tb : Tb}
variable {d : Nat} {op : Op} {ty : TypeId} {pos : String} {aft : Array Edge} {g : Option (Nat × Bool)}
variable {M F0 F : Nat → Prop} {w0 : World} {B B' : List Box} {R : List (World → Prop)}
variable {α : Type} {dk : Kd α} {Ad : Option Addr} {xs ys : List α}
/-! What a row's cells are. -/
theorem elt_cells {a0 : Addr} {i : Nat} {x : α} (h : ∀ W : World, (∀ k, F k → k < w.heap.size → W.heap[k]? = w.heap[k]?) → ∃ c, dk.K W x c ∧ ∀ j u, c[j]? = some u → W.cell? (a0.add (i + j)) = some u) (hF : 0 < dk.sz → F a0.block ∧ a0.block < w.heap.size) :
    ∃ c, c.length = dk.sz ∧ Foot (fk dk x c) w F ∧ ∀ j u, c[j]? = some u → w.cell? (a0.add (i + j)) = some u := by
  obtain ⟨c, h1, h2⟩ := h w (fun _ _ _ => rfl)
  refine ⟨c, dk.len h1, fun W hW => ?_, h2⟩
  obtain ⟨c', h1', h2'⟩ := h W hW
  have e : c' = c := List.ext_getElem? (fun j => by
    have hl := dk.len h1; have hl' := dk.len h1'
    rcases Nat.lt_or_ge j dk.sz with hj | hj
    · have g1 : c[j]? = some (c[j]'(by omega)) := List.getElem?_eq_getElem (by omega)
      have g2 : c'[j]? = some (c'[j]'(by omega)) := List.getElem?_eq_getElem (by omega)
      have e1 := h2 j _ g1
      have e2 := h2' j _ g2
      have hb : (a0.add (i + j)).block = a0.block := by unfold Addr.add; split <;> rfl
      obtain ⟨f1, f2⟩ := hF (by omega)
      have : W.cell? (a0.add (i + j)) = w.cell? (a0.add (i + j)) := World.cell?_of_block (by rw [hb]; exact hW _ f1 f2)
      rw [this, e1] at e2
      rw [g1, g2]; exact e2.symm
    · rw [List.getElem?_eq_none (by omega), List.getElem?_eq_none (by omega)])
  exact e ▸ h1'
theorem rdc_block {a0 : Addr} (h : Foot (rdc dk (some a0) xs) w F) (h0 : 0 < xs.length) (hs : 0 < dk.sz) : F a0.block ∧ a0.block < w.heap.size := by
  have hlt : a0.block < w.heap.size := by
    obtain ⟨a', e, hc⟩ := h.now h0
    obtain rfl := Option.some.inj e
    obtain ⟨c, h1, h2⟩ := hc 0 _ (List.getElem?_eq_getElem h0)
    have hl := dk.len h1
    have := h2 0 _ (List.getElem?_eq_getElem (by omega))
    have hb : (a0.add (0 * dk.sz + 0)).block = a0.block := by unfold Addr.add; split <;> rfl
    have := World.block_lt_of_cell? w _ this
    rwa [hb] at this
  refine ⟨Classical.byContradiction fun hn => ?_, hlt⟩
  obtain ⟨a', e, hc⟩ := h { w with heap := w.heap.setIfInBounds a0.block (.map #[] 0) } (fun k hk _ => by
    show (w.heap.setIfInBounds a0.block (.map #[] 0))[k]? = _
    rw [Array.getElem?_setIfInBounds_ne (fun e => hn (by rw [e]; exact hk))]) h0
  obtain rfl := Option.some.inj e
  obtain ⟨c, h1, h2⟩ := hc 0 _ (List.getElem?_eq_getElem h0)
  have hl := dk.len h1
  have h4 := h2 0 _ (List.getElem?_eq_getElem (by omega))
  rw [show a0.add (0 * dk.sz + 0) = a0 by simp [Addr.add]] at h4
  simp only [World.cell?, Array.getElem?_setIfInBounds_self, if_pos hlt] at h4
  simp at h4
/-- An element of a row that is read: its cells. -/
theorem rdc_elt (h : Foot (rdc dk Ad xs) w F) (hs : 0 < dk.sz) {i : Nat} {x : α} (hx : xs[i]? = some x) :
    ∃ a0 c, Ad = some a0 ∧ c.length = dk.sz ∧ Foot (fk dk x c) w F ∧ ∀ j u, c[j]? = some u → w.cell? (a0.add (i * dk.sz + j)) = some u := by
  have hlt : i < xs.length := (List.getElem?_eq_some_iff.1 hx).1
  obtain ⟨a0, rfl, _⟩ := h.now (by omega)
  obtain ⟨c, h1, h2, h3⟩ := elt_cells (a0 := a0) (i := i * dk.sz) (x := x) (dk := dk) (w := w) (F := F) (fun W hW => by
    obtain ⟨a', e, hc⟩ := h W hW (by omega)
    obtain rfl := Option.some.inj e
    exact hc i x hx) (fun _ => rdc_block h (by omega) hs)
  exact ⟨a0, c, rfl, h1, h2, h3⟩
/-- All the cells of a row that is read. -/
theorem rdc_cells (h : Foot (rdc dk Ad xs) w F) (hs : 0 < dk.sz) : ∃ cs, Foot (Reps dk xs cs) w F ∧ cs.length = xs.length * dk.sz ∧ (∀ u ∈ cs, u.oneCell' = true) ∧ (0 < xs.length → ∃ a0, Ad = some a0 ∧ ∀ j u, cs[j]? = some u → w.cell? (a0.add j) = some u) := by
  rcases Nat.eq_zero_or_pos xs.length with h0 | h0
  · obtain rfl := List.eq_nil_of_length_eq_zero h0
    exact ⟨[], fun W _ => ⟨by simp, fun j y hj => by simp at hj⟩, by simp, fun u hu => by simp at hu, fun h => absurd h (by simp)⟩
  obtain ⟨a0, rfl, _⟩ := h.now h0
  have key : ∀ m, m ≤ xs.length → ∃ cs, Foot (Reps dk (xs.take m) cs) w F ∧ cs.length = m * dk.sz ∧ (∀ u ∈ cs, u.oneCell' = true) ∧ ∀ j u, cs[j]? = some u → w.cell? (a0.add j) = some u := by
    intro m
    induction m with
    | zero => exact fun _ => ⟨[], fun W _ => ⟨by simp, fun j y hj => by simp at hj⟩, by simp, fun u hu => by simp at hu, fun j u hu => by simp at hu⟩
    | succ m ih =>
      intro hm
      obtain ⟨cs, h1, h2, h3, h4⟩ := ih (by omega)
      have hx : xs[m]? = some xs[m] := List.getElem?_eq_getElem (by omega)
      obtain ⟨a', c, e, g1, g2, g3⟩ := rdc_elt h hs hx
      obtain rfl := Option.some.inj e
      refine ⟨cs ++ c, fun W hW => ?_, by rw [List.length_append, h2, g1, Nat.add_mul, Nat.one_mul], fun u hu => (List.mem_append.1 hu).elim (h3 u) (dk.one g2.now u), fun j u hu => ?_⟩
      · obtain ⟨q1, q2⟩ := h1 W hW
        refine ⟨by rw [List.length_append, h2, g1, List.length_take, show min (m + 1) xs.length = m + 1 by omega, Nat.add_mul, Nat.one_mul], fun j y hy => ?_⟩
        rw [List.getElem?_take] at hy
        split at hy
        · rename_i hj
          rcases Nat.lt_or_ge j m with hjm | hjm
          · have := q2 j y (by rw [List.getElem?_take, if_pos hjm]; exact hy)
            have hle : j * dk.sz + dk.sz ≤ cs.length := by rw [h2, ← Nat.succ_mul]; exact Nat.mul_le_mul_right _ hjm
            rw [List.drop_append_of_le_length (by omega), List.take_append_of_le_length (by rw [List.length_drop]; omega)]
            exact this
          · obtain rfl : j = m := by omega
            rw [hx] at hy
            obtain rfl := Option.some.inj hy
            rw [← h2, List.drop_left, ← g1, List.take_length]
            exact g2 W hW
        · cases hy
      · rcases Nat.lt_or_ge j cs.length with hj | hj
        · rw [List.getElem?_append_left hj] at hu; exact h4 j u hu
        · rw [List.getElem?_append_right hj] at hu
          have := g3 _ u hu
          rwa [show m * dk.sz + (j - cs.length) = j by omega] at this
  obtain ⟨cs, h1, h2, h3, h4⟩ := key xs.length (Nat.le_refl _)
  rw [List.take_length] at h1
  exact ⟨cs, h1, h2, h3, fun _ => ⟨a0, rfl, h4⟩⟩
/-- What the cells of a row of one's own are, element by element. -/
theorem reps_elt {cs : List Value} (h : Foot (Reps dk ys cs) w F) {i : Nat} {y : α} (hy : ys[i]? = some y) : Foot (fk dk y ((cs.drop (i * dk.sz)).take dk.sz)) w F := fun W hW => (h W hW).2 i y hy
theorem reps_set {cs c : List Value} (h : Foot (Reps dk ys cs) w F) {i : Nat} {y : α} (hi : i < ys.length) (hy : Foot (fk dk y c) w F) : Foot (Reps dk (ys.set i y) (putC cs (i * dk.sz) c)) w F := fun W hW => by
  obtain ⟨h1, h2⟩ := h W hW
  have hc := dk.len (hy W hW)
  have hle : i * dk.sz + dk.sz ≤ cs.length := by rw [h1, ← Nat.succ_mul]; exact Nat.mul_le_mul_right _ hi
  refine ⟨by simp only [putC, List.length_append, List.length_take, List.length_drop, List.length_set]; omega, fun j z hz => ?_⟩
  rcases Nat.lt_trichotomy j i with hj | rfl | hj
  · rw [List.getElem?_set_ne (by omega)] at hz
    have := h2 j z hz
    have hle2 : j * dk.sz + dk.sz ≤ i * dk.sz := by rw [← Nat.succ_mul]; exact Nat.mul_le_mul_right _ hj
    have e : ((putC cs (i * dk.sz) c).drop (j * dk.sz)).take dk.sz = (cs.drop (j * dk.sz)).take dk.sz := by
      unfold putC
      rw [List.append_assoc, List.drop_append_of_le_length (by rw [List.length_take]; omega), List.take_append_of_le_length (by rw [List.length_drop, List.length_take]; omega), List.drop_take, List.take_take]
      congr 1; omega
    rw [e]; exact this
  · rw [List.getElem?_set_self hi] at hz
    obtain rfl := Option.some.inj hz
    have e : ((putC cs (j * dk.sz) c).drop (j * dk.sz)).take dk.sz = c := by
      unfold putC
      rw [List.append_assoc]
      have hl : (cs.take (j * dk.sz)).length = j * dk.sz := by rw [List.length_take]; omega
      conv => lhs; rw [show (cs.take (j * dk.sz) ++ (c ++ cs.drop (j * dk.sz + c.length))).drop (j * dk.sz) = c ++ cs.drop (j * dk.sz + c.length) by rw [List.drop_append_of_le_length (by omega), List.drop_of_length_le (by omega), List.nil_append]]
      rw [← hc, List.take_left]
    rw [e]; exact hy W hW
  · rw [List.getElem?_set_ne (by omega)] at hz
    have := h2 j z hz
    have hle2 : i * dk.sz + dk.sz ≤ j * dk.sz := by rw [← Nat.succ_mul]; exact Nat.mul_le_mul_right _ hj
    have e : (putC cs (i * dk.sz) c).drop (j * dk.sz) = cs.drop (j * dk.sz) := by
      unfold putC
      rw [List.drop_append, List.drop_of_length_le (by simp; omega), List.nil_append, List.drop_drop]
      congr 1; simp; omega
    rw [e]; exact this
theorem reps_append {cs cs' : List Value} {zs : List α} (h : Foot (Reps dk ys cs) w F) (h' : Foot (Reps dk zs cs') w F) : Foot (Reps dk (ys ++ zs) (cs ++ cs')) w F := fun W hW => by
  obtain ⟨h1, h2⟩ := h W hW
  obtain ⟨g1, g2⟩ := h' W hW
  refine ⟨by simp only [List.length_append]; rw [h1, g1, Nat.add_mul], fun j z hz => ?_⟩
  rcases Nat.lt_or_ge j ys.length with hj | hj
  · rw [List.getElem?_append_left hj] at hz
    have hle : j * dk.sz + dk.sz ≤ cs.length := by rw [h1, ← Nat.succ_mul]; exact Nat.mul_le_mul_right _ hj
    rw [List.drop_append_of_le_length (by omega), List.take_append_of_le_length (by rw [List.length_drop]; omega)]
    exact h2 j z hz
  · rw [List.getElem?_append_right hj] at hz
    have : ys.length * dk.sz ≤ j * dk.sz := Nat.mul_le_mul_right _ hj
    have e : (cs ++ cs').drop (j * dk.sz) = cs'.drop ((j - ys.length) * dk.sz) := by
      rw [List.drop_append, List.drop_of_length_le (by omega), List.nil_append]
      congr 1; rw [h1, Nat.sub_mul]
    rw [e]; exact g2 _ z hz
theorem reps_take {cs : List Value} (h : Foot (Reps dk ys cs) w F) (m : Nat) (hm : m ≤ ys.length) : Foot (Reps dk (ys.take m) (cs.take (m * dk.sz))) w F := fun W hW => by
  obtain ⟨h1, h2⟩ := h W hW
  have hle : m * dk.sz ≤ cs.length := by rw [h1]; exact Nat.mul_le_mul_right _ hm
  refine ⟨by simp only [List.length_take]; rw [show min m ys.length = m by omega]; omega, fun j z hz => ?_⟩
  rw [List.getElem?_take] at hz
  split at hz
  · rename_i hj
    have hle2 : j * dk.sz + dk.sz ≤ m * dk.sz := by rw [← Nat.succ_mul]; exact Nat.mul_le_mul_right _ hj
    have e : ((cs.take (m * dk.sz)).drop (j * dk.sz)).take dk.sz = (cs.drop (j * dk.sz)).take dk.sz := by
      rw [List.drop_take, List.take_take]; congr 1; omega
    rw [e]; exact h2 j z hz
  · cases hz
theorem own_rdc {cs : List Value} {base : Nat} {e : TypeId} {c : Nat} (ho : w.ownsRow base e dk.sz (.slice Ad ys.length c) ys.length cs) (hr : Reps dk ys cs w) : rdc dk Ad ys w := fun h0 => by
  rcases ho.2 with ⟨hv, hz⟩ | ⟨b, cap, cur, hv, _⟩
  · omega
  · injection hv with ha
    subst ha
    refine ⟨_, rfl, fun i y hy => ⟨_, hr.2 i y hy, fun j u hu => ?_⟩⟩
    refine ho.cells (g := b) rfl _ u ?_
    rw [List.getElem?_take] at hu
    split at hu
    · rw [List.getElem?_drop] at hu; exact hu
    · cases hu
/-- A row of one's own as what is read, for as long as it stays. -/
theorem St.row_rdc (H : St M F0 w0 F B R w) {e : TypeId} {c : Nat} (hm : .row dk e Ad c ys ∈ B) : Foot (rdc dk Ad ys) w (fun k => F k ∨ Ad.map (·.block) = some k) := by
  obtain ⟨cs, h1, h2⟩ := H.box _ hm
  exact fun W hW => own_rdc (own_move h1 (fun k hk => hW k (.inr (own_foot.symm.trans hk)) (own_lt h1 k hk))) (h2 W (fun k hk hlt => hW k (.inl hk) hlt))
theorem St.row_some (H : St M F0 w0 F B R w) {e : TypeId} {c : Nat} (hm : .row dk e Ad c ys ∈ B) (h0 : 0 < ys.length) : ∃ b, Ad = some ⟨b, 0, none⟩ := by
  obtain ⟨cs, h1, h2⟩ := H.box _ hm
  rcases h1.2 with ⟨hv, hz⟩ | ⟨b, cap, cur, hv, _⟩
  · omega
  · injection hv with ha; exact ⟨b, ha⟩
theorem St.row_cap (H : St M F0 w0 F B R w) {e : TypeId} {c : Nat} (hm : .row dk e Ad c ys ∈ B) : Cap ys.length c := by
  obtain ⟨cs, h1, h2⟩ := H.box _ hm
  rcases h1.2 with ⟨hv, hz⟩ | ⟨b, cap, cur, hv, _, _, hnc, _⟩
  · exact ⟨by omega⟩
  · injection hv with _ _ hc; exact ⟨by omega⟩
/-- It is only read from here on. -/
theorem St.freeze_row (H : St M F0 w0 F B R w) {e : TypeId} {c : Nat} (hd : Del B (.row dk e Ad c ys) B') (hM : ∀ k, Ad.map (·.block) = some k → ¬ M k := by exact fun _ _ h => h) :
    Cap ys.length c ∧ ∃ F', (∀ k, F k → F' k) ∧ St M F0 w0 F' B' (rdc dk Ad ys :: R) w :=
  ⟨H.row_cap hd.mem, _, fun k h => .inl h, (H.freeze hd hM).fact (H.row_rdc hd.mem)⟩
/-! An element's place. -/
theorem idx_run (A : Fr n D T a) (hT : TbOk P tb) {t e : TypeId} {x y : Operand} {nn c : Nat} {k : IntKind} {i : Int} {sz by_ sze bye : Nat} {zs zse : List Value} {ke : TK} (ht : tb.lookup t = some ⟨.slice e, sz, by_, zs⟩) (he : tb.lookup e = some ⟨ke, sze, bye, zse⟩)
    (hx : ev T x = some (.slice Ad nn c)) (hy : ev T y = some (.int k i)) (hs : ∃ ad, Ad = some ad) (h0 : 0 ≤ i) (h1 : i < nn) (w : World) : (execOp a.eval ⟨some d, .indexAddr t x y, ty, pos, aft, g⟩).run P w = .ok (.value (eAt Ad i.toNat sze 0)) w := by
  obtain ⟨ad, rfl⟩ := hs
  obtain ⟨dd, hdd, _, hk⟩ := (hT _ _ ht).run_und w
  cases dd <;> simp only [tk] at hk <;> try cases hk
  have hes := (hT _ _ he).run_size w
  unfold execOp
  simp [Instr.indexAt, asIntOf, hdd, A.ev hx, A.ev hy, h0, h1, hes, eAt]
theorem sx_idx (H : St M F0 w0 F B R w) (A : Fr n D T a) (hT : TbOk P tb) (hw : wantedT T l g = some true) {t e : TypeId} {x y : Operand} {nn : Nat} {c : Nat} {k : IntKind} {i : Int} {m sz by_ sze bye : Nat} {zs zse : List Value} {ke : TK} (ht : tb.lookup t = some ⟨.slice e, sz, by_, zs⟩) (he : tb.lookup e = some ⟨ke, sze, bye, zse⟩)
    (hx : ev T x = some (.slice Ad nn c)) (hy : ev T y = some (.int k i)) (hd : Nat.blt d n = true)
    (K : ∀ a', Fr n D ((d, eAt Ad m sze 0) :: T) a' → wpList P l.toArray Q rest a' w)
    (hm : rdc dk Ad xs ∈ R := by (repeat (first | with_reducible exact List.mem_cons_self | apply List.mem_cons_of_mem))) (hi : i.toNat = m := by first | with_reducible exact Int.toNat_natCast _ | exact rfl) (h0 : 0 ≤ i := by omega) (h1 : i < xs.length := by omega) (hn : nn = xs.length := by first | rfl | assumption | omega | (simp only [List.length_append, List.length_cons, List.length_nil, List.length_set, List.length_replicate, List.length_take, List.length_drop, List.length_map]; omega)) : wpList P l.toArray Q (⟨some d, .indexAddr t x y, ty, pos, aft, g⟩ :: rest) a w := by
  subst hn
  subst hi
  exact list_run A hw (idx_run A hT ht he hx hy (by obtain ⟨ad, h, _⟩ := (H.get hm).now (by omega); exact ⟨ad, h⟩) h0 h1 w) (K _ (A.put (blt_lt hd) _))
theorem sx_oidx (H : St M F0 w0 F B R w) (A : Fr n D T a) (hT : TbOk P tb) (hw : wantedT T l g = some true) {t e e' : TypeId} {x y : Operand} {nn : Nat} {c : Nat} {k : IntKind} {i : Int} {m sz by_ sze bye : Nat} {zs zse : List Value} {ke : TK} (ht : tb.lookup t = some ⟨.slice e, sz, by_, zs⟩) (he : tb.lookup e = some ⟨ke, sze, bye, zse⟩)
    (hx : ev T x = some (.slice Ad nn c)) (hy : ev T y = some (.int k i)) (hd : Nat.blt d n = true)
    (K : ∀ a', Fr n D ((d, eAt Ad m sze 0) :: T) a' → wpList P l.toArray Q rest a' w)
    (hm : .row dk e' Ad c ys ∈ B := by (repeat (first | with_reducible exact List.mem_cons_self | apply List.mem_cons_of_mem))) (hi : i.toNat = m := by first | with_reducible exact Int.toNat_natCast _ | exact rfl) (h0 : 0 ≤ i := by omega) (h1 : i < ys.length := by first | omega | (simp only [List.length_append, List.length_cons, List.length_nil, List.length_set, List.length_replicate]; omega)) (hn : nn = ys.length := by first | rfl | assumption | omega | (simp only [List.length_append, List.length_cons, List.length_nil, List.length_set, List.length_replicate, List.length_take, List.length_drop, List.length_map]; omega)) : wpList P l.toArray Q (⟨some d, .indexAddr t x y, ty, pos, aft, g⟩ :: rest) a w := by
  subst hn
  subst hi
  exact list_run A hw (idx_run A hT ht he hx hy (by obtain ⟨b, h⟩ := H.row_some hm (by omega); exact ⟨_, h⟩) h0 h1 w) (K _ (A.put (blt_lt hd) _))
theorem sx_efield (A : Fr n D T a) (hT : TbOk P tb) (hw : wantedT T l g = some true) {s u : TypeId} {x : Operand} {f i sz o off sz1 by1 szu byu : Nat} {fs : List (TypeId × Nat)} {zs zsu : List Value} {ku : TK} (hs : tb.lookup s = some ⟨.struct fs, sz1, by1, zs⟩) (hf : fs[f]? = some (u, off)) (hu : tb.lookup u = some ⟨ku, szu + 1, byu, zsu⟩)
    (hx : ev T x = some (eAt Ad i sz o)) (hA : ∃ ad, Ad = some ad) (hd : Nat.blt d n = true) (K : ∀ a', Fr n D ((d, eAt Ad i sz (o + off)) :: T) a' → wpList P l.toArray Q rest a' w) : wpList P l.toArray Q (⟨some d, .fieldAddr s x f, ty, pos, aft, g⟩ :: rest) a w := by
  obtain ⟨ad, rfl⟩ := hA
  refine list_run A hw (v := eAt (some ad) i sz (o + off)) (w' := w) ?_ (K _ (A.put (blt_lt hd) _))
  obtain ⟨dd, hdd, _, hk⟩ := (hT _ _ hs).run_und w
  have hsz := (hT _ _ hu).run_size w
  cases dd <;> simp only [tk] at hk <;> try cases hk
  rename_i fa _u
  have hf' : ∃ fl : Field, fa[f]? = some fl ∧ fl.type = u ∧ fl.offset = off := by
    rw [List.getElem?_map] at hf
    cases hq : fa.toList[f]? with
    | none => rw [hq] at hf; cases hf
    | some fl => rw [hq] at hf; simp at hf; exact ⟨fl, by simpa using hq, hf.1, hf.2⟩
  obtain ⟨fl, hfl, rfl, rfl⟩ := hf'
  have he : (ad.add (i * sz + o)).add fl.offset = ad.add (i * sz + (o + fl.offset)) := by rw [Addr.add_add]; congr 1; omega
  unfold execOp
  simp [Instr.fieldAt, Sem.run_bind, hdd, hfl, A.ev hx, Instr.sureAddr, fieldPlace, hsz, eAt, he]
/-! An element, loaded. -/
theorem load_cells {p : Addr} {c : List Value} {i : TyI} (hc : ∀ j u, c[j]? = some u → w.cell? (p.add j) = some u) {t : TypeId} (hi : TyOk P t i) {o : Nat} {v : Value} (hv : loadC i c o = some v) : (loadVar t (p.add o)).run P w = .ok v w := by
  unfold loadC at hv
  have hr1 := hi.run_agg w
  have hr2 := hi.run_size w
  cases hk : i.kind.row with
  | true =>
    rw [hk] at hv hr1
    cases hb : Nat.ble (o + i.size) c.length with
    | true =>
      simp only [hb, cond_true] at hv
      have hle := Nat.le_of_ble_eq_true hb
      have h1 : (loadCells (p.add o) ((c.drop o).take i.size).length).run P w = .ok ((c.drop o).take i.size).toArray w :=
        run_loadCells_list (P := P) w (p.add o) _ (fun j u hu => by
          rw [Addr.add_add]
          rw [List.getElem?_take] at hu
          split at hu
          · exact hc _ _ (by simpa using hu)
          · cases hu)
      have h2 : ((c.drop o).take i.size).length = i.size := by simp; omega
      rw [h2] at h1
      rw [← Option.some.inj hv]
      simp [loadVar, Sem.run_bind, hr1, hr2, h1]
    | false => simp [hb] at hv
  | false =>
    rw [hk] at hv hr1
    have := hc o v hv
    simp [loadVar, Sem.run_bind, hr1, load, Sem.run, this]
theorem eload_run (A : Fr n D T a) (hT : TbOk P tb) (hr : Foot (rdc dk Ad xs) w F) {t : TypeId} {y : Operand} {m sz o : Nat} {i : TyI} (hy : ev T y = some (eAt Ad m sz o)) (hi : tb.lookup t = some i) (hs : dk.sz = sz) (h0 : Nat.blt 0 sz = true) {x : α} (hx : xs[m]? = some x) :
    ∃ c, c.length = dk.sz ∧ Foot (fk dk x c) w F ∧ ∀ v, loadC i c o = some v → (execOp a.eval ⟨some d, .load t y, ty, pos, aft, g⟩).run P w = .ok (.value v) w := by
  obtain ⟨a0, c, rfl, h1, h2, h3⟩ := rdc_elt hr (by rw [hs]; exact blt_lt h0) hx
  refine ⟨c, h1, h2, fun v hv => ?_⟩
  subst hs
  have hl := load_cells (P := P) (w := w) (p := a0.add (m * dk.sz)) (c := c) (fun j u hu => by rw [Addr.add_add]; exact h3 j u hu) (hT _ _ hi) hv
  rw [Addr.add_add] at hl
  unfold execOp
  simp [Instr.loadAt, Instr.sureAddr, A.ev hy, eAt, hl]
theorem sx_eload (H : St M F0 w0 F B R w) (A : Fr n D T a) (hT : TbOk P tb) (hw : wantedT T l g = some true) {t : TypeId} {y : Operand} {m sz o : Nat} {x : α} {i : TyI} (hy : ev T y = some (eAt Ad m sz o)) (hi : tb.lookup t = some i) (hd : Nat.blt d n = true) (h0 : Nat.blt 0 sz = true)
    (K : ∀ c, c.length = dk.sz → Foot (fk dk x c) w F → ∃ v, loadC i c o = some v ∧ ∀ a', Fr n D ((d, v) :: T) a' → wpList P l.toArray Q rest a' w)
    (hm : rdc dk Ad xs ∈ R := by (repeat (first | with_reducible exact List.mem_cons_self | apply List.mem_cons_of_mem))) (hs : dk.sz = sz := by rfl) (hx : xs[m]? = some x := by first | assumption | exact List.getElem?_eq_getElem (by omega)) : wpList P l.toArray Q (⟨some d, .load t y, ty, pos, aft, g⟩ :: rest) a w := by
  obtain ⟨c, h1, h2, h3⟩ := eload_run (d := d) (ty := ty) (pos := pos) (aft := aft) (g := g) A hT (H.get hm) hy hi hs h0 hx
  obtain ⟨v, hv, k⟩ := K c h1 h2
  exact list_run A hw (h3 v hv) (k _ (A.put (blt_lt hd) _))
theorem sx_oload (H : St M F0 w0 F B R w) (A : Fr n D T a) (hT : TbOk P tb) (hw : wantedT T l g = some true) {t e : TypeId} {y : Operand} {m sz o c0 : Nat} {x : α} {i : TyI} (hy : ev T y = some (eAt Ad m sz o)) (hi : tb.lookup t = some i) (hd : Nat.blt d n = true) (h0 : Nat.blt 0 sz = true)
    (K : ∀ c, c.length = dk.sz → Foot (fk dk x c) w F → ∃ v, loadC i c o = some v ∧ ∀ a', Fr n D ((d, v) :: T) a' → wpList P l.toArray Q rest a' w)
    (hm : .row dk e Ad c0 xs ∈ B := by (repeat (first | with_reducible exact List.mem_cons_self | apply List.mem_cons_of_mem))) (hs : dk.sz = sz := by rfl) (hx : xs[m]? = some x := by first | assumption | exact List.getElem?_eq_getElem (by omega)) : wpList P l.toArray Q (⟨some d, .load t y, ty, pos, aft, g⟩ :: rest) a w := by
  obtain ⟨cs, g1, g2⟩ := H.box _ hm
  have hlt : m < xs.length := (List.getElem?_eq_some_iff.1 hx).1
  have hsz : 0 < dk.sz := by rw [hs]; exact blt_lt h0
  obtain ⟨b, rfl⟩ := H.row_some hm (by omega)
  have hf := reps_elt g2 hx
  obtain ⟨v, hv, k⟩ := K _ (dk.len hf.now) hf
  refine list_run A hw (v := v) (w' := w) ?_ (k _ (A.put (blt_lt hd) _))
  subst hs
  have hl := load_cells (P := P) (w := w) (p := Addr.add ⟨b, 0, none⟩ (m * dk.sz)) (c := (cs.drop (m * dk.sz)).take dk.sz) (fun j u hu => by
    rw [Addr.add_add]
    refine g1.cells (g := b) rfl _ u ?_
    rw [List.getElem?_take] at hu
    split at hu
    · rw [List.getElem?_drop] at hu; exact hu
    · cases hu) (hT _ _ hi) hv
  rw [Addr.add_add] at hl
  unfold execOp
  simp [Instr.loadAt, Instr.sureAddr, A.ev hy, eAt, hl]
end
section
variable {P : Program} {l : List Oper} {a : Act} {rest : List Oper} {Q : Exit → Act → World → Prop} {w : World} {n : Nat} {D : List Deferred} {T : Tm} {tb : Tb}
variable {d : Nat} {op : Op} {ty : TypeId} {pos : String} {aft : Array Edge} {g : Option (Nat × Bool)}
variable {M F0 F : Nat → Prop} {w0 : World} {B B' : List Box} {R : List (World → Prop)} {Ad : Option Addr}
theorem sx_eloadS (H : St M F0 w0 F B R w) (A : Fr n D T a) (hT : TbOk P tb) (hw : wantedT T l g = some true) {t : TypeId} {y : Operand} {m : Nat} {xs : List ByteArray} {x : ByteArray} {i : TyI} (hy : ev T y = some (eAt Ad m 1 0)) (hi : tb.lookup t = some i) (hr : i.kind.row = false) (hd : Nat.blt d n = true)
    (K : ∀ a', Fr n D ((d, .string x) :: T) a' → wpList P l.toArray Q rest a' w)
    (hm : rdc Kd.string Ad xs ∈ R := by (repeat (first | with_reducible exact List.mem_cons_self | apply List.mem_cons_of_mem))) (hx : xs[m]? = some x := by first | assumption | exact List.getElem?_eq_getElem (by omega)) : wpList P l.toArray Q (⟨some d, .load t y, ty, pos, aft, g⟩ :: rest) a w :=
  sx_eload H A hT hw hy hi hd rfl (fun c _ hf => ⟨.string x, by obtain rfl := fk_scalar hf; unfold loadC; rw [hr]; rfl, K⟩) hm rfl hx
theorem sx_oloadS (H : St M F0 w0 F B R w) (A : Fr n D T a) (hT : TbOk P tb) (hw : wantedT T l g = some true) {t : TypeId} {y : Operand} {m : Nat} {e : TypeId} {c0 : Nat} {xs : List ByteArray} {x : ByteArray} {i : TyI} (hy : ev T y = some (eAt Ad m 1 0)) (hi : tb.lookup t = some i) (hr : i.kind.row = false) (hd : Nat.blt d n = true)
    (K : ∀ a', Fr n D ((d, .string x) :: T) a' → wpList P l.toArray Q rest a' w)
    (hm : .row Kd.string e Ad c0 xs ∈ B := by (repeat (first | with_reducible exact List.mem_cons_self | apply List.mem_cons_of_mem))) (hx : xs[m]? = some x := by first | assumption | exact List.getElem?_eq_getElem (by omega)) : wpList P l.toArray Q (⟨some d, .load t y, ty, pos, aft, g⟩ :: rest) a w :=
  sx_oload H A hT hw hy hi hd rfl (fun c _ hf => ⟨.string x, by obtain rfl := fk_scalar hf; unfold loadC; rw [hr]; rfl, K⟩) hm rfl hx
theorem sx_eloadB (H : St M F0 w0 F B R w) (A : Fr n D T a) (hT : TbOk P tb) (hw : wantedT T l g = some true) {t : TypeId} {y : Operand} {m : Nat} {xs : List Bool} {x : Bool} {i : TyI} (hy : ev T y = some (eAt Ad m 1 0)) (hi : tb.lookup t = some i) (hr : i.kind.row = false) (hd : Nat.blt d n = true)
    (K : ∀ a', Fr n D ((d, .bool x) :: T) a' → wpList P l.toArray Q rest a' w)
    (hm : rdc Kd.bool Ad xs ∈ R := by (repeat (first | with_reducible exact List.mem_cons_self | apply List.mem_cons_of_mem))) (hx : xs[m]? = some x := by first | assumption | exact List.getElem?_eq_getElem (by omega)) : wpList P l.toArray Q (⟨some d, .load t y, ty, pos, aft, g⟩ :: rest) a w :=
  sx_eload H A hT hw hy hi hd rfl (fun c _ hf => ⟨.bool x, by obtain rfl := fk_scalar hf; unfold loadC; rw [hr]; rfl, K⟩) hm rfl hx
theorem sx_oloadB (H : St M F0 w0 F B R w) (A : Fr n D T a) (hT : TbOk P tb) (hw : wantedT T l g = some true) {t : TypeId} {y : Operand} {m : Nat} {e : TypeId} {c0 : Nat} {xs : List Bool} {x : Bool} {i : TyI} (hy : ev T y = some (eAt Ad m 1 0)) (hi : tb.lookup t = some i) (hr : i.kind.row = false) (hd : Nat.blt d n = true)
    (K : ∀ a', Fr n D ((d, .bool x) :: T) a' → wpList P l.toArray Q rest a' w)
    (hm : .row Kd.bool e Ad c0 xs ∈ B := by (repeat (first | with_reducible exact List.mem_cons_self | apply List.mem_cons_of_mem))) (hx : xs[m]? = some x := by first | assumption | exact List.getElem?_eq_getElem (by omega)) : wpList P l.toArray Q (⟨some d, .load t y, ty, pos, aft, g⟩ :: rest) a w :=
  sx_oload H A hT hw hy hi hd rfl (fun c _ hf => ⟨.bool x, by obtain rfl := fk_scalar hf; unfold loadC; rw [hr]; rfl, K⟩) hm rfl hx
theorem sx_eloadI (H : St M F0 w0 F B R w) (A : Fr n D T a) (hT : TbOk P tb) (hw : wantedT T l g = some true) {t : TypeId} {y : Operand} {m : Nat} {kk : IntKind} {xs : List Int} {x : Int} {i : TyI} (hy : ev T y = some (eAt Ad m 1 0)) (hi : tb.lookup t = some i) (hr : i.kind.row = false) (hd : Nat.blt d n = true)
    (K : ∀ a', Fr n D ((d, .int kk x) :: T) a' → wpList P l.toArray Q rest a' w)
    (hm : rdc (Kd.int kk) Ad xs ∈ R := by (repeat (first | with_reducible exact List.mem_cons_self | apply List.mem_cons_of_mem))) (hx : xs[m]? = some x := by first | assumption | exact List.getElem?_eq_getElem (by omega)) : wpList P l.toArray Q (⟨some d, .load t y, ty, pos, aft, g⟩ :: rest) a w :=
  sx_eload H A hT hw hy hi hd rfl (fun c _ hf => ⟨.int kk x, by obtain rfl := fk_scalar hf; unfold loadC; rw [hr]; rfl, K⟩) hm rfl hx
theorem sx_oloadI (H : St M F0 w0 F B R w) (A : Fr n D T a) (hT : TbOk P tb) (hw : wantedT T l g = some true) {t : TypeId} {y : Operand} {m : Nat} {e : TypeId} {c0 : Nat} {kk : IntKind} {xs : List Int} {x : Int} {i : TyI} (hy : ev T y = some (eAt Ad m 1 0)) (hi : tb.lookup t = some i) (hr : i.kind.row = false) (hd : Nat.blt d n = true)
    (K : ∀ a', Fr n D ((d, .int kk x) :: T) a' → wpList P l.toArray Q rest a' w)
    (hm : .row (Kd.int kk) e Ad c0 xs ∈ B := by (repeat (first | with_reducible exact List.mem_cons_self | apply List.mem_cons_of_mem))) (hx : xs[m]? = some x := by first | assumption | exact List.getElem?_eq_getElem (by omega)) : wpList P l.toArray Q (⟨some d, .load t y, ty, pos, aft, g⟩ :: rest) a w :=
  sx_oload H A hT hw hy hi hd rfl (fun c _ hf => ⟨.int kk x, by obtain rfl := fk_scalar hf; unfold loadC; rw [hr]; rfl, K⟩) hm rfl hx
end
end Go.Proofs.YtniplmjbligmlaaDoor.V

/-! The walk's laws for rows of one's own: stored to, made, written out, appended to, cut; texts and rows of bytes. -/
namespace Go.Proofs.YtniplmjbligmlaaDoor.V
open Go.RowKit
set_option linter.unusedVariables false
set_option linter.unusedSimpArgs false
theorem made_flat (zs : List Value) (sz : Nat) (hz : zs.length = sz) (h0 : 0 < sz) (k : Nat) : (madeCells zs.toArray (k * sz)).toList = (List.replicate k zs).flatten := by
  apply List.ext_getElem?
  intro j
  have e1 : ∀ (k j : Nat), ((List.replicate k zs).flatten)[j]? = if j < k * sz then zs[j % sz]? else none := by
    intro k
    induction k with
    | zero => intro j; simp
    | succ k ih =>
      intro j
      rw [List.replicate_succ, List.flatten_cons, List.getElem?_append]
      have e2 : (k + 1) * sz = sz + k * sz := by rw [Nat.add_mul, Nat.one_mul]; omega
      by_cases hj : j < sz
      · rw [if_pos (by omega), if_pos (by omega), Nat.mod_eq_of_lt hj]
      · rw [if_neg (by omega), ih, hz]
        have e3 : (j - sz) % sz = j % sz := (Nat.mod_eq_sub_mod (by omega)).symm
        by_cases h2 : j - sz < k * sz
        · rw [if_pos h2, if_pos (by omega), e3]
        · rw [if_neg h2, if_neg (by omega)]
  rw [e1]
  by_cases hj : j < k * sz
  · rw [if_pos hj]
    have hm : j % sz < zs.length := by rw [hz]; exact Nat.mod_lt _ h0
    simp [madeCells, hj, hz]
    rw [List.getElem?_eq_getElem hm]
    rfl
  · rw [if_neg hj]
    simp [madeCells, Nat.le_of_not_lt hj]
theorem own_row_mk {w : World} {b : Nat} {e : TypeId} {cs : List Value} {sz n c : Nat} (h : w.heap[b]? = some (.cells cs.toArray e (0, 0))) (hl : cs.length = c * sz) (hn : n ≤ c) (hc : c ≤ maxLen) : w.ownsRow 0 e sz (.slice (some ⟨b, 0, none⟩) n c) n (cs.take (n * sz)) := by
  refine ⟨?_, .inr ⟨b, c, _, rfl, Nat.zero_le _, h, hn, hc, by simpa using hl, by simp⟩⟩
  rw [List.length_take, hl]
  have := Nat.mul_le_mul_right sz hn
  omega
theorem put_take (cs vs : List Value) (o k : Nat) (h1 : o + vs.length ≤ k) (h2 : k ≤ cs.length) : (putC cs o vs).take k = putC (cs.take k) o vs := by
  unfold putC
  apply List.ext_getElem?
  intro j
  simp only [List.getElem?_take, List.getElem?_append, List.length_append, List.length_take, List.getElem?_drop]
  have e1 : min o cs.length = o := by omega
  have e2 : min k cs.length = k := by omega
  rw [e1, e2, show min o k = o by omega]
  by_cases hj : j < k
  · rw [if_pos hj]
    by_cases h3 : j < o + vs.length
    · rw [if_pos h3, if_pos h3]
      by_cases h4 : j < o
      · simp [h4, hj]
      · simp [h4]
    · rw [if_neg h3, if_neg h3, if_pos (by omega)]
  · rw [if_neg hj, if_neg (by omega), if_neg (by omega)]
/-- The values vs stand for ys, one by one. -/
inductive Els {α : Type} (d : Kd α) (w : World) (F : Nat → Prop) : List Value → List α → Prop where
  | nil : Els d w F [] []
  | cons {v : Value} {y : α} {vs : List Value} {ys : List α} (h : Foot (fk d y v.cells.toList) w F) (k : Els d w F vs ys) : Els d w F (v :: vs) (y :: ys)
section
variable {P : Program} {l : List Oper} {a : Act} {rest : List Oper} {Q : Exit → Act → World → Prop} {w : World} {n : Nat} {D : List Deferred} {T : Tm} {tb : Tb}
variable {d : Nat} {op : Op} {ty : TypeId} {pos : String} {aft : Array Edge} {g : Option (Nat × Bool)}
variable {M F0 F : Nat → Prop} {w0 : World} {B B' : List Box} {R : List (World → Prop)}
variable {α : Type} {dk : Kd α} {Ad : Option Addr} {xs ys : List α}
theorem TyOk.facts {t : TypeId} {i : TyI} (h : TyOk P t i) : ∃ inf, P.info? t = some inf ∧ inf.size = i.size ∧ inf.bytes = i.bytes ∧ inf.zero = some i.zv ∧ i.zv.cells.size = i.size := by
  obtain ⟨inf, h1, h2, h3, h4⟩ := h.inf
  exact ⟨inf, h1, h2, h3, h4, by rw [h.zc]; simpa using h.zl⟩
theorem TyOk.slice {t e : TypeId} {sz by_ : Nat} {zs : List Value} (h : TyOk P t ⟨.slice e, sz, by_, zs⟩) : P.underlying t = some (.slice e) := by
  obtain ⟨d, hd, hk⟩ := h.und
  cases d <;> simp only [tk] at hk <;> try cases hk
  exact hd
theorem TyOk.string {t : TypeId} {sz by_ : Nat} {zs : List Value} (h : TyOk P t ⟨.string, sz, by_, zs⟩) : P.underlying t = some .string := by
  obtain ⟨d, hd, hk⟩ := h.und
  cases d <;> simp only [tk] at hk <;> try cases hk
  exact hd
/-- An element of a row of one's own, stored. -/
theorem sx_ostore (H : St M F0 w0 F B R w) (A : Fr n D T a) (hT : TbOk P tb) (hw : wantedT T l g = some true) {t e : TypeId} {x y : Operand} {m sz c0 : Nat} {v : Value} {z : α} {ti : TyI} (hx : ev T x = some (eAt Ad m sz 0)) (hy : ev T y = some v)
    (hi : tb.lookup t = some ti) (k : ∀ w', St M F0 w0 F B' R w' → wpList P l.toArray Q rest a w') (hK : Foot (fk dk z v.cells.toList) w F) (hu : Upd B (.row dk e Ad c0 ys) (.row dk e Ad c0 (ys.set m z)) B' := by (repeat (first | with_reducible exact Upd.hd | apply Upd.tl)))
    (hs : dk.sz = sz := by rfl) (hs' : ti.size = sz := by rfl) (hl : m < ys.length := by first | omega | (simp only [List.length_append, List.length_cons, List.length_nil, List.length_set, List.length_replicate]; omega)) : wpList P l.toArray Q (⟨none, .store t x y, ty, pos, aft, g⟩ :: rest) a w := by
  subst hs
  obtain ⟨b, rfl⟩ := H.row_some hu.mem (by omega)
  obtain ⟨cs, g1, g2⟩ := H.box _ hu.mem
  rcases g1.2 with ⟨hv, _⟩ | ⟨g', cap, cur, hv, _, hg, hnc, hcm, hcs, htake⟩
  · cases hv
  injection hv with ha _ hcap
  injection ha with ha
  injection ha with ha
  subst ha; subst hcap
  have hvl : v.cells.toList.length = dk.sz := dk.len hK.now
  have hvs : v.cells.size = dk.sz := by simpa using hvl
  have h1 := dk.one hK.now
  have hle : m * dk.sz + dk.sz ≤ ys.length * dk.sz := by rw [← Nat.succ_mul]; exact Nat.mul_le_mul_right _ hl
  have hmc : ys.length * dk.sz ≤ c0 * dk.sz := Nat.mul_le_mul_right _ hnc
  have hr := run_storeCells_at P b (m * dk.sz) e v.cells.toList 0 cur w hg (by omega) h1
  refine list_run_skip A hw (w' := w.setRow b (cur.toList.take (m * dk.sz + 0) ++ v.cells.toList ++ cur.toList.drop (m * dk.sz + 0 + v.cells.toList.length)).toArray) ?_ (k _ (H.turn hu rfl rfl rfl (by simp [World.setRow]) (fun k _ hk => ?_) ?_ (fun _ h => .inl h)))
  · have hz := (hT _ _ hi).run_size w
    have hs2 : v.cells.size = ti.size := by rw [hs', ← hvl]; simp
    unfold execOp
    have ea : (Addr.add ⟨b, 0, none⟩ (m * dk.sz + 0)) = ⟨b, m * dk.sz, none⟩ := by rw [add_spot]; simp
    simp only [A.ev hx, A.ev hy, eAt, Option.map_some, Instr.storeAt, Instr.sureAddr, storeVar, hz, hs2, Sem.run_bind, Sem.run_pure, Result.andThen_ok, ne_eq, not_true_eq_false, if_false, ea, hr]
  · have hne : k ≠ b := fun e => hk (by subst e; rfl)
    simp only [World.setRow, Array.getElem?_modify]
    rw [if_neg (Ne.symm hne)]
  · have hh : (w.setRow b (cur.toList.take (m * dk.sz + 0) ++ v.cells.toList ++ cur.toList.drop (m * dk.sz + 0 + v.cells.toList.length)).toArray).heap[b]? = some (.cells (putC cur.toList (m * dk.sz) v.cells.toList).toArray e (0, 0)) := by
      rw [setRow_heap w b _ _ e _ hg]; simp [putC]
    have hcl : (putC cur.toList (m * dk.sz) v.cells.toList).length = c0 * dk.sz := by
      rw [← hcs]; simp only [putC, List.length_append, List.length_take, List.length_drop, Array.length_toList]; omega
    refine ⟨putC cs (m * dk.sz) v.cells.toList, ?_, (reps_set g2 hl hK).step (fun k hk _ => ?_)⟩
    · have := own_row_mk (n := ys.length) hh hcl hnc hcm
      rw [put_take _ _ _ _ (by rw [hvl]; exact hle) (by have : cur.toList.length = cur.size := Array.length_toList; omega), htake] at this
      rw [List.length_set]; exact this
    · have hne : k ≠ b := fun e => H.nf _ hu.mem k (by subst e; rfl) hk
      simp only [World.setRow, Array.getElem?_modify]
      rw [if_neg (Ne.symm hne)]
/-! A row, made. -/
theorem sx_make (H : St M F0 w0 F B R w) (A : Fr n D T a) (hT : TbOk P tb) (hw : wantedT T l g = some true) {t e : TypeId} {x y : Operand} {kl kc : IntKind} {m : Int} {m' sz by_ sze bye : Nat} {zs zse : List Value} {ke : TK} (ht : tb.lookup t = some ⟨.slice e, sz, by_, zs⟩) (he : tb.lookup e = some ⟨ke, sze, bye, zse⟩)
    (hx : ev T x = some (.int kl m)) (hy : ev T y = some (.int kc m)) (hd : Nat.blt d n = true) (z : α) (hz : ∀ W, dk.K W z zse) (h00 : Nat.blt 0 sze = true)
    (k : ∀ b a' w', Fr n D ((d, .slice (some ⟨b, 0, none⟩) (List.replicate m' z).length m') :: T) a' → St M F0 w0 F (.row dk e (some ⟨b, 0, none⟩) m' (List.replicate m' z) :: B) R w' → wpList P l.toArray Q rest a' w')
    (hs : dk.sz = sze := by rfl) (hm' : m.toNat = m' := by first | with_reducible exact Int.toNat_natCast _ | exact rfl) (h0 : 0 ≤ m := by omega) (hb : (bye : Int) * m ≤ 140737488355328 := by omega) (hm : m ≤ 140737488355328 := by omega) : wpList P l.toArray Q (⟨some d, .makeSlice t x y, ty, pos, aft, g⟩ :: rest) a w := by
  subst hm'; subst hs
  obtain ⟨inf, h1, h2, h3, h4, h5⟩ := (hT _ _ he).facts
  have hr := run_make (P := P) w t e inf _ (hT _ _ ht).slice h1 h4 kl kc m m h0 (Int.le_refl _) (by rw [h3]; simp only; omega) (by omega)
  have hzl : zse.length = dk.sz := (hT _ _ he).zl
  have hzc : (TyI.zv ⟨ke, dk.sz, bye, zse⟩).cells = zse.toArray := (hT _ _ he).zc
  obtain ⟨o, ho⟩ : ∃ o, Obj.cells (madeCells (TyI.zv ⟨ke, dk.sz, bye, zse⟩).cells (m.toNat * inf.size)) e (0, 0) = o := ⟨_, rfl⟩
  rw [ho] at hr
  have hh : (w.alloc o).heap[w.heap.size]? = some (.cells ((List.replicate m.toNat zse).flatten).toArray e (0, 0)) := by
    rw [blk_new, ← ho, h2, hzc]
    show some (Obj.cells (madeCells zse.toArray (m.toNat * dk.sz)) e (0, 0)) = _
    rw [← made_flat zse dk.sz hzl (blt_lt h00)]
  have hlen : ((List.replicate m.toNat zse).flatten).length = m.toNat * dk.sz := by simp [hzl]
  have hown := own_row_mk (n := m.toNat) hh hlen (Nat.le_refl _) (by simp only [maxLen]; omega)
  rw [List.take_of_length_le (by omega)] at hown
  refine list_run A hw (v := .slice (some ⟨w.heap.size, 0, none⟩) m.toNat m.toNat) (w' := w.alloc o) ?_ (k w.heap.size _ (w.alloc o) (by have := A.put (blt_lt hd) (.slice (some ⟨w.heap.size, 0, none⟩) m.toNat m.toNat); rw [List.length_replicate]; exact this) (H.grow (w' := w.alloc o) (x := .row dk e (some ⟨w.heap.size, 0, none⟩) m.toNat (List.replicate m.toNat z)) rfl rfl rfl (by rw [World.size_alloc]; omega) (fun k hk => Below.heap_alloc w _ k hk) ⟨_, by rw [List.length_replicate]; exact hown, fun W hW => ⟨by rw [List.length_replicate]; exact hlen, fun j y hy => ?_⟩⟩ (fun k e => Nat.le_of_eq (Option.some.inj e))))
  · unfold execOp
    simp [A.ev hx, A.ev hy, hr]
  · rw [List.getElem?_replicate] at hy
    split at hy
    · rename_i hj
      obtain rfl := Option.some.inj hy
      have e : (((List.replicate m.toNat zse).flatten).drop (j * dk.sz)).take dk.sz = zse := by
        obtain ⟨q, hq⟩ : ∃ q, m.toNat = j + (q + 1) := ⟨m.toNat - j - 1, by omega⟩
        rw [hq, ← List.replicate_append_replicate, List.flatten_append, List.drop_append, List.drop_of_length_le (by simp [hzl]), List.nil_append, List.replicate_succ, List.flatten_cons]
        have : j * dk.sz - ((List.replicate j zse).flatten).length = 0 := by simp [hzl]
        rw [this, List.drop_zero, ← hzl, List.take_left]
      rw [e]; exact hz W
    · cases hy
/-! A row, written out. -/
theorem els_cells {vs : List Value} {ys : List α} (h : Els dk w F vs ys) : vs.length = ys.length ∧ Foot (Reps dk ys (vs.flatMap (·.cells.toList))) w F ∧ ∀ v ∈ vs, v.cells.toList.length = dk.sz := by
  induction h with
  | nil => exact ⟨rfl, fun W _ => ⟨by simp, fun j y hj => by simp at hj⟩, fun v hv => by simp at hv⟩
  | @cons v y vs ys h k ih =>
    obtain ⟨h1, h2, h3⟩ := ih
    refine ⟨by simp [h1], ?_, fun u hu => (List.mem_cons.1 hu).elim (fun e => by rw [e]; exact dk.len h.now) (h3 u)⟩
    have hy : Foot (Reps dk [y] v.cells.toList) w F := fun W hW => ⟨by simp [dk.len (h W hW)], fun j z hz => by
      cases j with
      | zero => simp at hz; subst hz; simp; rw [show List.take dk.sz v.cells.toList = v.cells.toList from List.take_of_length_le (by rw [dk.len (h W hW)]; omega)]; exact h W hW
      | succ j => simp at hz⟩
    have := reps_append hy h2
    simpa using this
theorem fill_all (sz : Nat) : ∀ (vs : List Value) (k : Nat) (pre tl : List Value), (∀ v ∈ vs, v.cells.toList.length = sz) → pre.length = k * sz → tl.length = vs.length * sz →
    Instr.fill (fun i => some (i * sz, sz)) (pre ++ tl).toArray ((List.range' k vs.length).zip vs) = some (pre ++ vs.flatMap (·.cells.toList)).toArray
  | [], k, pre, tl, _, _, h => by
    have : tl = [] := List.eq_nil_of_length_eq_zero (by simpa using h)
    subst this
    simp [Instr.fill.eq_1]
  | v :: vs, k, pre, tl, hv, hp, ht => by
    have hvl : v.cells.toList.length = sz := hv v List.mem_cons_self
    have hvs : v.cells.size = sz := by simpa using hvl
    simp only [List.length_cons, Nat.add_mul, Nat.one_mul] at ht
    rw [List.length_cons, List.range'_succ, List.zip_cons_cons, Instr.fill.eq_2]
    simp only
    rw [if_neg (by simp [hvs]; omega)]
    have hf : Array.foldl (fun (cs : Array Value) (x : Value × Nat) => match x with | (c, j) => cs.setIfInBounds (k * sz + j) c) (pre ++ tl).toArray v.cells.zipIdx = (pre ++ v.cells.toList ++ tl.drop sz).toArray := by
      obtain ⟨vc, hvc⟩ : ∃ vc : List Value, v.cells = vc.toArray := ⟨v.cells.toList, by simp⟩
      rw [hvc] at hvl ⊢
      have := fold_put (k * sz) vc 0 (pre ++ tl) (by simp at hvl; rw [List.length_append, hvl, hp, ht]; omega)
      have e1 : (pre ++ tl).take (k * sz + 0) = pre := by rw [Nat.add_zero, ← hp, List.take_left]
      have e2 : (pre ++ tl).drop (k * sz + 0 + vc.length) = tl.drop sz := by simp at hvl; rw [hvl, Nat.add_zero, ← hp, List.drop_append, List.drop_of_length_le (by omega), List.nil_append]; congr 1; omega
      rw [e1, e2] at this
      simpa using this
    rw [hf]
    have := fill_all sz vs (k + 1) (pre ++ v.cells.toList) (tl.drop sz) (fun u hu => hv u (List.mem_cons_of_mem _ hu)) (by rw [List.length_append, hp, hvl, Nat.add_mul, Nat.one_mul]) (by rw [List.length_drop]; omega)
    rw [this, List.flatMap_cons, List.append_assoc]
theorem sx_lit (H : St M F0 w0 F B R w) (A : Fr n D T a) (hT : TbOk P tb) (hw : wantedT T l g = some true) {t e : TypeId} {len : Nat} {ops : List (Nat × Operand)} {sz by_ sze bye : Nat} {zs zse : List Value} {ke : TK} {vs : List Value} (ht : tb.lookup t = some ⟨.slice e, sz, by_, zs⟩) (he : tb.lookup e = some ⟨ke, sze, bye, zse⟩)
    (hx : evs T (ops.map (·.2)) = some vs) (hi : ops.map (·.1) = List.range' 0 len) (hd : Nat.blt d n = true) (hE : Els dk w F vs ys)
    (k : ∀ b a' w', Fr n D ((d, .slice (some ⟨b, 0, none⟩) ys.length len) :: T) a' → St M F0 w0 F (.row dk e (some ⟨b, 0, none⟩) len ys :: B) R w' → wpList P l.toArray Q rest a' w')
    (hs : dk.sz = sze := by rfl) (h00 : Nat.blt 0 sze = true := by rfl) (hb : Nat.ble (len * sze) 16777216 = true := by rfl) (hl : ys.length = len := by rfl) : wpList P l.toArray Q (⟨some d, .buildSlice t len ops.toArray, ty, pos, aft, g⟩ :: rest) a w := by
  subst hs
  obtain ⟨e1, e2, e3⟩ := els_cells hE
  have hz := (hT _ _ he).run_zero w
  have hzc : (TyI.zv ⟨ke, dk.sz, bye, zse⟩).cells = zse.toArray := (hT _ _ he).zc
  have hsz := (hT _ _ he).run_size w
  have hu := (hT _ _ ht).slice
  have hbb : ¬ (16777216 < len * dk.sz) := by have := Nat.le_of_ble_eq_true hb; omega
  have hvs : vs.length = len := by rw [e1, hl]
  have hm : ops.map (fun p => (p.1, a.eval p.2)) = (List.range' 0 vs.length).zip vs := by
    have h1 := evs_ok A _ _ hx
    rw [List.map_map] at h1
    rw [hvs, ← hi, ← h1]
    clear hi hx hbb hb h1
    induction ops with
    | nil => rfl
    | cons p ps ih => simp [ih]
  have hlen : (vs.flatMap (·.cells.toList)).length = len * dk.sz := by
    have := (e2.now).1
    rw [this, hl]
  have hcs : ∀ cs0 : List Value, cs0.length = len * dk.sz → Instr.fill (fun i => some (i * dk.sz, dk.sz)) cs0.toArray (ops.map (fun p => (p.1, a.eval p.2))) = some (vs.flatMap (·.cells.toList)).toArray := fun cs0 h0 => by
    have := fill_all dk.sz vs 0 [] cs0 e3 (by simp) (by rw [h0, hvs])
    rw [hm]
    simpa using this
  obtain ⟨o, ho⟩ : ∃ o, Obj.cells (vs.flatMap (·.cells.toList)).toArray e (0, 0) = o := ⟨_, rfl⟩
  have hh : (w.alloc o).heap[w.heap.size]? = some (.cells (vs.flatMap (·.cells.toList)).toArray e (0, 0)) := by rw [blk_new, ← ho]
  have hown := own_row_mk (n := len) hh hlen (Nat.le_refl _) (by simp only [maxLen]; have : len ≤ len * dk.sz := Nat.le_mul_of_pos_right _ (blt_lt h00); omega)
  rw [List.take_of_length_le (by omega)] at hown
  refine list_run A hw (v := .slice (some ⟨w.heap.size, 0, none⟩) len len) (w' := w.alloc o) ?_ (k w.heap.size _ (w.alloc o) (by have := A.put (blt_lt hd) (.slice (some ⟨w.heap.size, 0, none⟩) len len); rw [hl]; exact this) (H.grow (w' := w.alloc o) (x := .row dk e (some ⟨w.heap.size, 0, none⟩) len ys) rfl rfl rfl (by rw [World.size_alloc]; omega) (fun k hk => Below.heap_alloc w _ k hk) ⟨_, by rw [hl]; exact hown, e2.step (fun k _ hk => Below.heap_alloc w _ k hk)⟩ (fun k e => Nat.le_of_eq (Option.some.inj e))))
  have hmap : (Array.map (fun x : Nat × Operand => (x.1, a.eval x.2)) ops.toArray).toList = ops.map fun p => (p.1, a.eval p.2) := by simp
  unfold execOp
  by_cases h0 : len * dk.sz = 0
  · have := hcs [] (by simp [h0])
    have er : Array.range 0 = #[] := rfl
    simp only [Instr.buildSlice, Sem.run_bind, run_underlying hu w, hsz, Result.andThen_ok, h0, hmap]
    simp [er, this, newRow, newObj, Sem.run, ho]
    try simp only [← ho]; rfl
  · have := hcs ((Array.range (len * dk.sz)).map (fun x => zse[x % zse.length]?.getD default)).toList (by simp)
    simp only [Instr.buildSlice, Sem.run_bind, run_underlying hu w, hsz, Result.andThen_ok, hbb, h0, if_false, hz, hzc, hmap]
    simp only [Array.toArray_toList] at this
    simp [this, newRow, newObj, Sem.run, ho, hz, hzc, hbb]
    try simp only [← ho]; rfl
end
end Go.Proofs.YtniplmjbligmlaaDoor.V

/-! The walk's laws: append, copy, rows and texts cut, numbers turned, bytes and texts. -/
namespace Go.Proofs.YtniplmjbligmlaaDoor.V
open Go.RowKit
set_option linter.unusedVariables false
set_option linter.unusedSimpArgs false
/-- B' are some of B's boxes, in another order. -/
inductive Sel : List Box → List Box → Prop where
  | nil {B : List Box} : Sel B []
  | cons {B B1 B' : List Box} {x : Box} (h : Del B x B1) (k : Sel B1 B') : Sel B (x :: B')
theorem Sel.mem {B B' : List Box} (h : Sel B B') : ∀ x ∈ B', x ∈ B := by
  induction h with
  | nil => intro x hx; cases hx
  | cons h k ih =>
    intro x hx
    rcases List.mem_cons.1 hx with rfl | hx
    · exact h.mem
    · exact h.sub.subset (ih x hx)
theorem Sel.nd {B B' : List Box} (h : Sel B B') : B.Pairwise Box.apart → B'.Pairwise Box.apart := by
  induction h with
  | nil => exact fun _ => .nil
  | cons h k ih => exact fun hp => List.pairwise_cons.2 ⟨fun y hy => h.apart hp y (k.mem y hy), ih (hp.sublist h.sub)⟩
section
variable {M F0 F : Nat → Prop} {w0 w w' : World} {B B' B1 B2 : List Box} {R : List (World → Prop)}
theorem St.sel (H : St M F0 w0 F B R w) (h : Sel B B' := by (repeat (first | exact Sel.nil | (refine Sel.cons (by (repeat (first | exact Del.hd | apply Del.tl))) ?_)))) : St M F0 w0 F B' R w :=
  { H with box := fun x hx => H.box x (h.mem x hx), nf := fun x hx => H.nf x (h.mem x hx), mine := fun x hx => H.mine x (h.mem x hx), nd := h.nd H.nd }
theorem St.nilrow (H : St M F0 w0 F B R w) {α : Type} (dk : Kd α) (e : TypeId) : St M F0 w0 F (.row dk e none 0 [] :: B) R w where
  os := H.os
  tape := H.tape
  out := H.out
  size := H.size
  keep := H.keep
  flt := H.flt
  fin := H.fin
  box := fun y hy => by
    rcases List.mem_cons.1 hy with rfl | hy
    · exact ⟨[], ⟨by simp, .inl ⟨rfl, rfl⟩⟩, fun W _ => ⟨by simp, fun j y hj => by simp at hj⟩⟩
    · exact H.box y hy
  nf := fun y hy k e => by
    rcases List.mem_cons.1 hy with rfl | hy
    · cases e
    · exact H.nf y hy k e
  nd := List.pairwise_cons.2 ⟨fun y hy k e => (by cases e), H.nd⟩
  mine := fun y hy k e => by
    rcases List.mem_cons.1 hy with rfl | hy
    · cases e
    · exact H.mine y hy k e
  ro := H.ro
/-- What is owned is given up, and x' is owned: where x lay, or where nothing was. -/
theorem St.swap (H : St M F0 w0 F B R w) {x x' : Box} (hd : Del B x B') (hos : w'.os = w.os) (htape : w'.tape = w.tape) (hout : w'.output = w.output) (hsize : w.heap.size ≤ w'.heap.size)
    (hk : ∀ k, k < w.heap.size → x.foot ≠ some k → w'.heap[k]? = w.heap[k]?) (hx : x'.holds w' F) (hf : ∀ k, x'.foot = some k → x.foot = some k ∨ w.heap.size ≤ k) : St M F0 w0 F (x' :: B') R w' := by
  have h0 : St M F0 w0 F (x :: B') R w := H.sel (.cons hd (by
    clear hk hx hf H
    induction B' with
    | nil => exact .nil
    | cons y l ih => exact .cons .hd (by
        clear ih hd
        induction l with
        | nil => exact .nil
        | cons z m ih => exact .cons .hd ih)))
  exact h0.turn .hd hos htape hout hsize hk hx hf
end
section
variable {P : Program} {l : List Oper} {a : Act} {rest : List Oper} {Q : Exit → Act → World → Prop} {w : World} {n : Nat} {D : List Deferred} {T : Tm} {tb : Tb}
variable {d : Nat} {op : Op} {ty : TypeId} {pos : String} {aft : Array Edge} {g : Option (Nat × Bool)}
variable {M F0 F : Nat → Prop} {w0 : World} {B B' B1 B2 : List Box} {R : List (World → Prop)}
variable {α : Type} {dk : Kd α} {Ad A2 : Option Addr} {xs ys zs : List α}
theorem load0 (p : Addr) : loadCells p 0 = pure #[] := rfl
/-! append -/
def Src' {α : Type} (dk : Kd α) (A : Option Addr) (zs : List α) (w : World) (F : Nat → Prop) : Prop := ∃ cs, Foot (Reps dk zs cs) w F ∧ cs.length = zs.length * dk.sz ∧ (∀ u ∈ cs, u.oneCell' = true) ∧ (0 < zs.length → ∃ a0, A = some a0 ∧ ∀ j u, cs[j]? = some u → w.cell? (a0.add j) = some u)
theorem reps_one {cs : List Value} (h : Reps dk ys cs w) : ∀ u ∈ cs, u.oneCell' = true := by
  intro u hu
  obtain ⟨h1, h2⟩ := h
  obtain ⟨q, hq, rfl⟩ := List.getElem_of_mem hu
  have hs : 0 < dk.sz := by rcases Nat.eq_zero_or_pos dk.sz with h | h; · rw [h] at h1; omega
                            · exact h
  have hlt : q / dk.sz < ys.length := by rw [Nat.div_lt_iff_lt_mul hs]; omega
  have := dk.one (h2 (q / dk.sz) _ (List.getElem?_eq_getElem hlt))
  refine this _ ?_
  have hm : q % dk.sz < dk.sz := Nat.mod_lt _ hs
  have hq2 : q / dk.sz * dk.sz + q % dk.sz = q := by rw [Nat.mul_comm]; exact Nat.div_add_mod q dk.sz
  have : ((cs.drop (q / dk.sz * dk.sz)).take dk.sz)[q % dk.sz]? = some cs[q] := by
    rw [List.getElem?_take, if_pos hm, List.getElem?_drop, hq2, List.getElem?_eq_getElem hq]
  exact List.mem_of_getElem? this
theorem src_row (H : St M F0 w0 F B R w) {e : TypeId} {c : Nat} (hm : .row dk e A2 c zs ∈ B) : Src' dk A2 zs w F := by
  obtain ⟨cs, h1, h2⟩ := H.box _ hm
  refine ⟨cs, h2, h2.now.1, reps_one h2.now, fun h0 => ?_⟩
  obtain ⟨b, rfl⟩ := H.row_some hm h0
  exact ⟨_, rfl, h1.cells (g := b) rfl⟩
theorem src_rdc (hs : 0 < dk.sz) (h : Foot (rdc dk A2 zs) w F) : Src' dk A2 zs w F := rdc_cells h hs
theorem append_run (H : St M F0 w0 F B R w) (hT : TbOk P tb) {t t2 e e2 : TypeId} {c c2 sz by_ sze bye sz2 by2 : Nat} {zt zse zt2 : List Value} {ke : TK} (ht : tb.lookup t = some ⟨.slice e, sz, by_, zt⟩) (he : tb.lookup e = some ⟨ke, sze, bye, zse⟩) (ht2 : tb.lookup t2 = some ⟨.slice e2, sz2, by2, zt2⟩) (htt : t = t2)
    (hd : Del B (.row dk e Ad c ys) B1) (hsrc : Src' dk A2 zs w F) (hs : dk.sz = sze) (h00 : 0 < sze) (h63 : ys.length + zs.length ≤ 9223372036854775807) (hb : (ys.length + zs.length) * bye ≤ 140737488355328) :
    ∃ A' c' w', (Builtin.append_ #[t, t2] ty #[.slice Ad ys.length c, .slice A2 zs.length c2]).run P w = .ok (.slice A' (ys ++ zs).length c') w' ∧ St M F0 w0 F (.row dk e A' c' (ys ++ zs) :: B1) R w' := by
  subst htt; subst hs
  obtain ⟨cs, g1, g2⟩ := H.box _ hd.mem
  obtain ⟨ns, f1, f2, f3, f4⟩ := hsrc
  obtain ⟨inf, i1, i2, i3, i4, i5⟩ := (hT _ _ he).facts
  rcases Nat.eq_zero_or_pos zs.length with h0 | h0
  · obtain rfl := List.eq_nil_of_length_eq_zero h0
    have hcap := (H.row_cap hd.mem).le
    refine ⟨Ad, c, w, ?_, ?_⟩
    · have hu := (hT _ _ ht).slice
      rw [List.append_nil]
      have : Src P inf.size t (.slice A2 0 c2) 0 [] w := ⟨.inl ⟨e, hu⟩, fun _ => by simp [Builtin.lenOf], by cases A2 <;> simp [Builtin.firstCells, load0], by cases A2 <;> simp [Builtin.firstCells, load0], by simp, fun u hu => by cases hu⟩
      exact run_append_nothing w t t ty e inf hu i1 Ad ys.length c hcap _ this
    · rw [List.append_nil]
      exact H.swap hd rfl rfl rfl (Nat.le_refl _) (fun _ _ _ => rfl) ⟨cs, g1, g2⟩ (fun k hk => .inl hk)
  · obtain ⟨a0, rfl, f5⟩ := f4 h0
    obtain ⟨v', w', h1, h2, h3, h4, h5⟩ := run_append_own_at (P := P) w 0 t ty e inf _ dk.sz bye (hT _ _ ht).slice i1 i4 i2 i3 i5 h00 _ _ cs g1 a0 zs.length c2 ns f2 f5 f3 (by simp only [maxLen]; omega) hb (Nat.zero_le _)
    obtain ⟨gb, cap, rfl, _, _⟩ := h2.form (by omega)
    refine ⟨some ⟨gb, 0, none⟩, cap, w', by rw [List.length_append]; exact h1, H.swap hd h3.os h3.tape h3.output h3.size (fun k hk hne => h3.block k hk (fun e => hne (own_foot.symm.trans e.symm))) ⟨cs ++ ns, by rw [List.length_append]; exact h2, (reps_append g2 f1).step (fun k hk hlt => h3.block k hlt (fun e => H.nf _ hd.mem k (own_foot.symm.trans e.symm) hk))⟩ (fun k hk => ?_)⟩
    rcases h5 with h5 | h5
    · exact .inl (by rw [← hk]; show Option.map _ Ad = _; rw [← own_foot (A := Ad) (n := ys.length) (c := c), ← h5]; rfl)
    · have : gb = w.heap.size := by simpa [Value.ownBlock] using h5
      have : gb = k := Option.some.inj hk
      exact .inr (by omega)
theorem sx_append (H : St M F0 w0 F B R w) (A : Fr n D T a) (hT : TbOk P tb) (hw : wantedT T l g = some true) {t t2 e e2 : TypeId} {x y : Operand} {nn : Nat} {c c2 sz by_ sze bye sz2 by2 : Nat} {zt zse zt2 : List Value} {ke : TK} (ht : tb.lookup t = some ⟨.slice e, sz, by_, zt⟩) (he : tb.lookup e = some ⟨ke, sze, bye, zse⟩) (ht2 : tb.lookup t2 = some ⟨.slice e2, sz2, by2, zt2⟩) (htt : t = t2)
    (hx : ev T x = some (.slice Ad nn c)) (hy : ev T y = some (.slice A2 zs.length c2)) (hdd : Nat.blt d n = true) (h00 : Nat.blt 0 sze = true)
    (K : ∀ A' c' a' w', Fr n D ((d, .slice A' (ys ++ zs).length c') :: T) a' → St M F0 w0 F (.row dk e A' c' (ys ++ zs) :: B1) R w' → wpList P l.toArray Q rest a' w')
    (hd : Del B (.row dk e Ad c ys) B1 := by (repeat (first | with_reducible exact Del.hd | apply Del.tl))) (hm : rdc dk A2 zs ∈ R := by (repeat (first | with_reducible exact List.mem_cons_self | apply List.mem_cons_of_mem))) (hs : dk.sz = sze := by rfl)
    (hb : (ys.length + zs.length) * bye ≤ 140737488355328 := by first | omega | (simp only [List.length_append, List.length_cons, List.length_nil, List.length_take, List.length_map]; omega)) (h63 : ys.length + zs.length ≤ 9223372036854775807 := by first | omega | (simp only [List.length_append, List.length_cons, List.length_nil, List.length_take, List.length_map]; omega)) (hn : nn = ys.length := by first | rfl | assumption | omega | (simp only [List.length_append, List.length_cons, List.length_nil, List.length_set, List.length_replicate, List.length_take, List.length_drop, List.length_map]; omega)) : wpList P l.toArray Q (⟨some d, .call ⟨.builtin .append, #[x, y], #[t, t2]⟩, ty, pos, aft, g⟩ :: rest) a w := by
  subst hn
  obtain ⟨A', c', w', h1, h2⟩ := append_run (P := P) (ty := ty) (c2 := c2) H hT ht he ht2 htt hd (src_rdc (by rw [hs]; exact blt_lt h00) (H.get hm)) hs (blt_lt h00) h63 hb
  refine list_run A hw (v := .slice A' (ys ++ zs).length c') (w' := w') ?_ (K A' c' _ _ (A.put (blt_lt hdd) _) h2)
  unfold execOp
  simp [resolve, invoke, builtin, A.ev hx, A.ev hy, h1]
/-- .. of what has just been written out. -/
theorem sx_appendL (H : St M F0 w0 F B R w) (A : Fr n D T a) (hT : TbOk P tb) (hw : wantedT T l g = some true) {t t2 e e2 e3 : TypeId} {x y : Operand} {nn : Nat} {c c2 sz by_ sze bye sz2 by2 : Nat} {zt zse zt2 : List Value} {ke : TK} (ht : tb.lookup t = some ⟨.slice e, sz, by_, zt⟩) (he : tb.lookup e = some ⟨ke, sze, bye, zse⟩) (ht2 : tb.lookup t2 = some ⟨.slice e2, sz2, by2, zt2⟩) (htt : t = t2)
    (hx : ev T x = some (.slice Ad nn c)) (hy : ev T y = some (.slice A2 zs.length c2)) (hdd : Nat.blt d n = true) (h00 : Nat.blt 0 sze = true)
    (K : ∀ A' c' a' w', Fr n D ((d, .slice A' (ys ++ zs).length c') :: T) a' → St M F0 w0 F (.row dk e A' c' (ys ++ zs) :: B2) R w' → wpList P l.toArray Q rest a' w')
    (hd2 : Del B (.row dk e3 A2 c2 zs) B1 := by (repeat (first | with_reducible exact Del.hd | apply Del.tl))) (hd : Del B1 (.row dk e Ad c ys) B2 := by (repeat (first | with_reducible exact Del.hd | apply Del.tl))) (hs : dk.sz = sze := by rfl)
    (hb : (ys.length + zs.length) * bye ≤ 140737488355328 := by first | omega | (simp only [List.length_append, List.length_cons, List.length_nil, List.length_take, List.length_map]; omega)) (h63 : ys.length + zs.length ≤ 9223372036854775807 := by first | omega | (simp only [List.length_append, List.length_cons, List.length_nil, List.length_take, List.length_map]; omega)) (hn : nn = ys.length := by first | rfl | assumption | omega | (simp only [List.length_append, List.length_cons, List.length_nil, List.length_set, List.length_replicate, List.length_take, List.length_drop, List.length_map]; omega)) : wpList P l.toArray Q (⟨some d, .call ⟨.builtin .append, #[x, y], #[t, t2]⟩, ty, pos, aft, g⟩ :: rest) a w := by
  subst hn
  have H1 := H.drop hd2.sub
  obtain ⟨A', c', w', h1, h2⟩ := append_run (P := P) (ty := ty) (c2 := c2) H1 hT ht he ht2 htt hd (src_row H hd2.mem) hs (blt_lt h00) h63 hb
  refine list_run A hw (v := .slice A' (ys ++ zs).length c') (w' := w') ?_ (K A' c' _ _ (A.put (blt_lt hdd) _) h2)
  unfold execOp
  simp [resolve, invoke, builtin, A.ev hx, A.ev hy, h1]
/-! copy: a whole row over one of one's own that is as long. -/
theorem sx_copy (H : St M F0 w0 F B R w) (A : Fr n D T a) (hT : TbOk P tb) (hw : wantedT T l g = some true) {t t2 e : TypeId} {x y : Operand} {nn : Nat} {c c2 sz by_ sze bye : Nat} {zt zse : List Value} {ke : TK} (ht : tb.lookup t = some ⟨.slice e, sz, by_, zt⟩) (he : tb.lookup e = some ⟨ke, sze, bye, zse⟩)
    (hx : ev T x = some (.slice Ad nn c)) (hy : ev T y = some (.slice A2 zs.length c2)) (hdd : Nat.blt d n = true) (h00 : Nat.blt 0 sze = true)
    (K : ∀ a' w', Fr n D ((d, .int .i64 zs.length) :: T) a' → St M F0 w0 F B' R w' → wpList P l.toArray Q rest a' w')
    (hu : Upd B (.row dk e Ad c ys) (.row dk e Ad c zs) B' := by (repeat (first | with_reducible exact Upd.hd | apply Upd.tl))) (hm : rdc dk A2 zs ∈ R := by (repeat (first | with_reducible exact List.mem_cons_self | apply List.mem_cons_of_mem))) (hs : dk.sz = sze := by rfl)
    (hl : zs.length = ys.length := by first | assumption | omega | (simp only [List.length_append, List.length_cons, List.length_nil, List.length_replicate, List.length_map]; omega)) (hn : nn = ys.length := by first | rfl | assumption | omega | (simp only [List.length_append, List.length_cons, List.length_nil, List.length_set, List.length_replicate, List.length_take, List.length_drop, List.length_map]; omega)) : wpList P l.toArray Q (⟨some d, .call ⟨.builtin .copy, #[x, y], #[t, t2]⟩, ty, pos, aft, g⟩ :: rest) a w := by
  subst hn
  subst hs
  obtain ⟨cs, g1, g2⟩ := H.box _ hu.mem
  obtain ⟨ns, f1, f2, f3, f4⟩ := src_rdc (blt_lt h00) (H.get hm)
  have hsz := (hT _ _ he).run_size w
  have hund := run_underlying (hT _ _ ht).slice w
  rcases Nat.eq_zero_or_pos zs.length with h0 | h0
  · have e1 := List.eq_nil_of_length_eq_zero h0
    have e2 := List.eq_nil_of_length_eq_zero (hl.symm.trans h0)
    subst e1; subst e2
    refine list_run A hw (v := .int .i64 (([] : List α).length : Nat)) (w' := w) ?_ (K _ _ (A.put (blt_lt hdd) _) (H.turn hu rfl rfl rfl (Nat.le_refl _) (fun _ _ _ => rfl) ⟨cs, g1, g2⟩ (fun _ h => .inl h)))
    unfold execOp
    cases Ad <;> cases A2 <;> simp [resolve, invoke, builtin, A.ev hx, A.ev hy, Builtin.copy_, hund, hsz, Builtin.lenOf, Builtin.firstCells, load0, storeCells, goInt]
  · obtain ⟨a0, rfl, f5⟩ := f4 h0
    obtain ⟨b, rfl⟩ := H.row_some hu.mem (by omega)
    rcases g1.2 with ⟨hv, _⟩ | ⟨g', cap, cur, hv, _, hg, hnc, hcm, hcs, htake⟩
    · cases hv
    injection hv with ha _ hcap
    injection ha with ha
    injection ha with ha
    subst ha; subst hcap
    have hmc : ys.length * dk.sz ≤ c * dk.sz := Nat.mul_le_mul_right _ hnc
    have hr := run_storeCells_at P b 0 e ns 0 cur w hg (by rw [f2, hl]; omega) f3
    have hlc := run_loadCells_list (P := P) w a0 ns f5
    rw [f2] at hlc
    have hr2 := hr
    simp only [Nat.add_zero, List.take_zero, List.nil_append, Nat.zero_add] at hr2
    refine list_run A hw (v := .int .i64 (zs.length : Nat)) (w' := w.setRow b (cur.toList.take (0 + 0) ++ ns ++ cur.toList.drop (0 + 0 + ns.length)).toArray) ?_ (K _ _ (A.put (blt_lt hdd) _) (H.turn hu rfl rfl rfl (by simp [World.setRow]) (fun k _ hk => ?_) ?_ (fun _ h => .inl h)))
    · unfold execOp
      have hm : Nat.min zs.length ys.length * dk.sz = ns.length := by rw [f2, hl]; congr 1; exact Nat.min_self _
      have hm2 : Nat.min zs.length ys.length = zs.length := by rw [hl]; exact Nat.min_self _
      simp only [resolve, invoke, builtin, A.ev hx, A.ev hy, Builtin.copy_, Sem.run_bind, Sem.run_pure, Result.andThen_ok, List.map_toArray, List.map_cons, List.map_nil]
      simp [hund, hsz, Builtin.lenOf, Builtin.firstCells, goInt, hm2, hlc, hr2]
    · have hne : k ≠ b := fun e => hk (by subst e; rfl)
      simp only [World.setRow, Array.getElem?_modify]
      rw [if_neg (Ne.symm hne)]
    · have hh : (w.setRow b (cur.toList.take (0 + 0) ++ ns ++ cur.toList.drop (0 + 0 + ns.length)).toArray).heap[b]? = some (.cells (ns ++ cur.toList.drop ns.length).toArray e (0, 0)) := by
        rw [setRow_heap w b _ _ e _ hg]; simp
      have hcl : (ns ++ cur.toList.drop ns.length).length = c * dk.sz := by
        have : cur.toList.length = cur.size := Array.length_toList
        have h1 : ns.length = ys.length * dk.sz := by rw [f2, hl]
        rw [List.length_append, List.length_drop]; omega
      refine ⟨ns, ?_, f1.step (fun k hk _ => ?_)⟩
      · have := own_row_mk (n := zs.length) hh hcl (by omega) hcm
        rwa [← f2, List.take_left] at this
      · have hne : k ≠ b := fun e => H.nf _ hu.mem k (by subst e; rfl) hk
        simp only [World.setRow, Array.getElem?_modify]
        rw [if_neg (Ne.symm hne)]
/-! Cuts. -/
theorem min_l {x y : Int} (h : x ≤ y) : min x y = x := by omega
theorem min_r {x y : Int} (h : y ≤ x) : min x y = y := by omega
theorem max_l {x y : Int} (h : y ≤ x) : max x y = x := by omega
theorem max_r {x y : Int} (h : x ≤ y) : max x y = y := by omega
theorem sx_min (A : Fr n D T a) (hw : wantedT T l g = some true) {x y : Operand} {ts : Array TypeId} {k : IntKind} {m m' z : Int} (hx : ev T x = some (.int k m)) (hy : ev T y = some (.int k m')) (hd : Nat.blt d n = true)
    (K : ∀ a', Fr n D ((d, .int k z) :: T) a' → wpList P l.toArray Q rest a' w) (hz : min m m' = z := by first | assumption | ((with_reducible refine min_l ?_); omega) | ((with_reducible refine min_r ?_); omega) | exact rfl) : wpList P l.toArray Q (⟨some d, .call ⟨.builtin .min, #[x, y], ts⟩, ty, pos, aft, g⟩ :: rest) a w := by
  refine list_run A hw (v := .int k z) (w' := w) ?_ (K _ (A.put (blt_lt hd) _))
  unfold execOp
  have e : (if m' < m then m' else m) = z := by rw [← hz]; split <;> omega
  simp [resolve, invoke, builtin, Builtin.min_, A.ev hx, A.ev hy, Builtin.min2, e]
theorem sx_max (A : Fr n D T a) (hw : wantedT T l g = some true) {x y : Operand} {ts : Array TypeId} {k : IntKind} {m m' z : Int} (hx : ev T x = some (.int k m)) (hy : ev T y = some (.int k m')) (hd : Nat.blt d n = true)
    (K : ∀ a', Fr n D ((d, .int k z) :: T) a' → wpList P l.toArray Q rest a' w) (hz : max m m' = z := by first | assumption | ((with_reducible refine max_l ?_); omega) | ((with_reducible refine max_r ?_); omega) | exact rfl) : wpList P l.toArray Q (⟨some d, .call ⟨.builtin .max, #[x, y], ts⟩, ty, pos, aft, g⟩ :: rest) a w := by
  refine list_run A hw (v := .int k z) (w' := w) ?_ (K _ (A.put (blt_lt hd) _))
  unfold execOp
  have e : (if m < m' then m' else m) = z := by rw [← hz]; split <;> omega
  simp [resolve, invoke, builtin, Builtin.max_, A.ev hx, A.ev hy, Builtin.max2, e]
/-- A bound of a cut: none is z. -/
def bnd (T : Tm) (z : Int) : Option Operand → Option Int
  | none => some z
  | some x => match ev T x with
    | some (.int _ i) => some i
    | _ => none
theorem run_bounds (A : Fr n D T a) (b : Bool) (len cap : Nat) {lo hi : Option Operand} {i j : Int} (hlo : bnd T 0 lo = some i) (hhi : bnd T len hi = some j) (h0 : 0 ≤ i) (h1 : i ≤ j) (h2 : j ≤ cap) (hlc : len ≤ cap) :
    (Instr.sliceBounds b len cap (lo.map a.eval) (hi.map a.eval) none).run P w = .ok (i.toNat, j.toNat, cap) w := by
  unfold Instr.sliceBounds
  have hb : ∀ (code : BoundsCode) (x : Operand) (m : Int) (y : Nat) (k : IntKind), ev T x = some (.int k m) → 0 ≤ m → m ≤ y → (Instr.sliceBound (a.eval x) y code).run P w = .ok m.toNat w := by
    intro code x m y k hx h0 h1
    rw [A.ev hx]
    simp [Instr.sliceBound, asIntOf, h0, h1]
  have hl : ∀ code : BoundsCode, ∀ y : Nat, i ≤ y → ∀ x, lo = some x → (Instr.sliceBound (a.eval x) y code).run P w = .ok i.toNat w := by
    intro code y hy x hx
    subst hx
    simp only [bnd] at hlo
    split at hlo
    · rename_i k m hx; obtain rfl := Option.some.inj hlo; exact hb code x _ y k hx h0 hy
    · cases hlo
  have hh : ∀ code : BoundsCode, ∀ x, hi = some x → (Instr.sliceBound (a.eval x) cap code).run P w = .ok j.toNat w := by
    intro code x hx
    subst hx
    simp only [bnd] at hhi
    split at hhi
    · rename_i k m hx; obtain rfl := Option.some.inj hhi; exact hb code x _ cap k hx (by omega) h2
    · cases hhi
  cases hi with
  | none =>
    have hj : j = (len : Int) := (Option.some.inj hhi).symm
    subst hj
    cases lo with
    | none => have hi0 : i = 0 := (Option.some.inj hlo).symm; subst hi0; simp
    | some x => simp [hl _ len (by omega) x rfl]
  | some y =>
    have h3 := fun code => hh code y rfl
    cases lo with
    | none => have hi0 : i = 0 := (Option.some.inj hlo).symm; subst hi0; simp [h3]
    | some x => simp [h3, hl _ j.toNat (by omega) x rfl]
theorem sx_sstr (A : Fr n D T a) (hT : TbOk P tb) (hw : wantedT T l g = some true) {t : TypeId} {x : Operand} {lo hi : Option Operand} {s s' : ByteArray} {i j : Int} {sz by_ : Nat} {zs : List Value} (ht : tb.lookup t = some ⟨.string, sz, by_, zs⟩) (hx : ev T x = some (.string s)) (hlo : bnd T 0 lo = some i) (hhi : bnd T s.size hi = some j) (hd : Nat.blt d n = true)
    (K : ∀ a', Fr n D ((d, .string s') :: T) a' → wpList P l.toArray Q rest a' w) (h0 : 0 ≤ i := by omega) (h1 : i ≤ j := by omega) (h2 : j ≤ s.size := by omega) (hs' : s.extract i.toNat j.toNat = s' := by first | assumption | exact rfl) : wpList P l.toArray Q (⟨some d, .slice t x lo hi none, ty, pos, aft, g⟩ :: rest) a w := by
  subst hs'
  refine list_run A hw (v := .string (s.extract i.toNat j.toNat)) (w' := w) ?_ (K _ (A.put (blt_lt hd) _))
  obtain ⟨dd, hdd, _, hk⟩ := (hT _ _ ht).run_und w
  cases dd <;> simp only [tk] at hk <;> try cases hk
  have hb := run_bounds (P := P) (w := w) A false s.size s.size hlo hhi h0 h1 h2 (Nat.le_refl _)
  unfold execOp
  simp [Instr.sliceAt, Instr.slice, hdd, A.ev hx, hb]
def bt (s : ByteArray) (i : Nat) : Int := ((s.data.toList.getD i 0).toNat : Int)
theorem bt_range (s : ByteArray) (i : Nat) : 0 ≤ bt s i ∧ bt s i < 256 := by unfold bt; have := (s.data.toList.getD i 0).toNat_lt; omega
theorem sx_sidx (A : Fr n D T a) (hT : TbOk P tb) (hw : wantedT T l g = some true) {t : TypeId} {x y : Operand} {s : ByteArray} {k : IntKind} {i : Int} {m sz by_ : Nat} {zs : List Value} (ht : tb.lookup t = some ⟨.string, sz, by_, zs⟩) (hx : ev T x = some (.string s)) (hy : ev T y = some (.int k i)) (hd : Nat.blt d n = true)
    (K : ∀ a', Fr n D ((d, .int .u8 (bt s m)) :: T) a' → wpList P l.toArray Q rest a' w) (hi : i.toNat = m := by first | with_reducible exact Int.toNat_natCast _ | exact rfl) (h0 : 0 ≤ i := by omega) (h1 : i < s.size := by omega) : wpList P l.toArray Q (⟨some d, .index t x y, ty, pos, aft, g⟩ :: rest) a w := by
  subst hi
  refine list_run A hw (v := .int .u8 (bt s i.toNat)) (w' := w) ?_ (K _ (A.put (blt_lt hd) _))
  obtain ⟨dd, hdd, _, hk⟩ := (hT _ _ ht).run_und w
  cases dd <;> simp only [tk] at hk <;> try cases hk
  have hlt : i.toNat < s.size := by omega
  have e : bt s i.toNat = ((s[i.toNat]'hlt).toNat : Int) := by
    unfold bt
    have h2 : i.toNat < s.data.toList.length := hlt
    rw [List.getD_eq_getElem?_getD, List.getElem?_eq_getElem h2]
    rfl
  unfold execOp
  simp [Instr.index, asIntOf, hdd, A.ev hx, A.ev hy, h0, e, hlt]
/-- What is cut out of a row that is read. -/
theorem rdc_cut {c : Nat} (h : Foot (rdc dk Ad xs) w F) (i j : Nat) (h1 : i ≤ j) (h2 : j ≤ xs.length) (hc : Cap xs.length c) :
    Foot (rdc dk (if c = i then Ad else Ad.map (·.add (i * dk.sz))) ((xs.take j).drop i)) w F ∧ Cap ((xs.take j).drop i).length (c - i) := by
  have hl : ((xs.take j).drop i).length = j - i := by rw [List.length_drop, List.length_take]; omega
  refine ⟨fun W hW h0 => ?_, ⟨by have := hc.le; omega⟩⟩
  have hc' := hc.le
  rw [hl] at h0
  obtain ⟨a0, rfl, hr⟩ := h W hW (by omega)
  rw [if_neg (by omega)]
  refine ⟨_, rfl, fun m x hx => ?_⟩
  rw [List.getElem?_drop, List.getElem?_take] at hx
  split at hx
  · obtain ⟨cc, g1, g2⟩ := hr (i + m) x hx
    refine ⟨cc, g1, fun q u hu => ?_⟩
    rw [Addr.add_add]
    have := g2 q u hu
    rwa [show (i + m) * dk.sz + q = i * dk.sz + (m * dk.sz + q) by rw [Nat.add_mul]; omega] at this
  · cases hx
theorem sx_cut (H : St M F0 w0 F B R w) (A : Fr n D T a) (hT : TbOk P tb) (hw : wantedT T l g = some true) {t e : TypeId} {x : Operand} {nn : Nat} {lo hi : Option Operand} {c : Nat} {i j : Int} {sz by_ sze bye : Nat} {zs0 zse : List Value} {ke : TK} (ht : tb.lookup t = some ⟨.slice e, sz, by_, zs0⟩) (he : tb.lookup e = some ⟨ke, sze, bye, zse⟩) (hx : ev T x = some (.slice Ad nn c)) (hlo : bnd T 0 lo = some i) (hhi : bnd T xs.length hi = some j) (hd : Nat.blt d n = true)
    (K : ∀ A' c' a', Cap zs.length c' → Fr n D ((d, .slice A' zs.length c') :: T) a' → St M F0 w0 F B (rdc dk A' zs :: R) w → wpList P l.toArray Q rest a' w) (hm : rdc dk Ad xs ∈ R := by (repeat (first | with_reducible exact List.mem_cons_self | apply List.mem_cons_of_mem))) (hc : Cap xs.length c := by with_reducible assumption) (hs : dk.sz = sze := by rfl)
    (h0 : 0 ≤ i := by omega) (h1 : i ≤ j := by omega) (h2 : j ≤ xs.length := by omega) (hzs : (xs.take j.toNat).drop i.toNat = zs := by first | assumption | exact rfl) (hn : nn = xs.length := by first | rfl | assumption | omega | (simp only [List.length_append, List.length_cons, List.length_nil, List.length_set, List.length_replicate, List.length_take, List.length_drop, List.length_map]; omega)) : wpList P l.toArray Q (⟨some d, .slice t x lo hi none, ty, pos, aft, g⟩ :: rest) a w := by
  subst hn
  subst hs; subst hzs
  obtain ⟨r1, r2⟩ := rdc_cut (H.get hm) i.toNat j.toNat (by omega) (by omega) hc
  have hl : ((xs.take j.toNat).drop i.toNat).length = j.toNat - i.toNat := by rw [List.length_drop, List.length_take]; omega
  have hcl := hc.le
  refine list_run A hw (v := .slice (if c = i.toNat then Ad else Ad.map (·.add (i.toNat * dk.sz))) ((xs.take j.toNat).drop i.toNat).length (c - i.toNat)) (w' := w) ?_ (K _ _ _ r2 (A.put (blt_lt hd) _) (H.fact r1))
  have hund := run_underlying (hT _ _ ht).slice w
  have hsz := (hT _ _ he).run_size w
  have hb := run_bounds (P := P) (w := w) A true xs.length c hlo hhi h0 h1 (by omega) hcl
  unfold execOp
  rw [hl]
  simp [Instr.sliceAt, Instr.slice, hund, A.ev hx, hb, hsz]
/-- The beginning of a row of one's own. -/
theorem sx_ocut (H : St M F0 w0 F B R w) (A : Fr n D T a) (hT : TbOk P tb) (hw : wantedT T l g = some true) {t e e' : TypeId} {x : Operand} {nn : Nat} {hi : Option Operand} {c : Nat} {j : Int} {sz by_ sze bye : Nat} {zs0 zse : List Value} {ke : TK} (ht : tb.lookup t = some ⟨.slice e, sz, by_, zs0⟩) (he : tb.lookup e = some ⟨ke, sze, bye, zse⟩) (hx : ev T x = some (.slice Ad nn c)) (hhi : bnd T ys.length hi = some j) (hd : Nat.blt d n = true)
    (K : ∀ a', Fr n D ((d, .slice Ad zs.length c) :: T) a' → St M F0 w0 F B' R w → wpList P l.toArray Q rest a' w) (hu : Upd B (.row dk e' Ad c ys) (.row dk e' Ad c zs) B' := by (repeat (first | with_reducible exact Upd.hd | apply Upd.tl))) (hs : dk.sz = sze := by rfl)
    (h1 : 0 ≤ j := by omega) (h2 : j ≤ ys.length := by omega) (hzs : ys.take j.toNat = zs := by first | assumption | exact rfl) (hn : nn = ys.length := by first | rfl | assumption | omega | (simp only [List.length_append, List.length_cons, List.length_nil, List.length_set, List.length_replicate, List.length_take, List.length_drop, List.length_map]; omega)) : wpList P l.toArray Q (⟨some d, .slice t x none hi none, ty, pos, aft, g⟩ :: rest) a w := by
  subst hn
  subst hs; subst hzs
  have hl : (ys.take j.toNat).length = j.toNat := by rw [List.length_take]; omega
  have hcl := (H.row_cap hu.mem).le
  obtain ⟨cs, g1, g2⟩ := H.box _ hu.mem
  have hown : w.ownsRow 0 e' dk.sz (.slice Ad (ys.take j.toNat).length c) (ys.take j.toNat).length (cs.take (j.toNat * dk.sz)) := by
    rw [hl]
    have hle : j.toNat * dk.sz ≤ ys.length * dk.sz := Nat.mul_le_mul_right _ (by omega)
    refine ⟨by rw [List.length_take, g1.1]; omega, ?_⟩
    rcases g1.2 with ⟨hv, hz⟩ | ⟨b, cap, cur, hv, hb, hg, hnc, hcm, hcs, htake⟩
    · injection hv with q1 q2 q3
      subst q1; subst q3
      exact .inl ⟨by rw [show j.toNat = 0 by omega], by omega⟩
    · injection hv with q1 q2 q3
      subst q1; subst q3
      exact .inr ⟨b, c, cur, rfl, hb, hg, by omega, hcm, hcs, by rw [← htake, List.take_take]; congr 1; omega⟩
  refine list_run A hw (v := .slice Ad (ys.take j.toNat).length c) (w' := w) ?_ (K _ (A.put (blt_lt hd) _) (H.turn hu rfl rfl rfl (Nat.le_refl _) (fun _ _ _ => rfl) ⟨_, hown, reps_take g2 j.toNat (by omega)⟩ (fun _ h => .inl h)))
  have hund := run_underlying (hT _ _ ht).slice w
  have hsz := (hT _ _ he).run_size w
  have hb := run_bounds (P := P) (w := w) A true ys.length c (lo := none) (i := 0) rfl hhi (by omega) h1 (by omega) hcl
  simp only [Option.map_none] at hb
  unfold execOp
  rw [hl]
  cases Ad <;> simp [Instr.sliceAt, Instr.slice, hund, A.ev hx, hb, hsz, Addr.add]
/-! An array's element, by a place that is told. -/
theorem sx_aidx (A : Fr n D T a) (hT : TbOk P tb) (hw : wantedT T l g = some true) {t e : TypeId} {x y : Operand} {b o : Nat} {k : IntKind} {i : Int} {m len sz by_ sze bye : Nat} {zs zse : List Value} {ke : TK} (ht : tb.lookup t = some ⟨.array len e, sz, by_, zs⟩) (he : tb.lookup e = some ⟨ke, sze, bye, zse⟩)
    (hx : ev T x = some (.pointer (some ⟨b, o, none⟩))) (hy : ev T y = some (.int k i)) (hd : Nat.blt d n = true)
    (K : ∀ a', Fr n D ((d, .pointer (some ⟨b, o + m * sze, none⟩)) :: T) a' → wpList P l.toArray Q rest a' w) (hi : i.toNat = m := by first | with_reducible exact Int.toNat_natCast _ | exact rfl) (h0 : 0 ≤ i := by omega) (h1 : i < len := by omega) : wpList P l.toArray Q (⟨some d, .indexAddr t x y, ty, pos, aft, g⟩ :: rest) a w := by
  subst hi
  refine list_run A hw (v := .pointer (some ⟨b, o + i.toNat * sze, none⟩)) (w' := w) ?_ (K _ (A.put (blt_lt hd) _))
  obtain ⟨dd, hdd, _, hk⟩ := (hT _ _ ht).run_und w
  cases dd <;> simp only [tk] at hk <;> try cases hk
  have hes := (hT _ _ he).run_size w
  unfold execOp
  simp [Instr.indexAt, asIntOf, hdd, A.ev hx, A.ev hy, h0, h1, hes, add_spot, Instr.sureAddr]
theorem sx_loadAt (H : St M F0 w0 F B R w) (A : Fr n D T a) (hT : TbOk P tb) (hw : wantedT T l g = some true) {t : TypeId} {x : Operand} {b o : Nat} {tt : TypeId} {cs : List Value} {i : TyI} {v : Value} (hx : ev T x = some (.pointer (some ⟨b, o, none⟩))) (hi : tb.lookup t = some i) (hd : Nat.blt d n = true) (hv : loadC i cs o = some v) (k : ∀ a', Fr n D ((d, v) :: T) a' → wpList P l.toArray Q rest a' w) (hm : .mk b tt cs ∈ B := by (repeat (first | with_reducible exact List.mem_cons_self | apply List.mem_cons_of_mem))) : wpList P l.toArray Q (⟨some d, .load t x, ty, pos, aft, g⟩ :: rest) a w :=
  sx_load H A hT hw hx hi hd k hm hv rfl
/-! Numbers turned; shifts. -/
theorem wrap_u8 {z : Int} (h1 : 0 ≤ z) (h2 : z < 256) : IntKind.u8.wrap z = z := by simp [IntKind.wrap, IntKind.bits, IntKind.signed]; omega
theorem wrap_u16 {z : Int} (h1 : 0 ≤ z) (h2 : z < 65536) : IntKind.u16.wrap z = z := by simp [IntKind.wrap, IntKind.bits, IntKind.signed]; omega
theorem wrap_u32 {z : Int} (h1 : 0 ≤ z) (h2 : z < 4294967296) : IntKind.u32.wrap z = z := by simp [IntKind.wrap, IntKind.bits, IntKind.signed]; omega
theorem wrap_u64 {z : Int} (h1 : 0 ≤ z) (h2 : z < 18446744073709551616) : IntKind.u64.wrap z = z := by simp [IntKind.wrap, IntKind.bits, IntKind.signed]; omega
theorem sx_conv (A : Fr n D T a) (hT : TbOk P tb) (hw : wantedT T l g = some true) {t u : TypeId} {x : Operand} {k k' : IntKind} {m z : Int} {sz by_ sz1 by1 : Nat} {zs zs1 : List Value} (hx : ev T x = some (.int k m)) (hu : tb.lookup u = some ⟨.int k, sz, by_, zs⟩) (ht : tb.lookup t = some ⟨.int k', sz1, by1, zs1⟩) (hd : Nat.blt d n = true)
    (K : ∀ a', Fr n D ((d, .int k' z) :: T) a' → wpList P l.toArray Q rest a' w) (hz : k'.wrap m = z := by first | assumption | ((with_reducible refine wrap_i64 ?_ ?_) <;> omega) | ((with_reducible refine wrap_u64 ?_ ?_) <;> omega) | ((with_reducible refine wrap_u32 ?_ ?_) <;> omega) | ((with_reducible refine wrap_u8 ?_ ?_) <;> omega) | ((with_reducible refine wrap_u16 ?_ ?_) <;> omega) | exact rfl) : wpList P l.toArray Q (⟨some d, .convert u t x, ty, pos, aft, g⟩ :: rest) a w := by
  subst hz
  refine list_run A hw (v := .int k' (k'.wrap m)) (w' := w) ?_ (K _ (A.put (blt_lt hd) _))
  obtain ⟨d1, h1, _, hk1⟩ := (hT _ _ hu).run_und w
  obtain ⟨d2, h2, _, hk2⟩ := (hT _ _ ht).run_und w
  cases d1 <;> simp only [tk] at hk1 <;> try cases hk1
  cases d2 <;> simp only [tk] at hk2 <;> try cases hk2
  unfold execOp
  simp [convert, h1, h2, A.ev hx, Conv.intToInt]
theorem shr_4 (r : BitVec 32) : (r.toNat : Int).fdiv (2 ^ min (4 : Int).toNat IntKind.u32.bits) = ((r >>> 4).toNat : Int) := by
  rw [BitVec.toNat_ushiftRight, Nat.shiftRight_eq_div_pow, Int.fdiv_eq_ediv_of_nonneg _ (by decide)]; rfl
theorem shr_1 (r : BitVec 32) : (r.toNat : Int).fdiv (2 ^ min (1 : Int).toNat IntKind.u32.bits) = ((r >>> 1).toNat : Int) := by
  rw [BitVec.toNat_ushiftRight, Nat.shiftRight_eq_div_pow, Int.fdiv_eq_ediv_of_nonneg _ (by decide)]; rfl
theorem sx_shl (A : Fr n D T a) (hw : wantedT T l g = some true) {t u : TypeId} {x y : Operand} {k k' : IntKind} {m m' z : Int} (hx : ev T x = some (.int k m)) (hy : ev T y = some (.int k' m')) (hd : Nat.blt d n = true)
    (K : ∀ a', Fr n D ((d, .int k z) :: T) a' → wpList P l.toArray Q rest a' w) (h0 : 0 ≤ m' := by omega) (hz : k.wrap (m * 2 ^ min m'.toNat k.bits) = z := by first | assumption | exact rfl) : wpList P l.toArray Q (⟨some d, .binOp .shl t x y u, ty, pos, aft, g⟩ :: rest) a w := by
  subst hz
  exact list_run A hw (bin_run A rfl hx hy (eqGuard_int ..) (by
    have : ¬ m' < 0 := by omega
    simp [binOp, Op.shift, this])) (K _ (A.put (blt_lt hd) _))
theorem sx_shr (A : Fr n D T a) (hw : wantedT T l g = some true) {t u : TypeId} {x y : Operand} {k k' : IntKind} {m m' z : Int} (hx : ev T x = some (.int k m)) (hy : ev T y = some (.int k' m')) (hd : Nat.blt d n = true)
    (K : ∀ a', Fr n D ((d, .int k z) :: T) a' → wpList P l.toArray Q rest a' w) (h0 : 0 ≤ m' := by omega) (hz : m.fdiv (2 ^ min m'.toNat k.bits) = z := by first | assumption | exact shr_4 _ | exact shr_1 _ | exact rfl) : wpList P l.toArray Q (⟨some d, .binOp .shr t x y u, ty, pos, aft, g⟩ :: rest) a w := by
  subst hz
  exact list_run A hw (bin_run A rfl hx hy (eqGuard_int ..) (by
    have : ¬ m' < 0 := by omega
    simp [binOp, Op.shift, this])) (K _ (A.put (blt_lt hd) _))
theorem sx_compl (A : Fr n D T a) (hw : wantedT T l g = some true) {t : TypeId} {x : Operand} {k : IntKind} {m z : Int} (hx : ev T x = some (.int k m)) (hd : Nat.blt d n = true) (hz : arithI .xor k (if k.signed then -1 else k.max) m = some z)
    (K : ∀ a', Fr n D ((d, .int k z) :: T) a' → wpList P l.toArray Q rest a' w) : wpList P l.toArray Q (⟨some d, .unOp .xor t x, ty, pos, aft, g⟩ :: rest) a w := by
  refine list_run A hw (v := .int k z) (w' := w) ?_ (K _ (A.put (blt_lt hd) _))
  have h := Option.some.inj hz
  unfold execOp
  simp only [A.ev hx, Op.unary, Op.intBits]
  rw [← h]; rfl
theorem compl32 (r : BitVec 32) : arithI .xor .u32 (if IntKind.u32.signed then -1 else IntKind.u32.max) (r.toNat : Int) = some ((~~~r).toNat : Int) := by
  have h : ~~~r = BitVec.ofInt 32 4294967295 ^^^ BitVec.ofInt 32 (r.toNat : Int) := by
    rw [BitVec.xor_comm, BitVec.ofInt_natCast]
    have : BitVec.ofInt 32 4294967295 = BitVec.allOnes 32 := by decide
    rw [this, BitVec.xor_allOnes]; simp
  have h2 := bv_wrap (~~~r)
  rw [h] at h2 ⊢
  exact congrArg some h2
/-! Bytes as a text. -/
def strB (ns : List Int) : ByteArray := ns.foldl (fun r n => r.push (UInt8.ofNat n.toNat)) ByteArray.empty
theorem strB_data (ns : List Int) : (strB ns).data.toList = ns.map (fun n => UInt8.ofNat n.toNat) := by
  have : ∀ (ns : List Int) (r : ByteArray), (ns.foldl (fun r n => r.push (UInt8.ofNat n.toNat)) r).data.toList = r.data.toList ++ ns.map (fun n => UInt8.ofNat n.toNat) := by
    intro ns
    induction ns with
    | nil => intro r; simp
    | cons n ns ih => intro r; rw [List.foldl_cons, ih]; simp [ByteArray.push]
  have h := this ns ByteArray.empty
  unfold strB
  rw [h]; rfl
theorem strB_size (ns : List Int) : (strB ns).size = ns.length := by
  have := congrArg List.length (strB_data ns)
  rw [List.length_map] at this
  exact this
theorem b2s_run {xs' : List Int} (hT : TbOk P tb) (hsrc : Src' (Kd.int .u8) Ad xs' w F) {c : Nat} {t u e : TypeId} {sz by_ sz1 by1 sze bye : Nat} {zs1 zs2 zse : List Value} (hu : tb.lookup u = some ⟨.slice e, sz, by_, zs1⟩) (he : tb.lookup e = some ⟨.int .u8, sze, bye, zse⟩) (ht : tb.lookup t = some ⟨.string, sz1, by1, zs2⟩) : (convert u t (.slice Ad xs'.length c)).run P w = .ok (.string (strB xs')) w := by
  obtain ⟨cs, g1, g2, g3, g4⟩ := hsrc
  obtain ⟨d1, h1, h1', hk1⟩ := (hT _ _ hu).run_und w
  obtain ⟨d2, h2, h2', hk2⟩ := (hT _ _ ht).run_und w
  obtain ⟨d3, h3, h3', hk3⟩ := (hT _ _ he).run_und w
  cases d1 <;> simp only [tk] at hk1 <;> try cases hk1
  cases d2 <;> simp only [tk] at hk2 <;> try cases hk2
  cases d3 <;> simp only [tk] at hk3 <;> try cases hk3
  have hcs : cs = xs'.map (Value.int .u8) := by
    obtain ⟨q1, q2⟩ := g1.now
    apply List.ext_getElem?
    intro j
    rw [List.getElem?_map]
    cases hx : xs'[j]? with
    | none => rw [List.getElem?_eq_none]; rfl; rw [q1]; have := List.getElem?_eq_none_iff.1 hx; show xs'.length * 1 ≤ j; omega
    | some x =>
      have : (cs.drop (j * 1)).take 1 = [.int .u8 x] := q2 j x hx
      have h4 := congrArg (fun l : List Value => l[0]?) this
      simp at h4
      simp [h4]
  subst hcs
  cases Ad with
  | none =>
    have : xs'.length = 0 := by rcases Nat.eq_zero_or_pos xs'.length with h | h; exact h; obtain ⟨_, e, _⟩ := g4 h; cases e
    have := List.eq_nil_of_length_eq_zero this
    subst this
    simp [convert, h1, h2, h3, Conv.bytesToString]; rfl
  | some ad =>
    have hl : (loadCells ad xs'.length).run P w = .ok (xs'.map (Value.int .u8)).toArray w := by
      rcases Nat.eq_zero_or_pos xs'.length with h | h
      · have := List.eq_nil_of_length_eq_zero h
        subst this
        exact congrArg (fun q => Sem.run P q w) (load0 ad)
      · obtain ⟨a0, e, h5⟩ := g4 h
        obtain rfl := Option.some.inj e
        have := run_loadCells_list (P := P) w ad _ h5
        rwa [List.length_map] at this
    have := run_bytesToString (P := P) w ad xs'.length c xs' hl
    simp [convert, h1, h2, h3, this, strB]

end
end Go.Proofs.YtniplmjbligmlaaDoor.V

/-! Loops; regions that draw their order; calls of function values; what a call leaves. -/
namespace Go.Proofs.YtniplmjbligmlaaDoor.V
open Go.RowKit
set_option linter.unusedVariables false
set_option linter.unusedSimpArgs false
inductive Subs : Tm → Tm → Prop where
  | nil {T : Tm} : Subs [] T
  | cons {T l : Tm} {i : Nat} {v : Value} (h : T.lookup i = some v) (k : Subs l T) : Subs ((i, v) :: l) T
theorem Subs.sub {T' T : Tm} (h : Subs T' T) : Sub T' T := by
  induction h with
  | nil => exact trivial
  | cons h _ ih => exact ⟨h, ih⟩
theorem lk_succ {T : Tm} {k i : Nat} {q : IntKind} (h : T.lookup k = some (.int q ((i : Int) + 1))) : T.lookup k = some (.int q ((i + 1 : Nat) : Int)) := h.trans (by simp)
theorem Fr.subs {n : Nat} {D : List Deferred} {T T' : Tm} {a : Act} (A : Fr n D T a) (h : Subs T' T := by (repeat (first | exact Subs.nil | refine Subs.cons rfl ?_ | refine Subs.cons (lk_succ rfl) ?_))) : Fr n D T' a := A.sub h.sub
section
variable {P : Program} {Q : Exit → Act → World → Prop} {a : Act} {w : World} {n : Nat} {D : List Deferred} {T : Tm} {tb : Tb}
variable {M F0 F : Nat → Prop} {w0 : World} {B B' : List Box} {R : List (World → Prop)}
/-- A loop whose rounds turn the slots of v, the blocks Bf and what is known, Rf. -/
theorem sx_rounds {ι : Type} {c : Code} (ok : ι → Prop) (v : ι → Tm) (Bf : ι → List Box) (Rf : ι → List (World → Prop)) (μ : ι → Nat) (i0 : ι) (H : St M F0 w0 F (Bf i0) (Rf i0) w) (A : Fr n D (v i0) a) (h0 : ok i0)
    (round : ∀ i F a w, ok i → St M F0 w0 F (Bf i) (Rf i) w → Fr n D (v i) a → c.wp P (Exit.then (fun a' w' => ∃ j F', ok j ∧ μ j < μ i ∧ St M F0 w0 F' (Bf j) (Rf j) w' ∧ Fr n D (v j) a') Q) a w) : (Code.loop c).wp P Q a w := by
  refine sx_loop (fun i a w => ok i ∧ ∃ F, St M F0 w0 F (Bf i) (Rf i) w ∧ Fr n D (v i) a) μ i0 ⟨h0, F, H, A⟩ (fun i a w ⟨h, F, H, A⟩ => ?_)
  refine wp_mono (round i F a w h H A) (fun e a' w' hq => ?_)
  cases e with
  | normal => obtain ⟨j, F', hj, hm, H', A'⟩ := hq; exact ⟨j, ⟨hj, F', H', A'⟩, hm⟩
  | exit => exact hq
  | goto => exact hq
  | ret => exact hq
  | panic => exact hq
  | outgrown => exact hq
/-- A loop whose rounds turn nothing but the slots of v, which are the first m of those that are told. -/
theorem sx_count {c : Code} (H : St M F0 w0 F B R w) (A : Fr n D T a) (m : Nat) (ok : Nat → Prop) (v : Nat → Tm) (μ : Nat → Nat) (h0 : ok 0)
    (round : ∀ i F a w, ok i → St M F0 w0 F B R w → Fr n D (v i ++ T.drop m) a → c.wp P (Exit.then (fun a' w' => ∃ j F', ok j ∧ μ j < μ i ∧ St M F0 w0 F' B R w' ∧ Fr n D (v j ++ T.drop m) a') Q) a w) (hs : Subs (v 0 ++ T.drop m) T := by (repeat (first | exact Subs.nil | refine Subs.cons rfl ?_ | refine Subs.cons (lk_succ rfl) ?_))) : (Code.loop c).wp P Q a w :=
  sx_rounds ok (fun i => v i ++ T.drop m) (fun _ => B) (fun _ => R) μ 0 H (A.subs hs) h0 round
/-- The end of a round. -/
theorem sx_next {I : Nat → (Nat → Prop) → Act → World → Prop} (j : Nat) {F : Nat → Prop} (h : I j F a w) : ∃ j F', I j F' a w := ⟨j, F, h⟩
end
def Cls (M F0 : Nat → Prop) (w0 : World) (B : List Box) (R : List (World → Prop)) : World → Prop := fun w => ∃ F, St M F0 w0 F B R w
section
variable {P : Program} {l : List Oper} {a : Act} {rest : List Oper} {Q : Exit → Act → World → Prop} {Qa : Act → Prop} {C : World → Prop} {w : World} {n : Nat} {D : List Deferred} {T : Tm} {tb : Tb}
variable {d : Nat} {op : Op} {ty : TypeId} {pos : String} {aft : Array Edge} {g : Option (Nat × Bool)}
variable {M F0 F : Nat → Prop} {w0 : World} {B B' : List Box} {R : List (World → Prop)}
theorem qx_region (H : St M F0 w0 F B R w) {id : Nat} (hm : P.follows .mixedOrders = true) (hB : Region.lexB .any l.toArray = true)
    (h : wpQuiet P l.toArray (Cls M F0 w0 B R) (fun a' => ∀ w' F', St M F0 w0 F' B R w' → Q .normal a' w') l a) : (Code.region id l.toArray true).wp P Q a w :=
  wp_region_quiet (C := Cls M F0 w0 B R) hm hB ⟨F, H.drew 1⟩ (wpQuiet_cls l a h)
where
  wpQuiet_cls : ∀ (l' : List Oper) (a : Act), wpQuiet P l.toArray (Cls M F0 w0 B R) (fun a' => ∀ w' F', St M F0 w0 F' B R w' → Q .normal a' w') l' a → wpQuiet P l.toArray (Cls M F0 w0 B R) (fun a' => ∀ w', Cls M F0 w0 B R w' → Q .normal a' w') l' a
    | [], a, h => fun w' ⟨F', H'⟩ => h w' F' H'
    | o :: r, a, h => by
      unfold wpQuiet at h ⊢
      split
      · rename_i hw
        rw [if_pos hw] at h
        obtain ⟨v, h1, h2⟩ := h
        exact ⟨v, h1, wpQuiet_cls r _ h2⟩
      · rename_i hw
        rw [if_neg hw] at h
        exact wpQuiet_cls r _ h
theorem g_draw {id : Nat} (h : (Code.region id l.toArray true).wp P Q a w) : (Code.region id l.toArray true).wp P Q a w := h
theorem q_run {o : Oper} (A : Fr n D T a) (hw : wantedT T l o.guard = some true) {v : Value} (hr : ∀ w, C w → (execOp a.eval o).run P w = .ok (.value v) w) (k : wpQuiet P l.toArray C Qa rest (a.put o.dst v)) : wpQuiet P l.toArray C Qa (o :: rest) a := by
  unfold wpQuiet
  rw [if_pos (wanted_of A hw)]
  exact ⟨v, fun w hw => by unfold Oper.quietAt; rw [hr w hw]; exact ⟨rfl, rfl⟩, k⟩
theorem qx_nil (h : Qa a) : wpQuiet P l.toArray C Qa [] a := h
theorem q_at {o : Oper} (h : wpQuiet P l.toArray C Qa (o :: rest) a) : wpQuiet P l.toArray C Qa (o :: rest) a := h
theorem qg_bin {bop : BinOp} {t u : TypeId} {x y : Operand} (h : wpQuiet P l.toArray C Qa (⟨some d, .binOp bop t x y u, ty, pos, aft, g⟩ :: rest) a) : wpQuiet P l.toArray C Qa (⟨some d, .binOp bop t x y u, ty, pos, aft, g⟩ :: rest) a := h
theorem qg_int (A : Fr n D T a) {bop : BinOp} {t u : TypeId} {x y : Operand} {k : IntKind} {m : Int} (hx : ev T x = some (.int k m)) (h : wpQuiet P l.toArray C Qa (⟨some d, .binOp bop t x y u, ty, pos, aft, g⟩ :: rest) a) : wpQuiet P l.toArray C Qa (⟨some d, .binOp bop t x y u, ty, pos, aft, g⟩ :: rest) a := h
theorem qg_str (A : Fr n D T a) {bop : BinOp} {t u : TypeId} {x y : Operand} {s : ByteArray} (hx : ev T x = some (.string s)) (h : wpQuiet P l.toArray C Qa (⟨some d, .binOp bop t x y u, ty, pos, aft, g⟩ :: rest) a) : wpQuiet P l.toArray C Qa (⟨some d, .binOp bop t x y u, ty, pos, aft, g⟩ :: rest) a := h
theorem qg_load {t : TypeId} {x : Operand} (h : wpQuiet P l.toArray C Qa (⟨some d, .load t x, ty, pos, aft, g⟩ :: rest) a) : wpQuiet P l.toArray C Qa (⟨some d, .load t x, ty, pos, aft, g⟩ :: rest) a := h
theorem qg_builtin {b : Builtin} {xs : Array Operand} {ts : Array TypeId} (h : wpQuiet P l.toArray C Qa (⟨some d, .call ⟨.builtin b, xs, ts⟩, ty, pos, aft, g⟩ :: rest) a) : wpQuiet P l.toArray C Qa (⟨some d, .call ⟨.builtin b, xs, ts⟩, ty, pos, aft, g⟩ :: rest) a := h
theorem qg_slice {t : TypeId} {x : Operand} {lo hi mx : Option Operand} (h : wpQuiet P l.toArray C Qa (⟨some d, .slice t x lo hi mx, ty, pos, aft, g⟩ :: rest) a) : wpQuiet P l.toArray C Qa (⟨some d, .slice t x lo hi mx, ty, pos, aft, g⟩ :: rest) a := h
theorem qx_pure (A : Fr n D T a) (hT : TbOk P tb) (hw : wantedT T l g = some true) {v : Value} (hv : pureOp tb T op = some v) (hd : Nat.blt d n = true)
    (k : ∀ a', Fr n D ((d, v) :: T) a' → wpQuiet P l.toArray C Qa rest a') : wpQuiet P l.toArray C Qa (⟨some d, op, ty, pos, aft, g⟩ :: rest) a :=
  q_run A hw (fun w _ => pure_run hT A hv) (k _ (A.put (blt_lt hd) v))
theorem qx_skip (A : Fr n D T a) (hw : wantedT T l g = some false) (hd : Nat.blt d n = true)
    (k : ∀ a', Fr n D ((d, undef) :: T) a' → wpQuiet P l.toArray C Qa rest a') : wpQuiet P l.toArray C Qa (⟨some d, op, ty, pos, aft, g⟩ :: rest) a := by
  unfold wpQuiet
  have := wanted_of (o := ⟨some d, op, ty, pos, aft, g⟩) A hw
  rw [if_neg (by rw [this]; decide)]
  exact k _ (A.put (blt_lt hd) undef)
theorem qx_arith (A : Fr n D T a) (hw : wantedT T l g = some true) {bop : BinOp} {t u : TypeId} {x y : Operand} {k : IntKind} {m m' z : Int} (hx : ev T x = some (.int k m)) (hy : ev T y = some (.int k m')) (hd : Nat.blt d n = true)
    (K : ∀ a', Fr n D ((d, .int k z) :: T) a' → wpQuiet P l.toArray C Qa rest a') (hr : arithI bop k m m' = some z := by first | ((with_reducible refine add_i64 ?_ ?_) <;> omega) | ((with_reducible refine sub_i64 ?_ ?_) <;> omega) | ((with_reducible refine mul_i64 ?_ ?_) <;> omega) | ((with_reducible refine rem_pos ?_ ?_) <;> omega) | ((with_reducible refine quo_pos ?_ ?_ ?_) <;> omega) | ((with_reducible refine rem_any ?_); omega) | exact rfl) : wpQuiet P l.toArray C Qa (⟨some d, .binOp bop t x y u, ty, pos, aft, g⟩ :: rest) a :=
  q_run A hw (fun w _ => bin_run A rfl hx hy (eqGuard_int ..) (arith_run hr t)) (K _ (A.put (blt_lt hd) _))
theorem qx_cmp (A : Fr n D T a) (hw : wantedT T l g = some true) {bop : BinOp} {t u : TypeId} {x y : Operand} {k : IntKind} {m m' : Int} {b : Bool} (hx : ev T x = some (.int k m)) (hy : ev T y = some (.int k m')) (hd : Nat.blt d n = true)
    (K : ∀ a', Fr n D ((d, .bool b) :: T) a' → wpQuiet P l.toArray C Qa rest a') (hr : cmpI bop m m' = some b := by first | with_reducible exact neq_f rfl | with_reducible exact eql_t rfl | ((with_reducible refine lss_t ?_); omega) | ((with_reducible refine lss_f ?_); omega) | ((with_reducible refine leq_t ?_); omega) | ((with_reducible refine leq_f ?_); omega) | ((with_reducible refine gtr_t ?_); omega) | ((with_reducible refine gtr_f ?_); omega) | ((with_reducible refine geq_t ?_); omega) | ((with_reducible refine geq_f ?_); omega) | ((with_reducible refine eql_t ?_); omega) | ((with_reducible refine eql_f ?_); omega) | ((with_reducible refine neq_t ?_); omega) | ((with_reducible refine neq_f ?_); omega) | exact rfl) : wpQuiet P l.toArray C Qa (⟨some d, .binOp bop t x y u, ty, pos, aft, g⟩ :: rest) a :=
  q_run A hw (fun w _ => bin_run A rfl hx hy (eqGuard_int ..) (cmp_run hr t)) (K _ (A.put (blt_lt hd) _))
theorem qx_scmp (A : Fr n D T a) (hw : wantedT T l g = some true) {bop : BinOp} {t u : TypeId} {x y : Operand} {s s' : ByteArray} {b : Bool} (hx : ev T x = some (.string s)) (hy : ev T y = some (.string s')) (hd : Nat.blt d n = true)
    (K : ∀ a', Fr n D ((d, .bool b) :: T) a' → wpQuiet P l.toArray C Qa rest a') (hr : cmpS bop s s' = some b := by first | with_reducible exact seq_t rfl | with_reducible exact sne_f rfl | exact seq_t (by with_reducible assumption) | exact seq_f (by with_reducible assumption) | exact sne_t (by with_reducible assumption) | exact sne_f (by with_reducible assumption) | exact rfl) : wpQuiet P l.toArray C Qa (⟨some d, .binOp bop t x y u, ty, pos, aft, g⟩ :: rest) a :=
  q_run A hw (fun w _ => bin_run A rfl hx hy (eqGuard_str ..) (cmpS_run hr t)) (K _ (A.put (blt_lt hd) _))
theorem qx_concat (A : Fr n D T a) (hw : wantedT T l g = some true) {t u : TypeId} {x y : Operand} {s s' : ByteArray} (hx : ev T x = some (.string s)) (hy : ev T y = some (.string s')) (hd : Nat.blt d n = true)
    (K : ∀ a', Fr n D ((d, .string (s ++ s')) :: T) a' → wpQuiet P l.toArray C Qa rest a') (hr : s.size + s'.size ≤ 9223372036854775807 := by first | omega | (simp only [ByteArray.size_append, size_B, putL_length, List.length_append, List.length_cons, List.length_nil]; omega)) : wpQuiet P l.toArray C Qa (⟨some d, .binOp .add t x y u, ty, pos, aft, g⟩ :: rest) a :=
  q_run A hw (fun w _ => bin_run A rfl hx hy (eqGuard_str ..) (by
    have h1 : ¬ ((s.size + s'.size : Nat) : Int) > IntKind.i64.max := by rw [show IntKind.i64.max = 9223372036854775807 by decide]; omega
    simp only [binOp, Op.stringOp]; rw [if_neg h1]; rfl)) (K _ (A.put (blt_lt hd) _))
theorem qx_min (A : Fr n D T a) (hw : wantedT T l g = some true) {x y : Operand} {ts : Array TypeId} {k : IntKind} {m m' z : Int} (hx : ev T x = some (.int k m)) (hy : ev T y = some (.int k m')) (hd : Nat.blt d n = true)
    (K : ∀ a', Fr n D ((d, .int k z) :: T) a' → wpQuiet P l.toArray C Qa rest a') (hz : min m m' = z := by first | ((with_reducible refine min_l ?_); omega) | ((with_reducible refine min_r ?_); omega) | exact rfl) : wpQuiet P l.toArray C Qa (⟨some d, .call ⟨.builtin .min, #[x, y], ts⟩, ty, pos, aft, g⟩ :: rest) a := by
  refine q_run A hw (v := .int k z) (fun w _ => ?_) (K _ (A.put (blt_lt hd) _))
  unfold execOp
  have e : (if m' < m then m' else m) = z := by rw [← hz]; split <;> omega
  simp [resolve, invoke, builtin, Builtin.min_, A.ev hx, A.ev hy, Builtin.min2, e]
theorem qx_max (A : Fr n D T a) (hw : wantedT T l g = some true) {x y : Operand} {ts : Array TypeId} {k : IntKind} {m m' z : Int} (hx : ev T x = some (.int k m)) (hy : ev T y = some (.int k m')) (hd : Nat.blt d n = true)
    (K : ∀ a', Fr n D ((d, .int k z) :: T) a' → wpQuiet P l.toArray C Qa rest a') (hz : max m m' = z := by first | ((with_reducible refine max_l ?_); omega) | ((with_reducible refine max_r ?_); omega) | exact rfl) : wpQuiet P l.toArray C Qa (⟨some d, .call ⟨.builtin .max, #[x, y], ts⟩, ty, pos, aft, g⟩ :: rest) a := by
  refine q_run A hw (v := .int k z) (fun w _ => ?_) (K _ (A.put (blt_lt hd) _))
  unfold execOp
  have e : (if m < m' then m' else m) = z := by rw [← hz]; split <;> omega
  simp [resolve, invoke, builtin, Builtin.max_, A.ev hx, A.ev hy, Builtin.max2, e]
theorem qx_sstr (A : Fr n D T a) (hT : TbOk P tb) (hw : wantedT T l g = some true) {t : TypeId} {x : Operand} {lo hi : Option Operand} {s : ByteArray} {i j : Int} {sz by_ : Nat} {zs : List Value} (ht : tb.lookup t = some ⟨.string, sz, by_, zs⟩) (hx : ev T x = some (.string s)) (hlo : bnd T 0 lo = some i) (hhi : bnd T s.size hi = some j) (hd : Nat.blt d n = true)
    (K : ∀ a', Fr n D ((d, .string (s.extract i.toNat j.toNat)) :: T) a' → wpQuiet P l.toArray C Qa rest a') (h0 : 0 ≤ i := by omega) (h1 : i ≤ j := by omega) (h2 : j ≤ s.size := by omega) : wpQuiet P l.toArray C Qa (⟨some d, .slice t x lo hi none, ty, pos, aft, g⟩ :: rest) a := by
  refine q_run A hw (v := .string (s.extract i.toNat j.toNat)) (fun w _ => ?_) (K _ (A.put (blt_lt hd) _))
  obtain ⟨dd, hdd, _, hk⟩ := (hT _ _ ht).run_und w
  cases dd <;> simp only [tk] at hk <;> try cases hk
  have hb := run_bounds (P := P) (w := w) A false s.size s.size hlo hhi h0 h1 h2 (Nat.le_refl _)
  unfold execOp
  simp [Instr.sliceAt, Instr.slice, hdd, A.ev hx, hb]
/-! Truths that are held against each other. -/
theorem run_beq {t : TypeId} (p q : Bool) (ht : P.underlying t = some .bool) : (binOp .eql t (.bool p) (.bool q)).run P w = .ok (.bool (p == q)) w ∧ (binOp .neq t (.bool p) (.bool q)).run P w = .ok (.bool (p != q)) w := by
  have h := fun w : World => run_equalIn_bool' (P := P) (w := w) 9999 t p q ht
  constructor <;> simp [binOp, Op.equal, Op.maxDepth, h, bne]
theorem sx_bne (A : Fr n D T a) (hT : TbOk P tb) (hw : wantedT T l g = some true) {t u : TypeId} {x y : Operand} {p q b : Bool} {sz by_ : Nat} {zs : List Value} (ht : tb.lookup t = some ⟨.bool, sz, by_, zs⟩) (hx : ev T x = some (.bool p)) (hy : ev T y = some (.bool q)) (hb : (p != q) = b) (hd : Nat.blt d n = true)
    (K : ∀ a', Fr n D ((d, .bool b) :: T) a' → wpList P l.toArray Q rest a' w) : wpList P l.toArray Q (⟨some d, .binOp .neq t x y u, ty, pos, aft, g⟩ :: rest) a w := by
  obtain ⟨dd, hdd, hu, hk⟩ := (hT _ _ ht).run_und w
  cases dd <;> simp only [tk] at hk <;> try cases hk
  subst hb
  exact list_run A hw (bin_run A rfl hx hy (eqGuard_bool ..) (run_beq p q hu).2) (K _ (A.put (blt_lt hd) _))
theorem sx_beq (A : Fr n D T a) (hT : TbOk P tb) (hw : wantedT T l g = some true) {t u : TypeId} {x y : Operand} {p q b : Bool} {sz by_ : Nat} {zs : List Value} (ht : tb.lookup t = some ⟨.bool, sz, by_, zs⟩) (hx : ev T x = some (.bool p)) (hy : ev T y = some (.bool q)) (hb : (p == q) = b) (hd : Nat.blt d n = true)
    (K : ∀ a', Fr n D ((d, .bool b) :: T) a' → wpList P l.toArray Q rest a' w) : wpList P l.toArray Q (⟨some d, .binOp .eql t x y u, ty, pos, aft, g⟩ :: rest) a w := by
  obtain ⟨dd, hdd, hu, hk⟩ := (hT _ _ ht).run_und w
  cases dd <;> simp only [tk] at hk <;> try cases hk
  subst hb
  exact list_run A hw (bin_run A rfl hx hy (eqGuard_bool ..) (run_beq p q hu).1) (K _ (A.put (blt_lt hd) _))
end
section
variable {P : Program} {l : List Oper} {a : Act} {rest : List Oper} {Q : Exit → Act → World → Prop} {Qa : Act → Prop} {C : World → Prop} {w : World} {n : Nat} {D : List Deferred} {T : Tm} {tb : Tb}
variable {d : Nat} {op : Op} {ty : TypeId} {pos : String} {aft : Array Edge} {g : Option (Nat × Bool)}
variable {M F0 F : Nat → Prop} {w0 : World} {B B' : List Box} {R : List (World → Prop)}
variable {α : Type} {dk : Kd α} {Ad : Option Addr} {xs ys : List α}
theorem qx_load (A : Fr n D T a) (hT : TbOk P tb) (hw : wantedT T l g = some true) {t : TypeId} {x : Operand} {b o : Nat} {tt : TypeId} {cs : List Value} {i : TyI} {v v' : Value} (hx : ev T x = some (.pointer (some ⟨b, o, none⟩))) (hi : tb.lookup t = some i) (hd : Nat.blt d n = true) (k : ∀ a', Fr n D ((d, v') :: T) a' → wpQuiet P l.toArray (Cls M F0 w0 B R) Qa rest a') (hm : .mk b tt cs ∈ B := by (repeat (first | with_reducible exact List.mem_cons_self | apply List.mem_cons_of_mem)))
    (hv : loadC i cs o = some v := by rfl) (hn : v = v' := by first | (simp only [putC, fillC, Value.cells, List.toList_toArray, List.take_zero, List.take_succ_cons, List.take_nil, List.drop_zero, List.drop_succ_cons, List.drop_nil, List.nil_append, List.cons_append, List.append_nil, List.length_cons, List.length_nil, Nat.reduceAdd, Nat.add_zero, Nat.zero_add, Array.toArray_toList, List.take_length, List.drop_length]; done) | (simp only [putC, fillC, Value.cells, List.toList_toArray, List.take_zero, List.take_succ_cons, List.take_nil, List.drop_zero, List.drop_succ_cons, List.drop_nil, List.nil_append, List.cons_append, List.append_nil, List.length_cons, List.length_nil, Nat.reduceAdd, Nat.add_zero, Nat.zero_add, Array.toArray_toList, List.take_length, List.drop_length]; rfl) | rfl) : wpQuiet P l.toArray (Cls M F0 w0 B R) Qa (⟨some d, .load t x, ty, pos, aft, g⟩ :: rest) a := by
  subst hn
  refine q_run A hw (v := v) (fun w hC => ?_) (k _ (A.put (blt_lt hd) _))
  obtain ⟨F, H⟩ := hC
  obtain ⟨h1, h2⟩ := load_row (H.box _ hm) (hT _ _ hi) o
  have hr : (loadVar t ⟨b, o, none⟩).run P w = .ok v w := by
    unfold loadC at hv
    cases hk : i.kind.row with
    | true =>
      rw [hk] at hv
      cases hb : Nat.ble (o + i.size) cs.length with
      | true => simp only [hb, cond_true] at hv; rw [← Option.some.inj hv]; exact h1 hk (Nat.le_of_ble_eq_true hb)
      | false => simp [hb] at hv
    | false => rw [hk] at hv; exact h2 hk v hv
  unfold execOp
  simp [A.ev hx, Instr.loadAt, Instr.sureAddr, hr]
theorem qg_idx {t : TypeId} {x y : Operand} (h : wpQuiet P l.toArray C Qa (⟨some d, .indexAddr t x y, ty, pos, aft, g⟩ :: rest) a) : wpQuiet P l.toArray C Qa (⟨some d, .indexAddr t x y, ty, pos, aft, g⟩ :: rest) a := h
theorem qg_index {t : TypeId} {x y : Operand} (h : wpQuiet P l.toArray C Qa (⟨some d, .index t x y, ty, pos, aft, g⟩ :: rest) a) : wpQuiet P l.toArray C Qa (⟨some d, .index t x y, ty, pos, aft, g⟩ :: rest) a := h
theorem qg_field {t : TypeId} {x : Operand} {f : Nat} (h : wpQuiet P l.toArray C Qa (⟨some d, .fieldAddr t x f, ty, pos, aft, g⟩ :: rest) a) : wpQuiet P l.toArray C Qa (⟨some d, .fieldAddr t x f, ty, pos, aft, g⟩ :: rest) a := h
theorem qg_conv {t u : TypeId} {x : Operand} (h : wpQuiet P l.toArray C Qa (⟨some d, .convert t u x, ty, pos, aft, g⟩ :: rest) a) : wpQuiet P l.toArray C Qa (⟨some d, .convert t u x, ty, pos, aft, g⟩ :: rest) a := h
theorem idx_runN (A : Fr n D T a) (hT : TbOk P tb) {t e : TypeId} {x y : Operand} {nn c : Nat} {k : IntKind} {i : Int} {sz by_ sze bye : Nat} {zs zse : List Value} {ke : TK} (ht : tb.lookup t = some ⟨.slice e, sz, by_, zs⟩) (he : tb.lookup e = some ⟨ke, sze, bye, zse⟩)
    (hx : ev T x = some (.slice Ad nn c)) (hy : ev T y = some (.int k i)) (hs : ∃ ad, Ad = some ad) (h0 : 0 ≤ i) (h1 : i < nn) : ∀ w : World, (execOp a.eval ⟨some d, .indexAddr t x y, ty, pos, aft, g⟩).run P w = .ok (.value (eAt Ad i.toNat sze 0)) w := fun w => idx_run A hT ht he hx hy hs h0 h1 w
theorem qx_idx (H : St M F0 w0 F B R w) (A : Fr n D T a) (hT : TbOk P tb) (hw : wantedT T l g = some true) {t e : TypeId} {x y : Operand} {nn : Nat} {c : Nat} {k : IntKind} {i : Int} {m sz by_ sze bye : Nat} {zs zse : List Value} {ke : TK} (ht : tb.lookup t = some ⟨.slice e, sz, by_, zs⟩) (he : tb.lookup e = some ⟨ke, sze, bye, zse⟩)
    (hx : ev T x = some (.slice Ad nn c)) (hy : ev T y = some (.int k i)) (hd : Nat.blt d n = true)
    (K : ∀ a', Fr n D ((d, eAt Ad m sze 0) :: T) a' → wpQuiet P l.toArray C Qa rest a')
    (hm : rdc dk Ad xs ∈ R := by (repeat (first | with_reducible exact List.mem_cons_self | apply List.mem_cons_of_mem))) (hi : i.toNat = m := by first | with_reducible exact Int.toNat_natCast _ | exact rfl) (h0 : 0 ≤ i := by omega) (h1 : i < xs.length := by omega) (hn : nn = xs.length := by first | rfl | assumption | omega | (simp only [List.length_append, List.length_cons, List.length_nil, List.length_set, List.length_replicate, List.length_take, List.length_drop, List.length_map]; omega)) : wpQuiet P l.toArray C Qa (⟨some d, .indexAddr t x y, ty, pos, aft, g⟩ :: rest) a := by
  subst hn
  subst hi
  exact q_run A hw (fun w1 _ => idx_run A hT ht he hx hy (by obtain ⟨ad, h, _⟩ := (H.get hm).now (by omega); exact ⟨ad, h⟩) h0 h1 w1) (K _ (A.put (blt_lt hd) _))
theorem qx_oidx (H : St M F0 w0 F B R w) (A : Fr n D T a) (hT : TbOk P tb) (hw : wantedT T l g = some true) {t e e' : TypeId} {x y : Operand} {nn : Nat} {c : Nat} {k : IntKind} {i : Int} {m sz by_ sze bye : Nat} {zs zse : List Value} {ke : TK} (ht : tb.lookup t = some ⟨.slice e, sz, by_, zs⟩) (he : tb.lookup e = some ⟨ke, sze, bye, zse⟩)
    (hx : ev T x = some (.slice Ad nn c)) (hy : ev T y = some (.int k i)) (hd : Nat.blt d n = true)
    (K : ∀ a', Fr n D ((d, eAt Ad m sze 0) :: T) a' → wpQuiet P l.toArray C Qa rest a')
    (hm : .row dk e' Ad c ys ∈ B := by (repeat (first | with_reducible exact List.mem_cons_self | apply List.mem_cons_of_mem))) (hi : i.toNat = m := by first | with_reducible exact Int.toNat_natCast _ | exact rfl) (h0 : 0 ≤ i := by omega) (h1 : i < ys.length := by first | omega | (simp only [List.length_append, List.length_cons, List.length_nil, List.length_set, List.length_replicate]; omega)) (hn : nn = ys.length := by first | rfl | assumption | omega | (simp only [List.length_append, List.length_cons, List.length_nil, List.length_set, List.length_replicate, List.length_take, List.length_drop, List.length_map]; omega)) : wpQuiet P l.toArray C Qa (⟨some d, .indexAddr t x y, ty, pos, aft, g⟩ :: rest) a := by
  subst hn
  subst hi
  exact q_run A hw (fun w1 _ => idx_run A hT ht he hx hy (by obtain ⟨b, h⟩ := H.row_some hm (by omega); exact ⟨_, h⟩) h0 h1 w1) (K _ (A.put (blt_lt hd) _))
/-- What an element of this kind has at o, whatever the memory. -/
def fixedAt {α : Type} (dk : Kd α) (x : α) (i : TyI) (o : Nat) (v : Value) : Prop := ∀ W c, dk.K W x c → loadC i c o = some v
theorem qx_eload (A : Fr n D T a) (hT : TbOk P tb) (hw : wantedT T l g = some true) {t : TypeId} {y : Operand} {m sz o : Nat} {x : α} {i : TyI} {v : Value} (hy : ev T y = some (eAt Ad m sz o)) (hi : tb.lookup t = some i) (hd : Nat.blt d n = true) (h0 : Nat.blt 0 sz = true)
    (K : ∀ a', Fr n D ((d, v) :: T) a' → wpQuiet P l.toArray (Cls M F0 w0 B R) Qa rest a') (hv : fixedAt dk x i o v)
    (hm : rdc dk Ad xs ∈ R := by (repeat (first | with_reducible exact List.mem_cons_self | apply List.mem_cons_of_mem))) (hs : dk.sz = sz := by rfl) (hx : xs[m]? = some x := by first | assumption | exact List.getElem?_eq_getElem (by omega)) : wpQuiet P l.toArray (Cls M F0 w0 B R) Qa (⟨some d, .load t y, ty, pos, aft, g⟩ :: rest) a :=
  q_run A hw (fun w1 hC => by
    obtain ⟨F1, H1⟩ := hC
    obtain ⟨c, h1, h2, h3⟩ := eload_run (d := d) (ty := ty) (pos := pos) (aft := aft) (g := g) A hT (H1.get hm) hy hi hs h0 hx
    exact h3 v (hv _ _ h2.now)) (K _ (A.put (blt_lt hd) _))
theorem sx_b2s (H : St M F0 w0 F B R w) (A : Fr n D T a) (hT : TbOk P tb) (hw : wantedT T l g = some true) {xs : List Int} {c : Nat} {t u e : TypeId} {x : Operand} {nn : Nat} {sz by_ sz1 by1 sze bye : Nat} {zs1 zs2 zse : List Value} (hx : ev T x = some (.slice Ad nn c)) (hu : tb.lookup u = some ⟨.slice e, sz, by_, zs1⟩) (he : tb.lookup e = some ⟨.int .u8, sze, bye, zse⟩) (ht : tb.lookup t = some ⟨.string, sz1, by1, zs2⟩) (hd : Nat.blt d n = true)
    (K : ∀ a', Fr n D ((d, .string (strB xs)) :: T) a' → wpList P l.toArray Q rest a' w) (hm : rdc (Kd.int .u8) Ad xs ∈ R := by (repeat (first | with_reducible exact List.mem_cons_self | apply List.mem_cons_of_mem))) (hn : nn = xs.length := by first | rfl | assumption | omega | (simp only [List.length_append, List.length_cons, List.length_nil, List.length_set, List.length_replicate, List.length_take, List.length_drop, List.length_map]; omega)) : wpList P l.toArray Q (⟨some d, .convert u t x, ty, pos, aft, g⟩ :: rest) a w := by
  subst hn
  refine list_run A hw (v := .string (strB xs)) (w' := w) ?_ (K _ (A.put (blt_lt hd) _))
  have := b2s_run (P := P) (c := c) hT (src_rdc (dk := Kd.int .u8) (by decide) (H.get hm)) hu he ht
  unfold execOp
  simp [A.ev hx, this]
theorem sx_ob2s (H : St M F0 w0 F B R w) (A : Fr n D T a) (hT : TbOk P tb) (hw : wantedT T l g = some true) {xs : List Int} {c : Nat} {t u e e' : TypeId} {x : Operand} {nn : Nat} {sz by_ sz1 by1 sze bye : Nat} {zs1 zs2 zse : List Value} (hx : ev T x = some (.slice Ad nn c)) (hu : tb.lookup u = some ⟨.slice e, sz, by_, zs1⟩) (he : tb.lookup e = some ⟨.int .u8, sze, bye, zse⟩) (ht : tb.lookup t = some ⟨.string, sz1, by1, zs2⟩) (hd : Nat.blt d n = true)
    (K : ∀ a', Fr n D ((d, .string (strB xs)) :: T) a' → wpList P l.toArray Q rest a' w) (hm : .row (Kd.int .u8) e' Ad c xs ∈ B := by (repeat (first | with_reducible exact List.mem_cons_self | apply List.mem_cons_of_mem))) (hn : nn = xs.length := by first | rfl | assumption | omega | (simp only [List.length_append, List.length_cons, List.length_nil, List.length_set, List.length_replicate, List.length_take, List.length_drop, List.length_map]; omega)) : wpList P l.toArray Q (⟨some d, .convert u t x, ty, pos, aft, g⟩ :: rest) a w := by
  subst hn
  refine list_run A hw (v := .string (strB xs)) (w' := w) ?_ (K _ (A.put (blt_lt hd) _))
  have := b2s_run (P := P) (c := c) hT (src_row H hm) hu he ht
  unfold execOp
  simp [A.ev hx, this]
/-! Calls of function values. -/
theorem callv_go {o : Oper} (A : Fr n D T a) (hw : wantedT T l o.guard = some true) {f : FuncId} {y : Operand} {xs : List Operand} {ts : Array TypeId} {vs fs cs : List Value} (ho : o.op = .call ⟨.value y, xs.toArray, ts⟩) (hy : ev T y = some (.func (.func f) fs.toArray cs.toArray)) (hc : ∀ (args : Array Value) (w : World), (callFunc f args).run P w = .ok (.enter f args) w) (hv : evs T xs = some vs)
    (k : Calls P f (fs ++ vs ++ cs).toArray w fun e w' => ∃ v, e = .returned v ∧ wpList P l.toArray Q rest (a.put o.dst v) w') : wpList P l.toArray Q (o :: rest) a w := by
  refine wpList_step fun K hK => ?_
  rw [if_pos (wanted_of A hw)]
  have hrun : (execOp a.eval o).run P w = .ok (.enter f (fs ++ vs ++ cs).toArray) w := by
    unfold execOp
    simp [ho, resolve, Deferred.ofValue, invoke, A.ev hy, hc, ← evs_ok A xs vs hv]
  unfold Oper.wp
  rw [hrun, Oper.upon_enter]
  refine k.mono fun e w'' hh => ?_
  obtain ⟨v, rfl, hk⟩ := hh
  exact hK _ _ hk
theorem sx_callv (A : Fr n D T a) (hw : wantedT T l g = some true) {f : FuncId} {y : Operand} {xs : List Operand} {ts : Array TypeId} {vs fs cs vs' : List Value} (hy : ev T y = some (.func (.func f) fs.toArray cs.toArray)) (hc : ∀ (args : Array Value) (w : World), (callFunc f args).run P w = .ok (.enter f args) w) (hv : evs T xs = some vs) (hvs : fs ++ vs ++ cs = vs') (hd : Nat.blt d n = true)
    (k : Calls P f vs'.toArray w fun e w' => ∃ v, e = .returned v ∧ ∀ a', Fr n D ((d, v) :: T) a' → wpList P l.toArray Q rest a' w') : wpList P l.toArray Q (⟨some d, .call ⟨.value y, xs.toArray, ts⟩, ty, pos, aft, g⟩ :: rest) a w := by
  subst hvs
  exact callv_go A hw rfl hy hc hv (k.mono fun e w' ⟨v, he, hk⟩ => ⟨v, he, hk _ (A.put (blt_lt hd) _)⟩)
theorem sx_callv0 (A : Fr n D T a) (hw : wantedT T l g = some true) {f : FuncId} {y : Operand} {xs : List Operand} {ts : Array TypeId} {vs fs cs vs' : List Value} (hy : ev T y = some (.func (.func f) fs.toArray cs.toArray)) (hc : ∀ (args : Array Value) (w : World), (callFunc f args).run P w = .ok (.enter f args) w) (hv : evs T xs = some vs) (hvs : fs ++ vs ++ cs = vs')
    (k : Calls P f vs'.toArray w fun e w' => ∃ v, e = .returned v ∧ wpList P l.toArray Q rest a w') : wpList P l.toArray Q (⟨none, .call ⟨.value y, xs.toArray, ts⟩, ty, pos, aft, g⟩ :: rest) a w := by
  subst hvs
  exact callv_go A hw rfl hy hc hv (k.mono fun e w' ⟨v, he, hk⟩ => ⟨v, he, hk⟩)
end
/-- Where a walk stands still: for the eye alone. -/
def Stuck {α : Sort _} (o : α) : Prop := False
theorem stuckL {P : Program} {l : Array Oper} {Q : Exit → Act → World → Prop} {o : Oper} {rest : List Oper} {a : Act} {w : World} (h : Stuck o.op) : wpList P l Q (o :: rest) a w := h.elim
theorem stuckQ {P : Program} {l : Array Oper} {C : World → Prop} {Qa : Act → Prop} {o : Oper} {rest : List Oper} {a : Act} (h : Stuck o.op) : wpQuiet P l C Qa (o :: rest) a := h.elim
theorem stuckC {P : Program} {Q : Exit → Act → World → Prop} {id : Nat} {l : Array Oper} {b : Bool} {a : Act} {w : World} (h : Stuck id) : (Code.region id l b).wp P Q a w := h.elim
theorem stuckB {P : Program} {Q : Exit → Act → World → Prop} {c : Code} {a : Act} {w : World} (h : Stuck "loop") : (Code.loop c).wp P Q a w := h.elim
theorem stuckI {P : Program} {Q : Exit → Act → World → Prop} {c : Operand} {x y : Code} {a : Act} {w : World} (h : Stuck c) : (Code.cond c x y).wp P Q a w := h.elim
theorem stuckR {P : Program} {fn : Func} {S : Ending → World → Prop} {e : Exit} {a : Act} {w : World} (h : Stuck e) : bodyPost P fn S e a w := h.elim
/-! A function, walked by itself: on the boxes Bm that are handed to it, and on the facts R0. -/
theorem St.fn {M F0 F : Nat → Prop} {w0 w : World} {B Bm Br : List Box} {R R0 : List (World → Prop)} {P : Program} {f : FuncId} {args : Array Value} {K : Ending → World → Prop} (H : St M F0 w0 F B R w) (hB : Sel B (Bm ++ Br)) (hR : ∀ p ∈ R0, p ∈ R)
    (h : St (fun k => ∃ x ∈ Bm, x.foot = some k) F w F Bm R0 w → Calls P f args w fun e w' => ∃ F' B' R', St (fun k => ∃ x ∈ Bm, x.foot = some k) F w F' B' R' w' ∧ ∃ Bs ps, Sel B' Bs ∧ (∀ p ∈ ps, p ∈ R') ∧ ∀ Fx, St M F0 w0 Fx (Bs ++ Br) (ps ++ R) w' → K e w') : Calls P f args w K := by
  have HB := H.sel hB
  have hap : ∀ x ∈ Bm, ∀ y ∈ Br, x.apart y := fun x hx y hy => (List.pairwise_append.1 HB.nd).2.2 x hx y hy
  have H0 : St (fun k => ∃ x ∈ Bm, x.foot = some k) F w F Bm R0 w :=
    { St.startM w F Bm H.flt (fun x hx => HB.box x (List.mem_append_left _ hx)) (fun x hx => HB.nf x (List.mem_append_left _ hx)) (List.pairwise_append.1 HB.nd).1 with ro := fun p hp => H.ro p (hR p hp) }
  refine (h H0).mono ?_
  rintro e w' ⟨F', B', R', H', Bs, ps, hs, hp, k⟩
  have HS := H'.sel hs
  have hkeep : ∀ k, k < w.heap.size → (¬ ∃ x ∈ Bm, x.foot = some k) → w'.heap[k]? = w.heap[k]? := H'.keep
  have hFk : ∀ k, F k → k < w.heap.size → w'.heap[k]? = w.heap[k]? := fun k hk hlt => hkeep k hlt (fun ⟨x, hx, e⟩ => HB.nf x (List.mem_append_left _ hx) k e hk)
  have hBk : ∀ y ∈ Br, ∀ k, y.foot = some k → w'.heap[k]? = w.heap[k]? := fun y hy k e => hkeep k (HB.lt (List.mem_append_right _ hy) e) (fun ⟨x, hx, e'⟩ => hap x hx y hy k e' e)
  refine k (fun k => F k ∨ F' k) ?_
  exact {
    os := H'.os.trans H.os
    tape := H'.tape.trans H.tape
    out := H'.out.trans H.out
    size := Nat.le_trans H.size H'.size
    keep := fun k hlt hM => (hkeep k (Nat.lt_of_lt_of_le hlt H.size) (fun ⟨x, hx, e⟩ => (HB.mine x (List.mem_append_left _ hx) k e).elim hM (fun h => by omega))).trans (H.keep k hlt hM)
    flt := fun k hk => hk.elim (fun h => Nat.lt_of_lt_of_le (H.flt k h) H'.size) (H'.flt k)
    fin := fun k hk => hk.elim (H.fin k) (fun h => (H'.fin k h).elim (H.fin k) (fun h => .inr (Nat.le_trans H.size h)))
    box := fun y hy => by
      rcases List.mem_append.1 hy with hy | hy
      · exact Box.wide (HS.box y hy) (fun k h => .inr h)
      · exact Box.wide (Box.move (HB.box y (List.mem_append_right _ hy)) (hBk y hy) hFk) (fun k h => .inl h)
    nf := fun y hy k e hF => by
      rcases List.mem_append.1 hy with hy | hy
      · rcases hF with hF | hF
        · rcases HS.mine y hy k e with ⟨x, hx, e'⟩ | h
          · exact HB.nf x (List.mem_append_left _ hx) k e' hF
          · have := H.flt k hF; omega
        · exact HS.nf y hy k e hF
      · rcases hF with hF | hF
        · exact HB.nf y (List.mem_append_right _ hy) k e hF
        · rcases H'.fin k hF with h | h
          · exact HB.nf y (List.mem_append_right _ hy) k e h
          · have := HB.lt (List.mem_append_right _ hy) e; omega
    nd := List.pairwise_append.2 ⟨HS.nd, (List.pairwise_append.1 HB.nd).2.1, fun x hx y hy k e e' => by
      rcases HS.mine x hx k e with ⟨z, hz, e2⟩ | h
      · exact hap z hz y hy k e2 e'
      · have := HB.lt (List.mem_append_right _ hy) e'; omega⟩
    mine := fun y hy k e => by
      rcases List.mem_append.1 hy with hy | hy
      · rcases HS.mine y hy k e with ⟨z, hz, e2⟩ | h
        · exact HB.mine z (List.mem_append_left _ hz) k e2
        · exact .inr (Nat.le_trans H.size h)
      · exact HB.mine y (List.mem_append_right _ hy) k e
    ro := fun p hp' => by
      rcases List.mem_append.1 hp' with h | h
      · exact Foot.mono (H'.ro p (hp p h)) (fun k h => .inr h)
      · exact Foot.mono ((H.ro p h).step hFk) (fun k h => .inl h) }
/-- What is handed back: nothing of memory; facts; boxes and facts. -/
theorem St.ret0 {M F0 : Nat → Prop} {w0 w w' : World} {B : List Box} {R : List (World → Prop)} {M' F F' : Nat → Prop} {B' : List Box} {R' : List (World → Prop)} {K : Ending → World → Prop} {e : Ending} (H : St M' F w F' B' R' w') (k : ∀ Fx, St M F0 w0 Fx B R w' → K e w') :
    ∃ F' B' R', St M' F w F' B' R' w' ∧ ∃ Bs ps, Sel B' Bs ∧ (∀ p ∈ ps, p ∈ R') ∧ ∀ Fx, St M F0 w0 Fx (Bs ++ B) (ps ++ R) w' → K e w' :=
  ⟨_, _, _, H, [], [], .nil, fun _ h => absurd h List.not_mem_nil, fun Fx Hx => k Fx Hx⟩
theorem St.retR {M F0 : Nat → Prop} {w0 w w' : World} {B : List Box} {R ps : List (World → Prop)} {M' F F' : Nat → Prop} {B' : List Box} {R' : List (World → Prop)} {K : Ending → World → Prop} {e : Ending} (H : St M' F w F' B' R' w') (k : ∀ Fx, St M F0 w0 Fx B (ps ++ R) w' → K e w') (hp : ∀ p ∈ ps, p ∈ R' := by (intro p hp; simp only [List.mem_cons, List.not_mem_nil, or_false] at hp <;> (repeat (first | (rcases hp with rfl | hp) | (subst hp))) <;> (repeat (first | with_reducible exact List.mem_cons_self | apply List.mem_cons_of_mem)))) :
    ∃ F' B' R', St M' F w F' B' R' w' ∧ ∃ Bs ps, Sel B' Bs ∧ (∀ p ∈ ps, p ∈ R') ∧ ∀ Fx, St M F0 w0 Fx (Bs ++ B) (ps ++ R) w' → K e w' :=
  ⟨_, _, _, H, [], ps, .nil, hp, fun Fx Hx => k Fx Hx⟩
theorem St.retB {M F0 : Nat → Prop} {w0 w w' : World} {B Bs : List Box} {R ps : List (World → Prop)} {M' F F' : Nat → Prop} {B' : List Box} {R' : List (World → Prop)} {K : Ending → World → Prop} {e : Ending} (H : St M' F w F' B' R' w') (k : ∀ Fx, St M F0 w0 Fx (Bs ++ B) (ps ++ R) w' → K e w') (hs : Sel B' Bs := by (repeat (first | exact Sel.nil | (refine Sel.cons (by (repeat (first | exact Del.hd | apply Del.tl))) ?_)))) (hp : ∀ p ∈ ps, p ∈ R' := by (intro p hp; simp only [List.mem_cons, List.not_mem_nil, or_false] at hp <;> (repeat (first | (rcases hp with rfl | hp) | (subst hp))) <;> (repeat (first | with_reducible exact List.mem_cons_self | apply List.mem_cons_of_mem)))) :
    ∃ F' B' R', St M' F w F' B' R' w' ∧ ∃ Bs ps, Sel B' Bs ∧ (∀ p ∈ ps, p ∈ R') ∧ ∀ Fx, St M F0 w0 Fx (Bs ++ B) (ps ++ R) w' → K e w' :=
  ⟨_, _, _, H, Bs, ps, hs, hp, fun Fx Hx => k Fx Hx⟩
theorem no_mem {α : Type _} {q : α → Prop} : ∀ p ∈ ([] : List α), q p := fun _ h => absurd h List.not_mem_nil
theorem sel_refl : ∀ B : List Box, Sel B B
  | [] => .nil
  | _ :: B => .cons .hd (sel_refl B)
theorem St.fn0 {M F0 F : Nat → Prop} {w0 w : World} {B : List Box} {R R0 : List (World → Prop)} {P : Program} {f : FuncId} {args : Array Value} {K : Ending → World → Prop} (H : St M F0 w0 F B R w) (hR : ∀ p ∈ R0, p ∈ R)
    (h : St (fun _ => False) F w F [] R0 w → Calls P f args w fun e w' => ∃ F' B' R', St (fun _ => False) F w F' B' R' w' ∧ ∃ Bs ps, Sel B' Bs ∧ (∀ p ∈ ps, p ∈ R') ∧ ∀ Fx, St M F0 w0 Fx (Bs ++ B) (ps ++ R) w' → K e w') : Calls P f args w K := by
  have e0 : (fun k : Nat => ∃ x ∈ ([] : List Box), x.foot = some k) = fun _ => False := by funext k; simp
  refine St.fn (Bm := []) H (sel_refl B) hR ?_
  rw [e0]; exact h
end Go.Proofs.YtniplmjbligmlaaDoor.V

/-! The structs of the program as Lean structures: their kinds, opened and made. Printed by kgen.py of this repository. -/
namespace Go.Proofs.YtniplmjbligmlaaDoor.V
open Go.RowKit
set_option linter.unusedVariables false
@[ext] structure Fld where
  n : Int
  size : Int
def kFld : Kd Fld := Kd.iso (Kd.pair (Kd.int .i64) (Kd.int .i64)) (fun x : Fld => (x.n, x.size))
theorem kFld_open {w : World} {F : Nat → Prop} {x : Fld} {c : List Value} (h : Foot (fk kFld x c) w F) : c = [.int .i64 x.n, .int .i64 x.size] := by
  have t0 : Foot (fk (Kd.pair (Kd.int .i64) (Kd.int .i64)) (x.n, x.size) c) w F := h
  obtain ⟨q0, r0, rfl, p0, t1⟩ := fk_pair t0
  obtain rfl := fk_scalar p0
  obtain rfl := fk_scalar t1
  exact rfl
theorem kFld_mk {w : World} {F : Nat → Prop} (x : Fld)  : Foot (fk kFld x [.int .i64 x.n, .int .i64 x.size]) w F :=
  (show Foot (fk (Kd.pair (Kd.int .i64) (Kd.int .i64)) (x.n, x.size) _) w F from (mk_pair (mk_scalar _) (mk_scalar _)))
@[ext] structure Wr where
  sec : Int
  bytes : ByteArray
def kWr : Kd Wr := Kd.iso (Kd.pair (Kd.int .i64) Kd.string) (fun x : Wr => (x.sec, x.bytes))
theorem kWr_open {w : World} {F : Nat → Prop} {x : Wr} {c : List Value} (h : Foot (fk kWr x c) w F) : c = [.int .i64 x.sec, .string x.bytes] := by
  have t0 : Foot (fk (Kd.pair (Kd.int .i64) Kd.string) (x.sec, x.bytes) c) w F := h
  obtain ⟨q0, r0, rfl, p0, t1⟩ := fk_pair t0
  obtain rfl := fk_scalar p0
  obtain rfl := fk_scalar t1
  exact rfl
theorem kWr_mk {w : World} {F : Nat → Prop} (x : Wr)  : Foot (fk kWr x [.int .i64 x.sec, .string x.bytes]) w F :=
  (show Foot (fk (Kd.pair (Kd.int .i64) Kd.string) (x.sec, x.bytes) _) w F from (mk_pair (mk_scalar _) (mk_scalar _)))
@[ext] structure Dk where
  secs : List ByteArray
  pend : List Wr
def kDk : Kd Dk := Kd.iso (Kd.pair (Kd.slice Kd.string) (Kd.slice kWr)) (fun x : Dk => (x.secs, x.pend))
theorem kDk_open {w : World} {F : Nat → Prop} {x : Dk} {c : List Value} (h : Foot (fk kDk x c) w F) : ∃ A0 c0 A1 c1, c = [.slice A0 x.secs.length c0, .slice A1 x.pend.length c1] ∧ Cap x.secs.length c0 ∧ Foot (rdc Kd.string A0 x.secs) w F ∧ Cap x.pend.length c1 ∧ Foot (rdc kWr A1 x.pend) w F := by
  have t0 : Foot (fk (Kd.pair (Kd.slice Kd.string) (Kd.slice kWr)) (x.secs, x.pend) c) w F := h
  obtain ⟨q0, r0, rfl, p0, t1⟩ := fk_pair t0
  obtain ⟨A0, c0, rfl, g0, e0⟩ := fk_slice p0
  obtain ⟨A1, c1, rfl, g1, e1⟩ := fk_slice t1
  exact ⟨A0, c0, A1, c1, rfl, g0, e0, g1, e1⟩
theorem kDk_mk {w : World} {F : Nat → Prop} (x : Dk) {A0 : Option Addr} {c0 : Nat} {A1 : Option Addr} {c1 : Nat} (g0 : Cap x.secs.length c0) (e0 : Foot (rdc Kd.string A0 x.secs) w F) (g1 : Cap x.pend.length c1) (e1 : Foot (rdc kWr A1 x.pend) w F) : Foot (fk kDk x [.slice A0 x.secs.length c0, .slice A1 x.pend.length c1]) w F :=
  (show Foot (fk (Kd.pair (Kd.slice Kd.string) (Kd.slice kWr)) (x.secs, x.pend) _) w F from (mk_pair (mk_slice e0 g0) (mk_slice e1 g1)))
@[ext] structure Pw where
  dk : Dk
  left : Int
def kPw : Kd Pw := Kd.iso (Kd.pair kDk (Kd.int .i64)) (fun x : Pw => (x.dk, x.left))
theorem kPw_open {w : World} {F : Nat → Prop} {x : Pw} {c : List Value} (h : Foot (fk kPw x c) w F) : ∃ A0_0 c0_0 A0_1 c0_1, c = [.slice A0_0 x.dk.secs.length c0_0, .slice A0_1 x.dk.pend.length c0_1, .int .i64 x.left] ∧ Cap x.dk.secs.length c0_0 ∧ Foot (rdc Kd.string A0_0 x.dk.secs) w F ∧ Cap x.dk.pend.length c0_1 ∧ Foot (rdc kWr A0_1 x.dk.pend) w F := by
  have t0 : Foot (fk (Kd.pair kDk (Kd.int .i64)) (x.dk, x.left) c) w F := h
  obtain ⟨q0, r0, rfl, p0, t1⟩ := fk_pair t0
  obtain ⟨A0_0, c0_0, A0_1, c0_1, rfl, g0_0, e0_0, g0_1, e0_1⟩ := kDk_open p0
  obtain rfl := fk_scalar t1
  exact ⟨A0_0, c0_0, A0_1, c0_1, rfl, g0_0, e0_0, g0_1, e0_1⟩
theorem kPw_mk {w : World} {F : Nat → Prop} (x : Pw) {A0_0 : Option Addr} {c0_0 : Nat} {A0_1 : Option Addr} {c0_1 : Nat} (g0 : Cap x.dk.secs.length c0_0) (e0 : Foot (rdc Kd.string A0_0 x.dk.secs) w F) (g1 : Cap x.dk.pend.length c0_1) (e1 : Foot (rdc kWr A0_1 x.dk.pend) w F) : Foot (fk kPw x [.slice A0_0 x.dk.secs.length c0_0, .slice A0_1 x.dk.pend.length c0_1, .int .i64 x.left]) w F :=
  (show Foot (fk (Kd.pair kDk (Kd.int .i64)) (x.dk, x.left) _) w F from (mk_pair (kDk_mk _ g0 e0 g1 e1) (mk_scalar _)))
@[ext] structure Sup where
  epoch : Int
def kSup : Kd Sup := Kd.iso (Kd.int .i64) (fun x : Sup => x.epoch)
theorem kSup_open {w : World} {F : Nat → Prop} {x : Sup} {c : List Value} (h : Foot (fk kSup x c) w F) : c = [.int .i64 x.epoch] := by
  have t0 : Foot (fk (Kd.int .i64) x.epoch c) w F := h
  obtain rfl := fk_scalar t0
  exact rfl
theorem kSup_mk {w : World} {F : Nat → Prop} (x : Sup)  : Foot (fk kSup x [.int .i64 x.epoch]) w F :=
  (show Foot (fk (Kd.int .i64) x.epoch _) w F from (mk_scalar _))
@[ext] structure Hd where
  epoch : Int
  seq : Int
  targets : List Int
def kHd : Kd Hd := Kd.iso (Kd.pair (Kd.int .i64) (Kd.pair (Kd.int .i64) (Kd.slice (Kd.int .i64)))) (fun x : Hd => (x.epoch, x.seq, x.targets))
theorem kHd_open {w : World} {F : Nat → Prop} {x : Hd} {c : List Value} (h : Foot (fk kHd x c) w F) : ∃ A2 c2, c = [.int .i64 x.epoch, .int .i64 x.seq, .slice A2 x.targets.length c2] ∧ Cap x.targets.length c2 ∧ Foot (rdc (Kd.int .i64) A2 x.targets) w F := by
  have t0 : Foot (fk (Kd.pair (Kd.int .i64) (Kd.pair (Kd.int .i64) (Kd.slice (Kd.int .i64)))) (x.epoch, x.seq, x.targets) c) w F := h
  obtain ⟨q0, r0, rfl, p0, t1⟩ := fk_pair t0
  obtain rfl := fk_scalar p0
  obtain ⟨q1, r1, rfl, p1, t2⟩ := fk_pair t1
  obtain rfl := fk_scalar p1
  obtain ⟨A2, c2, rfl, g2, e2⟩ := fk_slice t2
  exact ⟨A2, c2, rfl, g2, e2⟩
theorem kHd_mk {w : World} {F : Nat → Prop} (x : Hd) {A2 : Option Addr} {c2 : Nat} (g0 : Cap x.targets.length c2) (e0 : Foot (rdc (Kd.int .i64) A2 x.targets) w F) : Foot (fk kHd x [.int .i64 x.epoch, .int .i64 x.seq, .slice A2 x.targets.length c2]) w F :=
  (show Foot (fk (Kd.pair (Kd.int .i64) (Kd.pair (Kd.int .i64) (Kd.slice (Kd.int .i64)))) (x.epoch, x.seq, x.targets) _) w F from (mk_pair (mk_scalar _) (mk_pair (mk_scalar _) (mk_slice e0 g0))))
@[ext] structure Lg where
  pw : Pw
  epoch : Int
  seq : Int
  used : Int
  dirty : List Wr
def kLg : Kd Lg := Kd.iso (Kd.pair kPw (Kd.pair (Kd.int .i64) (Kd.pair (Kd.int .i64) (Kd.pair (Kd.int .i64) (Kd.slice kWr))))) (fun x : Lg => (x.pw, x.epoch, x.seq, x.used, x.dirty))
theorem kLg_open {w : World} {F : Nat → Prop} {x : Lg} {c : List Value} (h : Foot (fk kLg x c) w F) : ∃ A0_0_0 c0_0_0 A0_0_1 c0_0_1 A4 c4, c = [.slice A0_0_0 x.pw.dk.secs.length c0_0_0, .slice A0_0_1 x.pw.dk.pend.length c0_0_1, .int .i64 x.pw.left, .int .i64 x.epoch, .int .i64 x.seq, .int .i64 x.used, .slice A4 x.dirty.length c4] ∧ Cap x.pw.dk.secs.length c0_0_0 ∧ Foot (rdc Kd.string A0_0_0 x.pw.dk.secs) w F ∧ Cap x.pw.dk.pend.length c0_0_1 ∧ Foot (rdc kWr A0_0_1 x.pw.dk.pend) w F ∧ Cap x.dirty.length c4 ∧ Foot (rdc kWr A4 x.dirty) w F := by
  have t0 : Foot (fk (Kd.pair kPw (Kd.pair (Kd.int .i64) (Kd.pair (Kd.int .i64) (Kd.pair (Kd.int .i64) (Kd.slice kWr))))) (x.pw, x.epoch, x.seq, x.used, x.dirty) c) w F := h
  obtain ⟨q0, r0, rfl, p0, t1⟩ := fk_pair t0
  obtain ⟨A0_0_0, c0_0_0, A0_0_1, c0_0_1, rfl, g0_0, e0_0, g0_1, e0_1⟩ := kPw_open p0
  obtain ⟨q1, r1, rfl, p1, t2⟩ := fk_pair t1
  obtain rfl := fk_scalar p1
  obtain ⟨q2, r2, rfl, p2, t3⟩ := fk_pair t2
  obtain rfl := fk_scalar p2
  obtain ⟨q3, r3, rfl, p3, t4⟩ := fk_pair t3
  obtain rfl := fk_scalar p3
  obtain ⟨A4, c4, rfl, g4, e4⟩ := fk_slice t4
  exact ⟨A0_0_0, c0_0_0, A0_0_1, c0_0_1, A4, c4, rfl, g0_0, e0_0, g0_1, e0_1, g4, e4⟩
theorem kLg_mk {w : World} {F : Nat → Prop} (x : Lg) {A0_0_0 : Option Addr} {c0_0_0 : Nat} {A0_0_1 : Option Addr} {c0_0_1 : Nat} {A4 : Option Addr} {c4 : Nat} (g0 : Cap x.pw.dk.secs.length c0_0_0) (e0 : Foot (rdc Kd.string A0_0_0 x.pw.dk.secs) w F) (g1 : Cap x.pw.dk.pend.length c0_0_1) (e1 : Foot (rdc kWr A0_0_1 x.pw.dk.pend) w F) (g2 : Cap x.dirty.length c4) (e2 : Foot (rdc kWr A4 x.dirty) w F) : Foot (fk kLg x [.slice A0_0_0 x.pw.dk.secs.length c0_0_0, .slice A0_0_1 x.pw.dk.pend.length c0_0_1, .int .i64 x.pw.left, .int .i64 x.epoch, .int .i64 x.seq, .int .i64 x.used, .slice A4 x.dirty.length c4]) w F :=
  (show Foot (fk (Kd.pair kPw (Kd.pair (Kd.int .i64) (Kd.pair (Kd.int .i64) (Kd.pair (Kd.int .i64) (Kd.slice kWr))))) (x.pw, x.epoch, x.seq, x.used, x.dirty) _) w F from (mk_pair (kPw_mk _ g0 e0 g1 e1) (mk_pair (mk_scalar _) (mk_pair (mk_scalar _) (mk_pair (mk_scalar _) (mk_slice e2 g2))))))
@[ext] structure Ver where
  no : Int
  source : Int
  filter : Int
  bytes : Int
  insns : Int
def kVer : Kd Ver := Kd.iso (Kd.pair (Kd.int .i64) (Kd.pair (Kd.int .i64) (Kd.pair (Kd.int .i64) (Kd.pair (Kd.int .i64) (Kd.int .i64))))) (fun x : Ver => (x.no, x.source, x.filter, x.bytes, x.insns))
theorem kVer_open {w : World} {F : Nat → Prop} {x : Ver} {c : List Value} (h : Foot (fk kVer x c) w F) : c = [.int .i64 x.no, .int .i64 x.source, .int .i64 x.filter, .int .i64 x.bytes, .int .i64 x.insns] := by
  have t0 : Foot (fk (Kd.pair (Kd.int .i64) (Kd.pair (Kd.int .i64) (Kd.pair (Kd.int .i64) (Kd.pair (Kd.int .i64) (Kd.int .i64))))) (x.no, x.source, x.filter, x.bytes, x.insns) c) w F := h
  obtain ⟨q0, r0, rfl, p0, t1⟩ := fk_pair t0
  obtain rfl := fk_scalar p0
  obtain ⟨q1, r1, rfl, p1, t2⟩ := fk_pair t1
  obtain rfl := fk_scalar p1
  obtain ⟨q2, r2, rfl, p2, t3⟩ := fk_pair t2
  obtain rfl := fk_scalar p2
  obtain ⟨q3, r3, rfl, p3, t4⟩ := fk_pair t3
  obtain rfl := fk_scalar p3
  obtain rfl := fk_scalar t4
  exact rfl
theorem kVer_mk {w : World} {F : Nat → Prop} (x : Ver)  : Foot (fk kVer x [.int .i64 x.no, .int .i64 x.source, .int .i64 x.filter, .int .i64 x.bytes, .int .i64 x.insns]) w F :=
  (show Foot (fk (Kd.pair (Kd.int .i64) (Kd.pair (Kd.int .i64) (Kd.pair (Kd.int .i64) (Kd.pair (Kd.int .i64) (Kd.int .i64))))) (x.no, x.source, x.filter, x.bytes, x.insns) _) w F from (mk_pair (mk_scalar _) (mk_pair (mk_scalar _) (mk_pair (mk_scalar _) (mk_pair (mk_scalar _) (mk_scalar _))))))
@[ext] structure Ent where
  name : ByteArray
  current : Int
  next : Int
  vers : List Ver
def kEnt : Kd Ent := Kd.iso (Kd.pair Kd.string (Kd.pair (Kd.int .i64) (Kd.pair (Kd.int .i64) (Kd.slice kVer)))) (fun x : Ent => (x.name, x.current, x.next, x.vers))
theorem kEnt_open {w : World} {F : Nat → Prop} {x : Ent} {c : List Value} (h : Foot (fk kEnt x c) w F) : ∃ A3 c3, c = [.string x.name, .int .i64 x.current, .int .i64 x.next, .slice A3 x.vers.length c3] ∧ Cap x.vers.length c3 ∧ Foot (rdc kVer A3 x.vers) w F := by
  have t0 : Foot (fk (Kd.pair Kd.string (Kd.pair (Kd.int .i64) (Kd.pair (Kd.int .i64) (Kd.slice kVer)))) (x.name, x.current, x.next, x.vers) c) w F := h
  obtain ⟨q0, r0, rfl, p0, t1⟩ := fk_pair t0
  obtain rfl := fk_scalar p0
  obtain ⟨q1, r1, rfl, p1, t2⟩ := fk_pair t1
  obtain rfl := fk_scalar p1
  obtain ⟨q2, r2, rfl, p2, t3⟩ := fk_pair t2
  obtain rfl := fk_scalar p2
  obtain ⟨A3, c3, rfl, g3, e3⟩ := fk_slice t3
  exact ⟨A3, c3, rfl, g3, e3⟩
theorem kEnt_mk {w : World} {F : Nat → Prop} (x : Ent) {A3 : Option Addr} {c3 : Nat} (g0 : Cap x.vers.length c3) (e0 : Foot (rdc kVer A3 x.vers) w F) : Foot (fk kEnt x [.string x.name, .int .i64 x.current, .int .i64 x.next, .slice A3 x.vers.length c3]) w F :=
  (show Foot (fk (Kd.pair Kd.string (Kd.pair (Kd.int .i64) (Kd.pair (Kd.int .i64) (Kd.slice kVer)))) (x.name, x.current, x.next, x.vers) _) w F from (mk_pair (mk_scalar _) (mk_pair (mk_scalar _) (mk_pair (mk_scalar _) (mk_slice e0 g0)))))
@[ext] structure Ask where
  kind : Int
  name : ByteArray
  no : Int
  source : ByteArray
  record : ByteArray
def kAsk : Kd Ask := Kd.iso (Kd.pair (Kd.int .i64) (Kd.pair Kd.string (Kd.pair (Kd.int .i64) (Kd.pair Kd.string Kd.string)))) (fun x : Ask => (x.kind, x.name, x.no, x.source, x.record))
theorem kAsk_open {w : World} {F : Nat → Prop} {x : Ask} {c : List Value} (h : Foot (fk kAsk x c) w F) : c = [.int .i64 x.kind, .string x.name, .int .i64 x.no, .string x.source, .string x.record] := by
  have t0 : Foot (fk (Kd.pair (Kd.int .i64) (Kd.pair Kd.string (Kd.pair (Kd.int .i64) (Kd.pair Kd.string Kd.string)))) (x.kind, x.name, x.no, x.source, x.record) c) w F := h
  obtain ⟨q0, r0, rfl, p0, t1⟩ := fk_pair t0
  obtain rfl := fk_scalar p0
  obtain ⟨q1, r1, rfl, p1, t2⟩ := fk_pair t1
  obtain rfl := fk_scalar p1
  obtain ⟨q2, r2, rfl, p2, t3⟩ := fk_pair t2
  obtain rfl := fk_scalar p2
  obtain ⟨q3, r3, rfl, p3, t4⟩ := fk_pair t3
  obtain rfl := fk_scalar p3
  obtain rfl := fk_scalar t4
  exact rfl
theorem kAsk_mk {w : World} {F : Nat → Prop} (x : Ask)  : Foot (fk kAsk x [.int .i64 x.kind, .string x.name, .int .i64 x.no, .string x.source, .string x.record]) w F :=
  (show Foot (fk (Kd.pair (Kd.int .i64) (Kd.pair Kd.string (Kd.pair (Kd.int .i64) (Kd.pair Kd.string Kd.string)))) (x.kind, x.name, x.no, x.source, x.record) _) w F from (mk_pair (mk_scalar _) (mk_pair (mk_scalar _) (mk_pair (mk_scalar _) (mk_pair (mk_scalar _) (mk_scalar _))))))
@[ext] structure Ln where
  name : ByteArray
  current : Int
  nos : List Int
def kLn : Kd Ln := Kd.iso (Kd.pair Kd.string (Kd.pair (Kd.int .i64) (Kd.slice (Kd.int .i64)))) (fun x : Ln => (x.name, x.current, x.nos))
theorem kLn_open {w : World} {F : Nat → Prop} {x : Ln} {c : List Value} (h : Foot (fk kLn x c) w F) : ∃ A2 c2, c = [.string x.name, .int .i64 x.current, .slice A2 x.nos.length c2] ∧ Cap x.nos.length c2 ∧ Foot (rdc (Kd.int .i64) A2 x.nos) w F := by
  have t0 : Foot (fk (Kd.pair Kd.string (Kd.pair (Kd.int .i64) (Kd.slice (Kd.int .i64)))) (x.name, x.current, x.nos) c) w F := h
  obtain ⟨q0, r0, rfl, p0, t1⟩ := fk_pair t0
  obtain rfl := fk_scalar p0
  obtain ⟨q1, r1, rfl, p1, t2⟩ := fk_pair t1
  obtain rfl := fk_scalar p1
  obtain ⟨A2, c2, rfl, g2, e2⟩ := fk_slice t2
  exact ⟨A2, c2, rfl, g2, e2⟩
theorem kLn_mk {w : World} {F : Nat → Prop} (x : Ln) {A2 : Option Addr} {c2 : Nat} (g0 : Cap x.nos.length c2) (e0 : Foot (rdc (Kd.int .i64) A2 x.nos) w F) : Foot (fk kLn x [.string x.name, .int .i64 x.current, .slice A2 x.nos.length c2]) w F :=
  (show Foot (fk (Kd.pair Kd.string (Kd.pair (Kd.int .i64) (Kd.slice (Kd.int .i64)))) (x.name, x.current, x.nos) _) w F from (mk_pair (mk_scalar _) (mk_pair (mk_scalar _) (mk_slice e0 g0))))
@[ext] structure Rp where
  why : Int
  at_ : Int
  no : Int
  source : ByteArray
  insns : Int
  action : Int
  lines : List Ln
def kRp : Kd Rp := Kd.iso (Kd.pair (Kd.int .i64) (Kd.pair (Kd.int .i64) (Kd.pair (Kd.int .i64) (Kd.pair Kd.string (Kd.pair (Kd.int .i64) (Kd.pair (Kd.int .u32) (Kd.slice kLn))))))) (fun x : Rp => (x.why, x.at_, x.no, x.source, x.insns, x.action, x.lines))
theorem kRp_open {w : World} {F : Nat → Prop} {x : Rp} {c : List Value} (h : Foot (fk kRp x c) w F) : ∃ A6 c6, c = [.int .i64 x.why, .int .i64 x.at_, .int .i64 x.no, .string x.source, .int .i64 x.insns, .int .u32 x.action, .slice A6 x.lines.length c6] ∧ Cap x.lines.length c6 ∧ Foot (rdc kLn A6 x.lines) w F := by
  have t0 : Foot (fk (Kd.pair (Kd.int .i64) (Kd.pair (Kd.int .i64) (Kd.pair (Kd.int .i64) (Kd.pair Kd.string (Kd.pair (Kd.int .i64) (Kd.pair (Kd.int .u32) (Kd.slice kLn))))))) (x.why, x.at_, x.no, x.source, x.insns, x.action, x.lines) c) w F := h
  obtain ⟨q0, r0, rfl, p0, t1⟩ := fk_pair t0
  obtain rfl := fk_scalar p0
  obtain ⟨q1, r1, rfl, p1, t2⟩ := fk_pair t1
  obtain rfl := fk_scalar p1
  obtain ⟨q2, r2, rfl, p2, t3⟩ := fk_pair t2
  obtain rfl := fk_scalar p2
  obtain ⟨q3, r3, rfl, p3, t4⟩ := fk_pair t3
  obtain rfl := fk_scalar p3
  obtain ⟨q4, r4, rfl, p4, t5⟩ := fk_pair t4
  obtain rfl := fk_scalar p4
  obtain ⟨q5, r5, rfl, p5, t6⟩ := fk_pair t5
  obtain rfl := fk_scalar p5
  obtain ⟨A6, c6, rfl, g6, e6⟩ := fk_slice t6
  exact ⟨A6, c6, rfl, g6, e6⟩
theorem kRp_mk {w : World} {F : Nat → Prop} (x : Rp) {A6 : Option Addr} {c6 : Nat} (g0 : Cap x.lines.length c6) (e0 : Foot (rdc kLn A6 x.lines) w F) : Foot (fk kRp x [.int .i64 x.why, .int .i64 x.at_, .int .i64 x.no, .string x.source, .int .i64 x.insns, .int .u32 x.action, .slice A6 x.lines.length c6]) w F :=
  (show Foot (fk (Kd.pair (Kd.int .i64) (Kd.pair (Kd.int .i64) (Kd.pair (Kd.int .i64) (Kd.pair Kd.string (Kd.pair (Kd.int .i64) (Kd.pair (Kd.int .u32) (Kd.slice kLn))))))) (x.why, x.at_, x.no, x.source, x.insns, x.action, x.lines) _) w F from (mk_pair (mk_scalar _) (mk_pair (mk_scalar _) (mk_pair (mk_scalar _) (mk_pair (mk_scalar _) (mk_pair (mk_scalar _) (mk_pair (mk_scalar _) (mk_slice e0 g0))))))))
@[ext] structure Step where
  ask : Ask
  crash : Bool
  keep : List Bool
def kStep : Kd Step := Kd.iso (Kd.pair kAsk (Kd.pair Kd.bool (Kd.slice Kd.bool))) (fun x : Step => (x.ask, x.crash, x.keep))
theorem kStep_open {w : World} {F : Nat → Prop} {x : Step} {c : List Value} (h : Foot (fk kStep x c) w F) : ∃ A2 c2, c = [.int .i64 x.ask.kind, .string x.ask.name, .int .i64 x.ask.no, .string x.ask.source, .string x.ask.record, .bool x.crash, .slice A2 x.keep.length c2] ∧ Cap x.keep.length c2 ∧ Foot (rdc Kd.bool A2 x.keep) w F := by
  have t0 : Foot (fk (Kd.pair kAsk (Kd.pair Kd.bool (Kd.slice Kd.bool))) (x.ask, x.crash, x.keep) c) w F := h
  obtain ⟨q0, r0, rfl, p0, t1⟩ := fk_pair t0
  obtain rfl := kAsk_open p0
  obtain ⟨q1, r1, rfl, p1, t2⟩ := fk_pair t1
  obtain rfl := fk_scalar p1
  obtain ⟨A2, c2, rfl, g2, e2⟩ := fk_slice t2
  exact ⟨A2, c2, rfl, g2, e2⟩
theorem kStep_mk {w : World} {F : Nat → Prop} (x : Step) {A2 : Option Addr} {c2 : Nat} (g0 : Cap x.keep.length c2) (e0 : Foot (rdc Kd.bool A2 x.keep) w F) : Foot (fk kStep x [.int .i64 x.ask.kind, .string x.ask.name, .int .i64 x.ask.no, .string x.ask.source, .string x.ask.record, .bool x.crash, .slice A2 x.keep.length c2]) w F :=
  (show Foot (fk (Kd.pair kAsk (Kd.pair Kd.bool (Kd.slice Kd.bool))) (x.ask, x.crash, x.keep) _) w F from (mk_pair (kAsk_mk _) (mk_pair (mk_scalar _) (mk_slice e0 g0))))
@[ext] structure Plan where
  size : Int
  steps : List Step
def kPlan : Kd Plan := Kd.iso (Kd.pair (Kd.int .i64) (Kd.slice kStep)) (fun x : Plan => (x.size, x.steps))
theorem kPlan_open {w : World} {F : Nat → Prop} {x : Plan} {c : List Value} (h : Foot (fk kPlan x c) w F) : ∃ A1 c1, c = [.int .i64 x.size, .slice A1 x.steps.length c1] ∧ Cap x.steps.length c1 ∧ Foot (rdc kStep A1 x.steps) w F := by
  have t0 : Foot (fk (Kd.pair (Kd.int .i64) (Kd.slice kStep)) (x.size, x.steps) c) w F := h
  obtain ⟨q0, r0, rfl, p0, t1⟩ := fk_pair t0
  obtain rfl := fk_scalar p0
  obtain ⟨A1, c1, rfl, g1, e1⟩ := fk_slice t1
  exact ⟨A1, c1, rfl, g1, e1⟩
theorem kPlan_mk {w : World} {F : Nat → Prop} (x : Plan) {A1 : Option Addr} {c1 : Nat} (g0 : Cap x.steps.length c1) (e0 : Foot (rdc kStep A1 x.steps) w F) : Foot (fk kPlan x [.int .i64 x.size, .slice A1 x.steps.length c1]) w F :=
  (show Foot (fk (Kd.pair (Kd.int .i64) (Kd.slice kStep)) (x.size, x.steps) _) w F from (mk_pair (mk_scalar _) (mk_slice e0 g0)))
end Go.Proofs.YtniplmjbligmlaaDoor.V

/-! How an argument of a law is read: from what the row says of it (a tree of data) to the kinds that the printed functions speak of. Kind by kind. -/
namespace Go.Proofs.YtniplmjbligmlaaDoor.V
open Go.RowKit
set_option linter.unusedVariables false

def Opens {α : Type} (P : Program) (t : TypeId) (K : Kd α) (Z : α → Prop) : Prop :=
  ∀ (H : Type) (enc : TypeId × Value → H) (w : World) (base : Nat) (spare : Nat → Bool) (held : Bool) (fuel : Nat) (cs : List Value) (d : DataW H) (ps : List MemPlace),
    DataW.trod enc P w base spare held fuel t cs = some (d, ps) → (∀ x ∈ DataW.weights P t d, x ≤ reachBytes) → ∃ a : α, K.K w a cs ∧ Z a

theorem opens_int {P : Program} {t : TypeId} {k : IntKind} (ht : P.underlying t = some (.int k)) : Opens P t (Kd.int k) (fun n => (Lit.int k n).wf = true) := by
  intro H enc w base spare held fuel cs d ps h _
  obtain ⟨n, hc, hx, hw⟩ := DataW.trod_int ht h
  exact ⟨n, hc, hw⟩
theorem opens_bool {P : Program} {t : TypeId} (ht : P.underlying t = some .bool) : Opens P t Kd.bool (fun _ => True) := by
  intro H enc w base spare held fuel cs d ps h _
  obtain ⟨b, hc, hx⟩ := DataW.trod_bool ht h
  exact ⟨b, hc, trivial⟩
theorem opens_string {P : Program} {t : TypeId} (ht : P.underlying t = some .string) : Opens P t Kd.string (fun s => s.size ≤ 140737488351232) := by
  intro H enc w base spare held fuel cs d ps h hz
  obtain ⟨s, hc, hx, hw⟩ := DataW.trod_string ht h
  obtain ⟨rfl, rfl⟩ := Prod.mk.inj hx
  refine ⟨s, hc, ?_⟩
  have := hz s.data.toList.length (by simp [DataW.weights])
  unfold reachBytes at this
  rw [Array.length_toList] at this
  exact this
theorem opens_weaken {α : Type} {P : Program} {t : TypeId} {K : Kd α} {Z Z' : α → Prop} (h : Opens P t K Z) (hz : ∀ a, Z a → Z' a) : Opens P t K Z' := by
  intro H enc w base spare held fuel cs d ps h1 h2
  obtain ⟨a, h3, h4⟩ := h H enc w base spare held fuel cs d ps h1 h2
  exact ⟨a, h3, hz a h4⟩
theorem opens_iso {α β : Type} {P : Program} {t : TypeId} {K : Kd α} {Z : α → Prop} {f : β → α} (g : α → β) (hg : ∀ a, f (g a) = a) (h : Opens P t K Z) : Opens P t (Kd.iso K f) (fun b => Z (f b)) := by
  intro H enc w base spare held fuel cs d ps h1 h2
  obtain ⟨a, h3, h4⟩ := h H enc w base spare held fuel cs d ps h1 h2
  exact ⟨g a, by show K.K w (f (g a)) cs; rw [hg]; exact h3, by show Z (f (g a)); rw [hg]; exact h4⟩
theorem weightsAll_mem {H : Type} {P : Program} {e : TypeId} {l : List (DataW H)} {d : DataW H} (h : d ∈ l) : ∀ x ∈ DataW.weights P e d, x ∈ DataW.weightsAll P e l := by
  induction l with
  | nil => cases h
  | cons a r ih =>
    intro x hx
    simp only [DataW.weightsAll, List.mem_append]
    rcases List.mem_cons.1 h with rfl | h
    · exact .inl hx
    · exact .inr (ih h x hx)
theorem opens_slice {α : Type} {P : Program} {t e : TypeId} {K : Kd α} {Z : α → Prop} (ht : P.underlying t = some (.slice e)) (hc : P.cellsOf e = K.sz) (B : Nat) (hB : P.bytesOf e = B) (h : Opens P e K Z) :
    Opens P t (Kd.slice K) (fun l => l.length * B ≤ 140737488351232 ∧ ∀ x ∈ l, Z x) := by
  intro H enc w base spare held fuel cs d ps h1 h2
  rcases DataW.trod_slice ht h1 with ⟨rfl, hx⟩ | ⟨a, len, cap, elems, rest, n, rfl, rfl, hx, hb, hl, hm, hlen, hel, -, -⟩
  · exact ⟨[], ⟨none, 0, rfl, Nat.le_refl _, rdc_nil _ _ _⟩, by simp, (fun x hx => absurd hx List.not_mem_nil)⟩
  obtain ⟨rfl, rfl⟩ := Prod.mk.inj hx
  have hw : ∀ x ∈ DataW.weights P t (.slice (elems.map (·.1)) (rest.map (·.1))), x ≤ reachBytes := h2
  have hw1 : ((elems.map (·.1)).length + (rest.map (·.1)).length) * P.bytesOf e ≤ reachBytes := hw _ (by simp [DataW.weights, ht])
  have each : ∀ i, i < len → ∃ p : α, Z p ∧ ∃ c, c.length = K.sz ∧ K.K w p c ∧ ∀ j u, c[j]? = some u → w.cell? (a.add (i * K.sz + j)) = some u := by
    intro i hi
    have h3 := hel i hi
    rw [List.getElem?_eq_getElem (by omega)] at h3
    obtain ⟨c, hcell, htrod⟩ := Option.bind_eq_some_iff.1 h3
    obtain ⟨_, hcl, hcc⟩ := World.cells?_some hcell
    have hmem : (elems[i]'(by omega)).1 ∈ elems.map (·.1) := List.mem_map_of_mem (List.getElem_mem _)
    obtain ⟨p, hp, hz⟩ := h H enc w base spare held n c _ _ (show DataW.trod enc P w base spare held n e c = some ((elems[i]'(by omega)).1, (elems[i]'(by omega)).2) from htrod) (fun x hx => hw x (by
      simp only [DataW.weights, ht, List.mem_cons, List.mem_append]
      exact .inr (.inl (weightsAll_mem hmem x hx))))
    refine ⟨p, hz, c, by rw [hcl, hc], hp, fun j u hu => ?_⟩
    have hj : j < c.length := by
      rcases Nat.lt_or_ge j c.length with h | h
      · exact h
      · rw [List.getElem?_eq_none h] at hu; cases hu
    have := hcc j (by omega)
    rw [hc] at this
    rw [← hu, ← this, Addr.add_add]
  have pick : ∃ l : List α, l.length = len ∧ (∀ x ∈ l, Z x) ∧ ∀ (i : Nat) p, l[i]? = some p → ∃ c, c.length = K.sz ∧ K.K w p c ∧ ∀ j u, c[j]? = some u → w.cell? (a.add (i * K.sz + j)) = some u := by
    clear hel hw hw1 h2 h1
    have : ∀ m, m ≤ len → ∃ l : List α, l.length = m ∧ (∀ x ∈ l, Z x) ∧ ∀ (i : Nat) p, l[i]? = some p → ∃ c, c.length = K.sz ∧ K.K w p c ∧ ∀ j u, c[j]? = some u → w.cell? (a.add (i * K.sz + j)) = some u := by
      intro m
      induction m with
      | zero => exact fun _ => ⟨[], rfl, (fun x hx => absurd hx List.not_mem_nil), (fun i p hp => absurd hp (by simp))⟩
      | succ m ih =>
        intro hm
        obtain ⟨l, h1, h2, h3⟩ := ih (by omega)
        obtain ⟨p, hz, hp⟩ := each m (by omega)
        refine ⟨l ++ [p], by simp [h1], fun x hx => ?_, fun i q hq => ?_⟩
        · rcases List.mem_append.1 hx with hx | hx
          · exact h2 x hx
          · rw [List.mem_singleton.1 hx]; exact hz
        · rcases Nat.lt_trichotomy i l.length with hi | hi | hi
          · rw [List.getElem?_append_left hi] at hq; exact h3 i q hq
          · subst hi; simp at hq; subst hq; rw [h1]; exact hp
          · rw [List.getElem?_eq_none (by simp; omega)] at hq; cases hq
    exact this len (Nat.le_refl _)
  obtain ⟨l, hll, hlz, hlc⟩ := pick
  refine ⟨l, ⟨some a, cap, by rw [hll], by omega, fun _ => ⟨a, rfl, fun i x hx => by obtain ⟨c, _, h1, h2⟩ := hlc i x hx; exact ⟨c, h1, h2⟩⟩⟩, ?_, hlz⟩
  rw [hB] at hw1
  simp only [List.length_map, reachBytes] at hw1
  refine Nat.le_trans (Nat.mul_le_mul_right _ ?_) hw1
  omega

/-- The fields of a struct, one behind the other. -/
def OpensF {α : Type} (P : Program) (off : Nat) (fs : List Field) (K : Kd α) (Z : α → Prop) : Prop :=
  (∀ f ∈ fs, off ≤ f.offset) ∧ ∀ (H : Type) (enc : TypeId × Value → H) (w : World) (base : Nat) (spare : Nat → Bool) (held : Bool) (n : Nat) (cs : List Value) (xs : List (DataW H × List MemPlace)),
    cs.length = K.sz → xs.length = fs.length → (∀ (i : Nat) (f : Field), fs[i]? = some f → DataW.trod enc P w base spare held n f.type ((cs.drop (f.offset - off)).take (P.cellsOf f.type)) = xs[i]?) →
    (∀ x ∈ DataW.weightsEach P (fs.map (·.type)) (xs.map (·.1)), x ≤ reachBytes) → ∃ a : α, K.K w a cs ∧ Z a
theorem opensF_one {α : Type} {P : Program} {f : Field} {K : Kd α} {Z : α → Prop} (hc : P.cellsOf f.type = K.sz) (h : Opens P f.type K Z) : OpensF P f.offset [f] K Z := by
  refine ⟨fun g hg => by rw [List.mem_singleton.1 hg]; exact Nat.le_refl _, ?_⟩
  intro H enc w base spare held n cs xs hl hx ht hw
  match xs, hx with
  | [x], _ =>
    have h0 := ht 0 f rfl
    rw [Nat.sub_self, List.drop_zero, List.take_of_length_le (by omega)] at h0
    exact h H enc w base spare held n cs x.1 x.2 h0 (fun y hy => hw y (by simp [DataW.weightsEach]; exact hy))
theorem opensF_cons {α β : Type} {P : Program} {f g : Field} {fs : List Field} {K0 : Kd α} {K1 : Kd β} {Z0 : α → Prop} {Z1 : β → Prop} (hc : P.cellsOf f.type = K0.sz) (ho : g.offset = f.offset + K0.sz)
    (h0 : Opens P f.type K0 Z0) (h1 : OpensF P g.offset (g :: fs) K1 Z1) : OpensF P f.offset (f :: g :: fs) (Kd.pair K0 K1) (fun x => Z0 x.1 ∧ Z1 x.2) := by
  obtain ⟨hle, h1⟩ := h1
  refine ⟨fun e he => ?_, ?_⟩
  · rcases List.mem_cons.1 he with rfl | he
    · exact Nat.le_refl _
    · have := hle e he; omega
  intro H enc w base spare held n cs xs hl hx ht hw
  have hsz : (Kd.pair K0 K1).sz = K0.sz + K1.sz := rfl
  match xs, hx with
  | x :: xs, hx =>
    have e0 := ht 0 f rfl
    rw [Nat.sub_self, List.drop_zero, hc] at e0
    obtain ⟨a, ha, hza⟩ := h0 H enc w base spare held n (cs.take K0.sz) x.1 x.2 e0 (fun y hy => hw y (by simp only [List.map_cons, DataW.weightsEach, List.mem_append]; exact .inl hy))
    obtain ⟨b, hb, hzb⟩ := h1 H enc w base spare held n (cs.drop K0.sz) xs (by rw [List.length_drop]; omega) (by simpa using hx) (fun i e he => by
      have e1 := ht (i + 1) e (by simpa using he)
      have hm := hle e (List.mem_of_getElem? he)
      rw [List.drop_drop, show K0.sz + (e.offset - g.offset) = e.offset - f.offset by omega]
      simpa using e1) (fun y hy => hw y (by simp only [List.map_cons, DataW.weightsEach, List.mem_append]; exact .inr hy))
    exact ⟨(a, b), ⟨cs.take K0.sz, cs.drop K0.sz, (List.take_append_drop _ _).symm, ha, hb⟩, hza, hzb⟩
theorem opens_struct {α : Type} {P : Program} {t : TypeId} {fs : Array Field} {K : Kd α} {Z : α → Prop} (ht : P.underlying t = some (.struct fs)) (hc : P.cellsOf t = K.sz) (h : OpensF P 0 fs.toList K Z) : Opens P t K Z := by
  intro H enc w base spare held fuel cs d ps h1 h2
  obtain ⟨xs, n, rfl, hx, hl, hxl, hel⟩ := DataW.trod_struct ht h1
  obtain ⟨rfl, rfl⟩ := Prod.mk.inj hx
  refine h.2 H enc w base spare held n cs xs (by omega) (by simpa using hxl) (fun i f hf => ?_) (fun y hy => h2 y ?_)
  · rw [Nat.sub_zero]; exact hel i f (by simpa using hf)
  · simp only [DataW.weights, ht]; exact hy
/-- an argument's weights out of the row's -/
theorem weights_of_each {H : Type} {P : Program} {ts : List TypeId} {ds : List (DataW H)} (hz : (DataW.weightsEach P ts ds).all (· ≤ reachBytes) = true) {j : Nat} {t : TypeId} {d : DataW H} (ht : ts[j]? = some t) (hd : ds[j]? = some d) :
    ∀ x ∈ DataW.weights P t d, x ≤ reachBytes := fun x hx => by
  have := List.all_eq_true.1 hz x (DataW.weights_mem_each ht hd x hx)
  simpa using this
theorem aggOf_okWide {P : Program} {W : World} {r : Reach} {b : Nat} {t : TypeId} {v : Value} {fs : Array Field} (ht : P.underlying t = some (.struct fs)) (h : Value.okWide P W r b t v) : ∃ cs, v = .agg cs := by
  unfold Value.okWide at h
  rw [ht] at h
  obtain ⟨cs, h, _⟩ := h
  exact ⟨cs, h⟩
theorem slice_open {α : Type} {K : Kd α} {w : World} {l : List α} {A : Option Addr} {n c : Nat} (h : (Kd.slice K).K w l (Value.slice A n c).cells.toList) : n = l.length ∧ l.length ≤ c ∧ rdc K A l w := by
  obtain ⟨A', c', hc, hl, hr⟩ := h
  simp only [Value.cells, List.cons.injEq, Value.slice.injEq, and_true] at hc
  obtain ⟨rfl, rfl, rfl⟩ := hc
  exact ⟨rfl, hl, hr⟩
theorem int_open {k : IntKind} {w : World} {x y : Int} (h : (Kd.int k).K w x (Value.int k y).cells.toList) : x = y := by
  have h : (Value.int k y).cells.toList = [Value.int k x] := h
  simp only [Value.cells, List.cons.injEq, Value.int.injEq, and_true, true_and] at h
  exact h.symm
theorem bool_open {w : World} {x y : Bool} (h : Kd.bool.K w x (Value.bool y).cells.toList) : x = y := by
  have h : (Value.bool y).cells.toList = [Value.bool x] := h
  simp only [Value.cells, List.cons.injEq, Value.bool.injEq, and_true] at h
  exact h.symm
theorem string_open {w : World} {x y : ByteArray} (h : Kd.string.K w x (Value.string y).cells.toList) : x = y := by
  have h : (Value.string y).cells.toList = [Value.string x] := h
  simp only [Value.cells, List.cons.injEq, Value.string.injEq, and_true] at h
  exact h.symm
theorem agg_open {cs : Array Value} {l : List Value} (h : (Value.agg cs).cells.toList = l) : cs = l.toArray := by
  subst h; simp [Value.cells]
end Go.Proofs.YtniplmjbligmlaaDoor.V

/-! Layer 1 in plain words: bytes as lists, numbers as bytes, texts with their length ahead, zero bytes at the end. No program in it. -/
namespace Go.Proofs.YtniplmjbligmlaaDoor.V
open Go.RowKit
set_option linter.unusedVariables false
set_option linter.unusedSimpArgs false
abbrev L (s : ByteArray) : List UInt8 := s.data.toList
def B (l : List UInt8) : ByteArray := ⟨l.toArray⟩
theorem B_L (s : ByteArray) : B (L s) = s := by cases s; simp [B, L]
theorem L_B (l : List UInt8) : L (B l) = l := by simp [B, L]
theorem size_L (s : ByteArray) : s.size = (L s).length := by cases s; simp [L, ByteArray.size]
theorem size_B (l : List UInt8) : (B l).size = l.length := by rw [size_L, L_B]
theorem L_inj {s t : ByteArray} (h : L s = L t) : s = t := by rw [← B_L s, ← B_L t, h]
theorem toList_L (s : ByteArray) : s.toList = L s := ByteArray.toList_eq s
theorem L_extract (s : ByteArray) (i j : Nat) : L (s.extract i j) = ((L s).drop i).take (j - i) := by
  cases s; simp [L]
theorem L_append (s t : ByteArray) : L (s ++ t) = L s ++ L t := by
  cases s; cases t; simp [L]
theorem L_strB (xs : List Int) : L (strB xs) = xs.map fun n => UInt8.ofNat n.toNat := strB_data xs
theorem strB_eq (xs : List Int) : strB xs = B (xs.map fun n => UInt8.ofNat n.toNat) := L_inj (by rw [L_strB, L_B])
theorem bt_L (s : ByteArray) (i : Nat) (h : i < s.size) : bt s i = (((L s)[i]'(by rw [← size_L]; exact h)).toNat : Int) := by
  have h2 : i < (L s).length := by rw [← size_L]; exact h
  unfold bt
  rw [List.getD_eq_getElem?_getD, List.getElem?_eq_getElem h2]; rfl
theorem i64_wf {n : Int} (h : (Lit.int .i64 n).wf = true) : -9223372036854775808 ≤ n ∧ n < 9223372036854775808 := by
  simp [Lit.wf, IntKind.min, IntKind.max, IntKind.bits, IntKind.signed] at h; omega
theorem u64_wf {n : Int} (h : (Lit.int .u64 n).wf = true) : 0 ≤ n ∧ n < 18446744073709551616 := by
  simp [Lit.wf, IntKind.min, IntKind.max, IntKind.bits, IntKind.signed] at h; omega
theorem u32_wf {n : Int} (h : (Lit.int .u32 n).wf = true) : 0 ≤ n ∧ n < 4294967296 := by
  simp [Lit.wf, IntKind.min, IntKind.max, IntKind.bits, IntKind.signed] at h; omega
/-- a number in so many bytes, the lowest one first -/
def putL (n : Nat) : Nat → List UInt8
  | 0 => []
  | s + 1 => UInt8.ofNat (n % 256) :: putL (n / 256) s
theorem putL_succ (n s : Nat) : putL n (s + 1) = UInt8.ofNat (n % 256) :: putL (n / 256) s := rfl
/-- the number that bytes make -/
def getL : List UInt8 → Nat
  | [] => 0
  | b :: r => b.toNat + 256 * getL r
theorem putL_length (n s : Nat) : (putL n s).length = s := by
  induction s generalizing n with
  | zero => rfl
  | succ s ih => simp [putL, ih]
theorem getL_putL (n s : Nat) : getL (putL n s) = n % 256 ^ s := by
  induction s generalizing n with
  | zero => simp [putL, getL, Nat.mod_one]
  | succ s ih =>
    simp only [putL, getL, ih]
    have e : (UInt8.ofNat (n % 256)).toNat = n % 256 := by simp
    rw [e, Nat.pow_succ, Nat.mul_comm (256 ^ s) 256, Nat.mod_mul]
theorem getL_lt (l : List UInt8) : getL l < 256 ^ l.length := by
  induction l with
  | nil => simp [getL]
  | cons b r ih =>
    simp only [getL, List.length_cons, Nat.pow_succ]
    have := b.toNat_lt
    have e : 256 ^ r.length * 256 = 256 * 256 ^ r.length := Nat.mul_comm _ _
    omega
theorem putL_getL (l : List UInt8) : putL (getL l) l.length = l := by
  induction l with
  | nil => rfl
  | cons b r ih =>
    have h := b.toNat_lt
    simp only [List.length_cons, putL, getL]
    rw [show (b.toNat + 256 * getL r) % 256 = b.toNat by omega, show (b.toNat + 256 * getL r) / 256 = getL r by omega, ih]
    simp
theorem getL_append (l m : List UInt8) : getL (l ++ m) = getL l + 256 ^ l.length * getL m := by
  induction l with
  | nil => simp [getL]
  | cons b r ih => simp only [List.cons_append, getL, ih, List.length_cons, Nat.pow_succ]; rw [Nat.mul_add, ← Nat.mul_assoc, Nat.mul_comm 256 (256 ^ r.length)]; omega
theorem pow256 (i : Nat) : (2 : Nat) ^ (8 * i) = 256 ^ i := by rw [Nat.pow_mul]
theorem fdiv_nat (n m : Nat) : (n : Int).fdiv (m : Int) = ((n / m : Nat) : Int) := by rw [Int.fdiv_eq_ediv_of_nonneg _ (by omega)]; rfl
theorem shr_div (n i : Nat) (h8 : i ≤ 8) : (n : Int).fdiv (2 ^ min (8 * (i : Int)).toNat IntKind.u64.bits) = ((n / 256 ^ i : Nat) : Int) := by
  rw [show min (8 * (i : Int)).toNat IntKind.u64.bits = 8 * i by simp [IntKind.bits]; omega, ← pow256, ← fdiv_nat]; simp
/-- 'le.Put' -/
def putS (n size : Int) : ByteArray × Int := if size < 1 ∨ size > 8 ∨ n.toNat ≥ 256 ^ size.toNat then (⟨#[]⟩, 1) else (B (putL n.toNat size.toNat), 0)
/-- 'le.Get' -/
def getS (s : ByteArray) (at_ size : Int) : Int × Int × Int :=
  if size < 1 ∨ size > 8 ∨ at_ < 0 then (0, 0, 1) else if at_ > s.size ∨ s.size - at_ < size then (0, 0, 3) else (getL (((L s).drop at_.toNat).take size.toNat), at_ + size, 0)
theorem getS_arg {s : ByteArray} {a size : Int} (h : size < 1 ∨ size > 8 ∨ a < 0) : getS s a size = (0, 0, 1) := by unfold getS; rw [if_pos h]
theorem getS_short {s : ByteArray} {a size : Int} (h : ¬ (size < 1 ∨ size > 8 ∨ a < 0)) (h2 : a > s.size ∨ (s.size : Int) - a < size) : getS s a size = (0, 0, 3) := by unfold getS; rw [if_neg h, if_pos h2]
theorem getS_ok {s : ByteArray} {a size : Int} (h : ¬ (size < 1 ∨ size > 8 ∨ a < 0)) (h2 : ¬ (a > s.size ∨ (s.size : Int) - a < size)) : getS s a size = (((getL (((L s).drop a.toNat).take size.toNat) : Nat) : Int), a + size, 0) := by unfold getS; rw [if_neg h, if_neg h2]
/-- 'le.Text' -/
def textS (s : ByteArray) : ByteArray × Int := if (s.size : Int) > 65535 then (⟨#[]⟩, 2) else (B (putL s.size 2 ++ L s), 0)
/-- 'le.Cut' -/
def cutS (s : ByteArray) (at_ : Int) : ByteArray × Int × Int :=
  if at_ < 0 then (⟨#[]⟩, 0, 1) else if at_ > s.size ∨ (s.size : Int) - at_ < 2 then (⟨#[]⟩, 0, 3)
  else if at_ + 2 + getL (((L s).drop at_.toNat).take 2) > s.size then (⟨#[]⟩, 0, 3)
  else (s.extract (at_ + 2).toNat (at_ + 2 + getL (((L s).drop at_.toNat).take 2)).toNat, at_ + 2 + getL (((L s).drop at_.toNat).take 2), 0)
theorem bits_or_comm (k : IntKind) (x y : Int) : Go.bits .or k x y = Go.bits .or k y x := by
  unfold Go.bits; simp only [BitVec.or_comm]
/-- a byte put on top -/
theorem or_byte (acc b i : Nat) (h8 : i < 8) (ha : acc < 256 ^ i) (hb : b < 256) :
    arithI .or .u64 (acc : Int) (IntKind.u64.wrap ((b : Int) * 2 ^ min (8 * (i : Int)).toNat IntKind.u64.bits)) = some ((acc + 256 ^ i * b : Nat) : Int) := by
  have h7 : i ≤ 7 := by omega
  have hle : 256 ^ i * b + 256 ^ i ≤ 256 ^ 8 := by
    have h1 : 256 ^ i * (b + 1) ≤ 256 ^ 7 * 256 := Nat.mul_le_mul (Nat.pow_le_pow_right (by decide) h7) (by omega)
    rw [Nat.mul_add, Nat.mul_one] at h1
    exact h1
  have e8 : (256 : Nat) ^ 8 = 18446744073709551616 := by decide
  have e64 : ((2 : Int) ^ 64) = 18446744073709551616 := by decide
  have ep : ((2 : Int) ^ (8 * i)) = ((256 ^ i : Nat) : Int) := by rw [← pow256]; simp
  have hs : IntKind.u64.wrap ((b : Int) * 2 ^ min (8 * (i : Int)).toNat IntKind.u64.bits) = ((256 ^ i * b : Nat) : Int) := by
    rw [show min (8 * (i : Int)).toNat IntKind.u64.bits = 8 * i by simp [IntKind.bits]; omega]
    have : ((b : Int) * 2 ^ (8 * i)) = ((256 ^ i * b : Nat) : Int) := by rw [ep, Int.mul_comm, Int.natCast_mul]
    rw [this, wrap_u64 (by omega) (by omega)]
  rw [hs]
  show some (Go.bits .or .u64 _ _) = _
  rw [bits_or_comm]
  have hlt : ((256 ^ i * b : Nat) : Int) < 2 ^ 64 := by rw [e64]; omega
  have hlt2 : ((acc : Nat) : Int) < 2 ^ (8 * i) := by rw [ep]; omega
  have hlt3 : ((acc : Nat) : Int) < 2 ^ 64 := by rw [e64]; omega
  have hm : ((256 ^ i * b : Nat) : Int) % 2 ^ (8 * i) = 0 := by rw [ep, Int.natCast_mul]; exact Int.mul_emod_right _ _
  rw [Go.bits_join .u64 64 (by decide) (fun n h h' => wrap_u64 h (by simpa using h')) (8 * i) _ _ (by omega) hm hlt (by omega) hlt2 hlt3]
  congr 1; omega
theorem getL_snoc (l : List UInt8) (b : UInt8) : getL (l ++ [b]) = getL l + 256 ^ l.length * b.toNat := by
  rw [getL_append]; simp [getL]
theorem textS_ok {s : ByteArray} (h : s.size ≤ 65535) : textS s = (B (putL s.size 2 ++ L s), 0) := by unfold textS; rw [if_neg (by omega)]
theorem cutS_row {s : ByteArray} {a : Nat} {l m r : List UInt8} (h : L s = l ++ (putL m.length 2 ++ m) ++ r) (ha : l.length = a) (hm : m.length ≤ 65535) :
    cutS s a = (B m, (a : Int) + 2 + (m.length : Int), 0) := by
  subst ha
  have hlen : s.size = l.length + (2 + m.length) + r.length := by rw [size_L, h]; simp [putL_length]; omega
  have hd : ((L s).drop (l.length : Int).toNat).take 2 = putL m.length 2 := by
    rw [h, Int.toNat_natCast, List.append_assoc, List.drop_left, List.append_assoc, List.take_append_of_le_length (by rw [putL_length]; omega), List.take_of_length_le (by rw [putL_length]; omega)]
  have hg : getL (putL m.length 2) = m.length := by rw [getL_putL]; exact Nat.mod_eq_of_lt (by omega)
  unfold cutS
  rw [if_neg (by omega), if_neg (by omega), hd, hg, if_neg (by omega)]
  refine Prod.ext ?_ rfl
  apply L_inj
  rw [L_extract, L_B, h, show ((l.length : Int) + 2).toNat = l.length + 2 by omega]
  rw [show ((l.length : Int) + 2 + m.length).toNat - (l.length + 2) = m.length by omega]
  rw [List.append_assoc, ← List.drop_drop, List.drop_left, List.append_assoc, List.drop_append_of_le_length (by rw [putL_length]; omega), List.drop_of_length_le (by rw [putL_length]; omega), List.nil_append, List.take_left]
def trimL (l : List UInt8) : List UInt8 := (l.reverse.dropWhile (· == 0)).reverse
def trimS (s : ByteArray) : ByteArray := B (trimL (L s))
/-- 'le.Fill' -/
def fillS (s : ByteArray) (size : Int) : ByteArray × Int := if (s.size : Int) > size then (⟨#[]⟩, 2) else (B (L s ++ List.replicate (size.toNat - s.size) 0), 0)
theorem trimL_nil : trimL [] = [] := rfl
theorem trimL_zero (l : List UInt8) : trimL (l ++ [0]) = trimL l := by simp [trimL]
theorem trimL_other (l : List UInt8) (b : UInt8) (h : b ≠ 0) : trimL (l ++ [b]) = l ++ [b] := by simp [trimL, h]
theorem trimL_zeros (l : List UInt8) (n : Nat) : trimL (l ++ List.replicate n 0) = trimL l := by
  induction n with
  | zero => simp
  | succ n ih => rw [List.replicate_succ', ← List.append_assoc, trimL_zero, ih]
theorem snoc_cases {α : Type} (l : List α) : l = [] ∨ ∃ m b, l = m ++ [b] := by
  rcases List.eq_nil_or_concat l with h | ⟨m, b, h⟩
  · exact .inl h
  · exact .inr ⟨m, b, by simpa using h⟩
theorem trimL_idem (l : List UInt8) : trimL (trimL l) = trimL l := by
  generalize hn : l.length = n
  induction n generalizing l with
  | zero => rw [List.eq_nil_of_length_eq_zero hn]; rfl
  | succ n ih =>
    rcases snoc_cases l with rfl | ⟨m, b, rfl⟩
    · rfl
    by_cases hb : b = 0
    · subst hb; rw [trimL_zero]; exact ih m (by simpa using hn)
    · rw [trimL_other m b hb, trimL_other m b hb]
/-- what is trimmed is the beginning, and behind it stand zero bytes -/
theorem trimL_split (l : List UInt8) : l = trimL l ++ List.replicate (l.length - (trimL l).length) 0 ∧ (trimL l).length ≤ l.length := by
  generalize hn : l.length = n
  induction n generalizing l with
  | zero => rw [List.eq_nil_of_length_eq_zero hn]; simp [trimL]
  | succ n ih =>
    rcases snoc_cases l with rfl | ⟨m, b, rfl⟩
    · simp at hn
    have hm : m.length = n := by simpa using hn
    by_cases hb : b = 0
    · subst hb
      obtain ⟨h1, h2⟩ := ih m hm
      rw [trimL_zero]
      refine ⟨?_, by omega⟩
      rw [show n + 1 - (trimL m).length = (n - (trimL m).length) + 1 by omega, List.replicate_succ', ← List.append_assoc, ← h1]
    · rw [trimL_other m b hb]; simp [hm]
theorem trimL_last (l : List UInt8) (h : trimL l ≠ []) : ∃ m b, trimL l = m ++ [b] ∧ b ≠ 0 := by
  generalize hn : l.length = n
  induction n generalizing l with
  | zero => rw [List.eq_nil_of_length_eq_zero hn] at h; exact absurd rfl h
  | succ n ih =>
    rcases snoc_cases l with rfl | ⟨m, b, rfl⟩
    · exact absurd rfl h
    by_cases hb : b = 0
    · subst hb; rw [trimL_zero] at h ⊢; exact ih m h (by simpa using hn)
    · exact ⟨m, b, trimL_other m b hb, hb⟩
theorem trimS_size (s : ByteArray) : (trimS s).size ≤ s.size := by
  unfold trimS; rw [size_B, size_L]; exact (trimL_split (L s)).2
theorem trimS_idem (s : ByteArray) : trimS (trimS s) = trimS s := by unfold trimS; rw [L_B, trimL_idem]
theorem byte_zero (b : UInt8) : (b.toNat : Int) = 0 ↔ b = 0 := by
  constructor
  · intro h; apply UInt8.toNat_inj.1; simpa using h
  · rintro rfl; rfl
theorem getL_take_succ (l : List UInt8) (i : Nat) (h : i < l.length) : getL (l.take (i + 1)) = getL (l.take i) + 256 ^ i * (l[i]).toNat := by
  rw [List.take_succ_eq_append_getElem h, getL_snoc, List.length_take, show min i l.length = i by omega]
theorem putL_take (n s i : Nat) (h : i < s) : (putL n s)[i]? = some (UInt8.ofNat (n / 256 ^ i % 256)) := by
  induction s generalizing n i with
  | zero => omega
  | succ s ih =>
    cases i with
    | zero => simp [putL]
    | succ i =>
      rw [putL_succ, List.getElem?_cons_succ, ih _ _ (by omega), Nat.div_div_eq_div_mul, ← Nat.pow_succ']
/-! a row that is filled from its beginning -/
def fillR {α : Type} (l : List α) (z : α) (i : Nat) : List α := l.take i ++ List.replicate (l.length - i) z
theorem fillR_len {α : Type} (l : List α) (z : α) (i : Nat) (h : i ≤ l.length) : (fillR l z i).length = l.length := by unfold fillR; simp; omega
theorem fillR_zero {α : Type} (l : List α) (z : α) : fillR l z 0 = List.replicate l.length z := by simp [fillR]
theorem fillR_all {α : Type} (l : List α) (z : α) : fillR l z l.length = l := by simp [fillR]
theorem fillR_set {α : Type} (l : List α) (z : α) (i : Nat) (v : α) (h : l[i]? = some v) : (fillR l z i).set i v = fillR l z (i + 1) := by
  obtain ⟨hi, rfl⟩ := List.getElem?_eq_some_iff.1 h
  unfold fillR
  obtain ⟨q, hq⟩ : ∃ q, l.length - i = q + 1 := ⟨l.length - i - 1, by omega⟩
  rw [hq, show l.length - (i + 1) = q by omega, List.replicate_succ, List.set_append_right _ _ (by rw [List.length_take]; omega)]
  rw [show i - (l.take i).length = 0 by rw [List.length_take]; omega, List.set_cons_zero, List.take_succ_eq_append_getElem hi, List.append_assoc, List.singleton_append]
def bI (l : List UInt8) : List Int := l.map fun b => (b.toNat : Int)
theorem bI_len (l : List UInt8) : (bI l).length = l.length := by simp [bI]
theorem strB_bI (l : List UInt8) : strB (bI l) = B l := by
  rw [strB_eq]; congr 1; unfold bI; rw [List.map_map]
  conv => rhs; rw [← List.map_id l]
  apply List.map_congr_left; intro b _; simp
theorem bI_at (l : List UInt8) (i : Nat) (b : UInt8) (h : l[i]? = some b) : (bI l)[i]? = some (b.toNat : Int) := by simp [bI, h]
end Go.Proofs.YtniplmjbligmlaaDoor.V
