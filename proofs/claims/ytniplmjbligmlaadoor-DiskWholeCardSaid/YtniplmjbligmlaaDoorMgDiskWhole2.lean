/- Texts of this claim, one behind the other. -/
import Derived.Test.YtniplmjbligmlaaDoorMgDiskWhole0
import Derived.Deep.Quiet
import Derived.Test.YtniplmjbligmlaaDoorProg
import Derived.Test.YtniplmjbligmlaaDoorMgDiskWhole1
/-! A walk by small laws: the slots of a frame that are known (T), the types that are used (tb), and one law for each kind of operation. Nothing of the program stands here. -/
namespace Go.Proofs.YtniplmjbligmlaaDoor.SL
open Go.RowKit Go.Proofs.YtniplmjbligmlaaDoorW.PrintWords Go.Proofs.YtniplmjbligmlaaDoorW.PrintLast Go.Proofs.YtniplmjbligmlaaDoorW.PrintMore
set_option linter.unusedVariables false
set_option linter.unusedSimpArgs false
abbrev Tm := List (Nat × Value)
structure Fr (n : Nat) (D : List Deferred) (T : Tm) (a : Act) : Prop where
  size : a.tmps.size = n
  defs : a.defers = D
  at_ : ∀ i v, T.lookup i = some v → a.tmps[i]? = some v
def ev (T : Tm) : Operand → Option Value
  | .tmp i => T.lookup i
  | .const v => some v
  | .global g => some (.pointer (some ⟨g, 0, none⟩))
  | .func f => some (.func (.func f) #[] #[])
section
variable {n : Nat} {D : List Deferred} {T T' : Tm} {a : Act}
theorem Fr.get (A : Fr n D T a) {i : Nat} {v : Value} (h : T.lookup i = some v) : a.tmps.getD i undef = v := by
  have := A.at_ i v h
  simp [Array.getD_eq_getD_getElem?, this]
theorem Fr.ev (A : Fr n D T a) {x : Operand} {v : Value} (h : ev T x = some v) : a.eval x = v := by
  cases x with
  | tmp i => exact A.get h
  | const u => exact Option.some.inj h
  | global g => exact Option.some.inj h
  | func f => exact Option.some.inj h
theorem Fr.put (A : Fr n D T a) {d : Nat} (hd : d < n) (v : Value) : Fr n D ((d, v) :: T) (a.put (some d) v) := by
  refine ⟨by simp [Act.put, A.size], A.defs, fun i u h => ?_⟩
  simp only [Act.put]
  rw [Array.getElem?_setIfInBounds]
  by_cases e : i = d
  · subst e
    simp at h
    subst h
    rw [if_pos rfl, if_pos (by rw [A.size]; exact hd)]
  · rw [if_neg (Ne.symm e)]
    refine A.at_ i u ?_
    have e' : (i == d) = false := by simpa using e
    simpa [List.lookup, e'] using h
def Sub : Tm → Tm → Prop
  | [], _ => True
  | p :: l, T => T.lookup p.1 = some p.2 ∧ Sub l T
theorem Sub.get : ∀ {T' : Tm} {i : Nat} {v : Value}, Sub T' T → T'.lookup i = some v → T.lookup i = some v
  | [], _, _, _, h => by simp at h
  | (j, u) :: l, i, v, hs, h => by
    by_cases e : i = j
    · subst e; simp at h; subst h; exact hs.1
    · have e' : (i == j) = false := by simpa using e
      exact hs.2.get (by simpa [List.lookup, e'] using h)
theorem Fr.sub (A : Fr n D T a) (hs : Sub T' T) : Fr n D T' a := ⟨A.size, A.defs, fun i v h => A.at_ i v (hs.get h)⟩
def argT : Nat → List Value → Tm
  | _, [] => []
  | i, v :: l => (i, v) :: argT (i + 1) l
theorem argT_at : ∀ (l : List Value) (k i : Nat) (v : Value), (argT k l).lookup i = some v → k ≤ i ∧ l[i - k]? = some v
  | [], k, i, v, h => by simp [argT] at h
  | u :: l, k, i, v, h => by
    by_cases e : i = k
    · subst e; simp [argT] at h; subst h; exact ⟨Nat.le_refl _, by simp⟩
    · have e' : (i == k) = false := by simpa using e
      obtain ⟨h1, h2⟩ := argT_at l (k + 1) i v (by simpa [argT, List.lookup, e'] using h)
      refine ⟨by omega, ?_⟩
      rw [show i - k = (i - (k + 1)) + 1 by omega]
      simpa using h2
theorem Fr.enter (args : List Value) (n : Nat) (h : args.length ≤ n) : Fr n [] (argT 0 args) { tmps := args.toArray ++ Array.replicate (n - args.toArray.size) undef, defers := [] } := by
  refine ⟨by simp; omega, rfl, fun i v hv => ?_⟩
  obtain ⟨_, h2⟩ := argT_at args 0 i v hv
  have hlt : i < args.length := (List.getElem?_eq_some_iff.1 h2).1
  simp only [Nat.sub_zero] at h2
  show (args.toArray ++ Array.replicate (n - args.toArray.size) undef)[i]? = some v
  rw [Array.getElem?_append_left (by simpa using hlt)]
  simpa using h2
end
/-! The types that are used. -/
inductive TK where
  | bool | int (k : IntKind) | string | slice (e : TypeId) | struct (fs : List (TypeId × Nat)) | array (n : Nat) (e : TypeId) | ptr (t : TypeId) | map (k e : TypeId) | iface | other
def tk : TypeDesc → TK
  | .bool => .bool
  | .int k => .int k
  | .string => .string
  | .slice e => .slice e
  | .struct fs => .struct (fs.toList.map fun f => (f.type, f.offset))
  | .array n e => .array n e
  | .pointer t => .ptr t
  | .map k e => .map k e
  | .interface _ => .iface
  | _ => .other
structure TyI where
  kind : TK
  size : Nat
  bytes : Nat
  zero : List Value
def TK.row : TK → Bool
  | .struct _ | .array _ _ => true
  | _ => false
def TyI.zv (i : TyI) : Value := match i.kind.row with
  | true => .agg i.zero.toArray
  | false => i.zero.headD undef
structure TyOk (P : Program) (t : TypeId) (i : TyI) : Prop where
  und : ∃ d, P.underlying t = some d ∧ tk d = i.kind
  inf : ∃ inf, P.info? t = some inf ∧ inf.size = i.size ∧ inf.bytes = i.bytes ∧ inf.zero = some i.zv
  zc : i.zv.cells = i.zero.toArray
  zl : i.zero.length = i.size
  z1 : i.zero.all (·.oneCell') = true
abbrev Tb := List (Nat × TyI)
def TbOk (P : Program) (tb : Tb) : Prop := ∀ t i, tb.lookup t = some i → TyOk P t i
theorem tbOk_nil (P : Program) : TbOk P [] := fun t i h => by simp at h
theorem tbOk_cons {P : Program} {t : Nat} {i : TyI} {tb : Tb} (h : TyOk P t i) (hs : TbOk P tb) : TbOk P ((t, i) :: tb) := fun u j hu => by
  by_cases e : u = t
  · subst e; simp at hu; subst hu; exact h
  · have e' : (u == t) = false := by simpa using e
    exact hs u j (by simpa [List.lookup, e'] using hu)
section
variable {P : Program} {t : TypeId} {i : TyI} (h : TyOk P t i) (w : World)
include h
theorem TyOk.run_und : ∃ d, (underlying t).run P w = .ok d w ∧ P.underlying t = some d ∧ tk d = i.kind := by
  obtain ⟨d, hd, hk⟩ := h.und
  exact ⟨d, run_underlying hd w, hd, hk⟩
theorem TyOk.run_size : (sizeOf t).run P w = .ok i.size w := by
  obtain ⟨inf, hi, hs, _⟩ := h.inf
  simp [sizeOf, typeInfo, hi, hs]
theorem TyOk.run_info : ∃ inf, (typeInfo t).run P w = .ok inf w ∧ inf.size = i.size ∧ inf.bytes = i.bytes ∧ inf.zero = some i.zv := by
  obtain ⟨inf, hi, hs⟩ := h.inf
  exact ⟨inf, by simp [typeInfo, hi], hs⟩
theorem TyOk.run_zero : (zeroValue t).run P w = .ok i.zv w := by
  obtain ⟨inf, hi, _, _, hz⟩ := h.inf
  simp [zeroValue, typeInfo, hi, hz]
theorem TyOk.run_agg : (isAgg t).run P w = .ok i.kind.row w := by
  obtain ⟨d, hd, hu, hk⟩ := h.run_und w
  unfold isAgg
  rw [Sem.run_bind, hd, ← hk]
  cases d <;> simp [tk, TK.row]
end
/-- What is read at an offset of a row of cells: a struct or an array of its own, or one cell. -/
def partC (i : TyI) (cs : List Value) (off : Nat) : Option Value := match i.kind.row with
  | true => some (.agg ((cs.drop off).take i.size).toArray)
  | false => cs[off]?
def fillC : List Value → List (Nat × List Value) → List Value
  | cs, [] => cs
  | cs, (o, vs) :: l => fillC (putC cs o vs) l
/-- Operations that only reckon, on values that are known. -/
def pureOp (tb : Tb) (T : Tm) : Op → Option Value
  | .move x => ev T x
  | .assign x => ev T x
  | .pick c x y => match ev T c with
    | some (.bool true) => ev T x
    | some (.bool false) => ev T y
    | _ => none
  | .fieldAddr s x f => match ev T x, tb.lookup s with
    | some (.pointer (some ⟨b, o, none⟩)), some ⟨.struct fs, _, _, _⟩ => match fs[f]? with
      | some (u, off) => match tb.lookup u with
        | some ⟨_, k + 1, _, _⟩ => some (.pointer (some ⟨b, o + off, none⟩))
        | _ => none
      | _ => none
    | _, _ => none
  | .field s x f => match ev T x, tb.lookup s with
    | some (.agg cs), some ⟨.struct fs, _, _, _⟩ => match fs[f]? with
      | some (u, off) => match tb.lookup u with
        | some i => partC i cs.toList off
        | _ => none
      | _ => none
    | _, _ => none
  | .unOp .not _ x => match ev T x with
    | some (.bool b) => some (.bool (!b))
    | _ => none
  | .extract x k => match ev T x with
    | some (.tuple vs) => vs.toList[k]?
    | _ => none
  | .nilCheck x => match ev T x with
    | some (.pointer (some p)) => some (.pointer (some p))
    | some (.func (.func f) a b) => some (.func (.func f) a b)
    | _ => none
  | .call ⟨.builtin .len, xs0, ts⟩ => match xs0.toList, ts.toList with
    | [x], [t] => match ev T x, tb.lookup t with
      | some (.string s), some ⟨.string, _, _, _⟩ => some (.int .i64 s.size)
      | some (.slice _ m _), some ⟨.slice _, _, _, _⟩ => some (.int .i64 m)
      | _, _ => none
    | _, _ => none
  | _ => none
section
variable {P : Program} {tb : Tb} {n : Nat} {D : List Deferred} {T : Tm} {a : Act} {w : World}
theorem add_spot (b o k : Nat) : (⟨b, o, none⟩ : Addr).add k = ⟨b, o + k, none⟩ := by unfold Addr.add; split <;> simp_all
theorem run_part {u : TypeId} {i : TyI} (h : TyOk P u i) {cs : Array Value} {off : Nat} {v : Value} (hv : partC i cs.toList off = some v) : (part u cs off).run P w = .ok v w := by
  unfold part
  simp only [Sem.run_bind, h.run_agg w, Result.andThen_ok]
  unfold partC at hv
  cases hr : i.kind.row with
  | true =>
    rw [hr] at hv
    obtain rfl := Option.some.inj hv
    simp only [if_true, Sem.run_bind, h.run_size w, Result.andThen_ok, Sem.run_pure]
    congr 2
    apply Array.toList_inj.1
    simp [Array.toList_extract, List.extract_eq_take_drop]
  | false =>
    rw [hr] at hv
    have : cs[off]? = some v := by simpa using hv
    simp [this]
theorem pure_run (hT : TbOk P tb) (A : Fr n D T a) {o : Oper} {v : Value} (hv : pureOp tb T o.op = some v) : (execOp a.eval o).run P w = .ok (.value v) w := by
  unfold execOp
  cases ho : o.op with
  | move x => rw [ho] at hv; simp [A.ev hv]
  | assign x => rw [ho] at hv; simp [A.ev hv]
  | pick c x y =>
    rw [ho] at hv
    simp only [pureOp] at hv
    split at hv
    · rename_i hc; simp [A.ev hc, asBool, A.ev hv]
    · rename_i hc; simp [A.ev hc, asBool, A.ev hv]
    · cases hv
  | fieldAddr s x f =>
    rw [ho] at hv
    simp only [pureOp] at hv
    split at hv
    · rename_i b o' fs sz by_ z hx hs
      split at hv
      · rename_i u off hf
        split at hv
        · rename_i kd k by2 z2 hu
          obtain rfl := Option.some.inj hv
          obtain ⟨d, hd, _, hk⟩ := (hT _ _ hs).run_und w
          have hsz := (hT _ _ hu).run_size w
          cases d <;> simp only [tk] at hk <;> try cases hk
          rename_i fa _u
          have hf' : ∃ fl : Field, fa[f]? = some fl ∧ fl.type = u ∧ fl.offset = off := by
            rw [List.getElem?_map] at hf
            cases hq : fa.toList[f]? with
            | none => rw [hq] at hf; cases hf
            | some fl => rw [hq] at hf; simp at hf; exact ⟨fl, by simpa using hq, hf.1, hf.2⟩
          obtain ⟨fl, hfl, rfl, rfl⟩ := hf'
          simp [Instr.fieldAt, Sem.run_bind, hd, hfl, A.ev hx, Instr.sureAddr, fieldPlace, hsz, add_spot]
        · cases hv
      · cases hv
    · cases hv
  | field s x f =>
    rw [ho] at hv
    simp only [pureOp] at hv
    split at hv
    · rename_i cs fs sz by_ z hx hs
      split at hv
      · rename_i u off hf
        split at hv
        · rename_i i hu
          obtain ⟨d, hd, _, hk⟩ := (hT _ _ hs).run_und w
          cases d <;> simp only [tk] at hk <;> try cases hk
          rename_i fa _u
          have hf' : ∃ fl : Field, fa[f]? = some fl ∧ fl.type = u ∧ fl.offset = off := by
            rw [List.getElem?_map] at hf
            cases hq : fa.toList[f]? with
            | none => rw [hq] at hf; cases hf
            | some fl => rw [hq] at hf; simp at hf; exact ⟨fl, by simpa using hq, hf.1, hf.2⟩
          obtain ⟨fl, hfl, rfl, rfl⟩ := hf'
          have hp := run_part (w := w) (hT _ _ hu) hv
          simp [Instr.field, Sem.run_bind, hd, hfl, A.ev hx, asAgg, hp]
        · cases hv
      · cases hv
    · cases hv
  | unOp u t x =>
    rw [ho] at hv
    cases u <;> simp only [pureOp] at hv <;> try cases hv
    split at hv
    · rename_i b hx
      obtain rfl := Option.some.inj hv
      simp [A.ev hx, Op.unary]
    · cases hv
  | extract x k =>
    rw [ho] at hv
    simp only [pureOp] at hv
    split at hv
    · rename_i vs hx
      have : vs[k]? = some v := by simpa using hv
      simp [A.ev hx, Instr.extract, this]
    · cases hv
  | nilCheck x =>
    rw [ho] at hv
    simp only [pureOp] at hv
    split at hv
    · rename_i p hx; obtain rfl := Option.some.inj hv; simp [A.ev hx]
    · rename_i f u u2 hx; obtain rfl := Option.some.inj hv; simp [A.ev hx]
    · cases hv
  | call c =>
    rw [ho] at hv
    obtain ⟨cal, xs0, ts⟩ := c
    cases cal with
    | value x => simp [pureOp] at hv
    | invoke x y => simp [pureOp] at hv
    | builtin b =>
      cases b <;> simp only [pureOp] at hv <;> try cases hv
      split at hv
      · rename_i x t has hts
        obtain ⟨xs0⟩ := xs0; obtain ⟨ts⟩ := ts
        simp at has hts; subst has; subst hts
        split at hv
        · rename_i s sz by_ z hx ht
          obtain rfl := Option.some.inj hv
          obtain ⟨d, hd, _, hk⟩ := (hT _ _ ht).run_und w
          cases d <;> simp only [tk] at hk <;> try cases hk
          simp [resolve, invoke, builtin, Builtin.len_, hd, A.ev hx, goInt]
        · rename_i u m c e sz by_ z hx ht
          obtain rfl := Option.some.inj hv
          obtain ⟨d, hd, _, hk⟩ := (hT _ _ ht).run_und w
          cases d <;> simp only [tk] at hk <;> try cases hk
          simp [resolve, invoke, builtin, Builtin.len_, hd, A.ev hx, goInt]
        · cases hv
      · cases hv
  | _ => rw [ho] at hv; simp [pureOp] at hv
end
end Go.Proofs.YtniplmjbligmlaaDoor.SL

/-! The walk's laws, one for each form of code and each kind of operation, on a frame (Fr) and a memory (St) that are told. -/
namespace Go.Proofs.YtniplmjbligmlaaDoor.SL
open Go.RowKit Go.Proofs.YtniplmjbligmlaaDoorW.PrintWords Go.Proofs.YtniplmjbligmlaaDoorW.PrintLast Go.Proofs.YtniplmjbligmlaaDoorW.PrintMore
set_option linter.unusedVariables false
set_option linter.unusedSimpArgs false
section
variable {P : Program} {Q : Exit → Act → World → Prop} {a : Act} {w : World} {n : Nat} {D : List Deferred} {T : Tm} {tb : Tb}
theorem sx_enter {f : FuncId} {fn : Func} {c : Code} {args : List Value} {R : Ending → World → Prop} {n : Nat} (hf : P.funcs[f]? = some fn) (hn : fn.ntmps = n) (hb : fn.body = some c) (hl : Nat.ble args.length n = true)
    (k : ∀ a, Fr n [] (argT 0 args) a → c.wp P (bodyPost P fn R) a w) : Calls P f args.toArray w R :=
  calls_of_wp hf hb (k _ (by rw [hn]; exact Fr.enter args n (Nat.le_of_ble_eq_true hl)))
theorem sx_region {id : Nat} {l : List Oper} (h : wpList P l.toArray Q l a w) : (Code.region id l.toArray false).wp P Q a w := wp_region_lit h
theorem sx_then {next : Act → World → Prop} (h : next a w) : Exit.then next Q .normal a w := h
theorem sx_inb {id : Nat} (h : Q .normal a w) : Exit.inBlock id Q .normal a w := h
theorem sx_then_exit {next : Act → World → Prop} {id : Nat} (h : Q (.exit id) a w) : Exit.then next Q (.exit id) a w := h
theorem sx_inb_exit {id : Nat} (h : Q .normal a w) : Exit.inBlock id Q (.exit id) a w := by simp only [Exit.inBlock, if_true]; exact h
theorem sx_inb_other {id id' : Nat} (hne : Nat.beq id' id = false) (h : Q (.exit id') a w) : Exit.inBlock id Q (.exit id') a w := by
  simp only [Exit.inBlock]; rw [if_neg (by intro e; subst e; simp at hne)]; exact h
theorem sx_then_ret {next : Act → World → Prop} (h : Q .ret a w) : Exit.then next Q .ret a w := h
theorem sx_inb_ret {id : Nat} (h : Q .ret a w) : Exit.inBlock id Q .ret a w := h
theorem sx_if_t (A : Fr n D T a) {c : Operand} {x y : Code} (hc : ev T c = some (.bool true)) (h : x.wp P Q a w) : (Code.cond c x y).wp P Q a w := wp_cond_true (A.ev hc) h
theorem sx_if_f (A : Fr n D T a) {c : Operand} {x y : Code} (hc : ev T c = some (.bool false)) (h : y.wp P Q a w) : (Code.cond c x y).wp P Q a w := wp_cond_false (A.ev hc) h
theorem sx_if (A : Fr n D T a) {c : Operand} {x y : Code} {b : Bool} (hc : ev T c = some (.bool b)) (h1 : b = true → x.wp P Q a w) (h2 : b = false → y.wp P Q a w) : (Code.cond c x y).wp P Q a w := wp_cond_split (A.ev hc) h1 h2
theorem least {p : Nat → Prop} : ∀ m, p m → ∃ m, p m ∧ ∀ k, p k → m ≤ k := fun m => by
  induction m using Nat.strongRecOn with
  | ind m ih =>
    intro hm
    by_cases h : ∃ k, k < m ∧ p k
    · obtain ⟨k, hk, hp⟩ := h; exact ih k hk hp
    · exact ⟨m, hm, fun k hk => Nat.le_of_not_lt fun hlt => h ⟨k, hlt, hk⟩⟩
theorem blt_lt {d n : Nat} (h : Nat.blt d n = true) : d < n := Nat.le_of_ble_eq_true h
open Classical in
/-- A loop: I is what holds at its head, told by an index; each round comes to a smaller measure. -/
theorem sx_loop {ι : Type} {c : Code} (I : ι → Act → World → Prop) (μ : ι → Nat) (i0 : ι) (h0 : I i0 a w)
    (round : ∀ i a w, I i a w → c.wp P (Exit.then (fun a' w' => ∃ j, I j a' w' ∧ μ j < μ i) Q) a w) : (Code.loop c).wp P Q a w := by
  have hP : ∀ a w, (∃ i, I i a w) → ∃ m, (∃ i, I i a w ∧ μ i = m) ∧ ∀ k, (∃ i, I i a w ∧ μ i = k) → m ≤ k := fun a w ⟨i, h⟩ => least (p := fun m => ∃ i, I i a w ∧ μ i = m) _ ⟨i, h, rfl⟩
  refine wp_loop (fun a w => ∃ i, I i a w) (fun a w => if h : ∃ i, I i a w then Classical.choose (hP a w h) else 0) ⟨i0, h0⟩ (fun a w h => ?_)
  obtain ⟨⟨i, hi, hm⟩, _⟩ := Classical.choose_spec (hP a w h)
  refine wp_mono (round i a w hi) (fun e a' w' hq => ?_)
  cases e with
  | normal =>
    obtain ⟨j, hj, hlt⟩ := hq
    have hx : ∃ i, I i a' w' := ⟨j, hj⟩
    refine ⟨hx, ?_⟩
    rw [dif_pos hx, dif_pos h]
    exact Nat.lt_of_le_of_lt ((Classical.choose_spec (hP a' w' hx)).2 _ ⟨j, hj, rfl⟩) (by rw [← hm]; exact hlt)
  | exit => exact hq
  | goto => exact hq
  | ret => exact hq
  | panic => exact hq
  | outgrown => exact hq
end
/-! A region's list. -/
def wantedT (T : Tm) (ops : List Oper) : Option (Nat × Bool) → Option Bool
  | none => some true
  | some (j, want) => match ops[j]? with
    | some ⟨some d, _, _, _, _, _⟩ => match T.lookup d with
      | some (.bool b) => some (b == want)
      | some (.tuple _) => some false
      | _ => none
    | _ => none
section
variable {P : Program} {l : List Oper} {a : Act} {rest : List Oper} {Q : Exit → Act → World → Prop} {w : World} {n : Nat} {D : List Deferred} {T : Tm} {tb : Tb}
variable {d : Nat} {op : Op} {ty : TypeId} {pos : String} {aft : Array Edge} {g : Option (Nat × Bool)}
variable {M F0 F : Nat → Prop} {w0 : World} {B B' : List Box} {R : List (World → Prop)}
theorem wanted_of (A : Fr n D T a) {o : Oper} {b : Bool} (h : wantedT T l o.guard = some b) : Region.wanted o (yielded l.toArray a.tmps) = b := by
  unfold Region.wanted
  unfold wantedT at h
  cases hg : o.guard with
  | none => rw [hg] at h; exact (Option.some.inj h)
  | some p =>
    obtain ⟨j, want⟩ := p
    rw [hg] at h
    simp only at h ⊢
    split at h
    · rename_i d op ty pos aft g hj
      split at h
      · rename_i b' hb
        obtain rfl := Option.some.inj h
        have := A.at_ _ _ hb
        unfold yielded
        simp [hj, this]
      · rename_i vs hb
        obtain rfl := Option.some.inj h
        have := A.at_ _ _ hb
        unfold yielded
        simp [hj, this]
      · cases h
    · cases h
theorem list_run {o : Oper} (A : Fr n D T a) (hw : wantedT T l o.guard = some true) {v : Value} {w' : World} (hr : (execOp a.eval o).run P w = .ok (.value v) w') (k : wpList P l.toArray Q rest (a.put o.dst v) w') : wpList P l.toArray Q (o :: rest) a w := by
  refine wpList_step fun K hK => ?_
  rw [if_pos (wanted_of A hw)]
  unfold Oper.wp
  rw [hr]
  exact hK _ _ k
theorem list_run_skip {o : Oper} (A : Fr n D T a) (hw : wantedT T l o.guard = some true) {w' : World} (hr : (execOp a.eval o).run P w = .ok .skip w') (k : wpList P l.toArray Q rest (a.put o.dst undef) w') : wpList P l.toArray Q (o :: rest) a w := by
  refine wpList_step fun K hK => ?_
  rw [if_pos (wanted_of A hw)]
  unfold Oper.wp
  rw [hr]
  exact hK _ _ k
theorem sx_at {o : Oper} (h : wpList P l.toArray Q (o :: rest) a w) : wpList P l.toArray Q (o :: rest) a w := h
theorem g_bin {bop : BinOp} {t u : TypeId} {x y : Operand} (h : wpList P l.toArray Q (⟨some d, .binOp bop t x y u, ty, pos, aft, g⟩ :: rest) a w) : wpList P l.toArray Q (⟨some d, .binOp bop t x y u, ty, pos, aft, g⟩ :: rest) a w := h
theorem g_load {t : TypeId} {x : Operand} (h : wpList P l.toArray Q (⟨some d, .load t x, ty, pos, aft, g⟩ :: rest) a w) : wpList P l.toArray Q (⟨some d, .load t x, ty, pos, aft, g⟩ :: rest) a w := h
theorem g_store {t : TypeId} {x y : Operand} (h : wpList P l.toArray Q (⟨none, .store t x y, ty, pos, aft, g⟩ :: rest) a w) : wpList P l.toArray Q (⟨none, .store t x y, ty, pos, aft, g⟩ :: rest) a w := h
theorem g_box {t : TypeId} {x : Operand} (h : wpList P l.toArray Q (⟨some d, .box t x, ty, pos, aft, g⟩ :: rest) a w) : wpList P l.toArray Q (⟨some d, .box t x, ty, pos, aft, g⟩ :: rest) a w := h
theorem g_alloc {t : TypeId} (h : wpList P l.toArray Q (⟨some d, .alloc t, ty, pos, aft, g⟩ :: rest) a w) : wpList P l.toArray Q (⟨some d, .alloc t, ty, pos, aft, g⟩ :: rest) a w := h
theorem g_build {t : TypeId} {ps : Array (Nat × Operand)} (h : wpList P l.toArray Q (⟨some d, .build t ps, ty, pos, aft, g⟩ :: rest) a w) : wpList P l.toArray Q (⟨some d, .build t ps, ty, pos, aft, g⟩ :: rest) a w := h
theorem g_call {x : Operand} {xs : Array Operand} {ts : Array TypeId} (h : wpList P l.toArray Q (⟨some d, .call ⟨.value x, xs, ts⟩, ty, pos, aft, g⟩ :: rest) a w) : wpList P l.toArray Q (⟨some d, .call ⟨.value x, xs, ts⟩, ty, pos, aft, g⟩ :: rest) a w := h
theorem g_call0 {x : Operand} {xs : Array Operand} {ts : Array TypeId} (h : wpList P l.toArray Q (⟨none, .call ⟨.value x, xs, ts⟩, ty, pos, aft, g⟩ :: rest) a w) : wpList P l.toArray Q (⟨none, .call ⟨.value x, xs, ts⟩, ty, pos, aft, g⟩ :: rest) a w := h
theorem g_builtin {b : Builtin} {xs : Array Operand} {ts : Array TypeId} (h : wpList P l.toArray Q (⟨some d, .call ⟨.builtin b, xs, ts⟩, ty, pos, aft, g⟩ :: rest) a w) : wpList P l.toArray Q (⟨some d, .call ⟨.builtin b, xs, ts⟩, ty, pos, aft, g⟩ :: rest) a w := h
theorem g_slice {t : TypeId} {x : Operand} {lo hi mx : Option Operand} (h : wpList P l.toArray Q (⟨some d, .slice t x lo hi mx, ty, pos, aft, g⟩ :: rest) a w) : wpList P l.toArray Q (⟨some d, .slice t x lo hi mx, ty, pos, aft, g⟩ :: rest) a w := h
theorem g_index {t : TypeId} {x y : Operand} (h : wpList P l.toArray Q (⟨some d, .index t x y, ty, pos, aft, g⟩ :: rest) a w) : wpList P l.toArray Q (⟨some d, .index t x y, ty, pos, aft, g⟩ :: rest) a w := h
theorem g_idx {t : TypeId} {x y : Operand} (h : wpList P l.toArray Q (⟨some d, .indexAddr t x y, ty, pos, aft, g⟩ :: rest) a w) : wpList P l.toArray Q (⟨some d, .indexAddr t x y, ty, pos, aft, g⟩ :: rest) a w := h
theorem g_make {t : TypeId} {x y : Operand} (h : wpList P l.toArray Q (⟨some d, .makeSlice t x y, ty, pos, aft, g⟩ :: rest) a w) : wpList P l.toArray Q (⟨some d, .makeSlice t x y, ty, pos, aft, g⟩ :: rest) a w := h
theorem g_lit {t : TypeId} {n1 : Nat} {ps : Array (Nat × Operand)} (h : wpList P l.toArray Q (⟨some d, .buildSlice t n1 ps, ty, pos, aft, g⟩ :: rest) a w) : wpList P l.toArray Q (⟨some d, .buildSlice t n1 ps, ty, pos, aft, g⟩ :: rest) a w := h
theorem g_conv {t u : TypeId} {x : Operand} (h : wpList P l.toArray Q (⟨some d, .convert t u x, ty, pos, aft, g⟩ :: rest) a w) : wpList P l.toArray Q (⟨some d, .convert t u x, ty, pos, aft, g⟩ :: rest) a w := h
theorem g_int (A : Fr n D T a) {bop : BinOp} {t u : TypeId} {x y : Operand} {k : IntKind} {m : Int} (hx : ev T x = some (.int k m)) (h : wpList P l.toArray Q (⟨some d, .binOp bop t x y u, ty, pos, aft, g⟩ :: rest) a w) : wpList P l.toArray Q (⟨some d, .binOp bop t x y u, ty, pos, aft, g⟩ :: rest) a w := h
theorem g_str (A : Fr n D T a) {bop : BinOp} {t u : TypeId} {x y : Operand} {s : ByteArray} (hx : ev T x = some (.string s)) (h : wpList P l.toArray Q (⟨some d, .binOp bop t x y u, ty, pos, aft, g⟩ :: rest) a w) : wpList P l.toArray Q (⟨some d, .binOp bop t x y u, ty, pos, aft, g⟩ :: rest) a w := h
theorem sx_pure (A : Fr n D T a) (hT : TbOk P tb) (hw : wantedT T l g = some true) {v : Value} (hv : pureOp tb T op = some v) (hd : Nat.blt d n = true)
    (k : ∀ a', Fr n D ((d, v) :: T) a' → wpList P l.toArray Q rest a' w) : wpList P l.toArray Q (⟨some d, op, ty, pos, aft, g⟩ :: rest) a w :=
  list_run A hw (pure_run hT A hv) (k _ (A.put (blt_lt hd) v))
theorem sx_skip (A : Fr n D T a) (hw : wantedT T l g = some false) (hd : Nat.blt d n = true)
    (k : ∀ a', Fr n D ((d, undef) :: T) a' → wpList P l.toArray Q rest a' w) : wpList P l.toArray Q (⟨some d, op, ty, pos, aft, g⟩ :: rest) a w :=
  wpList_skip (wanted_of A hw) (k _ (A.put (blt_lt hd) undef))
theorem sx_skip0 (A : Fr n D T a) (hw : wantedT T l g = some false) (k : wpList P l.toArray Q rest a w) : wpList P l.toArray Q (⟨none, op, ty, pos, aft, g⟩ :: rest) a w :=
  wpList_skip (wanted_of A hw) k
theorem Fr.dup (A : Fr n D T a) {i : Nat} {v : Value} (h : T.lookup i = some v) : Fr n D ((i, v) :: T) a := ⟨A.size, A.defs, fun j u hu => by
  by_cases e : j = i
  · subst e; simp at hu; subst hu; exact A.at_ _ _ h
  · have e' : (j == i) = false := by simpa using e
    exact A.at_ j u (by simpa [List.lookup, e'] using hu)⟩
/-- A test whose answer isn't known yet: both ways. -/
theorem sx_both (A : Fr n D T a) {G : Prop} (i : Nat) {b : Bool} (h : T.lookup i = some (.bool b)) (h1 : b = true → Fr n D ((i, .bool true) :: T) a → G) (h2 : b = false → Fr n D ((i, .bool false) :: T) a → G) : G := by
  cases b
  · exact h2 rfl (A.dup h)
  · exact h1 rfl (A.dup h)
/-! Reckoning with whole numbers. -/
def arithI : BinOp → IntKind → Int → Int → Option Int
  | .add, k, x, y => some (k.wrap (x + y))
  | .sub, k, x, y => some (k.wrap (x - y))
  | .mul, k, x, y => some (k.wrap (x * y))
  | .quo, k, x, y => if y = 0 then none else some (k.wrap (x.tdiv y))
  | .rem, k, x, y => if y = 0 then none else some (x.tmod y)
  | .and, k, x, y => some (k.wrap (BitVec.ofInt k.bits x &&& BitVec.ofInt k.bits y).toNat)
  | .or, k, x, y => some (k.wrap (BitVec.ofInt k.bits x ||| BitVec.ofInt k.bits y).toNat)
  | .xor, k, x, y => some (k.wrap (BitVec.ofInt k.bits x ^^^ BitVec.ofInt k.bits y).toNat)
  | .andNot, k, x, y => some (k.wrap (BitVec.ofInt k.bits x &&& ~~~(BitVec.ofInt k.bits y)).toNat)
  | _, _, _, _ => none
def cmpI : BinOp → Int → Int → Option Bool
  | .eql, x, y => some (decide (x = y))
  | .neq, x, y => some (decide (x ≠ y))
  | .lss, x, y => some (decide (x < y))
  | .leq, x, y => some (decide (x ≤ y))
  | .gtr, x, y => some (decide (x > y))
  | .geq, x, y => some (decide (x ≥ y))
  | _, _, _ => none
theorem wrap_i64 {z : Int} (h1 : -9223372036854775808 ≤ z) (h2 : z < 9223372036854775808) : IntKind.i64.wrap z = z := by
  simp [IntKind.wrap, IntKind.bits, IntKind.signed]; omega
theorem add_i64 {x y : Int} (h1 : -9223372036854775808 ≤ x + y) (h2 : x + y < 9223372036854775808) : arithI .add .i64 x y = some (x + y) := congrArg some (wrap_i64 h1 h2)
theorem sub_i64 {x y : Int} (h1 : -9223372036854775808 ≤ x - y) (h2 : x - y < 9223372036854775808) : arithI .sub .i64 x y = some (x - y) := congrArg some (wrap_i64 h1 h2)
theorem mul_i64 {x y : Int} (h1 : -9223372036854775808 ≤ x * y) (h2 : x * y < 9223372036854775808) : arithI .mul .i64 x y = some (x * y) := congrArg some (wrap_i64 h1 h2)
theorem rem_any {k : IntKind} {x y : Int} (h : y ≠ 0) : arithI .rem k x y = some (x.tmod y) := if_neg h
theorem rem_pos {k : IntKind} {x y : Int} (h : 0 ≤ x) (hy : 0 < y) : arithI .rem k x y = some (x % y) := (rem_any (by omega)).trans (by rw [Int.tmod_eq_emod_of_nonneg h])
theorem quo_pos {x y : Int} (h : 0 ≤ x) (hx : x < 9223372036854775808) (hy : 0 < y) : arithI .quo .i64 x y = some (x / y) := by
  have h1 : x / y ≤ x := Int.ediv_le_self _ h
  have h2 : 0 ≤ x / y := Int.ediv_nonneg h (by omega)
  refine (if_neg (by omega)).trans ?_
  rw [Int.tdiv_eq_ediv_of_nonneg h, wrap_i64 (by omega) (by omega)]
theorem lss_t {x y : Int} (h : x < y) : cmpI .lss x y = some true := congrArg some (decide_eq_true h)
theorem lss_f {x y : Int} (h : y ≤ x) : cmpI .lss x y = some false := congrArg some (decide_eq_false (by omega))
theorem leq_t {x y : Int} (h : x ≤ y) : cmpI .leq x y = some true := congrArg some (decide_eq_true h)
theorem leq_f {x y : Int} (h : y < x) : cmpI .leq x y = some false := congrArg some (decide_eq_false (by omega))
theorem gtr_t {x y : Int} (h : y < x) : cmpI .gtr x y = some true := congrArg some (decide_eq_true h)
theorem gtr_f {x y : Int} (h : x ≤ y) : cmpI .gtr x y = some false := congrArg some (decide_eq_false (by omega))
theorem geq_t {x y : Int} (h : y ≤ x) : cmpI .geq x y = some true := congrArg some (decide_eq_true h)
theorem geq_f {x y : Int} (h : x < y) : cmpI .geq x y = some false := congrArg some (decide_eq_false (by omega))
theorem eql_t {x y : Int} (h : x = y) : cmpI .eql x y = some true := congrArg some (decide_eq_true h)
theorem eql_f {x y : Int} (h : x ≠ y) : cmpI .eql x y = some false := congrArg some (decide_eq_false h)
theorem neq_t {x y : Int} (h : x ≠ y) : cmpI .neq x y = some true := congrArg some (decide_eq_true h)
theorem neq_f {x y : Int} (h : x = y) : cmpI .neq x y = some false := congrArg some (decide_eq_false (fun h' => h' h))
theorem arith_run {k : IntKind} {bop : BinOp} {x y z : Int} (h : arithI bop k x y = some z) (t : TypeId) : (binOp bop t (.int k x) (.int k y)).run P w = .ok (.int k z) w := by
  cases bop <;> simp only [arithI] at h <;> first
    | (cases h; done)
    | (obtain rfl := Option.some.inj h; simp [binOp, Op.intArith, Op.intBits]; done)
    | (split at h
       · cases h
       · rename_i hy; obtain rfl := Option.some.inj h; simp [binOp, Op.intDiv, hy])
theorem cmp_run {k : IntKind} {bop : BinOp} {x y : Int} {b : Bool} (h : cmpI bop x y = some b) (t : TypeId) : (binOp bop t (.int k x) (.int k y)).run P w = .ok (.bool b) w := by
  cases bop <;> simp only [cmpI] at h <;> first
    | (cases h; done)
    | (obtain rfl := Option.some.inj h; simp [binOp, Op.intCmp]; done)
    | (obtain rfl := Option.some.inj h; simp [binOp, Op.intCmp]; rfl)
theorem bin_run {bop : BinOp} {t u : TypeId} {x y : Operand} {vx vy v : Value} (A : Fr n D T a) {o : Oper} (ho : o.op = .binOp bop t x y u) (hx : ev T x = some vx) (hy : ev T y = some vy) (hg : (eqGuard bop t x y vx vy).run P w = .ok () w) (hr : (binOp bop t vx vy).run P w = .ok v w) :
    (execOp a.eval o).run P w = .ok (.value v) w := by
  unfold execOp
  simp [ho, A.ev hx, A.ev hy, hg, hr]
theorem eqGuard_int (bop : BinOp) (t : TypeId) (x y : Operand) (k k' : IntKind) (m m' : Int) : (eqGuard bop t x y (.int k m) (.int k' m')).run P w = .ok () w := by
  unfold eqGuard; split <;> rfl
theorem eqGuard_str (bop : BinOp) (t : TypeId) (x y : Operand) (s s' : ByteArray) : (eqGuard bop t x y (.string s) (.string s')).run P w = .ok () w := by
  unfold eqGuard; split <;> rfl
theorem eqGuard_bool (bop : BinOp) (t : TypeId) (x y : Operand) (s s' : Bool) : (eqGuard bop t x y (.bool s) (.bool s')).run P w = .ok () w := by
  unfold eqGuard; split <;> rfl
theorem sx_arith (A : Fr n D T a) (hw : wantedT T l g = some true) {bop : BinOp} {t u : TypeId} {x y : Operand} {k : IntKind} {m m' z : Int} (hx : ev T x = some (.int k m)) (hy : ev T y = some (.int k m')) (hd : Nat.blt d n = true)
    (K : ∀ a', Fr n D ((d, .int k z) :: T) a' → wpList P l.toArray Q rest a' w) (hr : arithI bop k m m' = some z := by first | exact add_i64 (by omega) (by omega) | exact sub_i64 (by omega) (by omega) | exact mul_i64 (by omega) (by omega) | exact rem_pos (by omega) (by omega) | exact quo_pos (by omega) (by omega) (by omega) | exact rem_any (by omega) | exact rfl) : wpList P l.toArray Q (⟨some d, .binOp bop t x y u, ty, pos, aft, g⟩ :: rest) a w :=
  list_run A hw (bin_run A rfl hx hy (eqGuard_int ..) (arith_run hr t)) (K _ (A.put (blt_lt hd) _))
theorem sx_cmp (A : Fr n D T a) (hw : wantedT T l g = some true) {bop : BinOp} {t u : TypeId} {x y : Operand} {k : IntKind} {m m' : Int} {b : Bool} (hx : ev T x = some (.int k m)) (hy : ev T y = some (.int k m')) (hd : Nat.blt d n = true)
    (K : ∀ a', Fr n D ((d, .bool b) :: T) a' → wpList P l.toArray Q rest a' w) (hr : cmpI bop m m' = some b := by first | with_reducible exact neq_f rfl | with_reducible exact eql_t rfl | exact lss_t (by omega) | exact lss_f (by omega) | exact leq_t (by omega) | exact leq_f (by omega) | exact gtr_t (by omega) | exact gtr_f (by omega) | exact geq_t (by omega) | exact geq_f (by omega) | exact eql_t (by omega) | exact eql_f (by omega) | exact neq_t (by omega) | exact neq_f (by omega) | exact rfl) : wpList P l.toArray Q (⟨some d, .binOp bop t x y u, ty, pos, aft, g⟩ :: rest) a w :=
  list_run A hw (bin_run A rfl hx hy (eqGuard_int ..) (cmp_run hr t)) (K _ (A.put (blt_lt hd) _))
/-! Texts. -/
def cmpS : BinOp → ByteArray → ByteArray → Option Bool
  | .eql, x, y => some (decide (x = y))
  | .neq, x, y => some (!decide (x = y))
  | .lss, x, y => some (Op.bytesLess x.toList y.toList)
  | .leq, x, y => some (Op.bytesLess x.toList y.toList || decide (x = y))
  | .gtr, x, y => some (!(Op.bytesLess x.toList y.toList || decide (x = y)))
  | .geq, x, y => some (!(Op.bytesLess x.toList y.toList))
  | _, _, _ => none
theorem bytes_ext {x y : ByteArray} (h : x.toList = y.toList) : x = y := by
  have h2 : x.data.toList = y.data.toList := by
    rw [← ByteArray.toList_eq x, ← ByteArray.toList_eq y]; exact h
  cases x; cases y; congr; exact Array.toList_inj.1 h2
theorem str_beq (x y : ByteArray) : (x.toList == y.toList) = decide (x = y) := by
  by_cases h : x = y
  · subst h; simp
  · rw [decide_eq_false h]; simp; exact fun e => h (bytes_ext e)
theorem cmpS_run {bop : BinOp} {x y : ByteArray} {b : Bool} (h : cmpS bop x y = some b) (t : TypeId) : (binOp bop t (.string x) (.string y)).run P w = .ok (.bool b) w := by
  cases bop <;> simp only [cmpS] at h <;> first
    | (cases h; done)
    | (obtain rfl := Option.some.inj h; simp [binOp, Op.stringOp, str_beq]; done)
theorem seq_t {x y : ByteArray} (h : x = y) : cmpS .eql x y = some true := congrArg some (decide_eq_true h)
theorem seq_f {x y : ByteArray} (h : x ≠ y) : cmpS .eql x y = some false := congrArg some (decide_eq_false h)
theorem sne_t {x y : ByteArray} (h : x ≠ y) : cmpS .neq x y = some true := congrArg (fun b => some (!b)) (decide_eq_false h)
theorem sne_f {x y : ByteArray} (h : x = y) : cmpS .neq x y = some false := congrArg (fun b => some (!b)) (decide_eq_true h)
theorem sx_scmp (A : Fr n D T a) (hw : wantedT T l g = some true) {bop : BinOp} {t u : TypeId} {x y : Operand} {s s' : ByteArray} {b : Bool} (hx : ev T x = some (.string s)) (hy : ev T y = some (.string s')) (hd : Nat.blt d n = true)
    (K : ∀ a', Fr n D ((d, .bool b) :: T) a' → wpList P l.toArray Q rest a' w) (hr : cmpS bop s s' = some b := by first | with_reducible exact seq_t rfl | with_reducible exact sne_f rfl | exact seq_t (by with_reducible assumption) | exact seq_f (by with_reducible assumption) | exact sne_t (by with_reducible assumption) | exact sne_f (by with_reducible assumption) | exact rfl) : wpList P l.toArray Q (⟨some d, .binOp bop t x y u, ty, pos, aft, g⟩ :: rest) a w :=
  list_run A hw (bin_run A rfl hx hy (eqGuard_str ..) (cmpS_run hr t)) (K _ (A.put (blt_lt hd) _))
theorem sx_concat (A : Fr n D T a) (hw : wantedT T l g = some true) {t u : TypeId} {x y : Operand} {s s' : ByteArray} (hx : ev T x = some (.string s)) (hy : ev T y = some (.string s')) (hd : Nat.blt d n = true)
    (K : ∀ a', Fr n D ((d, .string (s ++ s')) :: T) a' → wpList P l.toArray Q rest a' w) (hr : s.size + s'.size ≤ 9223372036854775807 := by omega) : wpList P l.toArray Q (⟨some d, .binOp .add t x y u, ty, pos, aft, g⟩ :: rest) a w :=
  list_run A hw (bin_run A rfl hx hy (eqGuard_str ..) (by
    have h1 : ¬ ((s.size + s'.size : Nat) : Int) > IntKind.i64.max := by rw [show IntKind.i64.max = 9223372036854775807 by decide]; omega
    simp only [binOp, Op.stringOp]; rw [if_neg h1]; rfl)) (K _ (A.put (blt_lt hd) _))
end
end Go.Proofs.YtniplmjbligmlaaDoor.SL

/-! The walk's laws for memory, calls and what is handed back. -/
namespace Go.Proofs.YtniplmjbligmlaaDoor.SL
open Go.RowKit Go.Proofs.YtniplmjbligmlaaDoorW.PrintWords Go.Proofs.YtniplmjbligmlaaDoorW.PrintLast Go.Proofs.YtniplmjbligmlaaDoorW.PrintMore
set_option linter.unusedVariables false
set_option linter.unusedSimpArgs false
section
variable {P : Program} {l : List Oper} {a : Act} {rest : List Oper} {Q : Exit → Act → World → Prop} {w : World} {n : Nat} {D : List Deferred} {T : Tm} {tb : Tb}
variable {d : Nat} {op : Op} {ty : TypeId} {pos : String} {aft : Array Edge} {g : Option (Nat × Bool)}
variable {M F0 F : Nat → Prop} {w0 : World} {B B' : List Box} {R : List (World → Prop)}
theorem load_row {b : Nat} {t : TypeId} {cs : List Value} (hb : w.heap[b]? = some (.cells cs.toArray t (0, 0))) {u : TypeId} {i : TyI} (hu : TyOk P u i) (o : Nat) :
    (i.kind.row = true → o + i.size ≤ cs.length → (loadVar u ⟨b, o, none⟩).run P w = .ok (.agg ((cs.drop o).take i.size).toArray) w) ∧
    (i.kind.row = false → ∀ v, cs[o]? = some v → (loadVar u ⟨b, o, none⟩).run P w = .ok v w) := by
  have hc : ∀ j, w.cell? ⟨b, j, none⟩ = cs[j]? := fun j => by rw [blk_cell hb j]; simp
  refine ⟨fun hr hl => ?_, fun hr v hv => ?_⟩
  · have h1 : (loadCells ⟨b, o, none⟩ ((cs.drop o).take i.size).length).run P w = .ok ((cs.drop o).take i.size).toArray w :=
      run_loadCells_list (P := P) w ⟨b, o, none⟩ _ (fun j v hv => by
        rw [add_spot, hc]
        rw [List.getElem?_take] at hv
        split at hv
        · simpa using hv
        · cases hv)
    have h2 : ((cs.drop o).take i.size).length = i.size := by simp; omega
    rw [h2] at h1
    simp [loadVar, Sem.run_bind, hu.run_agg w, hr, hu.run_size w, h1]
  · have h1 : w.cell? ⟨b, o, none⟩ = some v := by rw [hc]; exact hv
    simp [loadVar, Sem.run_bind, hu.run_agg w, hr, load, Sem.run, h1]
/-- What a load finds at an offset of a block's cells. -/
def loadC (i : TyI) (cs : List Value) (o : Nat) : Option Value := match i.kind.row with
  | true => bif Nat.ble (o + i.size) cs.length then some (.agg ((cs.drop o).take i.size).toArray) else none
  | false => cs[o]?
theorem sx_load (H : St M F0 w0 F B R w) (A : Fr n D T a) (hT : TbOk P tb) (hw : wantedT T l g = some true) {t : TypeId} {x : Operand} {b o : Nat} {tt : TypeId} {cs : List Value} {i : TyI} {v v' : Value} (hx : ev T x = some (.pointer (some ⟨b, o, none⟩))) (hi : tb.lookup t = some i) (hd : Nat.blt d n = true) (k : ∀ a', Fr n D ((d, v') :: T) a' → wpList P l.toArray Q rest a' w) (hm : .mk b tt cs ∈ B := by (repeat (first | with_reducible exact List.mem_cons_self | apply List.mem_cons_of_mem)))
    (hv : loadC i cs o = some v := by rfl) (hn : v = v' := by first | (simp only [putC, fillC, Value.cells, List.toList_toArray, List.take_zero, List.take_succ_cons, List.take_nil, List.drop_zero, List.drop_succ_cons, List.drop_nil, List.nil_append, List.cons_append, List.append_nil, List.length_cons, List.length_nil, Nat.reduceAdd, Nat.add_zero, Nat.zero_add, Array.toArray_toList, List.take_length, List.drop_length]; done) | (simp only [putC, fillC, Value.cells, List.toList_toArray, List.take_zero, List.take_succ_cons, List.take_nil, List.drop_zero, List.drop_succ_cons, List.drop_nil, List.nil_append, List.cons_append, List.append_nil, List.length_cons, List.length_nil, Nat.reduceAdd, Nat.add_zero, Nat.zero_add, Array.toArray_toList, List.take_length, List.drop_length]; rfl) | rfl) : wpList P l.toArray Q (⟨some d, .load t x, ty, pos, aft, g⟩ :: rest) a w := by
  subst hn
  obtain ⟨h1, h2⟩ := load_row (H.box _ hm) (hT _ _ hi) o
  have hr : (loadVar t ⟨b, o, none⟩).run P w = .ok v w := by
    unfold loadC at hv
    cases hk : i.kind.row with
    | true =>
      rw [hk] at hv
      cases hb : Nat.ble (o + i.size) cs.length with
      | true => simp only [hb, cond_true] at hv; rw [← Option.some.inj hv]; exact h1 hk (Nat.le_of_ble_eq_true hb)
      | false => simp [hb] at hv
    | false => rw [hk] at hv; exact h2 hk v hv
  refine list_run A hw (v := v) (w' := w) ?_ (k _ (A.put (blt_lt hd) _))
  unfold execOp
  simp [A.ev hx, Instr.loadAt, Instr.sureAddr, hr]
/-- The whole of a block. -/
theorem sx_load_all (H : St M F0 w0 F B R w) (A : Fr n D T a) (hT : TbOk P tb) (hw : wantedT T l g = some true) {t : TypeId} {x : Operand} {b : Nat} {tt : TypeId} {cs : List Value} {i : TyI} (hx : ev T x = some (.pointer (some ⟨b, 0, none⟩))) (hi : tb.lookup t = some i)
    (hk : i.kind.row = true) (hd : Nat.blt d n = true) (k : ∀ a', Fr n D ((d, .agg cs.toArray) :: T) a' → wpList P l.toArray Q rest a' w) (hm : .mk b tt cs ∈ B := by (repeat (first | with_reducible exact List.mem_cons_self | apply List.mem_cons_of_mem))) (hs : i.size = cs.length := by rfl) : wpList P l.toArray Q (⟨some d, .load t x, ty, pos, aft, g⟩ :: rest) a w :=
  sx_load H A hT hw hx hi hd k hm (v := .agg ((cs.drop 0).take i.size).toArray) (by unfold loadC; rw [hk]; simp [hs, show cs.length.ble cs.length = true from Nat.ble_eq_true_of_le (Nat.le_refl _)]) (by rw [hs]; simp)
theorem sx_store (H : St M F0 w0 F B R w) (A : Fr n D T a) (hT : TbOk P tb) (hw : wantedT T l g = some true) {t : TypeId} {x y : Operand} {b i : Nat} {tt : TypeId} {v : Value} {cs cs' : List Value} {ti : TyI} (hx : ev T x = some (.pointer (some ⟨b, i, none⟩))) (hy : ev T y = some v)
    (hi : tb.lookup t = some ti) (k : ∀ w', St M F0 w0 F B' R w' → wpList P l.toArray Q rest a w') (hu : Upd B (.mk b tt cs) (.mk b tt cs') B' := by (repeat (first | with_reducible exact Upd.hd | apply Upd.tl))) (hc : putC cs i v.cells.toList = cs' := by first | (simp only [putC, fillC, Value.cells, List.toList_toArray, List.take_zero, List.take_succ_cons, List.take_nil, List.drop_zero, List.drop_succ_cons, List.drop_nil, List.nil_append, List.cons_append, List.append_nil, List.length_cons, List.length_nil, Nat.reduceAdd, Nat.add_zero, Nat.zero_add, Array.toArray_toList, List.take_length, List.drop_length]; done) | (simp only [putC, fillC, Value.cells, List.toList_toArray, List.take_zero, List.take_succ_cons, List.take_nil, List.drop_zero, List.drop_succ_cons, List.drop_nil, List.nil_append, List.cons_append, List.append_nil, List.length_cons, List.length_nil, Nat.reduceAdd, Nat.add_zero, Nat.zero_add, Array.toArray_toList, List.take_length, List.drop_length]; rfl) | rfl)
    (hs : v.cells.toList.length = ti.size := by rfl) (hl : Nat.ble (i + ti.size) cs.length = true := by rfl) (h1 : v.cells.toList.all (·.oneCell') = true := by rfl) : wpList P l.toArray Q (⟨none, .store t x y, ty, pos, aft, g⟩ :: rest) a w := by
  subst hc
  obtain ⟨w', hr, H'⟩ := H.store (P := P) hu (by rw [hs]; exact Nat.le_of_ble_eq_true hl) (fun v hv => List.all_eq_true.1 h1 v hv)
  refine list_run_skip A hw (w' := w') ?_ (k _ H')
  have hz := (hT _ _ hi).run_size w
  have hs' : v.cells.size = ti.size := by rw [← hs]; simp
  unfold execOp
  simp [A.ev hx, A.ev hy, Instr.storeAt, Instr.sureAddr, storeVar, hz, hs', hr]
theorem sx_box (H : St M F0 w0 F B R w) (A : Fr n D T a) (hw : wantedT T l g = some true) {t : TypeId} {x : Operand} {v : Value} {cs : List Value} (hx : ev T x = some v) (hd : Nat.blt d n = true)
    (k : ∀ b a' w', Fr n D ((d, .pointer (some ⟨b, 0, none⟩)) :: T) a' → St M F0 w0 F (.mk b t cs :: B) R w' → wpList P l.toArray Q rest a' w') (hc : v.cells.toList = cs := by first | (simp only [putC, fillC, Value.cells, List.toList_toArray, List.take_zero, List.take_succ_cons, List.take_nil, List.drop_zero, List.drop_succ_cons, List.drop_nil, List.nil_append, List.cons_append, List.append_nil, List.length_cons, List.length_nil, Nat.reduceAdd, Nat.add_zero, Nat.zero_add, Array.toArray_toList, List.take_length, List.drop_length]; done) | (simp only [putC, fillC, Value.cells, List.toList_toArray, List.take_zero, List.take_succ_cons, List.take_nil, List.drop_zero, List.drop_succ_cons, List.drop_nil, List.nil_append, List.cons_append, List.append_nil, List.length_cons, List.length_nil, Nat.reduceAdd, Nat.add_zero, Nat.zero_add, Array.toArray_toList, List.take_length, List.drop_length]; rfl) | rfl) : wpList P l.toArray Q (⟨some d, .box t x, ty, pos, aft, g⟩ :: rest) a w := by
  subst hc
  refine list_run A hw (v := .pointer (some ⟨w.heap.size, 0, none⟩)) (w' := w.alloc (.cells v.cells t (0, 0))) ?_ (k _ _ _ (A.put (blt_lt hd) _) (by have := H.alloc t v.cells.toList; simpa using this))
  unfold execOp
  simp [A.ev hx, Instr.box, newVar, newRow, newObj, Sem.run]
theorem sx_alloc (H : St M F0 w0 F B R w) (A : Fr n D T a) (hT : TbOk P tb) (hw : wantedT T l g = some true) {t : TypeId} {kd : TK} {sz by_ : Nat} {zs : List Value} (hi : tb.lookup t = some ⟨kd, sz, by_, zs⟩) (hd : Nat.blt d n = true)
    (k : ∀ b a' w', Fr n D ((d, .pointer (some ⟨b, 0, none⟩)) :: T) a' → St M F0 w0 F (.mk b t zs :: B) R w' → wpList P l.toArray Q rest a' w') : wpList P l.toArray Q (⟨some d, .alloc t, ty, pos, aft, g⟩ :: rest) a w := by
  have hz := (hT _ _ hi).run_zero w
  have hc : (TyI.zv ⟨kd, sz, by_, zs⟩).cells = zs.toArray := (hT _ _ hi).zc
  refine list_run A hw (v := .pointer (some ⟨w.heap.size, 0, none⟩)) (w' := w.alloc (.cells zs.toArray t (0, 0))) ?_ (k _ _ _ (A.put (blt_lt hd) _) (H.alloc t zs))
  unfold execOp
  simp [Instr.alloc, newVar, newRow, newObj, Sem.run_bind, hz, hc, Sem.run]
/-! A struct or an array out of its parts. -/
theorem fold_put (o : Nat) : ∀ (vs : List Value) (k : Nat) (cs : List Value), o + k + vs.length ≤ cs.length →
    (vs.zipIdx k).foldl (fun (cs : Array Value) (x : Value × Nat) => cs.setIfInBounds (o + x.2) x.1) cs.toArray = (cs.take (o + k) ++ vs ++ cs.drop (o + k + vs.length)).toArray
  | [], k, cs, h => by simp
  | v :: vs, k, cs, h => by
    simp only [List.length_cons] at h
    have h1 : o + k < cs.length := by omega
    rw [List.zipIdx_cons, List.foldl_cons]
    have e1 : cs.toArray.setIfInBounds (o + (v, k).2) (v, k).1 = (cs.set (o + k) v).toArray := by simp
    rw [e1, fold_put o vs (k + 1) (cs.set (o + k) v) (by simp; omega)]
    congr 1
    have e2 : (cs.set (o + k) v).take (o + (k + 1)) = cs.take (o + k) ++ [v] := by
      rw [show o + (k + 1) = o + k + 1 by omega, List.take_succ_eq_append_getElem (by simpa using h1)]
      simp [List.take_set_of_le]
    have e3 : (cs.set (o + k) v).drop (o + (k + 1) + vs.length) = cs.drop (o + k + (vs.length + 1)) := by
      rw [List.drop_set_of_lt (by omega)]; congr 1; omega
    rw [e2, e3]
    simp
theorem run_fill (place : Nat → Option (Nat × Nat)) : ∀ (ps : List (Nat × Value)) (qs : List (Nat × List Value)) (cs : List Value), ps.length = qs.length →
    (∀ (j : Nat) (p : Nat × Value) (q : Nat × List Value), ps[j]? = some p → qs[j]? = some q → place p.1 = some (q.1, q.2.length) ∧ p.2.cells = q.2.toArray ∧ q.1 + q.2.length ≤ cs.length) →
    Instr.fill place cs.toArray ps = some (fillC cs qs).toArray
  | [], [], cs, _, _ => by rw [Instr.fill.eq_1]; rfl
  | [], _ :: _, _, h, _ => by simp at h
  | _ :: _, [], _, h, _ => by simp at h
  | (i, v) :: ps, (o, vs) :: qs, cs, h, hh => by
    obtain ⟨h1, h2, h3⟩ := hh 0 _ _ rfl rfl
    simp only at h1 h2 h3
    rw [Instr.fill.eq_2, h1]
    simp only
    have hf : Array.foldl (fun (cs : Array Value) (x : Value × Nat) => match x with | (c, j) => cs.setIfInBounds (o + j) c) cs.toArray v.cells.zipIdx = (putC cs o vs).toArray := by
      rw [h2]
      have := fold_put o vs 0 cs (by simpa using h3)
      simpa [putC] using this
    rw [if_neg (by rw [h2]; simp; omega), hf]
    refine run_fill place ps qs _ (by simpa using h) (fun j p q hp hq => ?_)
    obtain ⟨g1, g2, g3⟩ := hh (j + 1) p q (by simpa using hp) (by simpa using hq)
    refine ⟨g1, g2, ?_⟩
    simp [putC]; omega
/-- The parts of a struct, as offsets and cells. -/
def partsC (tb : Tb) (T : Tm) (fs : List (TypeId × Nat)) : List (Nat × Operand) → Option (List (Nat × List Value))
  | [] => some []
  | (f, x) :: ps => match fs[f]? with
    | some (u, off) => match tb.lookup u with
      | some i => match ev T x with
        | some v => bif Nat.beq v.cells.toList.length i.size then (match partsC tb T fs ps with
          | some qs => some ((off, v.cells.toList) :: qs)
          | none => none) else none
        | none => none
      | none => none
    | none => none
theorem partsC_ok (hT : TbOk P tb) (A : Fr n D T a) (fa : Array Field) (places : Array (Nat × Nat)) (hp : ∀ (f : Nat) (fl : Field) (i : TyI), fa[f]? = some fl → tb.lookup fl.type = some i → places[f]? = some (fl.offset, i.size)) :
    ∀ (ps : List (Nat × Operand)) (qs : List (Nat × List Value)), partsC tb T (fa.toList.map fun f => (f.type, f.offset)) ps = some qs →
      ps.length = qs.length ∧ ∀ (j : Nat) (p : Nat × Operand) (q : Nat × List Value), ps[j]? = some p → qs[j]? = some q → places[p.1]? = some (q.1, q.2.length) ∧ (a.eval p.2).cells = q.2.toArray
  | [], qs, h => by
    obtain rfl := Option.some.inj h
    exact ⟨rfl, fun j p q hp => by simp at hp⟩
  | (f, x) :: ps, qs, h => by
    unfold partsC at h
    split at h
    · rename_i u off hf
      split at h
      · rename_i i hu
        split at h
        · rename_i v hx
          cases hb : Nat.beq v.cells.toList.length i.size with
          | false => rw [hb] at h; cases h
          | true =>
            rw [hb] at h
            simp only [cond_true] at h
            split at h
            · rename_i qs' hq
              obtain rfl := Option.some.inj h
              obtain ⟨h1, h2⟩ := partsC_ok hT A fa places hp ps qs' hq
              refine ⟨by rw [List.length_cons, List.length_cons, h1], fun j p q hp' hq' => ?_⟩
              cases j with
              | zero =>
                simp at hp' hq'
                subst hp'; subst hq'
                rw [List.getElem?_map] at hf
                cases hfl : fa.toList[f]? with
                | none => rw [hfl] at hf; cases hf
                | some fl =>
                  rw [hfl] at hf
                  simp at hf
                  obtain ⟨rfl, rfl⟩ := hf
                  refine ⟨?_, by rw [A.ev hx]⟩
                  have := hp f fl i (by simpa using hfl) hu
                  rw [← Nat.eq_of_beq_eq_true hb] at this
                  exact this
              | succ j => exact h2 j p q (by simpa using hp') (by simpa using hq')
            · cases h
        · cases h
      · cases h
    · cases h
theorem partsC_in (tb : Tb) (T : Tm) (m : Nat) : ∀ (qs : List (Nat × List Value)), (qs.all fun q : Nat × List Value => Nat.ble (q.1 + q.2.length) m) = true → ∀ (j : Nat) (q : Nat × List Value), qs[j]? = some q → q.1 + q.2.length ≤ m := fun qs h j q hq =>
  Nat.le_of_ble_eq_true (List.all_eq_true.1 h q (List.mem_of_getElem? hq))
theorem run_places (hT : TbOk P tb) : ∀ (fl : List Field), (∀ f ∈ fl, ∃ i, tb.lookup f.type = some i) →
    ∃ ps : List (Nat × Nat), (fl.mapM (fun f => do pure (f.offset, ← sizeOf f.type)) : Sem (List (Nat × Nat))).run P w = .ok ps w ∧ ∀ (k : Nat) (f : Field) (i : TyI), fl[k]? = some f → tb.lookup f.type = some i → ps[k]? = some (f.offset, i.size)
  | [], _ => ⟨[], by simp, fun k f i h => by simp at h⟩
  | f :: fl, h => by
    obtain ⟨i, hi⟩ := h f List.mem_cons_self
    obtain ⟨ps, h1, h2⟩ := run_places hT fl (fun g hg => h g (List.mem_cons_of_mem _ hg))
    refine ⟨(f.offset, i.size) :: ps, ?_, fun k g j hk hj => ?_⟩
    · rw [List.mapM_cons]
      simp only [Sem.run_bind, (hT _ _ hi).run_size w, h1, Result.andThen_ok, Sem.run_pure]
    · cases k with
      | zero => simp at hk; subst hk; rw [hi] at hj; obtain rfl := Option.some.inj hj; rfl
      | succ k => exact h2 k g j (by simpa using hk) hj
theorem sx_build (A : Fr n D T a) (hT : TbOk P tb) (hw : wantedT T l g = some true) {t : TypeId} {ps : List (Nat × Operand)} {fs : List (TypeId × Nat)} {sz by_ : Nat} {zs cs : List Value} {qs : List (Nat × List Value)} (hi : tb.lookup t = some ⟨.struct fs, sz, by_, zs⟩)
    (hfs : (fs.all fun f => (tb.lookup f.1).isSome) = true) (hq : partsC tb T fs ps = some qs) (hin : (qs.all fun q => Nat.ble (q.1 + q.2.length) zs.length) = true) (hd : Nat.blt d n = true)
    (k : ∀ a', Fr n D ((d, .agg cs.toArray) :: T) a' → wpList P l.toArray Q rest a' w) (hc : fillC zs qs = cs := by first | (simp only [putC, fillC, Value.cells, List.toList_toArray, List.take_zero, List.take_succ_cons, List.take_nil, List.drop_zero, List.drop_succ_cons, List.drop_nil, List.nil_append, List.cons_append, List.append_nil, List.length_cons, List.length_nil, Nat.reduceAdd, Nat.add_zero, Nat.zero_add, Array.toArray_toList, List.take_length, List.drop_length]; done) | (simp only [putC, fillC, Value.cells, List.toList_toArray, List.take_zero, List.take_succ_cons, List.take_nil, List.drop_zero, List.drop_succ_cons, List.drop_nil, List.nil_append, List.cons_append, List.append_nil, List.length_cons, List.length_nil, Nat.reduceAdd, Nat.add_zero, Nat.zero_add, Array.toArray_toList, List.take_length, List.drop_length]; rfl) | rfl) : wpList P l.toArray Q (⟨some d, .build t ps.toArray, ty, pos, aft, g⟩ :: rest) a w := by
  subst hc
  refine list_run A hw (v := .agg (fillC zs qs).toArray) (w' := w) ?_ (k _ (A.put (blt_lt hd) _))
  have hz := (hT _ _ hi).run_zero w
  have hzc : (TyI.zv ⟨.struct fs, sz, by_, zs⟩).cells = zs.toArray := (hT _ _ hi).zc
  obtain ⟨dd, hdd, _, hk⟩ := (hT _ _ hi).run_und w
  cases dd <;> simp only [tk] at hk <;> try cases hk
  rename_i fa _u
  obtain ⟨pl, hp1, hp2⟩ := run_places (w := w) hT fa.toList (fun f hf => by
    have := List.all_eq_true.1 hfs (f.type, f.offset) (List.mem_map.2 ⟨f, hf, rfl⟩)
    exact Option.isSome_iff_exists.1 this)
  obtain ⟨h1, h2⟩ := partsC_ok hT A fa pl.toArray (fun f fl i hf hl => by simpa using hp2 f fl i (by simpa using hf) hl) ps qs hq
  have hf := run_fill (fun x => pl.toArray[x]?) (ps.map fun p => (p.1, a.eval p.2)) qs zs (by simpa using h1) (fun j p q hp hq' => by
    rw [List.getElem?_map] at hp
    cases hpj : ps[j]? with
    | none => rw [hpj] at hp; cases hp
    | some p0 =>
      rw [hpj] at hp
      obtain rfl := Option.some.inj hp
      obtain ⟨g1, g2⟩ := h2 j p0 q hpj hq'
      exact ⟨g1, g2, partsC_in tb T _ qs hin j q hq'⟩)
  have hpm : (fa.mapM (fun f => do pure (f.offset, ← sizeOf f.type)) : Sem (Array (Nat × Nat))).run P w = .ok pl.toArray w := by
    rw [← Array.toArray_toList (xs := fa), List.mapM_toArray]
    simp only [Sem.run_map, hp1, Array.toArray_toList]
    first | rfl | simp
  unfold execOp
  simp only [Instr.build, Sem.run_bind, hz, hdd, Result.andThen_ok, hpm, hzc]
  have hmap : (Array.map (fun x : Nat × Operand => (x.1, a.eval x.2)) ps.toArray).toList = ps.map fun p => (p.1, a.eval p.2) := by simp
  simp only [hmap, hf, Sem.run_pure, Result.andThen_ok]
/-! Calls of functions that are named. -/
def evs (T : Tm) : List Operand → Option (List Value)
  | [] => some []
  | x :: xs => match ev T x with
    | some v => match evs T xs with
      | some vs => some (v :: vs)
      | none => none
    | none => none
theorem evs_ok (A : Fr n D T a) : ∀ (xs : List Operand) (vs : List Value), evs T xs = some vs → xs.map a.eval = vs
  | [], vs, h => Option.some.inj h
  | x :: xs, vs, h => by
    unfold evs at h
    split at h
    · rename_i v hv
      split at h
      · rename_i us hu
        obtain rfl := Option.some.inj h
        simp [A.ev hv, evs_ok A xs us hu]
      · cases h
    · cases h
theorem call_go {o : Oper} (A : Fr n D T a) (hw : wantedT T l o.guard = some true) {f : FuncId} {xs : List Operand} {ts : Array TypeId} {vs : List Value} (ho : o.op = .call ⟨.value (.func f), xs.toArray, ts⟩) (hc : ∀ (args : Array Value) (w : World), (callFunc f args).run P w = .ok (.enter f args) w) (hv : evs T xs = some vs)
    (k : Calls P f vs.toArray w fun e w' => ∃ v, e = .returned v ∧ wpList P l.toArray Q rest (a.put o.dst v) w') : wpList P l.toArray Q (o :: rest) a w := by
  refine wpList_step fun K hK => ?_
  rw [if_pos (wanted_of A hw)]
  have hrun : (execOp a.eval o).run P w = .ok (.enter f vs.toArray) w := by
    unfold execOp
    simp [ho, resolve, Deferred.ofValue, invoke, Act.eval, hc, ← evs_ok A xs vs hv]
  unfold Oper.wp
  rw [hrun, Oper.upon_enter]
  refine k.mono fun e w'' hh => ?_
  obtain ⟨v, rfl, hk⟩ := hh
  exact hK _ _ hk
theorem sx_call (A : Fr n D T a) (hw : wantedT T l g = some true) {f : FuncId} {xs : List Operand} {ts : Array TypeId} {vs : List Value} (hc : ∀ (args : Array Value) (w : World), (callFunc f args).run P w = .ok (.enter f args) w) (hv : evs T xs = some vs) (hd : Nat.blt d n = true)
    (k : Calls P f vs.toArray w fun e w' => ∃ v, e = .returned v ∧ ∀ a', Fr n D ((d, v) :: T) a' → wpList P l.toArray Q rest a' w') : wpList P l.toArray Q (⟨some d, .call ⟨.value (.func f), xs.toArray, ts⟩, ty, pos, aft, g⟩ :: rest) a w :=
  call_go A hw rfl hc hv (k.mono fun e w' ⟨v, he, hk⟩ => ⟨v, he, hk _ (A.put (blt_lt hd) _)⟩)
theorem sx_call0 (A : Fr n D T a) (hw : wantedT T l g = some true) {f : FuncId} {xs : List Operand} {ts : Array TypeId} {vs : List Value} (hc : ∀ (args : Array Value) (w : World), (callFunc f args).run P w = .ok (.enter f args) w) (hv : evs T xs = some vs)
    (k : Calls P f vs.toArray w fun e w' => ∃ v, e = .returned v ∧ wpList P l.toArray Q rest a w') : wpList P l.toArray Q (⟨none, .call ⟨.value (.func f), xs.toArray, ts⟩, ty, pos, aft, g⟩ :: rest) a w :=
  call_go A hw rfl hc hv (k.mono fun e w' ⟨v, he, hk⟩ => ⟨v, he, hk⟩)
end
/-! What is handed back. -/
inductive Res (tb : Tb) (T : Tm) (B : List Box) : List ResultVar → List Value → Prop where
  | nil : Res tb T B [] []
  | tmp {u : Tmp} {v : Value} {rs : List ResultVar} {vs : List Value} (h : T.lookup u = some v) (k : Res tb T B rs vs) : Res tb T B (.tmp u :: rs) (v :: vs)
  | cell {p : Tmp} {t : TypeId} {b : Nat} {tt : TypeId} {cs : List Value} {i : TyI} {rs : List ResultVar} {vs : List Value} (h : T.lookup p = some (.pointer (some ⟨b, 0, none⟩))) (hm : .mk b tt cs ∈ B) (ho : tb.lookup t = some i) (hr : i.kind.row = true) (hs : i.size = cs.length) (k : Res tb T B rs vs) : Res tb T B (.cell p t :: rs) (.agg cs.toArray :: vs)
  | one {p : Tmp} {t : TypeId} {b : Nat} {tt : TypeId} {v : Value} {i : TyI} {rs : List ResultVar} {vs : List Value} (h : T.lookup p = some (.pointer (some ⟨b, 0, none⟩))) (hm : .mk b tt [v] ∈ B) (ho : tb.lookup t = some i) (hr : i.kind.row = false) (k : Res tb T B rs vs) : Res tb T B (.cell p t :: rs) (v :: vs)
section
variable {P : Program} {a : Act} {w : World} {n : Nat} {D : List Deferred} {T : Tm} {tb : Tb}
variable {M F0 F : Nat → Prop} {w0 : World} {B : List Box} {R : List (World → Prop)}
theorem res_run (hT : TbOk P tb) (H : St M F0 w0 F B R w) (A : Fr n D T a) {rs : List ResultVar} {vs : List Value} (hv : Res tb T B rs vs) (f : ResultVar → Sem Value) (hf : ∀ u, f (.tmp u) = pure (a.tmps.getD u undef)) (hc : ∀ p t, f (.cell p t) = (do loadVar t (← asAddr (a.tmps.getD p undef)))) :
    (rs.mapM f).run P w = .ok vs w := by
  induction hv with
  | nil => simp
  | tmp h k ih => simp [List.mapM_cons, hf, A.get h, ih]
  | cell h hm ho hr hs k ih =>
    have := (load_row (P := P) (H.box _ hm) (hT _ _ ho) 0).1 hr (by rw [hs]; simp)
    rw [hs] at this
    simp only [List.drop_zero, List.take_length] at this
    simp [List.mapM_cons, hc, A.get h, asAddr, this, ih]
  | one h hm ho hr k ih =>
    have := (load_row (P := P) (H.box _ hm) (hT _ _ ho) 0).2 hr _ rfl
    simp [List.mapM_cons, hc, A.get h, asAddr, this, ih]
def tupV : List Value → Value
  | [v] => v
  | vs => .tuple vs.toArray
theorem results_of (hT : TbOk P tb) (H : St M F0 w0 F B R w) (A : Fr n D T a) {fn : Func} {rs : List ResultVar} {vs : List Value} (h : fn.results = rs.toArray) (hv : Res tb T B rs vs) : (results fn a.tmps).run P w = .ok (tupV vs) w := by
  unfold results
  rw [h, List.mapM_toArray]
  simp only [Sem.run_bind, Sem.run_map]
  rw [res_run hT H A hv _ (fun u => rfl) (fun p t => rfl)]
  cases vs with
  | nil => simp [tupV]
  | cons v vs => cases vs with
    | nil => simp [tupV]
    | cons u us => simp [tupV]
theorem sx_ret (hT : TbOk P tb) (H : St M F0 w0 F B R w) (A : Fr n [] T a) {fn : Func} {rs : List ResultVar} {vs : List Value} {S : Ending → World → Prop} (h : fn.results = rs.toArray) (k : S (.returned (tupV vs)) w) (hv : Res tb T B rs vs := by (repeat (first | exact Res.nil | (apply Res.tmp; rfl) | (apply Res.cell; rfl; (repeat (first | with_reducible exact List.mem_cons_self | apply List.mem_cons_of_mem)); rfl; rfl; rfl) | (apply Res.one; rfl; (repeat (first | with_reducible exact List.mem_cons_self | apply List.mem_cons_of_mem)); rfl; rfl)))) : bodyPost P fn S .ret a w :=
  bodyPost_ret (results_of hT H A h hv) A.defs k
theorem sx_end (hT : TbOk P tb) (H : St M F0 w0 F B R w) (A : Fr n [] T a) {fn : Func} {rs : List ResultVar} {vs : List Value} {S : Ending → World → Prop} (h : fn.results = rs.toArray) (k : S (.returned (tupV vs)) w) (hv : Res tb T B rs vs := by (repeat (first | exact Res.nil | (apply Res.tmp; rfl) | (apply Res.cell; rfl; (repeat (first | with_reducible exact List.mem_cons_self | apply List.mem_cons_of_mem)); rfl; rfl; rfl) | (apply Res.one; rfl; (repeat (first | with_reducible exact List.mem_cons_self | apply List.mem_cons_of_mem)); rfl; rfl)))) : bodyPost P fn S .normal a w :=
  bodyPost_end (results_of hT H A h hv) A.defs k
end
end Go.Proofs.YtniplmjbligmlaaDoor.SL

/-! More laws of the walk: the least of two numbers, a text cut, a row's element, a row made, filled, and read from then on. -/
namespace Go.Proofs.YtniplmjbligmlaaDoor.SL
open Go.RowKit Go.Proofs.YtniplmjbligmlaaDoorW.PrintWords Go.Proofs.YtniplmjbligmlaaDoorW.PrintLast Go.Proofs.YtniplmjbligmlaaDoorW.PrintMore
set_option linter.unusedVariables false
set_option linter.unusedSimpArgs false
section
variable {P : Program} {l : List Oper} {a : Act} {rest : List Oper} {Q : Exit → Act → World → Prop} {w : World} {n : Nat} {D : List Deferred} {T : Tm} {tb : Tb}
variable {d : Nat} {op : Op} {ty : TypeId} {pos : String} {aft : Array Edge} {g : Option (Nat × Bool)}
variable {M F0 F : Nat → Prop} {w0 : World} {B B' : List Box} {R : List (World → Prop)}
theorem min_l {x y : Int} (h : x ≤ y) : min x y = x := by omega
theorem min_r {x y : Int} (h : y ≤ x) : min x y = y := by omega
theorem max_l {x y : Int} (h : y ≤ x) : max x y = x := by omega
theorem max_r {x y : Int} (h : x ≤ y) : max x y = y := by omega
theorem sx_min (A : Fr n D T a) (hw : wantedT T l g = some true) {x y : Operand} {ts : Array TypeId} {k : IntKind} {m m' z : Int} (hx : ev T x = some (.int k m)) (hy : ev T y = some (.int k m')) (hd : Nat.blt d n = true)
    (K : ∀ a', Fr n D ((d, .int k z) :: T) a' → wpList P l.toArray Q rest a' w) (hz : min m m' = z := by first | exact min_l (by omega) | exact min_r (by omega) | exact rfl) : wpList P l.toArray Q (⟨some d, .call ⟨.builtin .min, #[x, y], ts⟩, ty, pos, aft, g⟩ :: rest) a w := by
  refine list_run A hw (v := .int k z) (w' := w) ?_ (K _ (A.put (blt_lt hd) _))
  unfold execOp
  have e : (if m' < m then m' else m) = z := by rw [← hz]; split <;> omega
  simp [resolve, invoke, builtin, Builtin.min_, A.ev hx, A.ev hy, Builtin.min2, e]
theorem sx_max (A : Fr n D T a) (hw : wantedT T l g = some true) {x y : Operand} {ts : Array TypeId} {k : IntKind} {m m' z : Int} (hx : ev T x = some (.int k m)) (hy : ev T y = some (.int k m')) (hd : Nat.blt d n = true)
    (K : ∀ a', Fr n D ((d, .int k z) :: T) a' → wpList P l.toArray Q rest a' w) (hz : max m m' = z := by first | exact max_l (by omega) | exact max_r (by omega) | exact rfl) : wpList P l.toArray Q (⟨some d, .call ⟨.builtin .max, #[x, y], ts⟩, ty, pos, aft, g⟩ :: rest) a w := by
  refine list_run A hw (v := .int k z) (w' := w) ?_ (K _ (A.put (blt_lt hd) _))
  unfold execOp
  have e : (if m < m' then m' else m) = z := by rw [← hz]; split <;> omega
  simp [resolve, invoke, builtin, Builtin.max_, A.ev hx, A.ev hy, Builtin.max2, e]
/-- A bound of a cut: none is z. -/
def bnd (T : Tm) (z : Int) : Option Operand → Option Int
  | none => some z
  | some x => match ev T x with
    | some (.int _ i) => some i
    | _ => none
theorem run_bounds (A : Fr n D T a) (b : Bool) (len cap : Nat) {lo hi : Option Operand} {i j : Int} (hlo : bnd T 0 lo = some i) (hhi : bnd T len hi = some j) (h0 : 0 ≤ i) (h1 : i ≤ j) (h2 : j ≤ cap) (hlc : len ≤ cap) :
    (Instr.sliceBounds b len cap (lo.map a.eval) (hi.map a.eval) none).run P w = .ok (i.toNat, j.toNat, cap) w := by
  unfold Instr.sliceBounds
  have hb : ∀ (code : BoundsCode) (x : Operand) (m : Int) (y : Nat) (k : IntKind), ev T x = some (.int k m) → 0 ≤ m → m ≤ y → (Instr.sliceBound (a.eval x) y code).run P w = .ok m.toNat w := by
    intro code x m y k hx h0 h1
    rw [A.ev hx]
    simp [Instr.sliceBound, asIntOf, h0, h1]
  have hl : ∀ code : BoundsCode, ∀ y : Nat, i ≤ y → ∀ x, lo = some x → (Instr.sliceBound (a.eval x) y code).run P w = .ok i.toNat w := by
    intro code y hy x hx
    subst hx
    simp only [bnd] at hlo
    split at hlo
    · rename_i k m hx; obtain rfl := Option.some.inj hlo; exact hb code x _ y k hx h0 hy
    · cases hlo
  have hh : ∀ code : BoundsCode, ∀ x, hi = some x → (Instr.sliceBound (a.eval x) cap code).run P w = .ok j.toNat w := by
    intro code x hx
    subst hx
    simp only [bnd] at hhi
    split at hhi
    · rename_i k m hx; obtain rfl := Option.some.inj hhi; exact hb code x _ cap k hx (by omega) h2
    · cases hhi
  cases hi with
  | none =>
    have hj : j = (len : Int) := (Option.some.inj hhi).symm
    subst hj
    cases lo with
    | none => have hi0 : i = 0 := (Option.some.inj hlo).symm; subst hi0; simp
    | some x => simp [hl _ len (by omega) x rfl]
  | some y =>
    have h3 := fun code => hh code y rfl
    cases lo with
    | none => have hi0 : i = 0 := (Option.some.inj hlo).symm; subst hi0; simp [h3]
    | some x => simp [h3, hl _ j.toNat (by omega) x rfl]
theorem sx_sstr (A : Fr n D T a) (hT : TbOk P tb) (hw : wantedT T l g = some true) {t : TypeId} {x : Operand} {lo hi : Option Operand} {s : ByteArray} {i j : Int} {sz by_ : Nat} {zs : List Value} (ht : tb.lookup t = some ⟨.string, sz, by_, zs⟩) (hx : ev T x = some (.string s)) (hlo : bnd T 0 lo = some i) (hhi : bnd T s.size hi = some j) (hd : Nat.blt d n = true)
    (K : ∀ a', Fr n D ((d, .string (s.extract i.toNat j.toNat)) :: T) a' → wpList P l.toArray Q rest a' w) (h0 : 0 ≤ i := by omega) (h1 : i ≤ j := by omega) (h2 : j ≤ s.size := by omega) : wpList P l.toArray Q (⟨some d, .slice t x lo hi none, ty, pos, aft, g⟩ :: rest) a w := by
  refine list_run A hw (v := .string (s.extract i.toNat j.toNat)) (w' := w) ?_ (K _ (A.put (blt_lt hd) _))
  obtain ⟨dd, hdd, _, hk⟩ := (hT _ _ ht).run_und w
  cases dd <;> simp only [tk] at hk <;> try cases hk
  have hb := run_bounds (P := P) (w := w) A false s.size s.size hlo hhi h0 h1 h2 (Nat.le_refl _)
  unfold execOp
  simp [Instr.sliceAt, Instr.slice, hdd, A.ev hx, hb]
theorem sx_sidx (A : Fr n D T a) (hT : TbOk P tb) (hw : wantedT T l g = some true) {t : TypeId} {x y : Operand} {s : ByteArray} {k : IntKind} {i : Int} {sz by_ : Nat} {zs : List Value} (ht : tb.lookup t = some ⟨.string, sz, by_, zs⟩) (hx : ev T x = some (.string s)) (hy : ev T y = some (.int k i)) (hd : Nat.blt d n = true)
    (K : ∀ a', Fr n D ((d, .int .u8 (bt s i)) :: T) a' → wpList P l.toArray Q rest a' w) (h0 : 0 ≤ i := by omega) (h1 : i < s.size := by omega) : wpList P l.toArray Q (⟨some d, .index t x y, ty, pos, aft, g⟩ :: rest) a w := by
  refine list_run A hw (v := .int .u8 (bt s i)) (w' := w) ?_ (K _ (A.put (blt_lt hd) _))
  obtain ⟨dd, hdd, _, hk⟩ := (hT _ _ ht).run_und w
  cases dd <;> simp only [tk] at hk <;> try cases hk
  have hlt : i.toNat < s.size := by omega
  unfold execOp
  simp [Instr.index, asIntOf, hdd, A.ev hx, A.ev hy, h0, bt, hlt]
/-! Rows that are read. -/
/-- x lies at p. -/
def elt {α : Type} (d : Kd α) (p : Addr) (x : α) : World → Prop := fun W => ∃ c, c.length = d.sz ∧ d.K W x c ∧ ∀ i u, c[i]? = some u → W.cell? (p.add i) = some u
theorem add_add (p : Addr) (hs : p.spot = none) (i j : Nat) : (p.add i).add j = p.add (i + j) := by
  obtain ⟨b, o, s⟩ := p
  simp only at hs
  subst hs
  rw [add_spot, add_spot, add_spot]; congr 1; omega
theorem sx_idx (H : St M F0 w0 F B R w) (A : Fr n D T a) (hT : TbOk P tb) (hw : wantedT T l g = some true) {t e : TypeId} {x y : Operand} {α : Type} {dk : Kd α} {Ad : Option Addr} {c : Nat} {xs : List α} {k : IntKind} {i : Int} {sz by_ : Nat} {zs : List Value} {ie : TyI} (ht : tb.lookup t = some ⟨.slice e, sz, by_, zs⟩) (he : tb.lookup e = some ie) (hsz : ie.size = dk.sz)
    (hx : ev T x = some (.slice Ad xs.length c)) (hy : ev T y = some (.int k i)) (hd : Nat.blt d n = true)
    (K : ∀ p a' (hi : i.toNat < xs.length), Fr n D ((d, .pointer (some p)) :: T) a' → St M F0 w0 F B (elt dk p xs[i.toNat] :: R) w → wpList P l.toArray Q rest a' w)
    (hm : rdc dk Ad xs ∈ R := by (repeat (first | with_reducible exact List.mem_cons_self | apply List.mem_cons_of_mem))) (h0 : 0 ≤ i := by omega) (h1 : i < xs.length := by omega) : wpList P l.toArray Q (⟨some d, .indexAddr t x y, ty, pos, aft, g⟩ :: rest) a w := by
  have hr := H.get hm
  have hlt : i.toNat < xs.length := by omega
  obtain ⟨ad, rfl, hc⟩ := hr.now.2.2 (by omega)
  have hf : Foot (elt dk (ad.add (i.toNat * dk.sz)) xs[i.toNat]) w F := fun W' hW => by
    obtain ⟨ad', e', hc'⟩ := (hr W' hW).2.2 (by omega)
    obtain rfl := Option.some.inj e'
    obtain ⟨c', h1', h2', h3'⟩ := hc' i.toNat _ (List.getElem?_eq_getElem hlt)
    refine ⟨c', h1', h2', fun j u hu => ?_⟩
    have h4 := h3' j u hu
    by_cases hz : i.toNat * dk.sz = 0
    · rw [hz] at h4 ⊢
      rw [show ad.add 0 = ad by simp [Addr.add]]
      simpa using h4
    · have hs : (ad.add (i.toNat * dk.sz)).spot = none := by unfold Addr.add; rw [if_neg hz]
      have e1 : ∀ m, m ≠ 0 → ad.add m = ⟨ad.block, ad.off + m, none⟩ := fun m hm => by unfold Addr.add; rw [if_neg hm]
      rw [e1 _ hz, add_spot]
      rw [e1 _ (by omega)] at h4
      rw [show ad.off + i.toNat * dk.sz + j = ad.off + (i.toNat * dk.sz + j) by omega]
      exact h4
  refine list_run A hw (v := .pointer (some (ad.add (i.toNat * dk.sz)))) (w' := w) ?_ (K _ _ hlt (A.put (blt_lt hd) _) (H.fact hf))
  obtain ⟨dd, hdd, _, hk⟩ := (hT _ _ ht).run_und w
  cases dd <;> simp only [tk] at hk <;> try cases hk
  have hes := (hT _ _ he).run_size w
  unfold execOp
  simp [Instr.indexAt, asIntOf, hdd, A.ev hx, A.ev hy, h0, h1, hes, hsz]
theorem elt_block {α : Type} {dk : Kd α} {p : Addr} {x : α} (hf : Foot (elt dk p x) w F) (h0 : 0 < dk.sz) : F p.block := Classical.byContradiction fun hn => by
  obtain ⟨c, h1, _, h3⟩ := hf { w with heap := w.heap.setIfInBounds p.block (.map #[] 0) } (fun k hk _ => by
    show (w.heap.setIfInBounds p.block (.map #[] 0))[k]? = _
    rw [Array.getElem?_setIfInBounds_ne (fun e => hn (by rw [e]; exact hk))])
  have h4 := h3 0 _ (List.getElem?_eq_getElem (by omega))
  have h5 : p.add 0 = p := by simp [Addr.add]
  rw [h5] at h4
  simp only [World.cell?, Array.getElem?_setIfInBounds_self] at h4
  by_cases hlt : p.block < w.heap.size
  · rw [if_pos hlt] at h4; simp at h4
  · rw [if_neg hlt] at h4; simp at h4
/-- An element is loaded: its cells, by the kind's own word (hk). -/
theorem sx_eload (H : St M F0 w0 F B R w) (A : Fr n D T a) (hT : TbOk P tb) (hw : wantedT T l g = some true) {t : TypeId} {y : Operand} {α : Type} {dk : Kd α} {p : Addr} {x : α} {i : TyI} (hy : ev T y = some (.pointer (some p))) (hi : tb.lookup t = some i) (hr : i.kind.row = true) (hsz : i.size = dk.sz)
    (hd : Nat.blt d n = true) (K : ∀ c a', c.length = dk.sz → Fr n D ((d, .agg c.toArray) :: T) a' → St M F0 w0 F B R w → Foot (fun W => dk.K W x c) w F → wpList P l.toArray Q rest a' w)
    (hm : elt dk p x ∈ R := by (repeat (first | with_reducible exact List.mem_cons_self | apply List.mem_cons_of_mem))) : wpList P l.toArray Q (⟨some d, .load t y, ty, pos, aft, g⟩ :: rest) a w := by
  have hf := H.get hm
  obtain ⟨c, h1, h2, h3⟩ := hf.now
  have hK : Foot (fun W => dk.K W x c) w F := fun W' hW => by
    obtain ⟨c', h1', h2', h3'⟩ := hf W' hW
    have e : c' = c := List.ext_getElem? (fun i => by
      cases hq : c'[i]? with
      | none => exact (List.getElem?_eq_none (by have := List.getElem?_eq_none_iff.1 hq; omega)).symm
      | some u =>
        have hlt : i < c'.length := (List.getElem?_eq_some_iff.1 hq).1
        have hu3 : c[i]? = some c[i] := List.getElem?_eq_getElem (by omega)
        have e3 := h3 i _ hu3
        have e4 := h3' i u hq
        have hb : (p.add i).block = p.block := by unfold Addr.add; split <;> rfl
        have hF := elt_block hf (by omega)
        have hblk := hW p.block hF (by rw [← hb]; exact World.block_lt_of_cell? w _ e3)
        have : W'.cell? (p.add i) = w.cell? (p.add i) := World.cell?_of_block (by rw [hb]; exact hblk)
        rw [this, e3] at e4
        rw [hu3]; exact e4.symm)
    exact e ▸ h2'
  refine list_run A hw (v := .agg c.toArray) (w' := w) ?_ (K c _ h1 (A.put (blt_lt hd) _) H hK)
  have hl : (loadCells p c.length).run P w = .ok c.toArray w := run_loadCells_list (P := P) w p c (fun j v hv => h3 j v hv)
  have hr1 := (hT _ _ hi).run_agg w
  have hr2 := (hT _ _ hi).run_size w
  rw [hr] at hr1
  unfold execOp
  simp [Instr.loadAt, Instr.sureAddr, A.ev hy, loadVar, hr1, hr2, hsz, ← h1, hl]
theorem sx_eload1 (H : St M F0 w0 F B R w) (A : Fr n D T a) (hT : TbOk P tb) (hw : wantedT T l g = some true) {t : TypeId} {y : Operand} {α : Type} {enc : α → Value} {h1c : ∀ x : α, (enc x).oneCell' = true} {p : Addr} {x : α} {i : TyI} (hy : ev T y = some (.pointer (some p))) (hi : tb.lookup t = some i) (hr : i.kind.row = false)
    (hd : Nat.blt d n = true) (K : ∀ a', Fr n D ((d, enc x) :: T) a' → wpList P l.toArray Q rest a' w)
    (hm : elt (Kd.scalar enc h1c) p x ∈ R := by (repeat (first | with_reducible exact List.mem_cons_self | apply List.mem_cons_of_mem))) : wpList P l.toArray Q (⟨some d, .load t y, ty, pos, aft, g⟩ :: rest) a w := by
  obtain ⟨c, h1, h2, h3⟩ := (H.get hm).now
  have hc : c = [enc x] := h2
  subst hc
  have hcell : w.cell? p = some (enc x) := by
    have := h3 0 _ rfl
    simpa [Addr.add] using this
  refine list_run A hw (v := enc x) (w' := w) ?_ (K _ (A.put (blt_lt hd) _))
  have hr1 := (hT _ _ hi).run_agg w
  rw [hr] at hr1
  unfold execOp
  simp [Instr.loadAt, Instr.sureAddr, A.ev hy, loadVar, hr1, load, Sem.run, hcell]
end
end Go.Proofs.YtniplmjbligmlaaDoor.SL

/-! Rows of the call's own: made, filled, appended to, and read from then on. -/
namespace Go.Proofs.YtniplmjbligmlaaDoor.SL
open Go.RowKit Go.Proofs.YtniplmjbligmlaaDoorW.PrintWords Go.Proofs.YtniplmjbligmlaaDoorW.PrintLast Go.Proofs.YtniplmjbligmlaaDoorW.PrintMore
set_option linter.unusedVariables false
set_option linter.unusedSimpArgs false
theorem made_flat (zs : List Value) (sz : Nat) (hz : zs.length = sz) (h0 : 0 < sz) (k : Nat) : (madeCells zs.toArray (k * sz)).toList = (List.replicate k zs).flatten := by
  apply List.ext_getElem?
  intro j
  have e1 : ∀ (k j : Nat), ((List.replicate k zs).flatten)[j]? = if j < k * sz then zs[j % sz]? else none := by
    intro k
    induction k with
    | zero => intro j; simp
    | succ k ih =>
      intro j
      rw [List.replicate_succ, List.flatten_cons, List.getElem?_append]
      have e2 : (k + 1) * sz = sz + k * sz := by rw [Nat.add_mul, Nat.one_mul]; omega
      by_cases hj : j < sz
      · rw [if_pos (by omega), if_pos (by omega), Nat.mod_eq_of_lt hj]
      · rw [if_neg (by omega), ih, hz]
        have e3 : (j - sz) % sz = j % sz := (Nat.mod_eq_sub_mod (by omega)).symm
        by_cases h2 : j - sz < k * sz
        · rw [if_pos h2, if_pos (by omega), e3]
        · rw [if_neg h2, if_neg (by omega)]
  rw [e1]
  by_cases hj : j < k * sz
  · rw [if_pos hj]
    have hm : j % sz < zs.length := by rw [hz]; exact Nat.mod_lt _ h0
    simp [madeCells, hj, hz]
    rw [List.getElem?_eq_getElem hm]
    rfl
  · rw [if_neg hj]
    simp [madeCells, Nat.le_of_not_lt hj]
theorem put_take (cs vs : List Value) (o k : Nat) (h1 : o + vs.length ≤ k) (h2 : k ≤ cs.length) : (putC cs o vs).take k = putC (cs.take k) o vs := by
  unfold putC
  apply List.ext_getElem?
  intro j
  simp only [List.getElem?_take, List.getElem?_append, List.length_append, List.length_take, List.getElem?_drop]
  have e1 : min o cs.length = o := by omega
  have e2 : min k cs.length = k := by omega
  rw [e1, e2, show min o k = o by omega]
  by_cases hj : j < k
  · rw [if_pos hj]
    by_cases h3 : j < o + vs.length
    · rw [if_pos h3, if_pos h3]
      by_cases h4 : j < o
      · simp [h4, hj]
      · simp [h4]
    · rw [if_neg h3, if_neg h3, if_pos (by omega)]
  · rw [if_neg hj, if_neg (by omega), if_neg (by omega)]
section
variable {P : Program} {l : List Oper} {a : Act} {rest : List Oper} {Q : Exit → Act → World → Prop} {w : World} {n : Nat} {D : List Deferred} {T : Tm} {tb : Tb}
variable {d : Nat} {op : Op} {ty : TypeId} {pos : String} {aft : Array Edge} {g : Option (Nat × Bool)}
variable {M F0 F : Nat → Prop} {w0 : World} {B B' B2 : List Box} {R : List (World → Prop)}
theorem TyOk.facts {t : TypeId} {i : TyI} (h : TyOk P t i) : ∃ inf, P.info? t = some inf ∧ inf.size = i.size ∧ inf.bytes = i.bytes ∧ inf.zero = some i.zv ∧ i.zv.cells.size = i.size := by
  obtain ⟨inf, h1, h2, h3, h4⟩ := h.inf
  exact ⟨inf, h1, h2, h3, h4, by rw [h.zc]; simpa using h.zl⟩
theorem TyOk.slice {t e : TypeId} {sz by_ : Nat} {zs : List Value} (h : TyOk P t ⟨.slice e, sz, by_, zs⟩) : P.underlying t = some (.slice e) := by
  obtain ⟨d, hd, hk⟩ := h.und
  cases d <;> simp only [tk] at hk <;> try cases hk
  exact hd
theorem own_row_mk {w : World} {b : Nat} {e : TypeId} {cs : List Value} {sz n c : Nat} (h : w.heap[b]? = some (.cells cs.toArray e (0, 0))) (hl : cs.length = c * sz) (hn : n ≤ c) (hc : c ≤ maxLen) : w.ownsRow 0 e sz (.slice (some ⟨b, 0, none⟩) n c) n (cs.take (n * sz)) := by
  refine ⟨?_, .inr ⟨b, c, _, rfl, Nat.zero_le _, h, hn, hc, by simpa using hl, by simp⟩⟩
  rw [List.length_take, hl]
  have := Nat.mul_le_mul_right sz hn
  omega
theorem sx_make (H : St M F0 w0 F B R w) (A : Fr n D T a) (hT : TbOk P tb) (hw : wantedT T l g = some true) {t e : TypeId} {x y : Operand} {kl kc : IntKind} {m : Int} {sz by_ : Nat} {zs xs : List Value} {ie : TyI} (ht : tb.lookup t = some ⟨.slice e, sz, by_, zs⟩) (he : tb.lookup e = some ie)
    (hx : ev T x = some (.int kl m)) (hy : ev T y = some (.int kc m)) (hd : Nat.blt d n = true)
    (k : ∀ b a' w', Fr n D ((d, .slice (some ⟨b, 0, none⟩) m.toNat m.toNat) :: T) a' → St M F0 w0 F (.row (.slice (some ⟨b, 0, none⟩) m.toNat m.toNat) e ie.size m.toNat xs :: B) R w' → wpList P l.toArray Q rest a' w')
    (hxs : (List.replicate m.toNat ie.zero).flatten = xs := by rfl) (h0 : 0 ≤ m := by omega) (hb : (ie.bytes : Int) * m ≤ 281474976710656 := by omega) (hm : m ≤ 281474976710656 := by omega) (hs0 : 0 < ie.size := by decide) : wpList P l.toArray Q (⟨some d, .makeSlice t x y, ty, pos, aft, g⟩ :: rest) a w := by
  subst hxs
  obtain ⟨inf, h1, h2, h3, h4, h5⟩ := (hT _ _ he).facts
  have hr := run_make (P := P) w t e inf ie.zv (hT _ _ ht).slice h1 h4 kl kc m m h0 (Int.le_refl _) (by rw [h3]; exact hb) (by omega)
  have hzl : ie.zero.length = ie.size := (hT _ _ he).zl
  obtain ⟨o, ho⟩ : ∃ o, Obj.cells (madeCells ie.zv.cells (m.toNat * inf.size)) e (0, 0) = o := ⟨_, rfl⟩
  rw [ho] at hr
  have hh : (w.alloc o).heap[w.heap.size]? = some (.cells ((List.replicate m.toNat ie.zero).flatten).toArray e (0, 0)) := by
    rw [blk_new, ← ho, h2, (hT _ _ he).zc, ← made_flat ie.zero ie.size hzl hs0]
  have hlen : ((List.replicate m.toNat ie.zero).flatten).length = m.toNat * ie.size := by simp [hzl]
  have hown := own_row_mk (n := m.toNat) hh hlen (Nat.le_refl _) (by simp only [maxLen]; omega)
  rw [List.take_of_length_le (by omega)] at hown
  refine list_run A hw (w' := w.alloc o) ?_ (k w.heap.size _ _ (A.put (blt_lt hd) _) (H.grow (w' := w.alloc o) (x := .row (.slice (some ⟨w.heap.size, 0, none⟩) m.toNat m.toNat) e ie.size m.toNat _) rfl rfl rfl (by rw [World.size_alloc]; omega) (fun k hk => Below.heap_alloc w _ k hk) hown (fun k e => Nat.le_of_eq (Option.some.inj e))))
  unfold execOp
  simp [A.ev hx, A.ev hy, hr]
/-- An element's place in a row of one's own. -/
theorem sx_idx_own (A : Fr n D T a) (hT : TbOk P tb) (hw : wantedT T l g = some true) {t e : TypeId} {x y : Operand} {b o m c : Nat} {k : IntKind} {i : Int} {sz by_ : Nat} {zs : List Value} {ie : TyI} (ht : tb.lookup t = some ⟨.slice e, sz, by_, zs⟩) (he : tb.lookup e = some ie)
    (hx : ev T x = some (.slice (some ⟨b, o, none⟩) m c)) (hy : ev T y = some (.int k i)) (hd : Nat.blt d n = true)
    (K : ∀ a', Fr n D ((d, .pointer (some ⟨b, o + i.toNat * ie.size, none⟩)) :: T) a' → wpList P l.toArray Q rest a' w) (h0 : 0 ≤ i := by omega) (h1 : i < m := by omega) : wpList P l.toArray Q (⟨some d, .indexAddr t x y, ty, pos, aft, g⟩ :: rest) a w := by
  refine list_run A hw (v := .pointer (some ⟨b, o + i.toNat * ie.size, none⟩)) (w' := w) ?_ (K _ (A.put (blt_lt hd) _))
  obtain ⟨dd, hdd, _, hk⟩ := (hT _ _ ht).run_und w
  cases dd <;> simp only [tk] at hk <;> try cases hk
  have hes := (hT _ _ he).run_size w
  unfold execOp
  simp [Instr.indexAt, asIntOf, hdd, A.ev hx, A.ev hy, h0, h1, hes, add_spot]
theorem sx_store_row (H : St M F0 w0 F B R w) (A : Fr n D T a) (hT : TbOk P tb) (hw : wantedT T l g = some true) {t e : TypeId} {x y : Operand} {b i m c sz : Nat} {v : Value} {xs xs' : List Value} {ti : TyI} (hx : ev T x = some (.pointer (some ⟨b, i, none⟩))) (hy : ev T y = some v)
    (hi : tb.lookup t = some ti) (k : ∀ w', St M F0 w0 F B' R w' → wpList P l.toArray Q rest a w') (hu : Upd B (.row (.slice (some ⟨b, 0, none⟩) m c) e sz m xs) (.row (.slice (some ⟨b, 0, none⟩) m c) e sz m xs') B' := by (repeat (first | with_reducible exact Upd.hd | apply Upd.tl))) (hc : putC xs i v.cells.toList = xs' := by rfl)
    (hs : v.cells.toList.length = ti.size := by rfl) (hl : i + ti.size ≤ xs.length := by first | omega | (simp; omega)) (h1 : v.cells.toList.all (·.oneCell') = true := by rfl) : wpList P l.toArray Q (⟨none, .store t x y, ty, pos, aft, g⟩ :: rest) a w := by
  subst hc
  obtain ⟨hlen, hown⟩ := (show w.ownsRow 0 e sz _ m xs from H.box _ hu.mem)
  rcases hown with ⟨hv, _⟩ | ⟨g', cap, cur, hv, _, hg, hnc, hcm, hcs, htake⟩
  · cases hv
  injection hv with ha _ hcap
  injection ha with ha
  injection ha with ha
  subst ha; subst hcap
  have hmc : m * sz ≤ c * sz := Nat.mul_le_mul_right _ hnc
  have hfit : i + 0 + v.cells.toList.length ≤ cur.size := by rw [hs, hcs]; omega
  have hr := run_storeCells_at P b i e v.cells.toList 0 cur w hg hfit (fun u hu => List.all_eq_true.1 h1 u hu)
  refine list_run_skip A hw (w' := w.setRow b (cur.toList.take (i + 0) ++ v.cells.toList ++ cur.toList.drop (i + 0 + v.cells.toList.length)).toArray) ?_ (k _ (H.turn hu rfl rfl rfl (by simp [World.setRow]) (fun k _ hk => ?_) ?_ (fun _ h => h)))
  · have hz := (hT _ _ hi).run_size w
    have hs' : v.cells.size = ti.size := by rw [← hs]; simp
    unfold execOp
    simp only [A.ev hx, A.ev hy, Instr.storeAt, Instr.sureAddr, storeVar, hz, hs', Sem.run_bind, Sem.run_pure, Result.andThen_ok, ne_eq, not_true_eq_false, if_false, hr]
  · have hne : k ≠ b := fun e => hk (by subst e; rfl)
    simp only [World.setRow, Array.getElem?_modify]
    rw [if_neg (Ne.symm hne)]
  · show World.ownsRow _ 0 e sz _ m _
    have hh : (w.setRow b (cur.toList.take (i + 0) ++ v.cells.toList ++ cur.toList.drop (i + 0 + v.cells.toList.length)).toArray).heap[b]? = some (.cells (putC cur.toList i v.cells.toList).toArray e (0, 0)) := by
      rw [setRow_heap w b _ _ e _ hg]; simp [putC]
    have hcl : (putC cur.toList i v.cells.toList).length = c * sz := by
      have hs2 : v.cells.size = ti.size := by rw [← hs]; simp
      rw [← hcs]; simp only [putC, List.length_append, List.length_take, List.length_drop, Array.length_toList]; omega
    have := own_row_mk (n := m) hh hcl hnc hcm
    rwa [put_take _ _ _ _ (by rw [hs, ← hlen]; exact hl) (by rw [Array.length_toList, hcs]; exact hmc), htake] at this
theorem sx_load_row (H : St M F0 w0 F B R w) (A : Fr n D T a) (hT : TbOk P tb) (hw : wantedT T l g = some true) {t e : TypeId} {x : Operand} {b o m c sz : Nat} {v : Value} {xs : List Value} {ti : TyI} (hx : ev T x = some (.pointer (some ⟨b, o, none⟩))) (hi : tb.lookup t = some ti) (hd : Nat.blt d n = true)
    (k : ∀ a', Fr n D ((d, v) :: T) a' → wpList P l.toArray Q rest a' w) (hm : .row (.slice (some ⟨b, 0, none⟩) m c) e sz m xs ∈ B := by (repeat (first | with_reducible exact List.mem_cons_self | apply List.mem_cons_of_mem)))
    (hv : loadC ti xs o = some v := by rfl) : wpList P l.toArray Q (⟨some d, .load t x, ty, pos, aft, g⟩ :: rest) a w := by
  obtain ⟨hlen, hown⟩ := (show w.ownsRow 0 e sz _ m xs from H.box _ hm)
  rcases hown with ⟨hv', _⟩ | ⟨g', cap, cur, hv', _, hg, hnc, hcm, hcs, htake⟩
  · cases hv'
  injection hv' with ha _ hcap
  injection ha with ha
  injection ha with ha
  subst ha; subst hcap
  have hmc : m * sz ≤ c * sz := Nat.mul_le_mul_right _ hnc
  have hg' : w.heap[b]? = some (.cells cur.toList.toArray e (0, 0)) := by simpa using hg
  obtain ⟨h1, h2⟩ := load_row hg' (hT _ _ hi) o
  have hr : (loadVar t ⟨b, o, none⟩).run P w = .ok v w := by
    unfold loadC at hv
    cases hk : ti.kind.row with
    | true =>
      rw [hk] at hv
      cases hb : Nat.ble (o + ti.size) xs.length with
      | true =>
        simp only [hb, cond_true] at hv
        have hle := Nat.le_of_ble_eq_true hb
        rw [← Option.some.inj hv, h1 hk (by rw [Array.length_toList, hcs]; omega)]
        congr 2
        rw [← htake, List.drop_take, List.take_take]
        congr 2
        omega
      | false => simp [hb] at hv
    | false =>
      have hv2 : xs[o]? = some v := by rw [hk] at hv; exact hv
      refine h2 hk v ?_
      rw [← htake, List.getElem?_take] at hv2
      split at hv2
      · exact hv2
      · cases hv2
  refine list_run A hw (v := v) (w' := w) ?_ (k _ (A.put (blt_lt hd) _))
  unfold execOp
  simp [A.ev hx, Instr.loadAt, Instr.sureAddr, hr]
theorem St.row_some (H : St M F0 w0 F B R w) {Ad : Option Addr} {m c sz : Nat} {e : TypeId} {xs : List Value} (hm : .row (.slice Ad m c) e sz m xs ∈ B) (h0 : 0 < m) : ∃ b, Ad = some ⟨b, 0, none⟩ := by
  obtain ⟨hlen, hown⟩ := (show w.ownsRow 0 e sz _ m xs from H.box _ hm)
  rcases hown with ⟨hv, hz⟩ | ⟨g', cap, cur, hv, _⟩
  · omega
  · injection hv with ha; exact ⟨g', ha⟩
theorem St.row_cap (H : St M F0 w0 F B R w) {Ad : Option Addr} {m c sz : Nat} {e : TypeId} {xs : List Value} (hm : .row (.slice Ad m c) e sz m xs ∈ B) : m ≤ c ∧ xs.length = m * sz := by
  obtain ⟨hlen, hown⟩ := (show w.ownsRow 0 e sz _ m xs from H.box _ hm)
  refine ⟨?_, hlen⟩
  rcases hown with ⟨hv, hz⟩ | ⟨g', cap, cur, hv, _, _, hnc, _⟩
  · omega
  · injection hv with _ _ hc; omega
/-- A row of one's own is only read from here on. -/
theorem St.freeze_row (H : St M F0 w0 F B R w) {α : Type} {dk : Kd α} {Ad : Option Addr} {m c sz : Nat} {e : TypeId} {xs : List Value} (ys : List α) (encs : α → List Value) (hd : Del B (.row (.slice Ad m c) e sz m xs) B') (hx : xs = ys.flatMap encs) (hn : m = ys.length) (hsz : dk.sz = sz)
    (hK : ∀ y ∈ ys, (encs y).length = sz ∧ Foot (fun W => dk.K W y (encs y)) w F) (hM : ∀ k, M k → (Box.row (.slice Ad m c) e sz m xs).foot ≠ some k := by exact fun _ h => h.elim) :
    ∃ F', (∀ k, F k → F' k) ∧ St M F0 w0 F' B' (rdc dk Ad ys :: R) w := by
  have hmem := hd.mem
  have hst := H.freeze hd (fun k e' => (H.mine _ hmem k e').elim (fun h => absurd e' (hM k h)) id)
  refine ⟨_, fun k h => .inl h, hst.fact ?_⟩
  have hown : w.ownsRow 0 e sz _ m xs := H.box _ hmem
  subst hx; subst hn; subst hsz
  intro W' hW
  have hown' : W'.ownsRow 0 e dk.sz (.slice Ad ys.length c) ys.length (ys.flatMap encs) := own_move hown (fun k hk => hW k (.inr hk) (own_lt hown k hk))
  have hrep : Reps (dk.K W') dk.sz ys (ys.flatMap encs) := by
    have hlen : ∀ (zs : List α), (∀ y ∈ zs, (encs y).length = dk.sz) → (zs.flatMap encs).length = zs.length * dk.sz := by
      intro zs
      induction zs with
      | nil => intro _; simp
      | cons z zs ih =>
        intro h
        rw [List.flatMap_cons, List.length_append, ih (fun y hy => h y (List.mem_cons_of_mem _ hy)), h z List.mem_cons_self, List.length_cons, Nat.add_mul, Nat.one_mul]; omega
    refine ⟨hlen ys (fun y hy => (hK y hy).1), fun j p hj => ?_⟩
    have hp : p ∈ ys := List.mem_of_getElem? hj
    have e1 : ((ys.flatMap encs).drop (j * dk.sz)).take dk.sz = encs p := by
      obtain ⟨hjl, rfl⟩ := List.getElem?_eq_some_iff.1 hj
      have e2 : ys = ys.take j ++ ys[j] :: ys.drop (j + 1) := by rw [← List.drop_eq_getElem_cons hjl, List.take_append_drop]
      have e3 : ((ys.take j).flatMap encs).length = j * dk.sz := by
        rw [hlen (ys.take j) (fun y hy => (hK y (List.mem_of_mem_take hy)).1), List.length_take]; congr 1; omega
      have e5 : ys.flatMap encs = (ys.take j).flatMap encs ++ (encs ys[j] ++ (ys.drop (j + 1)).flatMap encs) := by
        have := congrArg (fun l => l.flatMap encs) e2
        simpa only [List.flatMap_append, List.flatMap_cons] using this
      rw [e5, ← e3, List.drop_left, ← (hK _ hp).1, List.take_left]
    rw [e1]
    exact (hK p hp).2 W' (fun k hk hlt => hW k (.inl hk) hlt)
  obtain ⟨A', c', he, hr⟩ := own_reads_row hown' hrep rfl
  injection he with ha
  subst ha
  exact hr
end
end Go.Proofs.YtniplmjbligmlaaDoor.SL

/-! Loops: what holds at a loop's head, told by what differs from round to round. -/
namespace Go.Proofs.YtniplmjbligmlaaDoor.SL
open Go.RowKit Go.Proofs.YtniplmjbligmlaaDoorW.PrintWords Go.Proofs.YtniplmjbligmlaaDoorW.PrintLast Go.Proofs.YtniplmjbligmlaaDoorW.PrintMore
set_option linter.unusedVariables false
set_option linter.unusedSimpArgs false
inductive Subs : Tm → Tm → Prop where
  | nil {T : Tm} : Subs [] T
  | cons {T l : Tm} {i : Nat} {v : Value} (h : T.lookup i = some v) (k : Subs l T) : Subs ((i, v) :: l) T
theorem Subs.sub {T' T : Tm} (h : Subs T' T) : Sub T' T := by
  induction h with
  | nil => exact trivial
  | cons h _ ih => exact ⟨h, ih⟩
theorem lk_succ {T : Tm} {k i : Nat} {q : IntKind} (h : T.lookup k = some (.int q ((i : Int) + 1))) : T.lookup k = some (.int q ((i + 1 : Nat) : Int)) := h.trans (by simp)
theorem Fr.subs {n : Nat} {D : List Deferred} {T T' : Tm} {a : Act} (A : Fr n D T a) (h : Subs T' T := by (repeat (first | exact Subs.nil | refine Subs.cons rfl ?_ | refine Subs.cons (lk_succ rfl) ?_))) : Fr n D T' a := A.sub h.sub
section
variable {P : Program} {Q : Exit → Act → World → Prop} {a : Act} {w : World} {n : Nat} {D : List Deferred} {T : Tm} {tb : Tb}
variable {M F0 F : Nat → Prop} {w0 : World} {B B' : List Box} {R : List (World → Prop)}
/-- A loop whose rounds turn the slots of v, the blocks Bf and what is known, Rf. -/
theorem sx_rounds {ι : Type} {c : Code} (ok : ι → Prop) (v : ι → Tm) (Bf : ι → List Box) (Rf : ι → List (World → Prop)) (μ : ι → Nat) (i0 : ι) (H : St M F0 w0 F (Bf i0) (Rf i0) w) (A : Fr n D (v i0) a) (h0 : ok i0)
    (round : ∀ i F a w, ok i → St M F0 w0 F (Bf i) (Rf i) w → Fr n D (v i) a → c.wp P (Exit.then (fun a' w' => ∃ j F', ok j ∧ μ j < μ i ∧ St M F0 w0 F' (Bf j) (Rf j) w' ∧ Fr n D (v j) a') Q) a w) : (Code.loop c).wp P Q a w := by
  refine sx_loop (fun i a w => ok i ∧ ∃ F, St M F0 w0 F (Bf i) (Rf i) w ∧ Fr n D (v i) a) μ i0 ⟨h0, F, H, A⟩ (fun i a w ⟨h, F, H, A⟩ => ?_)
  refine wp_mono (round i F a w h H A) (fun e a' w' hq => ?_)
  cases e with
  | normal => obtain ⟨j, F', hj, hm, H', A'⟩ := hq; exact ⟨j, ⟨hj, F', H', A'⟩, hm⟩
  | exit => exact hq
  | goto => exact hq
  | ret => exact hq
  | panic => exact hq
  | outgrown => exact hq
/-- A loop whose rounds turn nothing but the slots of v, which are the first m of those that are told. -/
theorem sx_count {c : Code} (H : St M F0 w0 F B R w) (A : Fr n D T a) (m : Nat) (ok : Nat → Prop) (v : Nat → Tm) (μ : Nat → Nat) (h0 : ok 0)
    (round : ∀ i F a w, ok i → St M F0 w0 F B R w → Fr n D (v i ++ T.drop m) a → c.wp P (Exit.then (fun a' w' => ∃ j F', ok j ∧ μ j < μ i ∧ St M F0 w0 F' B R w' ∧ Fr n D (v j ++ T.drop m) a') Q) a w) (hs : Subs (v 0 ++ T.drop m) T := by (repeat (first | exact Subs.nil | refine Subs.cons rfl ?_ | refine Subs.cons (lk_succ rfl) ?_))) : (Code.loop c).wp P Q a w :=
  sx_rounds ok (fun i => v i ++ T.drop m) (fun _ => B) (fun _ => R) μ 0 H (A.subs hs) h0 round
/-- The end of a round. -/
theorem sx_next {I : Nat → (Nat → Prop) → Act → World → Prop} (j : Nat) {F : Nat → Prop} (h : I j F a w) : ∃ j F', I j F' a w := ⟨j, F, h⟩
end
end Go.Proofs.YtniplmjbligmlaaDoor.SL

/-! Regions that draw their order: each operation yields one value in every memory that is told so, whatever came before it. And tests of truths. -/
namespace Go.Proofs.YtniplmjbligmlaaDoor.SL
open Go.RowKit Go.Proofs.YtniplmjbligmlaaDoorW.PrintWords Go.Proofs.YtniplmjbligmlaaDoorW.PrintLast Go.Proofs.YtniplmjbligmlaaDoorW.PrintMore
set_option linter.unusedVariables false
set_option linter.unusedSimpArgs false
def Cls (M F0 : Nat → Prop) (w0 : World) (B : List Box) (R : List (World → Prop)) : World → Prop := fun w => ∃ F, St M F0 w0 F B R w
section
variable {P : Program} {l : List Oper} {a : Act} {rest : List Oper} {Q : Exit → Act → World → Prop} {Qa : Act → Prop} {C : World → Prop} {w : World} {n : Nat} {D : List Deferred} {T : Tm} {tb : Tb}
variable {d : Nat} {op : Op} {ty : TypeId} {pos : String} {aft : Array Edge} {g : Option (Nat × Bool)}
variable {M F0 F : Nat → Prop} {w0 : World} {B B' : List Box} {R : List (World → Prop)}
theorem qx_region (H : St M F0 w0 F B R w) {id : Nat} (hm : P.follows .mixedOrders = true) (hB : Region.lexB .any l.toArray = true)
    (h : wpQuiet P l.toArray (Cls M F0 w0 B R) (fun a' => ∀ w' F', St M F0 w0 F' B R w' → Q .normal a' w') l a) : (Code.region id l.toArray true).wp P Q a w :=
  wp_region_quiet (C := Cls M F0 w0 B R) hm hB ⟨F, H.drew 1⟩ (wpQuiet_cls l a h)
where
  wpQuiet_cls : ∀ (l' : List Oper) (a : Act), wpQuiet P l.toArray (Cls M F0 w0 B R) (fun a' => ∀ w' F', St M F0 w0 F' B R w' → Q .normal a' w') l' a → wpQuiet P l.toArray (Cls M F0 w0 B R) (fun a' => ∀ w', Cls M F0 w0 B R w' → Q .normal a' w') l' a
    | [], a, h => fun w' ⟨F', H'⟩ => h w' F' H'
    | o :: r, a, h => by
      unfold wpQuiet at h ⊢
      split
      · rename_i hw
        rw [if_pos hw] at h
        obtain ⟨v, h1, h2⟩ := h
        exact ⟨v, h1, wpQuiet_cls r _ h2⟩
      · rename_i hw
        rw [if_neg hw] at h
        exact wpQuiet_cls r _ h
theorem g_draw {id : Nat} (h : (Code.region id l.toArray true).wp P Q a w) : (Code.region id l.toArray true).wp P Q a w := h
theorem q_run {o : Oper} (A : Fr n D T a) (hw : wantedT T l o.guard = some true) {v : Value} (hr : ∀ w, C w → (execOp a.eval o).run P w = .ok (.value v) w) (k : wpQuiet P l.toArray C Qa rest (a.put o.dst v)) : wpQuiet P l.toArray C Qa (o :: rest) a := by
  unfold wpQuiet
  rw [if_pos (wanted_of A hw)]
  exact ⟨v, fun w hw => by unfold Oper.quietAt; rw [hr w hw]; exact ⟨rfl, rfl⟩, k⟩
theorem qx_nil (h : Qa a) : wpQuiet P l.toArray C Qa [] a := h
theorem q_at {o : Oper} (h : wpQuiet P l.toArray C Qa (o :: rest) a) : wpQuiet P l.toArray C Qa (o :: rest) a := h
theorem qg_bin {bop : BinOp} {t u : TypeId} {x y : Operand} (h : wpQuiet P l.toArray C Qa (⟨some d, .binOp bop t x y u, ty, pos, aft, g⟩ :: rest) a) : wpQuiet P l.toArray C Qa (⟨some d, .binOp bop t x y u, ty, pos, aft, g⟩ :: rest) a := h
theorem qg_int (A : Fr n D T a) {bop : BinOp} {t u : TypeId} {x y : Operand} {k : IntKind} {m : Int} (hx : ev T x = some (.int k m)) (h : wpQuiet P l.toArray C Qa (⟨some d, .binOp bop t x y u, ty, pos, aft, g⟩ :: rest) a) : wpQuiet P l.toArray C Qa (⟨some d, .binOp bop t x y u, ty, pos, aft, g⟩ :: rest) a := h
theorem qg_str (A : Fr n D T a) {bop : BinOp} {t u : TypeId} {x y : Operand} {s : ByteArray} (hx : ev T x = some (.string s)) (h : wpQuiet P l.toArray C Qa (⟨some d, .binOp bop t x y u, ty, pos, aft, g⟩ :: rest) a) : wpQuiet P l.toArray C Qa (⟨some d, .binOp bop t x y u, ty, pos, aft, g⟩ :: rest) a := h
theorem qg_load {t : TypeId} {x : Operand} (h : wpQuiet P l.toArray C Qa (⟨some d, .load t x, ty, pos, aft, g⟩ :: rest) a) : wpQuiet P l.toArray C Qa (⟨some d, .load t x, ty, pos, aft, g⟩ :: rest) a := h
theorem qg_builtin {b : Builtin} {xs : Array Operand} {ts : Array TypeId} (h : wpQuiet P l.toArray C Qa (⟨some d, .call ⟨.builtin b, xs, ts⟩, ty, pos, aft, g⟩ :: rest) a) : wpQuiet P l.toArray C Qa (⟨some d, .call ⟨.builtin b, xs, ts⟩, ty, pos, aft, g⟩ :: rest) a := h
theorem qg_slice {t : TypeId} {x : Operand} {lo hi mx : Option Operand} (h : wpQuiet P l.toArray C Qa (⟨some d, .slice t x lo hi mx, ty, pos, aft, g⟩ :: rest) a) : wpQuiet P l.toArray C Qa (⟨some d, .slice t x lo hi mx, ty, pos, aft, g⟩ :: rest) a := h
theorem qx_pure (A : Fr n D T a) (hT : TbOk P tb) (hw : wantedT T l g = some true) {v : Value} (hv : pureOp tb T op = some v) (hd : Nat.blt d n = true)
    (k : ∀ a', Fr n D ((d, v) :: T) a' → wpQuiet P l.toArray C Qa rest a') : wpQuiet P l.toArray C Qa (⟨some d, op, ty, pos, aft, g⟩ :: rest) a :=
  q_run A hw (fun w _ => pure_run hT A hv) (k _ (A.put (blt_lt hd) v))
theorem qx_skip (A : Fr n D T a) (hw : wantedT T l g = some false) (hd : Nat.blt d n = true)
    (k : ∀ a', Fr n D ((d, undef) :: T) a' → wpQuiet P l.toArray C Qa rest a') : wpQuiet P l.toArray C Qa (⟨some d, op, ty, pos, aft, g⟩ :: rest) a := by
  unfold wpQuiet
  have := wanted_of (o := ⟨some d, op, ty, pos, aft, g⟩) A hw
  rw [if_neg (by rw [this]; decide)]
  exact k _ (A.put (blt_lt hd) undef)
theorem qx_arith (A : Fr n D T a) (hw : wantedT T l g = some true) {bop : BinOp} {t u : TypeId} {x y : Operand} {k : IntKind} {m m' z : Int} (hx : ev T x = some (.int k m)) (hy : ev T y = some (.int k m')) (hd : Nat.blt d n = true)
    (K : ∀ a', Fr n D ((d, .int k z) :: T) a' → wpQuiet P l.toArray C Qa rest a') (hr : arithI bop k m m' = some z := by first | exact add_i64 (by omega) (by omega) | exact sub_i64 (by omega) (by omega) | exact mul_i64 (by omega) (by omega) | exact rem_pos (by omega) (by omega) | exact quo_pos (by omega) (by omega) (by omega) | exact rem_any (by omega) | exact rfl) : wpQuiet P l.toArray C Qa (⟨some d, .binOp bop t x y u, ty, pos, aft, g⟩ :: rest) a :=
  q_run A hw (fun w _ => bin_run A rfl hx hy (eqGuard_int ..) (arith_run hr t)) (K _ (A.put (blt_lt hd) _))
theorem qx_cmp (A : Fr n D T a) (hw : wantedT T l g = some true) {bop : BinOp} {t u : TypeId} {x y : Operand} {k : IntKind} {m m' : Int} {b : Bool} (hx : ev T x = some (.int k m)) (hy : ev T y = some (.int k m')) (hd : Nat.blt d n = true)
    (K : ∀ a', Fr n D ((d, .bool b) :: T) a' → wpQuiet P l.toArray C Qa rest a') (hr : cmpI bop m m' = some b := by first | with_reducible exact neq_f rfl | with_reducible exact eql_t rfl | exact lss_t (by omega) | exact lss_f (by omega) | exact leq_t (by omega) | exact leq_f (by omega) | exact gtr_t (by omega) | exact gtr_f (by omega) | exact geq_t (by omega) | exact geq_f (by omega) | exact eql_t (by omega) | exact eql_f (by omega) | exact neq_t (by omega) | exact neq_f (by omega) | exact rfl) : wpQuiet P l.toArray C Qa (⟨some d, .binOp bop t x y u, ty, pos, aft, g⟩ :: rest) a :=
  q_run A hw (fun w _ => bin_run A rfl hx hy (eqGuard_int ..) (cmp_run hr t)) (K _ (A.put (blt_lt hd) _))
theorem qx_scmp (A : Fr n D T a) (hw : wantedT T l g = some true) {bop : BinOp} {t u : TypeId} {x y : Operand} {s s' : ByteArray} {b : Bool} (hx : ev T x = some (.string s)) (hy : ev T y = some (.string s')) (hd : Nat.blt d n = true)
    (K : ∀ a', Fr n D ((d, .bool b) :: T) a' → wpQuiet P l.toArray C Qa rest a') (hr : cmpS bop s s' = some b := by first | with_reducible exact seq_t rfl | with_reducible exact sne_f rfl | exact seq_t (by with_reducible assumption) | exact seq_f (by with_reducible assumption) | exact sne_t (by with_reducible assumption) | exact sne_f (by with_reducible assumption) | exact rfl) : wpQuiet P l.toArray C Qa (⟨some d, .binOp bop t x y u, ty, pos, aft, g⟩ :: rest) a :=
  q_run A hw (fun w _ => bin_run A rfl hx hy (eqGuard_str ..) (cmpS_run hr t)) (K _ (A.put (blt_lt hd) _))
theorem qx_concat (A : Fr n D T a) (hw : wantedT T l g = some true) {t u : TypeId} {x y : Operand} {s s' : ByteArray} (hx : ev T x = some (.string s)) (hy : ev T y = some (.string s')) (hd : Nat.blt d n = true)
    (K : ∀ a', Fr n D ((d, .string (s ++ s')) :: T) a' → wpQuiet P l.toArray C Qa rest a') (hr : s.size + s'.size ≤ 9223372036854775807 := by omega) : wpQuiet P l.toArray C Qa (⟨some d, .binOp .add t x y u, ty, pos, aft, g⟩ :: rest) a :=
  q_run A hw (fun w _ => bin_run A rfl hx hy (eqGuard_str ..) (by
    have h1 : ¬ ((s.size + s'.size : Nat) : Int) > IntKind.i64.max := by rw [show IntKind.i64.max = 9223372036854775807 by decide]; omega
    simp only [binOp, Op.stringOp]; rw [if_neg h1]; rfl)) (K _ (A.put (blt_lt hd) _))
theorem qx_min (A : Fr n D T a) (hw : wantedT T l g = some true) {x y : Operand} {ts : Array TypeId} {k : IntKind} {m m' z : Int} (hx : ev T x = some (.int k m)) (hy : ev T y = some (.int k m')) (hd : Nat.blt d n = true)
    (K : ∀ a', Fr n D ((d, .int k z) :: T) a' → wpQuiet P l.toArray C Qa rest a') (hz : min m m' = z := by first | exact min_l (by omega) | exact min_r (by omega) | exact rfl) : wpQuiet P l.toArray C Qa (⟨some d, .call ⟨.builtin .min, #[x, y], ts⟩, ty, pos, aft, g⟩ :: rest) a := by
  refine q_run A hw (v := .int k z) (fun w _ => ?_) (K _ (A.put (blt_lt hd) _))
  unfold execOp
  have e : (if m' < m then m' else m) = z := by rw [← hz]; split <;> omega
  simp [resolve, invoke, builtin, Builtin.min_, A.ev hx, A.ev hy, Builtin.min2, e]
theorem qx_max (A : Fr n D T a) (hw : wantedT T l g = some true) {x y : Operand} {ts : Array TypeId} {k : IntKind} {m m' z : Int} (hx : ev T x = some (.int k m)) (hy : ev T y = some (.int k m')) (hd : Nat.blt d n = true)
    (K : ∀ a', Fr n D ((d, .int k z) :: T) a' → wpQuiet P l.toArray C Qa rest a') (hz : max m m' = z := by first | exact max_l (by omega) | exact max_r (by omega) | exact rfl) : wpQuiet P l.toArray C Qa (⟨some d, .call ⟨.builtin .max, #[x, y], ts⟩, ty, pos, aft, g⟩ :: rest) a := by
  refine q_run A hw (v := .int k z) (fun w _ => ?_) (K _ (A.put (blt_lt hd) _))
  unfold execOp
  have e : (if m < m' then m' else m) = z := by rw [← hz]; split <;> omega
  simp [resolve, invoke, builtin, Builtin.max_, A.ev hx, A.ev hy, Builtin.max2, e]
theorem qx_sstr (A : Fr n D T a) (hT : TbOk P tb) (hw : wantedT T l g = some true) {t : TypeId} {x : Operand} {lo hi : Option Operand} {s : ByteArray} {i j : Int} {sz by_ : Nat} {zs : List Value} (ht : tb.lookup t = some ⟨.string, sz, by_, zs⟩) (hx : ev T x = some (.string s)) (hlo : bnd T 0 lo = some i) (hhi : bnd T s.size hi = some j) (hd : Nat.blt d n = true)
    (K : ∀ a', Fr n D ((d, .string (s.extract i.toNat j.toNat)) :: T) a' → wpQuiet P l.toArray C Qa rest a') (h0 : 0 ≤ i := by omega) (h1 : i ≤ j := by omega) (h2 : j ≤ s.size := by omega) : wpQuiet P l.toArray C Qa (⟨some d, .slice t x lo hi none, ty, pos, aft, g⟩ :: rest) a := by
  refine q_run A hw (v := .string (s.extract i.toNat j.toNat)) (fun w _ => ?_) (K _ (A.put (blt_lt hd) _))
  obtain ⟨dd, hdd, _, hk⟩ := (hT _ _ ht).run_und w
  cases dd <;> simp only [tk] at hk <;> try cases hk
  have hb := run_bounds (P := P) (w := w) A false s.size s.size hlo hhi h0 h1 h2 (Nat.le_refl _)
  unfold execOp
  simp [Instr.sliceAt, Instr.slice, hdd, A.ev hx, hb]
/-! Truths that are held against each other. -/
theorem run_beq {t : TypeId} (p q : Bool) (ht : P.underlying t = some .bool) : (binOp .eql t (.bool p) (.bool q)).run P w = .ok (.bool (p == q)) w ∧ (binOp .neq t (.bool p) (.bool q)).run P w = .ok (.bool (p != q)) w := by
  have h := fun w : World => run_equalIn_bool' (P := P) (w := w) 9999 t p q ht
  constructor <;> simp [binOp, Op.equal, Op.maxDepth, h, bne]
theorem sx_bne (A : Fr n D T a) (hT : TbOk P tb) (hw : wantedT T l g = some true) {t u : TypeId} {x y : Operand} {p q b : Bool} {sz by_ : Nat} {zs : List Value} (ht : tb.lookup t = some ⟨.bool, sz, by_, zs⟩) (hx : ev T x = some (.bool p)) (hy : ev T y = some (.bool q)) (hb : (p != q) = b) (hd : Nat.blt d n = true)
    (K : ∀ a', Fr n D ((d, .bool b) :: T) a' → wpList P l.toArray Q rest a' w) : wpList P l.toArray Q (⟨some d, .binOp .neq t x y u, ty, pos, aft, g⟩ :: rest) a w := by
  obtain ⟨dd, hdd, hu, hk⟩ := (hT _ _ ht).run_und w
  cases dd <;> simp only [tk] at hk <;> try cases hk
  subst hb
  exact list_run A hw (bin_run A rfl hx hy (eqGuard_bool ..) (run_beq p q hu).2) (K _ (A.put (blt_lt hd) _))
theorem sx_beq (A : Fr n D T a) (hT : TbOk P tb) (hw : wantedT T l g = some true) {t u : TypeId} {x y : Operand} {p q b : Bool} {sz by_ : Nat} {zs : List Value} (ht : tb.lookup t = some ⟨.bool, sz, by_, zs⟩) (hx : ev T x = some (.bool p)) (hy : ev T y = some (.bool q)) (hb : (p == q) = b) (hd : Nat.blt d n = true)
    (K : ∀ a', Fr n D ((d, .bool b) :: T) a' → wpList P l.toArray Q rest a' w) : wpList P l.toArray Q (⟨some d, .binOp .eql t x y u, ty, pos, aft, g⟩ :: rest) a w := by
  obtain ⟨dd, hdd, hu, hk⟩ := (hT _ _ ht).run_und w
  cases dd <;> simp only [tk] at hk <;> try cases hk
  subst hb
  exact list_run A hw (bin_run A rfl hx hy (eqGuard_bool ..) (run_beq p q hu).1) (K _ (A.put (blt_lt hd) _))
end
end Go.Proofs.YtniplmjbligmlaaDoor.SL

/-! Regions that draw their order: loads and indices. An element's address told. -/
namespace Go.Proofs.YtniplmjbligmlaaDoor.SL
open Go.RowKit Go.Proofs.YtniplmjbligmlaaDoorW.PrintWords Go.Proofs.YtniplmjbligmlaaDoorW.PrintLast Go.Proofs.YtniplmjbligmlaaDoorW.PrintMore
set_option linter.unusedVariables false
set_option linter.unusedSimpArgs false
section
variable {P : Program} {l : List Oper} {a : Act} {rest : List Oper} {Q : Exit → Act → World → Prop} {Qa : Act → Prop} {C : World → Prop} {w : World} {n : Nat} {D : List Deferred} {T : Tm} {tb : Tb}
variable {d : Nat} {op : Op} {ty : TypeId} {pos : String} {aft : Array Edge} {g : Option (Nat × Bool)}
variable {M F0 F : Nat → Prop} {w0 : World} {B B' : List Box} {R : List (World → Prop)}
theorem qx_load (A : Fr n D T a) (hT : TbOk P tb) (hw : wantedT T l g = some true) {t : TypeId} {x : Operand} {b o : Nat} {tt : TypeId} {cs : List Value} {i : TyI} {v v' : Value} (hx : ev T x = some (.pointer (some ⟨b, o, none⟩))) (hi : tb.lookup t = some i) (hd : Nat.blt d n = true) (k : ∀ a', Fr n D ((d, v') :: T) a' → wpQuiet P l.toArray (Cls M F0 w0 B R) Qa rest a') (hm : .mk b tt cs ∈ B := by (repeat (first | with_reducible exact List.mem_cons_self | apply List.mem_cons_of_mem)))
    (hv : loadC i cs o = some v := by rfl) (hn : v = v' := by first | (simp only [putC, fillC, Value.cells, List.toList_toArray, List.take_zero, List.take_succ_cons, List.take_nil, List.drop_zero, List.drop_succ_cons, List.drop_nil, List.nil_append, List.cons_append, List.append_nil, List.length_cons, List.length_nil, Nat.reduceAdd, Nat.add_zero, Nat.zero_add, Array.toArray_toList, List.take_length, List.drop_length]; done) | (simp only [putC, fillC, Value.cells, List.toList_toArray, List.take_zero, List.take_succ_cons, List.take_nil, List.drop_zero, List.drop_succ_cons, List.drop_nil, List.nil_append, List.cons_append, List.append_nil, List.length_cons, List.length_nil, Nat.reduceAdd, Nat.add_zero, Nat.zero_add, Array.toArray_toList, List.take_length, List.drop_length]; rfl) | rfl) : wpQuiet P l.toArray (Cls M F0 w0 B R) Qa (⟨some d, .load t x, ty, pos, aft, g⟩ :: rest) a := by
  subst hn
  refine q_run A hw (v := v) (fun w hC => ?_) (k _ (A.put (blt_lt hd) _))
  obtain ⟨F, H⟩ := hC
  obtain ⟨h1, h2⟩ := load_row (H.box _ hm) (hT _ _ hi) o
  have hr : (loadVar t ⟨b, o, none⟩).run P w = .ok v w := by
    unfold loadC at hv
    cases hk : i.kind.row with
    | true =>
      rw [hk] at hv
      cases hb : Nat.ble (o + i.size) cs.length with
      | true => simp only [hb, cond_true] at hv; rw [← Option.some.inj hv]; exact h1 hk (Nat.le_of_ble_eq_true hb)
      | false => simp [hb] at hv
    | false => rw [hk] at hv; exact h2 hk v hv
  unfold execOp
  simp [A.ev hx, Instr.loadAt, Instr.sureAddr, hr]
/-- An element of a row that is read lies at its address. -/
theorem St.eltN (H : St M F0 w0 F B R w) {α : Type} {dk : Kd α} {ad : Addr} {xs : List α} (i : Nat) (hlt : i < xs.length) (hm : rdc dk (some ad) xs ∈ R := by (repeat (first | with_reducible exact List.mem_cons_self | apply List.mem_cons_of_mem))) : St M F0 w0 F B (elt dk (ad.add (i * dk.sz)) xs[i] :: R) w := by
  have hr := H.get hm
  refine H.fact (fun W' hW => ?_)
  obtain ⟨ad', e', hc'⟩ := (hr W' hW).2.2 (by omega)
  obtain rfl := Option.some.inj e'
  obtain ⟨c', h1', h2', h3'⟩ := hc' i _ (List.getElem?_eq_getElem hlt)
  refine ⟨c', h1', h2', fun j u hu => ?_⟩
  have h4 := h3' j u hu
  by_cases hz : i * dk.sz = 0
  · rw [hz] at h4 ⊢
    rw [show ad.add 0 = ad by simp [Addr.add]]
    simpa using h4
  · have hs : (ad.add (i * dk.sz)).spot = none := by unfold Addr.add; rw [if_neg hz]
    have e1 : ∀ m, m ≠ 0 → ad.add m = ⟨ad.block, ad.off + m, none⟩ := fun m hm => by unfold Addr.add; rw [if_neg hm]
    rw [e1 _ hz, add_spot]
    rw [e1 _ (by omega)] at h4
    rw [show ad.off + i * dk.sz + j = ad.off + (i * dk.sz + j) by omega]
    exact h4
theorem St.eltS (H : St M F0 w0 F B R w) {ad : Addr} {xs : List ByteArray} {s : ByteArray} (i : Int) (hx : xs[i.toNat]? = some s) (hm : rdc Kd.string (some ad) xs ∈ R := by (repeat (first | with_reducible exact List.mem_cons_self | apply List.mem_cons_of_mem))) : St M F0 w0 F B (elt (Kd.scalar Value.string (fun _ => rfl)) (ad.add (i.toNat * 1)) s :: R) w := by
  obtain ⟨h, rfl⟩ := List.getElem?_eq_some_iff.1 hx
  exact H.eltN i.toNat h hm
theorem St.eltI (H : St M F0 w0 F B R w) {α : Type} {dk : Kd α} {ad : Addr} {xs : List α} {x : α} (i : Int) (sz : Nat) (hsz : dk.sz = sz) (hx : xs[i.toNat]? = some x) (hm : rdc dk (some ad) xs ∈ R := by (repeat (first | with_reducible exact List.mem_cons_self | apply List.mem_cons_of_mem))) : St M F0 w0 F B (elt dk (ad.add (i.toNat * sz)) x :: R) w := by
  obtain ⟨h, rfl⟩ := List.getElem?_eq_some_iff.1 hx
  subst hsz
  exact H.eltN i.toNat h hm
theorem St.adr (H : St M F0 w0 F B R w) {α : Type} {dk : Kd α} {Ad : Option Addr} {xs : List α} (h0 : 0 < xs.length) (hm : rdc dk Ad xs ∈ R := by (repeat (first | with_reducible exact List.mem_cons_self | apply List.mem_cons_of_mem))) : ∃ ad, Ad = some ad := by
  obtain ⟨ad, h, _⟩ := (H.get hm).now.2.2 h0
  exact ⟨ad, h⟩
theorem idx_exec (A : Fr n D T a) (hT : TbOk P tb) {t e : TypeId} {x y : Operand} {ad : Addr} {c m : Nat} {k : IntKind} {i : Int} {sz by_ : Nat} {zs : List Value} {ie : TyI} (ht : tb.lookup t = some ⟨.slice e, sz, by_, zs⟩) (he : tb.lookup e = some ie)
    (hx : ev T x = some (.slice (some ad) m c)) (hy : ev T y = some (.int k i)) (h0 : 0 ≤ i) (h1 : i < m) (w : World) : (execOp a.eval ⟨some d, .indexAddr t x y, ty, pos, aft, g⟩).run P w = .ok (.value (.pointer (some (ad.add (i.toNat * ie.size))))) w := by
  obtain ⟨dd, hdd, _, hk⟩ := (hT _ _ ht).run_und w
  cases dd <;> simp only [tk] at hk <;> try cases hk
  have hes := (hT _ _ he).run_size w
  unfold execOp
  simp [Instr.indexAt, asIntOf, hdd, A.ev hx, A.ev hy, h0, h1, hes]
/-- The index of a row whose address is told. -/
theorem sx_idxA (A : Fr n D T a) (hT : TbOk P tb) (hw : wantedT T l g = some true) {t e : TypeId} {x y : Operand} {ad : Addr} {c m : Nat} {k : IntKind} {i : Int} {sz by_ : Nat} {zs : List Value} {kde : TK} {sze bye : Nat} {zse : List Value} (ht : tb.lookup t = some ⟨.slice e, sz, by_, zs⟩) (he : tb.lookup e = some ⟨kde, sze, bye, zse⟩)
    (hx : ev T x = some (.slice (some ad) m c)) (hy : ev T y = some (.int k i)) (hd : Nat.blt d n = true)
    (K : ∀ a', Fr n D ((d, .pointer (some (ad.add (i.toNat * sze)))) :: T) a' → wpList P l.toArray Q rest a' w) (h0 : 0 ≤ i := by omega) (h1 : i < m := by omega) : wpList P l.toArray Q (⟨some d, .indexAddr t x y, ty, pos, aft, g⟩ :: rest) a w :=
  list_run A hw (idx_exec A hT ht he hx hy h0 h1 w) (K _ (A.put (blt_lt hd) _))
theorem qx_idxA (A : Fr n D T a) (hT : TbOk P tb) (hw : wantedT T l g = some true) {t e : TypeId} {x y : Operand} {ad : Addr} {c m : Nat} {k : IntKind} {i : Int} {sz by_ : Nat} {zs : List Value} {kde : TK} {sze bye : Nat} {zse : List Value} (ht : tb.lookup t = some ⟨.slice e, sz, by_, zs⟩) (he : tb.lookup e = some ⟨kde, sze, bye, zse⟩)
    (hx : ev T x = some (.slice (some ad) m c)) (hy : ev T y = some (.int k i)) (hd : Nat.blt d n = true)
    (K : ∀ a', Fr n D ((d, .pointer (some (ad.add (i.toNat * sze)))) :: T) a' → wpQuiet P l.toArray C Qa rest a') (h0 : 0 ≤ i := by omega) (h1 : i < m := by omega) : wpQuiet P l.toArray C Qa (⟨some d, .indexAddr t x y, ty, pos, aft, g⟩ :: rest) a :=
  q_run A hw (fun w _ => idx_exec A hT ht he hx hy h0 h1 w) (K _ (A.put (blt_lt hd) _))
theorem qx_eload1 (A : Fr n D T a) (hT : TbOk P tb) (hw : wantedT T l g = some true) {t : TypeId} {y : Operand} {α : Type} {enc : α → Value} {h1c : ∀ x : α, (enc x).oneCell' = true} {p : Addr} {x : α} {i : TyI} (hy : ev T y = some (.pointer (some p))) (hi : tb.lookup t = some i) (hr : i.kind.row = false)
    (hd : Nat.blt d n = true) (K : ∀ a', Fr n D ((d, enc x) :: T) a' → wpQuiet P l.toArray (Cls M F0 w0 B R) Qa rest a')
    (hm : elt (Kd.scalar enc h1c) p x ∈ R := by (repeat (first | with_reducible exact List.mem_cons_self | apply List.mem_cons_of_mem))) : wpQuiet P l.toArray (Cls M F0 w0 B R) Qa (⟨some d, .load t y, ty, pos, aft, g⟩ :: rest) a := by
  refine q_run A hw (v := enc x) (fun w hC => ?_) (K _ (A.put (blt_lt hd) _))
  obtain ⟨F, H⟩ := hC
  obtain ⟨c, h1, h2, h3⟩ := (H.get hm).now
  have hc : c = [enc x] := h2
  subst hc
  have hcell : w.cell? p = some (enc x) := by
    have := h3 0 _ rfl
    simpa [Addr.add] using this
  have hr1 := (hT _ _ hi).run_agg w
  rw [hr] at hr1
  unfold execOp
  simp [Instr.loadAt, Instr.sureAddr, A.ev hy, loadVar, hr1, load, Sem.run, hcell]
theorem sx_eloadS (H : St M F0 w0 F B R w) (A : Fr n D T a) (hT : TbOk P tb) (hw : wantedT T l g = some true) {t : TypeId} {y : Operand} {p : Addr} {x : ByteArray} {i : TyI} (hy : ev T y = some (.pointer (some p))) (hi : tb.lookup t = some i) (hr : i.kind.row = false)
    (hd : Nat.blt d n = true) (K : ∀ a', Fr n D ((d, .string x) :: T) a' → wpList P l.toArray Q rest a' w)
    (hm : elt (Kd.scalar Value.string (fun _ => rfl)) p x ∈ R := by (repeat (first | with_reducible exact List.mem_cons_self | apply List.mem_cons_of_mem))) : wpList P l.toArray Q (⟨some d, .load t y, ty, pos, aft, g⟩ :: rest) a w :=
  sx_eload1 H A hT hw hy hi hr hd K hm
theorem qx_eloadS (A : Fr n D T a) (hT : TbOk P tb) (hw : wantedT T l g = some true) {t : TypeId} {y : Operand} {p : Addr} {x : ByteArray} {i : TyI} (hy : ev T y = some (.pointer (some p))) (hi : tb.lookup t = some i) (hr : i.kind.row = false)
    (hd : Nat.blt d n = true) (K : ∀ a', Fr n D ((d, .string x) :: T) a' → wpQuiet P l.toArray (Cls M F0 w0 B R) Qa rest a')
    (hm : elt (Kd.scalar Value.string (fun _ => rfl)) p x ∈ R := by (repeat (first | with_reducible exact List.mem_cons_self | apply List.mem_cons_of_mem))) : wpQuiet P l.toArray (Cls M F0 w0 B R) Qa (⟨some d, .load t y, ty, pos, aft, g⟩ :: rest) a :=
  qx_eload1 A hT hw hy hi hr hd K hm
theorem qg_idx {t : TypeId} {x y : Operand} (h : wpQuiet P l.toArray C Qa (⟨some d, .indexAddr t x y, ty, pos, aft, g⟩ :: rest) a) : wpQuiet P l.toArray C Qa (⟨some d, .indexAddr t x y, ty, pos, aft, g⟩ :: rest) a := h
end
end Go.Proofs.YtniplmjbligmlaaDoor.SL

/-! The program's types as a table: of each its form, how many cells and bytes it has, and its zero. -/
namespace Go.Proofs.YtniplmjbligmlaaDoor.SL
set_option linter.unusedVariables false
def tb : Tb := [(1, ⟨.other, 1, 8, [.nilFunc]⟩),
  (2, ⟨(.int .i64), 1, 8, [.int .i64 0]⟩),
  (3, ⟨(.int .i64), 1, 8, [.int .i64 0]⟩),
  (4, ⟨.bool, 1, 1, [.bool false]⟩),
  (5, ⟨(.int .u8), 1, 1, [.int .u8 0]⟩),
  (6, ⟨(.int .u8), 1, 1, [.int .u8 0]⟩),
  (7, ⟨(.struct [(2, 0), (3, 1), (4, 2), (6, 3)]), 4, 24, [.int .i64 0, .int .i64 0, .bool false, .int .u8 0]⟩),
  (8, ⟨(.struct [(2, 0), (3, 1), (4, 2), (6, 3)]), 4, 24, [.int .i64 0, .int .i64 0, .bool false, .int .u8 0]⟩),
  (9, ⟨.string, 1, 16, [.string ⟨#[]⟩]⟩),
  (10, ⟨.string, 1, 16, [.string ⟨#[]⟩]⟩),
  (11, ⟨.string, 1, 16, [.string ⟨#[]⟩]⟩),
  (12, ⟨(.int .u64), 1, 8, [.int .u64 0]⟩),
  (13, ⟨(.struct [(9, 0), (12, 1)]), 2, 24, [.string ⟨#[]⟩, .int .u64 0]⟩),
  (14, ⟨(.struct [(9, 0), (12, 1)]), 2, 24, [.string ⟨#[]⟩, .int .u64 0]⟩),
  (15, ⟨(.ptr 150), 1, 8, [.pointer none]⟩),
  (16, ⟨(.ptr 153), 1, 8, [.pointer none]⟩),
  (17, ⟨(.ptr 162), 1, 8, [.pointer none]⟩),
  (18, ⟨(.struct [(17, 0)]), 1, 8, [.pointer none]⟩),
  (19, ⟨(.struct [(17, 0)]), 1, 8, [.pointer none]⟩),
  (20, ⟨.iface, 1, 16, [.nilIface]⟩),
  (21, ⟨(.int .i32), 1, 4, [.int .i32 0]⟩),
  (22, ⟨(.slice 9), 1, 24, [.slice none 0 0]⟩),
  (23, ⟨(.slice 42), 1, 24, [.slice none 0 0]⟩),
  (24, ⟨(.struct [(22, 0), (23, 1)]), 2, 48, [.slice none 0 0, .slice none 0 0]⟩),
  (25, ⟨(.struct [(22, 0), (23, 1)]), 2, 48, [.slice none 0 0, .slice none 0 0]⟩),
  (26, ⟨.other, 1, 8, [.nilFunc]⟩),
  (27, ⟨(.int .i64), 1, 8, [.int .i64 0]⟩),
  (29, ⟨.other, 1, 8, [.nilFunc]⟩),
  (30, ⟨.other, 1, 8, [.nilFunc]⟩),
  (31, ⟨.other, 1, 8, [.nilFunc]⟩),
  (32, ⟨.other, 1, 8, [.nilFunc]⟩),
  (33, ⟨(.slice 4), 1, 24, [.slice none 0 0]⟩),
  (35, ⟨.other, 1, 8, [.nilFunc]⟩),
  (36, ⟨.other, 1, 8, [.nilFunc]⟩),
  (37, ⟨.other, 1, 8, [.nilFunc]⟩),
  (38, ⟨.other, 1, 8, [.nilFunc]⟩),
  (39, ⟨.other, 1, 8, [.nilFunc]⟩),
  (40, ⟨.other, 1, 8, [.nilFunc]⟩),
  (41, ⟨(.struct [(3, 0), (9, 1)]), 2, 24, [.int .i64 0, .string ⟨#[]⟩]⟩),
  (42, ⟨(.struct [(3, 0), (9, 1)]), 2, 24, [.int .i64 0, .string ⟨#[]⟩]⟩),
  (43, ⟨.other, 1, 8, [.nilFunc]⟩),
  (44, ⟨.other, 1, 8, [.nilFunc]⟩),
  (45, ⟨(.struct [(25, 0), (3, 2)]), 3, 56, [.slice none 0 0, .slice none 0 0, .int .i64 0]⟩),
  (46, ⟨(.struct [(25, 0), (3, 2)]), 3, 56, [.slice none 0 0, .slice none 0 0, .int .i64 0]⟩),
  (48, ⟨.other, 1, 8, [.nilFunc]⟩),
  (49, ⟨.other, 1, 8, [.nilFunc]⟩),
  (50, ⟨(.slice 3), 1, 24, [.slice none 0 0]⟩),
  (51, ⟨(.struct [(3, 0), (3, 1), (50, 2)]), 3, 40, [.int .i64 0, .int .i64 0, .slice none 0 0]⟩),
  (52, ⟨(.struct [(3, 0), (3, 1), (50, 2)]), 3, 40, [.int .i64 0, .int .i64 0, .slice none 0 0]⟩),
  (53, ⟨.other, 1, 8, [.nilFunc]⟩),
  (54, ⟨.other, 1, 8, [.nilFunc]⟩),
  (55, ⟨.other, 1, 8, [.nilFunc]⟩),
  (56, ⟨.other, 1, 8, [.nilFunc]⟩),
  (57, ⟨.other, 1, 8, [.nilFunc]⟩),
  (58, ⟨.other, 1, 8, [.nilFunc]⟩),
  (59, ⟨.other, 1, 8, [.nilFunc]⟩),
  (60, ⟨(.struct [(3, 0), (9, 1)]), 2, 24, [.int .i64 0, .string ⟨#[]⟩]⟩),
  (61, ⟨.other, 1, 8, [.nilFunc]⟩),
  (62, ⟨.other, 1, 8, [.nilFunc]⟩),
  (63, ⟨.other, 1, 8, [.nilFunc]⟩),
  (64, ⟨.other, 1, 8, [.nilFunc]⟩),
  (65, ⟨(.struct [(3, 0)]), 1, 8, [.int .i64 0]⟩),
  (66, ⟨(.struct [(3, 0)]), 1, 8, [.int .i64 0]⟩),
  (67, ⟨.other, 1, 8, [.nilFunc]⟩),
  (68, ⟨.other, 1, 8, [.nilFunc]⟩),
  (69, ⟨.other, 1, 8, [.nilFunc]⟩),
  (70, ⟨.other, 1, 8, [.nilFunc]⟩),
  (71, ⟨.other, 1, 8, [.nilFunc]⟩),
  (72, ⟨.other, 1, 8, [.nilFunc]⟩),
  (73, ⟨.other, 1, 8, [.nilFunc]⟩),
  (74, ⟨.other, 1, 8, [.nilFunc]⟩),
  (76, ⟨.other, 1, 8, [.nilFunc]⟩),
  (78, ⟨.other, 1, 8, [.nilFunc]⟩),
  (80, ⟨.other, 1, 8, [.nilFunc]⟩),
  (81, ⟨.other, 1, 8, [.nilFunc]⟩),
  (82, ⟨.other, 1, 8, [.nilFunc]⟩),
  (83, ⟨.other, 1, 8, [.nilFunc]⟩),
  (84, ⟨.other, 1, 8, [.nilFunc]⟩),
  (85, ⟨.other, 1, 8, [.nilFunc]⟩),
  (86, ⟨.other, 1, 8, [.nilFunc]⟩),
  (87, ⟨.other, 1, 8, [.nilFunc]⟩),
  (88, ⟨.other, 1, 8, [.nilFunc]⟩),
  (89, ⟨.other, 1, 8, [.nilFunc]⟩),
  (90, ⟨.other, 1, 8, [.nilFunc]⟩),
  (91, ⟨.other, 1, 8, [.nilFunc]⟩),
  (92, ⟨.other, 1, 8, [.nilFunc]⟩),
  (93, ⟨.other, 1, 8, [.nilFunc]⟩),
  (94, ⟨(.struct [(3, 0), (3, 1)]), 2, 16, [.int .i64 0, .int .i64 0]⟩),
  (95, ⟨(.struct [(3, 0), (3, 1)]), 2, 16, [.int .i64 0, .int .i64 0]⟩),
  (96, ⟨(.slice 95), 1, 24, [.slice none 0 0]⟩),
  (97, ⟨.other, 1, 8, [.nilFunc]⟩),
  (98, ⟨.other, 1, 8, [.nilFunc]⟩),
  (99, ⟨.other, 1, 8, [.nilFunc]⟩),
  (100, ⟨(.ptr 102), 1, 8, [.pointer none]⟩),
  (101, ⟨(.struct [(9, 0), (3, 1)]), 2, 24, [.string ⟨#[]⟩, .int .i64 0]⟩),
  (102, ⟨(.struct [(9, 0), (3, 1)]), 2, 24, [.string ⟨#[]⟩, .int .i64 0]⟩),
  (103, ⟨.other, 1, 8, [.nilFunc]⟩),
  (104, ⟨.other, 1, 8, [.nilFunc]⟩),
  (105, ⟨.other, 1, 8, [.nilFunc]⟩),
  (106, ⟨.other, 1, 8, [.nilFunc]⟩),
  (107, ⟨.other, 1, 8, [.nilFunc]⟩),
  (108, ⟨.other, 1, 8, [.nilFunc]⟩),
  (109, ⟨(.int .u64), 1, 8, [.int .u64 0]⟩),
  (110, ⟨(.int .u64), 1, 8, [.int .u64 0]⟩),
  (112, ⟨.other, 1, 8, [.nilFunc]⟩),
  (114, ⟨.other, 1, 8, [.nilFunc]⟩),
  (115, ⟨.other, 1, 8, [.nilFunc]⟩),
  (117, ⟨.other, 1, 8, [.nilFunc]⟩),
  (118, ⟨.other, 1, 8, [.nilFunc]⟩),
  (122, ⟨.other, 1, 8, [.nilFunc]⟩),
  (123, ⟨.other, 1, 8, [.nilFunc]⟩),
  (124, ⟨(.ptr 120), 1, 8, [.pointer none]⟩),
  (125, ⟨.other, 1, 8, [.nilFunc]⟩),
  (126, ⟨(.slice 5), 1, 24, [.slice none 0 0]⟩),
  (127, ⟨(.int .u32), 1, 4, [.int .u32 0]⟩),
  (128, ⟨.other, 1, 8, [.nilFunc]⟩),
  (130, ⟨.other, 1, 8, [.nilFunc]⟩),
  (132, ⟨.other, 1, 8, [.nilFunc]⟩),
  (133, ⟨.other, 1, 8, [.nilFunc]⟩),
  (135, ⟨.other, 1, 8, [.nilFunc]⟩),
  (136, ⟨.other, 1, 8, [.nilFunc]⟩),
  (137, ⟨(.array 16 127), 16, 64, [.int .u32 0, .int .u32 0, .int .u32 0, .int .u32 0, .int .u32 0, .int .u32 0, .int .u32 0, .int .u32 0, .int .u32 0, .int .u32 0, .int .u32 0, .int .u32 0, .int .u32 0, .int .u32 0, .int .u32 0, .int .u32 0]⟩),
  (138, ⟨.other, 1, 8, [.nilFunc]⟩),
  (139, ⟨.other, 1, 8, [.nilFunc]⟩),
  (140, ⟨.other, 1, 8, [.nilFunc]⟩),
  (141, ⟨.other, 1, 8, [.nilFunc]⟩),
  (142, ⟨.other, 1, 8, [.nilFunc]⟩),
  (143, ⟨.other, 1, 8, [.nilFunc]⟩),
  (145, ⟨(.struct [(5, 0), (5, 1)]), 2, 2, [.int .u8 0, .int .u8 0]⟩),
  (146, ⟨(.struct [(5, 0), (5, 1)]), 2, 2, [.int .u8 0, .int .u8 0]⟩),
  (147, ⟨(.array 16 146), 32, 32, [.int .u8 0, .int .u8 0, .int .u8 0, .int .u8 0, .int .u8 0, .int .u8 0, .int .u8 0, .int .u8 0, .int .u8 0, .int .u8 0, .int .u8 0, .int .u8 0, .int .u8 0, .int .u8 0, .int .u8 0, .int .u8 0, .int .u8 0, .int .u8 0, .int .u8 0, .int .u8 0, .int .u8 0, .int .u8 0, .int .u8 0, .int .u8 0, .int .u8 0, .int .u8 0, .int .u8 0, .int .u8 0, .int .u8 0, .int .u8 0, .int .u8 0, .int .u8 0]⟩),
  (148, ⟨.other, 1, 8, [.nilFunc]⟩),
  (149, ⟨(.struct [(17, 0), (17, 1), (17, 2), (9, 3)]), 4, 40, [.pointer none, .pointer none, .pointer none, .string ⟨#[]⟩]⟩),
  (150, ⟨(.struct [(17, 0), (17, 1), (17, 2), (9, 3)]), 4, 40, [.pointer none, .pointer none, .pointer none, .string ⟨#[]⟩]⟩),
  (154, ⟨.other, 1, 8, [.nilFunc]⟩),
  (155, ⟨(.int .u8), 1, 1, [.int .u8 0]⟩),
  (156, ⟨(.int .u8), 1, 1, [.int .u8 0]⟩),
  (157, ⟨.other, 1, 8, [.nilFunc]⟩),
  (158, ⟨(.ptr 5), 1, 8, [.pointer none]⟩),
  (159, ⟨(.int .i32), 1, 4, [.int .i32 0]⟩),
  (160, ⟨(.int .i32), 1, 4, [.int .i32 0]⟩),
  (161, ⟨(.struct [(12, 0), (12, 1), (127, 2), (155, 3), (5, 4), (5, 5), (156, 6), (157, 7), (158, 8), (159, 9), (160, 10)]), 11, 48, [.int .u64 0, .int .u64 0, .int .u32 0, .int .u8 0, .int .u8 0, .int .u8 0, .int .u8 0, .nilFunc, .pointer none, .int .i32 0, .int .i32 0]⟩),
  (162, ⟨(.struct [(12, 0), (12, 1), (127, 2), (155, 3), (5, 4), (5, 5), (156, 6), (157, 7), (158, 8), (159, 9), (160, 10)]), 11, 48, [.int .u64 0, .int .u64 0, .int .u32 0, .int .u8 0, .int .u8 0, .int .u8 0, .int .u8 0, .nilFunc, .pointer none, .int .i32 0, .int .i32 0]⟩),
  (163, ⟨.other, 1, 8, [.pointer none]⟩)]
set_option maxRecDepth 100000 in
theorem tbOk : TbOk Tryd.prog tb := tbOk_cons ⟨⟨_, Tryd.underlying1, rfl⟩, ⟨_, (by kernel_rfl : Tryd.prog.info? 1 = some Tryd.t1), rfl, rfl, rfl⟩, rfl, rfl, by decide⟩ (
  tbOk_cons ⟨⟨_, Tryd.underlying2, rfl⟩, ⟨_, (by kernel_rfl : Tryd.prog.info? 2 = some Tryd.t2), rfl, rfl, rfl⟩, rfl, rfl, by decide⟩ (
  tbOk_cons ⟨⟨_, Tryd.underlying3, rfl⟩, ⟨_, (by kernel_rfl : Tryd.prog.info? 3 = some Tryd.t3), rfl, rfl, rfl⟩, rfl, rfl, by decide⟩ (
  tbOk_cons ⟨⟨_, Tryd.underlying4, rfl⟩, ⟨_, (by kernel_rfl : Tryd.prog.info? 4 = some Tryd.t4), rfl, rfl, rfl⟩, rfl, rfl, by decide⟩ (
  tbOk_cons ⟨⟨_, Tryd.underlying5, rfl⟩, ⟨_, (by kernel_rfl : Tryd.prog.info? 5 = some Tryd.t5), rfl, rfl, rfl⟩, rfl, rfl, by decide⟩ (
  tbOk_cons ⟨⟨_, Tryd.underlying6, rfl⟩, ⟨_, (by kernel_rfl : Tryd.prog.info? 6 = some Tryd.t6), rfl, rfl, rfl⟩, rfl, rfl, by decide⟩ (
  tbOk_cons ⟨⟨_, Tryd.underlying7, rfl⟩, ⟨_, (by kernel_rfl : Tryd.prog.info? 7 = some Tryd.t7), rfl, rfl, rfl⟩, rfl, rfl, by decide⟩ (
  tbOk_cons ⟨⟨_, Tryd.underlying8, rfl⟩, ⟨_, (by kernel_rfl : Tryd.prog.info? 8 = some Tryd.t8), rfl, rfl, rfl⟩, rfl, rfl, by decide⟩ (
  tbOk_cons ⟨⟨_, Tryd.underlying9, rfl⟩, ⟨_, (by kernel_rfl : Tryd.prog.info? 9 = some Tryd.t9), rfl, rfl, rfl⟩, rfl, rfl, by decide⟩ (
  tbOk_cons ⟨⟨_, Tryd.underlying10, rfl⟩, ⟨_, (by kernel_rfl : Tryd.prog.info? 10 = some Tryd.t10), rfl, rfl, rfl⟩, rfl, rfl, by decide⟩ (
  tbOk_cons ⟨⟨_, Tryd.underlying11, rfl⟩, ⟨_, (by kernel_rfl : Tryd.prog.info? 11 = some Tryd.t11), rfl, rfl, rfl⟩, rfl, rfl, by decide⟩ (
  tbOk_cons ⟨⟨_, Tryd.underlying12, rfl⟩, ⟨_, (by kernel_rfl : Tryd.prog.info? 12 = some Tryd.t12), rfl, rfl, rfl⟩, rfl, rfl, by decide⟩ (
  tbOk_cons ⟨⟨_, Tryd.underlying13, rfl⟩, ⟨_, (by kernel_rfl : Tryd.prog.info? 13 = some Tryd.t13), rfl, rfl, rfl⟩, rfl, rfl, by decide⟩ (
  tbOk_cons ⟨⟨_, Tryd.underlying14, rfl⟩, ⟨_, (by kernel_rfl : Tryd.prog.info? 14 = some Tryd.t14), rfl, rfl, rfl⟩, rfl, rfl, by decide⟩ (
  tbOk_cons ⟨⟨_, Tryd.underlying15, rfl⟩, ⟨_, (by kernel_rfl : Tryd.prog.info? 15 = some Tryd.t15), rfl, rfl, rfl⟩, rfl, rfl, by decide⟩ (
  tbOk_cons ⟨⟨_, Tryd.underlying16, rfl⟩, ⟨_, (by kernel_rfl : Tryd.prog.info? 16 = some Tryd.t16), rfl, rfl, rfl⟩, rfl, rfl, by decide⟩ (
  tbOk_cons ⟨⟨_, Tryd.underlying17, rfl⟩, ⟨_, (by kernel_rfl : Tryd.prog.info? 17 = some Tryd.t17), rfl, rfl, rfl⟩, rfl, rfl, by decide⟩ (
  tbOk_cons ⟨⟨_, Tryd.underlying18, rfl⟩, ⟨_, (by kernel_rfl : Tryd.prog.info? 18 = some Tryd.t18), rfl, rfl, rfl⟩, rfl, rfl, by decide⟩ (
  tbOk_cons ⟨⟨_, Tryd.underlying19, rfl⟩, ⟨_, (by kernel_rfl : Tryd.prog.info? 19 = some Tryd.t19), rfl, rfl, rfl⟩, rfl, rfl, by decide⟩ (
  tbOk_cons ⟨⟨_, Tryd.underlying20, rfl⟩, ⟨_, (by kernel_rfl : Tryd.prog.info? 20 = some Tryd.t20), rfl, rfl, rfl⟩, rfl, rfl, by decide⟩ (
  tbOk_cons ⟨⟨_, Tryd.underlying21, rfl⟩, ⟨_, (by kernel_rfl : Tryd.prog.info? 21 = some Tryd.t21), rfl, rfl, rfl⟩, rfl, rfl, by decide⟩ (
  tbOk_cons ⟨⟨_, Tryd.underlying22, rfl⟩, ⟨_, (by kernel_rfl : Tryd.prog.info? 22 = some Tryd.t22), rfl, rfl, rfl⟩, rfl, rfl, by decide⟩ (
  tbOk_cons ⟨⟨_, Tryd.underlying23, rfl⟩, ⟨_, (by kernel_rfl : Tryd.prog.info? 23 = some Tryd.t23), rfl, rfl, rfl⟩, rfl, rfl, by decide⟩ (
  tbOk_cons ⟨⟨_, Tryd.underlying24, rfl⟩, ⟨_, (by kernel_rfl : Tryd.prog.info? 24 = some Tryd.t24), rfl, rfl, rfl⟩, rfl, rfl, by decide⟩ (
  tbOk_cons ⟨⟨_, Tryd.underlying25, rfl⟩, ⟨_, (by kernel_rfl : Tryd.prog.info? 25 = some Tryd.t25), rfl, rfl, rfl⟩, rfl, rfl, by decide⟩ (
  tbOk_cons ⟨⟨_, Tryd.underlying26, rfl⟩, ⟨_, (by kernel_rfl : Tryd.prog.info? 26 = some Tryd.t26), rfl, rfl, rfl⟩, rfl, rfl, by decide⟩ (
  tbOk_cons ⟨⟨_, Tryd.underlying27, rfl⟩, ⟨_, (by kernel_rfl : Tryd.prog.info? 27 = some Tryd.t27), rfl, rfl, rfl⟩, rfl, rfl, by decide⟩ (
  tbOk_cons ⟨⟨_, Tryd.underlying29, rfl⟩, ⟨_, (by kernel_rfl : Tryd.prog.info? 29 = some Tryd.t29), rfl, rfl, rfl⟩, rfl, rfl, by decide⟩ (
  tbOk_cons ⟨⟨_, Tryd.underlying30, rfl⟩, ⟨_, (by kernel_rfl : Tryd.prog.info? 30 = some Tryd.t30), rfl, rfl, rfl⟩, rfl, rfl, by decide⟩ (
  tbOk_cons ⟨⟨_, Tryd.underlying31, rfl⟩, ⟨_, (by kernel_rfl : Tryd.prog.info? 31 = some Tryd.t31), rfl, rfl, rfl⟩, rfl, rfl, by decide⟩ (
  tbOk_cons ⟨⟨_, Tryd.underlying32, rfl⟩, ⟨_, (by kernel_rfl : Tryd.prog.info? 32 = some Tryd.t32), rfl, rfl, rfl⟩, rfl, rfl, by decide⟩ (
  tbOk_cons ⟨⟨_, Tryd.underlying33, rfl⟩, ⟨_, (by kernel_rfl : Tryd.prog.info? 33 = some Tryd.t33), rfl, rfl, rfl⟩, rfl, rfl, by decide⟩ (
  tbOk_cons ⟨⟨_, Tryd.underlying35, rfl⟩, ⟨_, (by kernel_rfl : Tryd.prog.info? 35 = some Tryd.t35), rfl, rfl, rfl⟩, rfl, rfl, by decide⟩ (
  tbOk_cons ⟨⟨_, Tryd.underlying36, rfl⟩, ⟨_, (by kernel_rfl : Tryd.prog.info? 36 = some Tryd.t36), rfl, rfl, rfl⟩, rfl, rfl, by decide⟩ (
  tbOk_cons ⟨⟨_, Tryd.underlying37, rfl⟩, ⟨_, (by kernel_rfl : Tryd.prog.info? 37 = some Tryd.t37), rfl, rfl, rfl⟩, rfl, rfl, by decide⟩ (
  tbOk_cons ⟨⟨_, Tryd.underlying38, rfl⟩, ⟨_, (by kernel_rfl : Tryd.prog.info? 38 = some Tryd.t38), rfl, rfl, rfl⟩, rfl, rfl, by decide⟩ (
  tbOk_cons ⟨⟨_, Tryd.underlying39, rfl⟩, ⟨_, (by kernel_rfl : Tryd.prog.info? 39 = some Tryd.t39), rfl, rfl, rfl⟩, rfl, rfl, by decide⟩ (
  tbOk_cons ⟨⟨_, Tryd.underlying40, rfl⟩, ⟨_, (by kernel_rfl : Tryd.prog.info? 40 = some Tryd.t40), rfl, rfl, rfl⟩, rfl, rfl, by decide⟩ (
  tbOk_cons ⟨⟨_, Tryd.underlying41, rfl⟩, ⟨_, (by kernel_rfl : Tryd.prog.info? 41 = some Tryd.t41), rfl, rfl, rfl⟩, rfl, rfl, by decide⟩ (
  tbOk_cons ⟨⟨_, Tryd.underlying42, rfl⟩, ⟨_, (by kernel_rfl : Tryd.prog.info? 42 = some Tryd.t42), rfl, rfl, rfl⟩, rfl, rfl, by decide⟩ (
  tbOk_cons ⟨⟨_, Tryd.underlying43, rfl⟩, ⟨_, (by kernel_rfl : Tryd.prog.info? 43 = some Tryd.t43), rfl, rfl, rfl⟩, rfl, rfl, by decide⟩ (
  tbOk_cons ⟨⟨_, Tryd.underlying44, rfl⟩, ⟨_, (by kernel_rfl : Tryd.prog.info? 44 = some Tryd.t44), rfl, rfl, rfl⟩, rfl, rfl, by decide⟩ (
  tbOk_cons ⟨⟨_, Tryd.underlying45, rfl⟩, ⟨_, (by kernel_rfl : Tryd.prog.info? 45 = some Tryd.t45), rfl, rfl, rfl⟩, rfl, rfl, by decide⟩ (
  tbOk_cons ⟨⟨_, Tryd.underlying46, rfl⟩, ⟨_, (by kernel_rfl : Tryd.prog.info? 46 = some Tryd.t46), rfl, rfl, rfl⟩, rfl, rfl, by decide⟩ (
  tbOk_cons ⟨⟨_, Tryd.underlying48, rfl⟩, ⟨_, (by kernel_rfl : Tryd.prog.info? 48 = some Tryd.t48), rfl, rfl, rfl⟩, rfl, rfl, by decide⟩ (
  tbOk_cons ⟨⟨_, Tryd.underlying49, rfl⟩, ⟨_, (by kernel_rfl : Tryd.prog.info? 49 = some Tryd.t49), rfl, rfl, rfl⟩, rfl, rfl, by decide⟩ (
  tbOk_cons ⟨⟨_, Tryd.underlying50, rfl⟩, ⟨_, (by kernel_rfl : Tryd.prog.info? 50 = some Tryd.t50), rfl, rfl, rfl⟩, rfl, rfl, by decide⟩ (
  tbOk_cons ⟨⟨_, Tryd.underlying51, rfl⟩, ⟨_, (by kernel_rfl : Tryd.prog.info? 51 = some Tryd.t51), rfl, rfl, rfl⟩, rfl, rfl, by decide⟩ (
  tbOk_cons ⟨⟨_, Tryd.underlying52, rfl⟩, ⟨_, (by kernel_rfl : Tryd.prog.info? 52 = some Tryd.t52), rfl, rfl, rfl⟩, rfl, rfl, by decide⟩ (
  tbOk_cons ⟨⟨_, Tryd.underlying53, rfl⟩, ⟨_, (by kernel_rfl : Tryd.prog.info? 53 = some Tryd.t53), rfl, rfl, rfl⟩, rfl, rfl, by decide⟩ (
  tbOk_cons ⟨⟨_, Tryd.underlying54, rfl⟩, ⟨_, (by kernel_rfl : Tryd.prog.info? 54 = some Tryd.t54), rfl, rfl, rfl⟩, rfl, rfl, by decide⟩ (
  tbOk_cons ⟨⟨_, Tryd.underlying55, rfl⟩, ⟨_, (by kernel_rfl : Tryd.prog.info? 55 = some Tryd.t55), rfl, rfl, rfl⟩, rfl, rfl, by decide⟩ (
  tbOk_cons ⟨⟨_, Tryd.underlying56, rfl⟩, ⟨_, (by kernel_rfl : Tryd.prog.info? 56 = some Tryd.t56), rfl, rfl, rfl⟩, rfl, rfl, by decide⟩ (
  tbOk_cons ⟨⟨_, Tryd.underlying57, rfl⟩, ⟨_, (by kernel_rfl : Tryd.prog.info? 57 = some Tryd.t57), rfl, rfl, rfl⟩, rfl, rfl, by decide⟩ (
  tbOk_cons ⟨⟨_, Tryd.underlying58, rfl⟩, ⟨_, (by kernel_rfl : Tryd.prog.info? 58 = some Tryd.t58), rfl, rfl, rfl⟩, rfl, rfl, by decide⟩ (
  tbOk_cons ⟨⟨_, Tryd.underlying59, rfl⟩, ⟨_, (by kernel_rfl : Tryd.prog.info? 59 = some Tryd.t59), rfl, rfl, rfl⟩, rfl, rfl, by decide⟩ (
  tbOk_cons ⟨⟨_, Tryd.underlying60, rfl⟩, ⟨_, (by kernel_rfl : Tryd.prog.info? 60 = some Tryd.t60), rfl, rfl, rfl⟩, rfl, rfl, by decide⟩ (
  tbOk_cons ⟨⟨_, Tryd.underlying61, rfl⟩, ⟨_, (by kernel_rfl : Tryd.prog.info? 61 = some Tryd.t61), rfl, rfl, rfl⟩, rfl, rfl, by decide⟩ (
  tbOk_cons ⟨⟨_, Tryd.underlying62, rfl⟩, ⟨_, (by kernel_rfl : Tryd.prog.info? 62 = some Tryd.t62), rfl, rfl, rfl⟩, rfl, rfl, by decide⟩ (
  tbOk_cons ⟨⟨_, Tryd.underlying63, rfl⟩, ⟨_, (by kernel_rfl : Tryd.prog.info? 63 = some Tryd.t63), rfl, rfl, rfl⟩, rfl, rfl, by decide⟩ (
  tbOk_cons ⟨⟨_, Tryd.underlying64, rfl⟩, ⟨_, (by kernel_rfl : Tryd.prog.info? 64 = some Tryd.t64), rfl, rfl, rfl⟩, rfl, rfl, by decide⟩ (
  tbOk_cons ⟨⟨_, Tryd.underlying65, rfl⟩, ⟨_, (by kernel_rfl : Tryd.prog.info? 65 = some Tryd.t65), rfl, rfl, rfl⟩, rfl, rfl, by decide⟩ (
  tbOk_cons ⟨⟨_, Tryd.underlying66, rfl⟩, ⟨_, (by kernel_rfl : Tryd.prog.info? 66 = some Tryd.t66), rfl, rfl, rfl⟩, rfl, rfl, by decide⟩ (
  tbOk_cons ⟨⟨_, Tryd.underlying67, rfl⟩, ⟨_, (by kernel_rfl : Tryd.prog.info? 67 = some Tryd.t67), rfl, rfl, rfl⟩, rfl, rfl, by decide⟩ (
  tbOk_cons ⟨⟨_, Tryd.underlying68, rfl⟩, ⟨_, (by kernel_rfl : Tryd.prog.info? 68 = some Tryd.t68), rfl, rfl, rfl⟩, rfl, rfl, by decide⟩ (
  tbOk_cons ⟨⟨_, Tryd.underlying69, rfl⟩, ⟨_, (by kernel_rfl : Tryd.prog.info? 69 = some Tryd.t69), rfl, rfl, rfl⟩, rfl, rfl, by decide⟩ (
  tbOk_cons ⟨⟨_, Tryd.underlying70, rfl⟩, ⟨_, (by kernel_rfl : Tryd.prog.info? 70 = some Tryd.t70), rfl, rfl, rfl⟩, rfl, rfl, by decide⟩ (
  tbOk_cons ⟨⟨_, Tryd.underlying71, rfl⟩, ⟨_, (by kernel_rfl : Tryd.prog.info? 71 = some Tryd.t71), rfl, rfl, rfl⟩, rfl, rfl, by decide⟩ (
  tbOk_cons ⟨⟨_, Tryd.underlying72, rfl⟩, ⟨_, (by kernel_rfl : Tryd.prog.info? 72 = some Tryd.t72), rfl, rfl, rfl⟩, rfl, rfl, by decide⟩ (
  tbOk_cons ⟨⟨_, Tryd.underlying73, rfl⟩, ⟨_, (by kernel_rfl : Tryd.prog.info? 73 = some Tryd.t73), rfl, rfl, rfl⟩, rfl, rfl, by decide⟩ (
  tbOk_cons ⟨⟨_, Tryd.underlying74, rfl⟩, ⟨_, (by kernel_rfl : Tryd.prog.info? 74 = some Tryd.t74), rfl, rfl, rfl⟩, rfl, rfl, by decide⟩ (
  tbOk_cons ⟨⟨_, Tryd.underlying76, rfl⟩, ⟨_, (by kernel_rfl : Tryd.prog.info? 76 = some Tryd.t76), rfl, rfl, rfl⟩, rfl, rfl, by decide⟩ (
  tbOk_cons ⟨⟨_, Tryd.underlying78, rfl⟩, ⟨_, (by kernel_rfl : Tryd.prog.info? 78 = some Tryd.t78), rfl, rfl, rfl⟩, rfl, rfl, by decide⟩ (
  tbOk_cons ⟨⟨_, Tryd.underlying80, rfl⟩, ⟨_, (by kernel_rfl : Tryd.prog.info? 80 = some Tryd.t80), rfl, rfl, rfl⟩, rfl, rfl, by decide⟩ (
  tbOk_cons ⟨⟨_, Tryd.underlying81, rfl⟩, ⟨_, (by kernel_rfl : Tryd.prog.info? 81 = some Tryd.t81), rfl, rfl, rfl⟩, rfl, rfl, by decide⟩ (
  tbOk_cons ⟨⟨_, Tryd.underlying82, rfl⟩, ⟨_, (by kernel_rfl : Tryd.prog.info? 82 = some Tryd.t82), rfl, rfl, rfl⟩, rfl, rfl, by decide⟩ (
  tbOk_cons ⟨⟨_, Tryd.underlying83, rfl⟩, ⟨_, (by kernel_rfl : Tryd.prog.info? 83 = some Tryd.t83), rfl, rfl, rfl⟩, rfl, rfl, by decide⟩ (
  tbOk_cons ⟨⟨_, Tryd.underlying84, rfl⟩, ⟨_, (by kernel_rfl : Tryd.prog.info? 84 = some Tryd.t84), rfl, rfl, rfl⟩, rfl, rfl, by decide⟩ (
  tbOk_cons ⟨⟨_, Tryd.underlying85, rfl⟩, ⟨_, (by kernel_rfl : Tryd.prog.info? 85 = some Tryd.t85), rfl, rfl, rfl⟩, rfl, rfl, by decide⟩ (
  tbOk_cons ⟨⟨_, Tryd.underlying86, rfl⟩, ⟨_, (by kernel_rfl : Tryd.prog.info? 86 = some Tryd.t86), rfl, rfl, rfl⟩, rfl, rfl, by decide⟩ (
  tbOk_cons ⟨⟨_, Tryd.underlying87, rfl⟩, ⟨_, (by kernel_rfl : Tryd.prog.info? 87 = some Tryd.t87), rfl, rfl, rfl⟩, rfl, rfl, by decide⟩ (
  tbOk_cons ⟨⟨_, Tryd.underlying88, rfl⟩, ⟨_, (by kernel_rfl : Tryd.prog.info? 88 = some Tryd.t88), rfl, rfl, rfl⟩, rfl, rfl, by decide⟩ (
  tbOk_cons ⟨⟨_, Tryd.underlying89, rfl⟩, ⟨_, (by kernel_rfl : Tryd.prog.info? 89 = some Tryd.t89), rfl, rfl, rfl⟩, rfl, rfl, by decide⟩ (
  tbOk_cons ⟨⟨_, Tryd.underlying90, rfl⟩, ⟨_, (by kernel_rfl : Tryd.prog.info? 90 = some Tryd.t90), rfl, rfl, rfl⟩, rfl, rfl, by decide⟩ (
  tbOk_cons ⟨⟨_, Tryd.underlying91, rfl⟩, ⟨_, (by kernel_rfl : Tryd.prog.info? 91 = some Tryd.t91), rfl, rfl, rfl⟩, rfl, rfl, by decide⟩ (
  tbOk_cons ⟨⟨_, Tryd.underlying92, rfl⟩, ⟨_, (by kernel_rfl : Tryd.prog.info? 92 = some Tryd.t92), rfl, rfl, rfl⟩, rfl, rfl, by decide⟩ (
  tbOk_cons ⟨⟨_, Tryd.underlying93, rfl⟩, ⟨_, (by kernel_rfl : Tryd.prog.info? 93 = some Tryd.t93), rfl, rfl, rfl⟩, rfl, rfl, by decide⟩ (
  tbOk_cons ⟨⟨_, Tryd.underlying94, rfl⟩, ⟨_, (by kernel_rfl : Tryd.prog.info? 94 = some Tryd.t94), rfl, rfl, rfl⟩, rfl, rfl, by decide⟩ (
  tbOk_cons ⟨⟨_, Tryd.underlying95, rfl⟩, ⟨_, (by kernel_rfl : Tryd.prog.info? 95 = some Tryd.t95), rfl, rfl, rfl⟩, rfl, rfl, by decide⟩ (
  tbOk_cons ⟨⟨_, Tryd.underlying96, rfl⟩, ⟨_, (by kernel_rfl : Tryd.prog.info? 96 = some Tryd.t96), rfl, rfl, rfl⟩, rfl, rfl, by decide⟩ (
  tbOk_cons ⟨⟨_, Tryd.underlying97, rfl⟩, ⟨_, (by kernel_rfl : Tryd.prog.info? 97 = some Tryd.t97), rfl, rfl, rfl⟩, rfl, rfl, by decide⟩ (
  tbOk_cons ⟨⟨_, Tryd.underlying98, rfl⟩, ⟨_, (by kernel_rfl : Tryd.prog.info? 98 = some Tryd.t98), rfl, rfl, rfl⟩, rfl, rfl, by decide⟩ (
  tbOk_cons ⟨⟨_, Tryd.underlying99, rfl⟩, ⟨_, (by kernel_rfl : Tryd.prog.info? 99 = some Tryd.t99), rfl, rfl, rfl⟩, rfl, rfl, by decide⟩ (
  tbOk_cons ⟨⟨_, Tryd.underlying100, rfl⟩, ⟨_, (by kernel_rfl : Tryd.prog.info? 100 = some Tryd.t100), rfl, rfl, rfl⟩, rfl, rfl, by decide⟩ (
  tbOk_cons ⟨⟨_, Tryd.underlying101, rfl⟩, ⟨_, (by kernel_rfl : Tryd.prog.info? 101 = some Tryd.t101), rfl, rfl, rfl⟩, rfl, rfl, by decide⟩ (
  tbOk_cons ⟨⟨_, Tryd.underlying102, rfl⟩, ⟨_, (by kernel_rfl : Tryd.prog.info? 102 = some Tryd.t102), rfl, rfl, rfl⟩, rfl, rfl, by decide⟩ (
  tbOk_cons ⟨⟨_, Tryd.underlying103, rfl⟩, ⟨_, (by kernel_rfl : Tryd.prog.info? 103 = some Tryd.t103), rfl, rfl, rfl⟩, rfl, rfl, by decide⟩ (
  tbOk_cons ⟨⟨_, Tryd.underlying104, rfl⟩, ⟨_, (by kernel_rfl : Tryd.prog.info? 104 = some Tryd.t104), rfl, rfl, rfl⟩, rfl, rfl, by decide⟩ (
  tbOk_cons ⟨⟨_, Tryd.underlying105, rfl⟩, ⟨_, (by kernel_rfl : Tryd.prog.info? 105 = some Tryd.t105), rfl, rfl, rfl⟩, rfl, rfl, by decide⟩ (
  tbOk_cons ⟨⟨_, Tryd.underlying106, rfl⟩, ⟨_, (by kernel_rfl : Tryd.prog.info? 106 = some Tryd.t106), rfl, rfl, rfl⟩, rfl, rfl, by decide⟩ (
  tbOk_cons ⟨⟨_, Tryd.underlying107, rfl⟩, ⟨_, (by kernel_rfl : Tryd.prog.info? 107 = some Tryd.t107), rfl, rfl, rfl⟩, rfl, rfl, by decide⟩ (
  tbOk_cons ⟨⟨_, Tryd.underlying108, rfl⟩, ⟨_, (by kernel_rfl : Tryd.prog.info? 108 = some Tryd.t108), rfl, rfl, rfl⟩, rfl, rfl, by decide⟩ (
  tbOk_cons ⟨⟨_, Tryd.underlying109, rfl⟩, ⟨_, (by kernel_rfl : Tryd.prog.info? 109 = some Tryd.t109), rfl, rfl, rfl⟩, rfl, rfl, by decide⟩ (
  tbOk_cons ⟨⟨_, Tryd.underlying110, rfl⟩, ⟨_, (by kernel_rfl : Tryd.prog.info? 110 = some Tryd.t110), rfl, rfl, rfl⟩, rfl, rfl, by decide⟩ (
  tbOk_cons ⟨⟨_, Tryd.underlying112, rfl⟩, ⟨_, (by kernel_rfl : Tryd.prog.info? 112 = some Tryd.t112), rfl, rfl, rfl⟩, rfl, rfl, by decide⟩ (
  tbOk_cons ⟨⟨_, Tryd.underlying114, rfl⟩, ⟨_, (by kernel_rfl : Tryd.prog.info? 114 = some Tryd.t114), rfl, rfl, rfl⟩, rfl, rfl, by decide⟩ (
  tbOk_cons ⟨⟨_, Tryd.underlying115, rfl⟩, ⟨_, (by kernel_rfl : Tryd.prog.info? 115 = some Tryd.t115), rfl, rfl, rfl⟩, rfl, rfl, by decide⟩ (
  tbOk_cons ⟨⟨_, Tryd.underlying117, rfl⟩, ⟨_, (by kernel_rfl : Tryd.prog.info? 117 = some Tryd.t117), rfl, rfl, rfl⟩, rfl, rfl, by decide⟩ (
  tbOk_cons ⟨⟨_, Tryd.underlying118, rfl⟩, ⟨_, (by kernel_rfl : Tryd.prog.info? 118 = some Tryd.t118), rfl, rfl, rfl⟩, rfl, rfl, by decide⟩ (
  tbOk_cons ⟨⟨_, Tryd.underlying122, rfl⟩, ⟨_, (by kernel_rfl : Tryd.prog.info? 122 = some Tryd.t122), rfl, rfl, rfl⟩, rfl, rfl, by decide⟩ (
  tbOk_cons ⟨⟨_, Tryd.underlying123, rfl⟩, ⟨_, (by kernel_rfl : Tryd.prog.info? 123 = some Tryd.t123), rfl, rfl, rfl⟩, rfl, rfl, by decide⟩ (
  tbOk_cons ⟨⟨_, Tryd.underlying124, rfl⟩, ⟨_, (by kernel_rfl : Tryd.prog.info? 124 = some Tryd.t124), rfl, rfl, rfl⟩, rfl, rfl, by decide⟩ (
  tbOk_cons ⟨⟨_, Tryd.underlying125, rfl⟩, ⟨_, (by kernel_rfl : Tryd.prog.info? 125 = some Tryd.t125), rfl, rfl, rfl⟩, rfl, rfl, by decide⟩ (
  tbOk_cons ⟨⟨_, Tryd.underlying126, rfl⟩, ⟨_, (by kernel_rfl : Tryd.prog.info? 126 = some Tryd.t126), rfl, rfl, rfl⟩, rfl, rfl, by decide⟩ (
  tbOk_cons ⟨⟨_, Tryd.underlying127, rfl⟩, ⟨_, (by kernel_rfl : Tryd.prog.info? 127 = some Tryd.t127), rfl, rfl, rfl⟩, rfl, rfl, by decide⟩ (
  tbOk_cons ⟨⟨_, Tryd.underlying128, rfl⟩, ⟨_, (by kernel_rfl : Tryd.prog.info? 128 = some Tryd.t128), rfl, rfl, rfl⟩, rfl, rfl, by decide⟩ (
  tbOk_cons ⟨⟨_, Tryd.underlying130, rfl⟩, ⟨_, (by kernel_rfl : Tryd.prog.info? 130 = some Tryd.t130), rfl, rfl, rfl⟩, rfl, rfl, by decide⟩ (
  tbOk_cons ⟨⟨_, Tryd.underlying132, rfl⟩, ⟨_, (by kernel_rfl : Tryd.prog.info? 132 = some Tryd.t132), rfl, rfl, rfl⟩, rfl, rfl, by decide⟩ (
  tbOk_cons ⟨⟨_, Tryd.underlying133, rfl⟩, ⟨_, (by kernel_rfl : Tryd.prog.info? 133 = some Tryd.t133), rfl, rfl, rfl⟩, rfl, rfl, by decide⟩ (
  tbOk_cons ⟨⟨_, Tryd.underlying135, rfl⟩, ⟨_, (by kernel_rfl : Tryd.prog.info? 135 = some Tryd.t135), rfl, rfl, rfl⟩, rfl, rfl, by decide⟩ (
  tbOk_cons ⟨⟨_, Tryd.underlying136, rfl⟩, ⟨_, (by kernel_rfl : Tryd.prog.info? 136 = some Tryd.t136), rfl, rfl, rfl⟩, rfl, rfl, by decide⟩ (
  tbOk_cons ⟨⟨_, Tryd.underlying137, rfl⟩, ⟨_, (by kernel_rfl : Tryd.prog.info? 137 = some Tryd.t137), rfl, rfl, rfl⟩, rfl, rfl, by decide⟩ (
  tbOk_cons ⟨⟨_, Tryd.underlying138, rfl⟩, ⟨_, (by kernel_rfl : Tryd.prog.info? 138 = some Tryd.t138), rfl, rfl, rfl⟩, rfl, rfl, by decide⟩ (
  tbOk_cons ⟨⟨_, Tryd.underlying139, rfl⟩, ⟨_, (by kernel_rfl : Tryd.prog.info? 139 = some Tryd.t139), rfl, rfl, rfl⟩, rfl, rfl, by decide⟩ (
  tbOk_cons ⟨⟨_, Tryd.underlying140, rfl⟩, ⟨_, (by kernel_rfl : Tryd.prog.info? 140 = some Tryd.t140), rfl, rfl, rfl⟩, rfl, rfl, by decide⟩ (
  tbOk_cons ⟨⟨_, Tryd.underlying141, rfl⟩, ⟨_, (by kernel_rfl : Tryd.prog.info? 141 = some Tryd.t141), rfl, rfl, rfl⟩, rfl, rfl, by decide⟩ (
  tbOk_cons ⟨⟨_, Tryd.underlying142, rfl⟩, ⟨_, (by kernel_rfl : Tryd.prog.info? 142 = some Tryd.t142), rfl, rfl, rfl⟩, rfl, rfl, by decide⟩ (
  tbOk_cons ⟨⟨_, Tryd.underlying143, rfl⟩, ⟨_, (by kernel_rfl : Tryd.prog.info? 143 = some Tryd.t143), rfl, rfl, rfl⟩, rfl, rfl, by decide⟩ (
  tbOk_cons ⟨⟨_, Tryd.underlying145, rfl⟩, ⟨_, (by kernel_rfl : Tryd.prog.info? 145 = some Tryd.t145), rfl, rfl, rfl⟩, rfl, rfl, by decide⟩ (
  tbOk_cons ⟨⟨_, Tryd.underlying146, rfl⟩, ⟨_, (by kernel_rfl : Tryd.prog.info? 146 = some Tryd.t146), rfl, rfl, rfl⟩, rfl, rfl, by decide⟩ (
  tbOk_cons ⟨⟨_, Tryd.underlying147, rfl⟩, ⟨_, (by kernel_rfl : Tryd.prog.info? 147 = some Tryd.t147), rfl, rfl, rfl⟩, rfl, rfl, by decide⟩ (
  tbOk_cons ⟨⟨_, Tryd.underlying148, rfl⟩, ⟨_, (by kernel_rfl : Tryd.prog.info? 148 = some Tryd.t148), rfl, rfl, rfl⟩, rfl, rfl, by decide⟩ (
  tbOk_cons ⟨⟨_, Tryd.underlying149, rfl⟩, ⟨_, (by kernel_rfl : Tryd.prog.info? 149 = some Tryd.t149), rfl, rfl, rfl⟩, rfl, rfl, by decide⟩ (
  tbOk_cons ⟨⟨_, Tryd.underlying150, rfl⟩, ⟨_, (by kernel_rfl : Tryd.prog.info? 150 = some Tryd.t150), rfl, rfl, rfl⟩, rfl, rfl, by decide⟩ (
  tbOk_cons ⟨⟨_, Tryd.underlying154, rfl⟩, ⟨_, (by kernel_rfl : Tryd.prog.info? 154 = some Tryd.t154), rfl, rfl, rfl⟩, rfl, rfl, by decide⟩ (
  tbOk_cons ⟨⟨_, Tryd.underlying155, rfl⟩, ⟨_, (by kernel_rfl : Tryd.prog.info? 155 = some Tryd.t155), rfl, rfl, rfl⟩, rfl, rfl, by decide⟩ (
  tbOk_cons ⟨⟨_, Tryd.underlying156, rfl⟩, ⟨_, (by kernel_rfl : Tryd.prog.info? 156 = some Tryd.t156), rfl, rfl, rfl⟩, rfl, rfl, by decide⟩ (
  tbOk_cons ⟨⟨_, Tryd.underlying157, rfl⟩, ⟨_, (by kernel_rfl : Tryd.prog.info? 157 = some Tryd.t157), rfl, rfl, rfl⟩, rfl, rfl, by decide⟩ (
  tbOk_cons ⟨⟨_, Tryd.underlying158, rfl⟩, ⟨_, (by kernel_rfl : Tryd.prog.info? 158 = some Tryd.t158), rfl, rfl, rfl⟩, rfl, rfl, by decide⟩ (
  tbOk_cons ⟨⟨_, Tryd.underlying159, rfl⟩, ⟨_, (by kernel_rfl : Tryd.prog.info? 159 = some Tryd.t159), rfl, rfl, rfl⟩, rfl, rfl, by decide⟩ (
  tbOk_cons ⟨⟨_, Tryd.underlying160, rfl⟩, ⟨_, (by kernel_rfl : Tryd.prog.info? 160 = some Tryd.t160), rfl, rfl, rfl⟩, rfl, rfl, by decide⟩ (
  tbOk_cons ⟨⟨_, Tryd.underlying161, rfl⟩, ⟨_, (by kernel_rfl : Tryd.prog.info? 161 = some Tryd.t161), rfl, rfl, rfl⟩, rfl, rfl, by decide⟩ (
  tbOk_cons ⟨⟨_, Tryd.underlying162, rfl⟩, ⟨_, (by kernel_rfl : Tryd.prog.info? 162 = some Tryd.t162), rfl, rfl, rfl⟩, rfl, rfl, by decide⟩ (
  tbOk_cons ⟨⟨_, Tryd.underlying163, rfl⟩, ⟨_, (by kernel_rfl : Tryd.prog.info? 163 = some Tryd.t163), rfl, rfl, rfl⟩, rfl, rfl, by decide⟩ (
  tbOk_nil _))))))))))))))))))))))))))))))))))))))))))))))))))))))))))))))))))))))))))))))))))))))))))))))))))))))))))))))))))))))))))))))))))))))))))))))))
end Go.Proofs.YtniplmjbligmlaaDoor.SL

/-! The reference's Trim answers what the plain words say. -/
namespace Go.Proofs.YtniplmjbligmlaaDoor.Q
open Go.RowKit Go.Proofs.YtniplmjbligmlaaDoorW.PrintWords Go.Proofs.YtniplmjbligmlaaDoorW.PrintLast Go.Proofs.YtniplmjbligmlaaDoorW.PrintMore Go.Proofs.YtniplmjbligmlaaDoor.Base
set_option linter.unusedVariables false
theorem reftrim_l0 (s : ByteArray) (hz : s.size ≤ 140737488355328) (n : Nat) : ∀ (k : Nat), n ≤ s.size → n < k → trimL ((L s).take n) = trimL (L s) → doorwardref01_Trim.l0 k s (n : Int) = some (trimS s) := by
  induction n with
  | zero =>
    intro k hn hk ht
    obtain ⟨k, rfl⟩ : ∃ m, k = m + 1 := ⟨k - 1, by omega⟩
    simp only [doorwardref01_Trim.l0]
    rw [if_neg (by omega), if_pos (by omega), if_pos (by omega)]
    congr 1; apply L_inj
    unfold trimS; rw [L_B, ← ht, L_extract]; simp [trimL]
  | succ n ih =>
    intro k hn hk ht
    obtain ⟨k, rfl⟩ : ∃ m, k = m + 1 := ⟨k - 1, by omega⟩
    have hw : wrap64 (((n + 1 : Nat) : Int) - 1) = (n : Int) := by rw [wrap64_id (by omega) (by omega)]; omega
    have hlt : n < (L s).length := by rw [← size_L]; omega
    have htk : (L s).take (n + 1) = (L s).take n ++ [(L s)[n]] := List.take_succ_eq_append_getElem hlt
    have hb : bt s (n : Int) = ((L s)[n].toNat : Int) := bt_L s n (by omega)
    simp only [doorwardref01_Trim.l0]
    rw [if_pos (by omega), hw, if_pos (by omega), if_pos (by omega), hb]
    by_cases h0 : (L s)[n] = 0
    · rw [if_pos ((byte_zero _).2 h0)]
      refine ih k (by omega) (by omega) ?_
      rw [← ht, htk, h0, trimL_zero]
    · rw [if_neg (fun h => h0 ((byte_zero _).1 h)), if_pos (by omega), if_pos (by omega)]
      congr 1; apply L_inj
      unfold trimS; rw [L_B, ← ht, htk, trimL_other _ _ h0, ← htk, L_extract]; rfl
theorem reftrim_ev (s : ByteArray) (hz : s.size ≤ 140737488355328) : Ev (fun k => doorwardref01_Trim.f k s) (trimS s) :=
  ev_from (s.size + 1) fun k hk => reftrim_l0 s hz s.size k (Nat.le_refl _) (by omega) (by rw [List.take_of_length_le (by rw [← size_L]; omega)])
end Go.Proofs.YtniplmjbligmlaaDoor.Q

/-! The reference of layer 3: which disks may be. -/
namespace Go.Proofs.YtniplmjbligmlaaDoor.Q
open Go.RowKit Go.Proofs.YtniplmjbligmlaaDoorW.PrintWords Go.Proofs.YtniplmjbligmlaaDoorW.PrintLast Go.Proofs.YtniplmjbligmlaaDoorW.PrintMore Go.Proofs.YtniplmjbligmlaaDoor.Base
set_option linter.unusedVariables false
theorem refstands_ev (s : ByteArray) : Ev (fun k => doorwardref03_Stands.f k s) (standsB s) := by
  unfold doorwardref03_Stands.f standsB
  by_cases h : (s.size : Int) ≤ 512
  · refine ev_pos h ?_
    refine ev_bind (reftrim_ev s (by omega)) (ev_now ?_)
    have h2 : s.size ≤ 512 := by omega
    simp only [decide_eq_true h2, Bool.true_and, Option.some.injEq]
    rw [Bool.eq_iff_iff]; simp only [beq_iff_eq, decide_eq_true_eq, toList_L]
    exact ⟨fun e => L_inj e, fun e => by rw [e]⟩
  · have h2 : ¬ s.size ≤ 512 := by omega
    exact ev_neg h (ev_now (by simp [h2]))
theorem rdOf_at (l : List ByteArray) (k : Nat) (h : k < l.length) : rdOf ByteArray.empty l (k : Int) = l[k] := by
  simp [rdOf, List.getD_eq_getElem?_getD, List.getElem?_eq_getElem h]
theorem rdT_at (l : List S42) (k : Nat) (h : k < l.length) : rd_T42 l (k : Int) = l[k] := by
  simp [rd_T42, List.getD_eq_getElem?_getD, List.getElem?_eq_getElem h]
theorem all_step {α : Type} (p : α → Bool) (l : List α) (k : Nat) (h : k < l.length) : (l.drop k).all p = (p l[k] && (l.drop (k + 1)).all p) := by
  rw [List.drop_eq_getElem_cons h, List.all_cons]
theorem any_step {α : Type} (p : α → Bool) (l : List α) (k : Nat) (h : k < l.length) : (l.drop k).any p = (p l[k] || (l.drop (k + 1)).any p) := by
  rw [List.drop_eq_getElem_cons h, List.any_cons]
theorem refright_l1 (n : Nat) (l : List S42) (hl : l.length ≤ 140737488355328) (d : Nat) : ∀ i : Nat, l.length - i = d → i ≤ l.length →
    Ev (fun k => doorwardref03_Right.l1 k (n : Int) l (l.length : Int) (i : Int)) (!((l.drop i).any (badW n))) := by
  induction d with
  | zero =>
    intro i hd hi
    obtain rfl : i = l.length := by omega
    refine ev_succ (g := fun k => doorwardref03_Right.l1 k (n : Int) l (l.length : Int) ((l.length : Nat) : Int)) ?_
    simp only [doorwardref03_Right.l1]
    exact ev_neg (by omega) (ev_now (by simp))
  | succ d ih =>
    intro i hd hi
    have hlt : i < l.length := by omega
    refine ev_succ (g := fun k => doorwardref03_Right.l1 k (n : Int) l (l.length : Int) ((i : Nat) : Int)) ?_
    simp only [doorwardref03_Right.l1]
    refine ev_pos (by omega) (ev_pos (by omega) (ev_pos (by omega) ?_))
    rw [rdT_at l i hlt, any_step _ _ _ hlt]
    obtain ⟨x, hx⟩ : ∃ x, l[i] = x := ⟨_, rfl⟩
    rw [hx]
    have e3 : wrap64 ((i : Int) + 1) = ((i + 1 : Nat) : Int) := by rw [wrap64_id (by omega) (by omega)]; omega
    have hE := ih (i + 1) (by omega) (by omega)
    have hb : badW n x = (!(hasB n x.f0) || !(standsB x.f1)) := rfl
    rw [hb]
    by_cases c1 : x.f0 < 0
    · refine ev_pos c1 (ev_now ?_)
      have : hasB n x.f0 = false := by unfold hasB; rw [decide_eq_false (by omega : ¬ 0 ≤ x.f0)]; rfl
      rw [this]; rfl
    by_cases c2 : x.f0 ≥ (n : Int)
    · refine ev_neg c1 (ev_pos c2 (ev_now ?_))
      have : hasB n x.f0 = false := by unfold hasB; rw [decide_eq_false (by omega : ¬ x.f0 < (n : Int))]; simp
      rw [this]; rfl
    have : hasB n x.f0 = true := by unfold hasB; rw [decide_eq_true (by omega : 0 ≤ x.f0), decide_eq_true (by omega : x.f0 < (n : Int))]; rfl
    rw [this]
    refine ev_neg c1 (ev_neg c2 (ev_bind (refstands_ev x.f1) ?_))
    cases standsB x.f1
    · exact ev_neg (by decide) (ev_now rfl)
    · refine ev_pos rfl ?_
      simp only [e3]
      exact hE
theorem refright_l0 (l : List ByteArray) (m : List S42) (hl : l.length ≤ 256) (hm : m.length ≤ 140737488355328) (d : Nat) : ∀ i : Nat, l.length - i = d → i ≤ l.length →
    Ev (fun k => doorwardref03_Right.l0 k (l.length : Int) l (l.length : Int) (i : Int) l m) ((l.drop i).all standsB && !(m.any (badW l.length))) := by
  induction d with
  | zero =>
    intro i hd hi
    obtain rfl : i = l.length := by omega
    refine ev_succ (g := fun k => doorwardref03_Right.l0 k (l.length : Int) l (l.length : Int) ((l.length : Nat) : Int) l m) ?_
    simp only [doorwardref03_Right.l0]
    refine ev_neg (by omega) ?_
    have := refright_l1 l.length m hm m.length 0 (by omega) (by omega)
    rw [List.drop_length, List.all_nil, Bool.true_and]
    exact this
  | succ d ih =>
    intro i hd hi
    have hlt : i < l.length := by omega
    refine ev_succ (g := fun k => doorwardref03_Right.l0 k (l.length : Int) l (l.length : Int) ((i : Nat) : Int) l m) ?_
    simp only [doorwardref03_Right.l0]
    refine ev_pos (by omega) (ev_pos (by omega) (ev_pos (by omega) ?_))
    rw [rdOf_at l i hlt, all_step _ _ _ hlt]
    have e3 : wrap64 ((i : Int) + 1) = ((i + 1 : Nat) : Int) := by rw [wrap64_id (by omega) (by omega)]; omega
    have hE := ih (i + 1) (by omega) (by omega)
    refine ev_bind (refstands_ev l[i]) ?_
    cases standsB l[i]
    · exact ev_neg (by decide) (ev_now rfl)
    · refine ev_pos rfl ?_
      simp only [e3, Bool.true_and]
      exact hE
theorem refright_ev (l : List ByteArray) (m : List S42) (hm : m.length ≤ 140737488355328) : Ev (fun k => doorwardref03_Right.f k l m) (rightB l m) := by
  unfold doorwardref03_Right.f rightB
  by_cases c1 : (l.length : Int) < 1
  · refine ev_pos c1 ?_
    refine ev_succ (g := fun k => doorwardref03_Right.j0 k (l.length : Int) true l m) ?_
    simp only [doorwardref03_Right.j0]
    rw [decide_eq_false (by omega : ¬ 1 ≤ l.length)]
    exact ev_pos trivial (ev_now rfl)
  refine ev_neg c1 ?_
  refine ev_succ (g := fun k => doorwardref03_Right.j0 k (l.length : Int) (decide ((l.length : Int) > 256)) l m) ?_
  simp only [doorwardref03_Right.j0]
  rw [decide_eq_true (by omega : 1 ≤ l.length)]
  by_cases c2 : (l.length : Int) > 256
  · rw [decide_eq_true c2, decide_eq_false (by omega : ¬ l.length ≤ 256)]
    exact ev_pos rfl (ev_now rfl)
  · rw [decide_eq_false c2, decide_eq_true (by omega : l.length ≤ 256)]
    refine ev_neg (by decide) ?_
    have := refright_l0 l m (by omega) hm l.length 0 (by omega) (by omega)
    simp only [Bool.true_and]
    exact this
end Go.Proofs.YtniplmjbligmlaaDoor.Q

/-! Go functions as Lean functions, each with a proof that the Go code comes to its answers; written by a program of this repository (mk.py, over the printer of the kit). Lean checks it. -/
namespace Go.Proofs.YtniplmjbligmlaaDoor.Q
open Go.RowKit Go.Proofs.YtniplmjbligmlaaDoorW.PrintWords Go.Proofs.YtniplmjbligmlaaDoorW.PrintLast Go.Proofs.YtniplmjbligmlaaDoorW.PrintMore
attribute [local go_sem] max2_int min2_int max_two min_two max_three min_three max_four min_four   -- for this text's walks alone
set_option linter.unusedVariables false
set_option linter.unusedSimpArgs false

/-! ### doorwardref03_Crash: function 23 -/
mutual
def doorwardref03_Crash.l0 : Nat → Bool → List Bool → List ByteArray → Int → Int → List ByteArray → List (S42) → List ByteArray → Option (List ByteArray × (List (S42)))
  | 0, _, _, _, _, _, _, _, _ => none
  | k + 1, x1, x2, x15, x16, x17, x178000, x178001, x180000 => if x17 < x16 then (if 0 ≤ x17 then (if x17 < (x15.length : Int) then (doorwardref03_Crash.l1 k x1 x2 x17 (rdOf ByteArray.empty x15 x17) x15 x16 x17 x178001 (x178001.length : Int) 0 x178000 x178001 x180000) else (none)) else (none)) else (some (x180000, ([] : List (S42))))
def doorwardref03_Crash.l1 : Nat → Bool → List Bool → Int → ByteArray → List ByteArray → Int → Int → List (S42) → Int → Int → List ByteArray → List (S42) → List ByteArray → Option (List ByteArray × (List (S42)))
  | 0, _, _, _, _, _, _, _, _, _, _, _, _, _ => none
  | k + 1, x1, x2, x8, x9, x15, x16, x17, x23, x24, x25, x178000, x178001, x180000 => if x25 < x24 then (if 0 ≤ x25 then (if x25 < (x23.length : Int) then (if x1 = true then (if ((rd_T42 x23 x25).f0) = x8 then (doorwardref03_Crash.l1 k x1 x2 x8 ((rd_T42 x23 x25).f1) x15 x16 x17 x23 x24 (wrap64 (x25 + 1)) x178000 x178001 x180000) else (doorwardref03_Crash.l1 k x1 x2 x8 x9 x15 x16 x17 x23 x24 (wrap64 (x25 + 1)) x178000 x178001 x180000)) else (if x25 < (x2.length : Int) then (if ((rd_T42 x23 x25).f0) = x8 then (if rdOf false x2 x25 = true then (doorwardref03_Crash.l1 k x1 x2 x8 ((rd_T42 x23 x25).f1) x15 x16 x17 x23 x24 (wrap64 (x25 + 1)) x178000 x178001 x180000) else (doorwardref03_Crash.l1 k x1 x2 x8 x9 x15 x16 x17 x23 x24 (wrap64 (x25 + 1)) x178000 x178001 x180000)) else (doorwardref03_Crash.l1 k x1 x2 x8 x9 x15 x16 x17 x23 x24 (wrap64 (x25 + 1)) x178000 x178001 x180000)) else (if ((rd_T42 x23 x25).f0) = x8 then (doorwardref03_Crash.l1 k x1 x2 x8 x9 x15 x16 x17 x23 x24 (wrap64 (x25 + 1)) x178000 x178001 x180000) else (doorwardref03_Crash.l1 k x1 x2 x8 x9 x15 x16 x17 x23 x24 (wrap64 (x25 + 1)) x178000 x178001 x180000)))) else (none)) else (none)) else (if x180000.length < 8796093022208 then (doorwardref03_Crash.l0 k x1 x2 x15 x16 (wrap64 (x17 + 1)) x178000 x178001 (x180000 ++ [x9])) else (none))
end
def doorwardref03_Crash.f (k : Nat) (l0_0 : List ByteArray) (l0_1 : List (S42)) (a1 : Bool) (l2 : List Bool) : Option (List ByteArray × (List (S42))) := doorwardref03_Crash.l0 k a1 l2 l0_0 (l0_0.length : Int) 0 l0_0 l0_1 ([] : List ByteArray)
theorem doorwardref03_Crash.mono_l : ∀ k, (∀ y0 y1 y2 y3 y4 y5 y6 y7, LeO (doorwardref03_Crash.l0 k y0 y1 y2 y3 y4 y5 y6 y7) (doorwardref03_Crash.l0 (k + 1) y0 y1 y2 y3 y4 y5 y6 y7)) ∧ (∀ y0 y1 y2 y3 y4 y5 y6 y7 y8 y9 y10 y11 y12, LeO (doorwardref03_Crash.l1 k y0 y1 y2 y3 y4 y5 y6 y7 y8 y9 y10 y11 y12) (doorwardref03_Crash.l1 (k + 1) y0 y1 y2 y3 y4 y5 y6 y7 y8 y9 y10 y11 y12))
  | 0 => ⟨fun _ _ _ _ _ _ _ _ r h => by simp [doorwardref03_Crash.l0] at h, fun _ _ _ _ _ _ _ _ _ _ _ _ _ r h => by simp [doorwardref03_Crash.l1] at h⟩
  | k + 1 => by
    obtain ⟨ih0, ih1⟩ := doorwardref03_Crash.mono_l k
    refine ⟨?_, ?_⟩
    · intro y0 y1 y2 y3 y4 y5 y6 y7
      unfold doorwardref03_Crash.l0
      repeat' first
      | (with_reducible exact ih0 _ _ _ _ _ _ _ _)
      | (with_reducible exact ih1 _ _ _ _ _ _ _ _ _ _ _ _ _)
      | (with_reducible exact LeO.refl _)
      | (with_reducible exact LeO.none _)
      | (with_reducible refine LeO.ite ?_ ?_)
      | (with_reducible refine LeO.bind ?_ (fun _ => ?_))
      | exact ih0 _ _ _ _ _ _ _ _
      | exact ih1 _ _ _ _ _ _ _ _ _ _ _ _ _
      | exact LeO.none _
      | refine LeO.ite ?_ ?_
      | refine LeO.bind ?_ (fun _ => ?_)
    · intro y0 y1 y2 y3 y4 y5 y6 y7 y8 y9 y10 y11 y12
      unfold doorwardref03_Crash.l1
      repeat' first
      | (with_reducible exact ih0 _ _ _ _ _ _ _ _)
      | (with_reducible exact ih1 _ _ _ _ _ _ _ _ _ _ _ _ _)
      | (with_reducible exact LeO.refl _)
      | (with_reducible exact LeO.none _)
      | (with_reducible refine LeO.ite ?_ ?_)
      | (with_reducible refine LeO.bind ?_ (fun _ => ?_))
      | exact ih0 _ _ _ _ _ _ _ _
      | exact ih1 _ _ _ _ _ _ _ _ _ _ _ _ _
      | exact LeO.none _
      | refine LeO.ite ?_ ?_
      | refine LeO.bind ?_ (fun _ => ?_)
theorem doorwardref03_Crash.mono : ∀ a0 a1 a2 a3 k, LeO (doorwardref03_Crash.f k a0 a1 a2 a3) (doorwardref03_Crash.f (k + 1) a0 a1 a2 a3) := by
  intro a0 a1 a2 a3 k
  obtain ⟨ih0, ih1⟩ := doorwardref03_Crash.mono_l k
  unfold doorwardref03_Crash.f
  repeat' first
      | (with_reducible exact ih0 _ _ _ _ _ _ _ _)
      | (with_reducible exact ih1 _ _ _ _ _ _ _ _ _ _ _ _ _)
      | (with_reducible exact LeO.refl _)
      | (with_reducible exact LeO.none _)
      | (with_reducible refine LeO.ite ?_ ?_)
      | (with_reducible refine LeO.bind ?_ (fun _ => ?_))
      | exact ih0 _ _ _ _ _ _ _ _
      | exact ih1 _ _ _ _ _ _ _ _ _ _ _ _ _
      | exact LeO.none _
      | refine LeO.ite ?_ ?_
      | refine LeO.bind ?_ (fun _ => ?_)
set_option maxHeartbeats 8000000 in
set_option maxRecDepth 100000 in
theorem doorwardref03_Crash.calls (k : Nat) (A0_0 : Option Addr) (c0_0 : Nat) (l0_0 : List ByteArray) (A0_1 : Option Addr) (c0_1 : Nat) (l0_1 : List (S42)) (a1 : Bool) (A2 : Option Addr) (c2 : Nat) (l2 : List Bool) (r1 : List ByteArray) (r2 : List (S42)) (w : World) (hr0_0 : Kd.C Kd.string w A0_0 l0_0.length l0_0) (hc0_0 : l0_0.length ≤ c0_0) (hr0_1 : Kd.C k42 w A0_1 l0_1.length l0_1) (hc0_1 : l0_1.length ≤ c0_1) (hr2 : Kd.C Kd.bool w A2 l2.length l2) (hc2 : l2.length ≤ c2) (h : doorwardref03_Crash.f k l0_0 l0_1 a1 l2 = some (r1, r2)) :
    Calls Tryd.prog 23 #[.agg #[.slice A0_0 l0_0.length c0_0, .slice A0_1 l0_1.length c0_1], .bool a1, .slice A2 l2.length c2] w fun e w' => ∃ v0_ v1_ : Value, e = .returned (.agg #[v0_, v1_]) ∧ Kd.R Kd.string 9 w' w.heap.size (fun _ => True) v0_ r1 ∧ Kd.R k42 42 w' w.heap.size (fun _ => True) v1_ r2 ∧ Below w.heap.size w w' := by
  have hu25 := Tryd.underlying25
  have hu42 := Tryd.underlying42
  have HR0_0 := Aside0.mk hr0_0
  have HC0_0 := Aside0.mk hc0_0
  clear hr0_0 hc0_0
  have HR0_1 := Aside0.mk hr0_1
  have HC0_1 := Aside0.mk hc0_1
  clear hr0_1 hc0_1
  have HR2 := Aside0.mk hr2
  have HC2 := Aside0.mk hc2
  clear hr2 hc2
  have HB := Aside0.mk (Below.refl w.heap.size w)
  have H : (doorwardref03_Crash.l0 k a1 l2 l0_0 (l0_0.length : Int) 0 l0_0 l0_1 ([] : List ByteArray)) = some (r1, r2) := h
  clear h
  have H' := Aside0.mk H
  clear H
  go_enter Tryd.func23, Tryd.ntmps23
  go_wp2_with (first | ((with_reducible refine gate_dst (N := 3) rfl ?_); (try (refine gate_guard (by rfl) ?_; dsimp only)); refine box_event ?hg (N := 3) ?hd (cs := #[.slice A0_0 l0_0.length c0_0, .slice A0_1 l0_1.length c0_1]) (t := 25) ?hr ?_; (case hd => rfl); (case hg => rfl); (case hr => first | (go_simp; done) | (go_simp; rfl)); intro gb177 hg w4 hbox hb; have n0_ := Aside0.mk (below_step (by repeat (first | (with_reducible first | exact HB.out | apply below_alloc | apply pw_below_drewN | apply below_drew1) | exact HB.out)) hb); have n1_ := Aside0.mk (hbox); have n2_ := Aside0.mk ((by rw [hg]; exact (below_size (by repeat (first | (with_reducible first | exact HB.out | apply below_alloc | apply pw_below_drewN | apply below_drew1) | exact HB.out))) : w.heap.size ≤ gb177)); have n3_ := Aside0.mk ((by rw [hg]; exact (below_size (by repeat (first | (with_reducible first | exact HB.out | apply below_alloc | apply pw_below_drewN | apply below_drew1) | exact HB.out))) : w.heap.size ≤ gb177)); clear HB; have HB := n0_; have BK177 := n1_; have GW177 := n2_; have GE177 := n3_; clear n0_ n1_ n2_ n3_; clear hb hbox hg) | ((with_reducible refine gate_dst (N := 6) rfl ?_); (try (refine gate_guard (by rfl) ?_; dsimp only)); refine box_event ?hg (N := 6) ?hd (cs := #[.slice none 0 0, .slice none 0 0]) (t := 25) ?hr ?_; (case hd => rfl); (case hg => rfl); (case hr => first | (go_simp; done) | (go_simp; rfl)); intro gb178 hg w5 hbox hb; have n0_ := Aside0.mk (blk_below (g := gb177) (o := .cells #[.slice A0_0 l0_0.length c0_0, .slice A0_1 l0_1.length c0_1] 25 (0, 0)) (by (with_reducible repeat (first | refine blk_drewN ?_ _ | refine blk_drew ?_ | refine blk_alloc ?_ _)); exact BK177.out) hb); have n1_ := Aside0.mk (below_step (by repeat (first | (with_reducible first | exact HB.out | apply below_alloc | apply pw_below_drewN | apply below_drew1 | refine below_set ?_ GE177.out) | exact HB.out)) hb); have n2_ := Aside0.mk (hbox); have n3_ := Aside0.mk ((by rw [hg]; exact (below_size (by repeat (first | (with_reducible first | exact HB.out | apply below_alloc | apply pw_below_drewN | apply below_drew1 | refine below_set ?_ GE177.out) | exact HB.out))) : w.heap.size ≤ gb178)); have n4_ := Aside0.mk ((by rw [hg]; exact (below_size (by repeat (first | (with_reducible first | exact HB.out | apply below_alloc | apply pw_below_drewN | apply below_drew1 | refine below_set ?_ GE177.out) | exact HB.out))) : w.heap.size ≤ gb178)); have n5_ := Aside0.mk ((by rw [hg]; exact Nat.ne_of_lt (blk_lt (g := gb177) (o := .cells #[.slice A0_0 l0_0.length c0_0, .slice A0_1 l0_1.length c0_1] 25 (0, 0)) (by (with_reducible repeat (first | refine blk_drewN ?_ _ | refine blk_drew ?_ | refine blk_alloc ?_ _)); exact BK177.out)) : gb177 ≠ gb178)); have n6_ := Aside0.mk ((by rw [hg]; exact Nat.ne_of_gt (blk_lt (g := gb177) (o := .cells #[.slice A0_0 l0_0.length c0_0, .slice A0_1 l0_1.length c0_1] 25 (0, 0)) (by (with_reducible repeat (first | refine blk_drewN ?_ _ | refine blk_drew ?_ | refine blk_alloc ?_ _)); exact BK177.out)) : gb178 ≠ gb177)); clear BK177; clear HB; have BK177 := n0_; have HB := n1_; have BK178 := n2_; have GW178 := n3_; have GE178 := n4_; have NB177_178 := n5_; have NB178_177 := n6_; clear n0_ n1_ n2_ n3_ n4_ n5_ n6_; clear hb hbox hg) | ((with_reducible refine gate_dst (N := 7) rfl ?_); (try (refine gate_guard (by rfl) ?_; dsimp only)); refine box_event ?hg (N := 7) ?hd (cs := #[.slice none 0 0, .slice none 0 0]) (t := 25) ?hr ?_; (case hd => rfl); (case hg => rfl); (case hr => first | (go_simp; done) | (go_simp; rfl)); intro gb179 hg w6 hbox hb; have n0_ := Aside0.mk (blk_below (g := gb177) (o := .cells #[.slice A0_0 l0_0.length c0_0, .slice A0_1 l0_1.length c0_1] 25 (0, 0)) (by (with_reducible repeat (first | refine blk_drewN ?_ _ | refine blk_drew ?_ | refine blk_alloc ?_ _)); exact BK177.out) hb); have n1_ := Aside0.mk (blk_below (g := gb178) (o := .cells #[.slice none 0 0, .slice none 0 0] 25 (0, 0)) (by (with_reducible repeat (first | refine blk_drewN ?_ _ | refine blk_drew ?_ | refine blk_alloc ?_ _)); exact BK178.out) hb); have n2_ := Aside0.mk (below_step (by repeat (first | (with_reducible first | exact HB.out | apply below_alloc | apply pw_below_drewN | apply below_drew1 | refine below_set ?_ GE177.out | refine below_set ?_ GE178.out) | exact HB.out)) hb); have n3_ := Aside0.mk (hbox); have n4_ := Aside0.mk ((by rw [hg]; exact (below_size (by repeat (first | (with_reducible first | exact HB.out | apply below_alloc | apply pw_below_drewN | apply below_drew1 | refine below_set ?_ GE177.out | refine below_set ?_ GE178.out) | exact HB.out))) : w.heap.size ≤ gb179)); have n5_ := Aside0.mk ((by rw [hg]; exact (below_size (by repeat (first | (with_reducible first | exact HB.out | apply below_alloc | apply pw_below_drewN | apply below_drew1 | refine below_set ?_ GE177.out | refine below_set ?_ GE178.out) | exact HB.out))) : w.heap.size ≤ gb179)); have n6_ := Aside0.mk ((by rw [hg]; exact Nat.ne_of_lt (blk_lt (g := gb177) (o := .cells #[.slice A0_0 l0_0.length c0_0, .slice A0_1 l0_1.length c0_1] 25 (0, 0)) (by (with_reducible repeat (first | refine blk_drewN ?_ _ | refine blk_drew ?_ | refine blk_alloc ?_ _)); exact BK177.out)) : gb177 ≠ gb179)); have n7_ := Aside0.mk ((by rw [hg]; exact Nat.ne_of_gt (blk_lt (g := gb177) (o := .cells #[.slice A0_0 l0_0.length c0_0, .slice A0_1 l0_1.length c0_1] 25 (0, 0)) (by (with_reducible repeat (first | refine blk_drewN ?_ _ | refine blk_drew ?_ | refine blk_alloc ?_ _)); exact BK177.out)) : gb179 ≠ gb177)); have n8_ := Aside0.mk ((by rw [hg]; exact Nat.ne_of_lt (blk_lt (g := gb178) (o := .cells #[.slice none 0 0, .slice none 0 0] 25 (0, 0)) (by (with_reducible repeat (first | refine blk_drewN ?_ _ | refine blk_drew ?_ | refine blk_alloc ?_ _)); exact BK178.out)) : gb178 ≠ gb179)); have n9_ := Aside0.mk ((by rw [hg]; exact Nat.ne_of_gt (blk_lt (g := gb178) (o := .cells #[.slice none 0 0, .slice none 0 0] 25 (0, 0)) (by (with_reducible repeat (first | refine blk_drewN ?_ _ | refine blk_drew ?_ | refine blk_alloc ?_ _)); exact BK178.out)) : gb179 ≠ gb178)); clear BK177; clear BK178; clear HB; have BK177 := n0_; have BK178 := n1_; have HB := n2_; have BK179 := n3_; have GW179 := n4_; have GE179 := n5_; have NB177_179 := n6_; have NB179_177 := n7_; have NB178_179 := n8_; have NB179_178 := n9_; clear n0_ n1_ n2_ n3_ n4_ n5_ n6_ n7_ n8_ n9_; clear hb hbox hg; have hnb7 := NB179_177.out; have hnc7 := NB177_179.out; have hnb8 := NB179_178.out; have hnc8 := NB178_179.out; have hcz9_0 : w6.cell? ⟨gb179, 0, none⟩ = some (.slice none 0 0) := (blk_cell BK179.out 0).trans rfl; have hcz9_1 : w6.cell? ⟨gb179, 1, none⟩ = some (.slice none 0 0) := (blk_cell BK179.out 1).trans rfl; have hfz9_0 := blk_frozen BK179.out 0; have hfz9_1 := blk_frozen BK179.out 1; have hnb10 := NB177_178.out; have hnc10 := NB178_177.out; have hcz11_0 : w6.cell? ⟨gb177, 0, none⟩ = some (.slice A0_0 l0_0.length c0_0) := (blk_cell BK177.out 0).trans rfl; have hcz11_1 : w6.cell? ⟨gb177, 1, none⟩ = some (.slice A0_1 l0_1.length c0_1) := (blk_cell BK177.out 1).trans rfl; have hfz11_0 := blk_frozen BK177.out 0; have hfz11_1 := blk_frozen BK177.out 1))
  go_loopg [17] k (fun kq v17 w' => ∃ (x17_1 : Int) (x180000_1 : List ByteArray) (u180000 : Value), v17 = .int .i64 x17_1 ∧ Aside0 (doorwardref03_Crash.l0 kq a1 l2 l0_0 (l0_0.length : Int) x17_1 l0_0 l0_1 x180000_1 = some (r1, r2)) ∧ Aside0 (kq ≤ k) ∧ Aside0 (Kd.R Kd.string 9 w' w.heap.size (fun _ => True) u180000 x180000_1) ∧ Aside0 (w'.heap[gb177]? = some (.cells #[(.slice A0_0 l0_0.length c0_0), (.slice A0_1 l0_1.length c0_1)] 25 (0, 0))) ∧ Aside0 (w'.heap[gb178]? = some (.cells #[(.slice none 0 0), (.slice none 0 0)] 25 (0, 0))) ∧ Aside0 (w'.heap[gb179]? = some (.cells #[u180000, (.slice none 0 0)] 25 (0, 0))) ∧ Aside0 (Below w.heap.size w w'))
  case atStart => exact ⟨(0), (([] : List ByteArray)), (.slice none 0 0), (by first | rfl | (simp; done) | (simp [*]; done)), H', ⟨Nat.le_refl _⟩, ⟨by first | exact Kd.R_nil _ _ _ _ _ | exact Kd.N_nil _ _ _ _ _ | exact Kd.V_nil _ _ _ _ _ | exact Kd.Q_nil _ _ _ _ _ | exact Kd.S_nil _ _ _ _ _⟩, ⟨by (with_reducible repeat (first | refine blk_drewN ?_ _ | refine blk_drew ?_ | refine blk_alloc ?_ _)); refine blk_far ?_ NB177_179.out _; (with_reducible repeat (first | refine blk_drewN ?_ _ | refine blk_drew ?_ | refine blk_alloc ?_ _)); refine blk_far ?_ NB177_179.out _; (with_reducible repeat (first | refine blk_drewN ?_ _ | refine blk_drew ?_ | refine blk_alloc ?_ _)); exact BK177.out⟩, ⟨by (with_reducible repeat (first | refine blk_drewN ?_ _ | refine blk_drew ?_ | refine blk_alloc ?_ _)); refine blk_far ?_ NB178_179.out _; (with_reducible repeat (first | refine blk_drewN ?_ _ | refine blk_drew ?_ | refine blk_alloc ?_ _)); refine blk_far ?_ NB178_179.out _; (with_reducible repeat (first | refine blk_drewN ?_ _ | refine blk_drew ?_ | refine blk_alloc ?_ _)); exact BK178.out⟩, ⟨by (with_reducible repeat (first | refine blk_drewN ?_ _ | refine blk_drew ?_ | refine blk_alloc ?_ _)); refine blk_put (cs := #[.slice none 0 0, .slice none 0 0]) ?_ 1 _ rfl; (with_reducible repeat (first | refine blk_drewN ?_ _ | refine blk_drew ?_ | refine blk_alloc ?_ _)); refine blk_put (cs := #[.slice none 0 0, .slice none 0 0]) ?_ 0 _ rfl; (with_reducible repeat (first | refine blk_drewN ?_ _ | refine blk_drew ?_ | refine blk_alloc ?_ _)); exact BK179.out⟩, ⟨by repeat (first | (with_reducible first | exact HB.out | apply below_alloc | apply pw_below_drewN | apply below_drew1 | refine below_set ?_ GE177.out | refine below_set ?_ GE178.out | refine below_set ?_ GE179.out) | exact HB.out)⟩⟩
  case round =>
    clear H'
    try clear c1
    try clear c2
    try clear p2
    try clear c7
    try clear c8
    try clear c10
    try clear hcz11_0
    try clear hcz11_1
    try clear hcz9_0
    try clear hcz9_1
    try clear hfz11_0
    try clear hfz11_1
    try clear hfz9_0
    try clear hfz9_1
    obtain ⟨x17_1, x180000_1, u180000, rfl, HA, HK1, HO_180000, BK177, BK178, BK179, HB⟩ := hrel
    cases gk with
    | zero => exact absurd HA.out (by simp [doorwardref03_Crash.l0])
    | succ k1 =>
      have H := HA.out
      clear HA
      simp only [doorwardref03_Crash.l0] at H
      by_cases c12 : x17_1 < (l0_0.length : Int)
      · rw [if_pos c12] at H
        have c12b0 : decide (x17_1 < (l0_0.length : Int)) = true := decide_eq_true c12
        clear c12
        by_cases c13 : 0 ≤ x17_1
        · rw [if_pos c13] at H
          have c13b0 : decide (0 ≤ x17_1) = true := decide_eq_true c13
          clear c13
          by_cases c14 : x17_1 < (l0_0.length : Int)
          · rw [if_pos c14] at H
            have c14b0 : decide (x17_1 < (l0_0.length : Int)) = true := decide_eq_true c14
            clear c14
            have H' := Aside0.mk H
            clear H
            have p180 : 0 ≤ (x17_1 : Int) := of_decide_eq_true (by first | (with_reducible assumption) | assumption)
            have q180 : x17_1 < (l0_0.length : Int) := of_decide_eq_true (by first | (with_reducible assumption) | assumption)
            obtain ⟨ad180, e180, hx180_0⟩ := Kd.at_string HR0_0.out x17_1 p180 q180
            cases e180
            replace hx180_0 := (HB.out.cell (World.block_lt_of_cell? w _ hx180_0)).trans hx180_0
            replace p180 := eq_true p180
            replace q180 := eq_true q180
            have hnb15 := NB177_178.out
            have hnc15 := NB178_177.out
            have hnb16 := NB177_179.out
            have hnc16 := NB179_177.out
            have hcz17_0 : wr.cell? ⟨gb177, 0, none⟩ = some (.slice (some ad180) l0_0.length c0_0) := (blk_cell BK177.out 0).trans rfl
            have hcz17_1 : wr.cell? ⟨gb177, 1, none⟩ = some (.slice A0_1 l0_1.length c0_1) := (blk_cell BK177.out 1).trans rfl
            have hfz17_0 := blk_frozen BK177.out 0
            have hfz17_1 := blk_frozen BK177.out 1
            go_wp2
            go_loopg [9, 25] k1 (fun kq v9 v25 w' => ∃ (x9_2 : ByteArray) (x25_2 : Int), v9 = .string x9_2 ∧ v25 = .int .i64 x25_2 ∧ Aside0 (doorwardref03_Crash.l1 kq a1 l2 x17_1 x9_2 l0_0 (l0_0.length : Int) x17_1 l0_1 (l0_1.length : Int) x25_2 l0_0 l0_1 x180000_1 = some (r1, r2)) ∧ Aside0 (kq ≤ k1) ∧ Aside0 (Kd.R Kd.string 9 w' w.heap.size (fun _ => True) u180000 x180000_1) ∧ Aside0 (w'.heap[gb177]? = some (.cells #[(.slice (some ad180) l0_0.length c0_0), (.slice A0_1 l0_1.length c0_1)] 25 (0, 0))) ∧ Aside0 (w'.heap[gb178]? = some (.cells #[(.slice none 0 0), (.slice none 0 0)] 25 (0, 0))) ∧ Aside0 (w'.heap[gb179]? = some (.cells #[u180000, (.slice none 0 0)] 25 (0, 0))) ∧ Aside0 (Below w.heap.size w w'))
            case atStart => exact ⟨(rdOf ByteArray.empty l0_0 x17_1), (0), (by first | rfl | (simp; done) | (simp [*]; done)), (by first | rfl | (simp; done) | (simp [*]; done)), H', ⟨Nat.le_refl _⟩, ⟨by (with_reducible repeat (first | apply Kd.R_alloc | apply Kd.R_drewN | apply Kd.R_drew)); exact HO_180000.out⟩, ⟨by (with_reducible repeat (first | refine blk_drewN ?_ _ | refine blk_drew ?_ | refine blk_alloc ?_ _)); exact BK177.out⟩, ⟨by (with_reducible repeat (first | refine blk_drewN ?_ _ | refine blk_drew ?_ | refine blk_alloc ?_ _)); exact BK178.out⟩, ⟨by (with_reducible repeat (first | refine blk_drewN ?_ _ | refine blk_drew ?_ | refine blk_alloc ?_ _)); exact BK179.out⟩, ⟨by repeat (first | (with_reducible first | exact HB.out | apply below_alloc | apply pw_below_drewN | apply below_drew1 | refine below_set ?_ GE177.out | refine below_set ?_ GE178.out | refine below_set ?_ GE179.out) | exact HB.out)⟩⟩
            case round =>
              clear H'
              try clear c1
              try clear p1
              try clear q1
              try clear hx1
              try clear c2
              try clear p2
              try clear c7
              try clear c8
              try clear c10
              try clear c12
              try clear c12b0
              try clear c13
              try clear c13b0
              try clear c14
              try clear c14b0
              try clear c15
              try clear c16
              try clear hcz11_0
              try clear hcz11_1
              try clear hcz17_0
              try clear hcz17_1
              try clear hcz9_0
              try clear hcz9_1
              try clear hfz11_0
              try clear hfz11_1
              try clear hfz17_0
              try clear hfz17_1
              try clear hfz9_0
              try clear hfz9_1
              try clear hx180_0
              try clear p180
              try clear p2
              try clear q180
              obtain ⟨x9_2, x25_2, rfl, rfl, HA, HK2, HO_180000, BK177, BK178, BK179, HB⟩ := hrel
              cases gk with
              | zero => exact absurd HA.out (by simp [doorwardref03_Crash.l1])
              | succ k2 =>
                have H := HA.out
                clear HA
                simp only [doorwardref03_Crash.l1] at H
                by_cases c18 : x25_2 < (l0_1.length : Int)
                · rw [if_pos c18] at H
                  have c18b0 : decide (x25_2 < (l0_1.length : Int)) = true := decide_eq_true c18
                  clear c18
                  by_cases c19 : 0 ≤ x25_2
                  · rw [if_pos c19] at H
                    have c19b0 : decide (0 ≤ x25_2) = true := decide_eq_true c19
                    clear c19
                    by_cases c20 : x25_2 < (l0_1.length : Int)
                    · rw [if_pos c20] at H
                      have c20b0 : decide (x25_2 < (l0_1.length : Int)) = true := decide_eq_true c20
                      clear c20
                      by_cases c21 : a1 = true
                      · subst c21
                        have H1 : (if ((rd_T42 l0_1 x25_2).f0) = x17_1 then (doorwardref03_Crash.l1 k2 true l2 x17_1 ((rd_T42 l0_1 x25_2).f1) l0_0 (l0_0.length : Int) x17_1 l0_1 (l0_1.length : Int) (wrap64 (x25_2 + 1)) l0_0 l0_1 x180000_1) else (doorwardref03_Crash.l1 k2 true l2 x17_1 x9_2 l0_0 (l0_0.length : Int) x17_1 l0_1 (l0_1.length : Int) (wrap64 (x25_2 + 1)) l0_0 l0_1 x180000_1)) = some (r1, r2) := by rw [if_pos rfl] at H; exact H
                        clear H
                        have H := H1
                        clear H1
                        by_cases c22 : ((rd_T42 l0_1 x25_2).f0) = x17_1
                        · rw [if_pos c22] at H
                          have c22b0 : (((rd_T42 l0_1 x25_2).f0) == x17_1) = true := beq_iff_eq.mpr c22
                          have c22b1 : (((rd_T42 l0_1 x25_2).f0) != x17_1) = false := bne_eq_false_iff_eq.mpr c22
                          clear c22
                          have H' := Aside0.mk H
                          clear H
                          have p181 : 0 ≤ (x25_2 : Int) := of_decide_eq_true (by first | (with_reducible assumption) | assumption)
                          have q181 : x25_2 < (l0_1.length : Int) := of_decide_eq_true (by first | (with_reducible assumption) | assumption)
                          obtain ⟨ad181, e181, hx181_0, hx181_1⟩ := at_T42 HR0_1.out x25_2 p181 q181
                          cases e181
                          replace hx181_0 := (HB.out.cell (World.block_lt_of_cell? w _ hx181_0)).trans hx181_0
                          replace hx181_1 := (HB.out.cell (World.block_lt_of_cell? w _ hx181_1)).trans hx181_1
                          replace p181 := eq_true p181
                          replace q181 := eq_true q181
                          go_wp2_with (first | ((with_reducible refine gate_dst (N := 11) rfl ?_); (try (refine gate_guard (by rfl) ?_; dsimp only)); refine box_event ?hg (N := 11) ?hd (cs := #[.int .i64 0, .string (⟨#[]⟩ : ByteArray)]) (t := 42) ?hr ?_; (case hd => rfl); (case hg => rfl); (case hr => first | (go_simp; done) | (go_simp; rfl)); intro gb182 hg w23 hbox hb; have n0_ := Aside0.mk (Kd.R_below (by (with_reducible repeat (first | apply Kd.R_alloc | apply Kd.R_drewN | apply Kd.R_drew)); exact HO_180000.out) hb); have n1_ := Aside0.mk (blk_below (g := gb177) (o := .cells #[.slice (some ad180) l0_0.length c0_0, .slice (some ad181) l0_1.length c0_1] 25 (0, 0)) (by (with_reducible repeat (first | refine blk_drewN ?_ _ | refine blk_drew ?_ | refine blk_alloc ?_ _)); exact BK177.out) hb); have n2_ := Aside0.mk (blk_below (g := gb178) (o := .cells #[.slice none 0 0, .slice none 0 0] 25 (0, 0)) (by (with_reducible repeat (first | refine blk_drewN ?_ _ | refine blk_drew ?_ | refine blk_alloc ?_ _)); exact BK178.out) hb); have n3_ := Aside0.mk (blk_below (g := gb179) (o := .cells #[u180000, .slice none 0 0] 25 (0, 0)) (by (with_reducible repeat (first | refine blk_drewN ?_ _ | refine blk_drew ?_ | refine blk_alloc ?_ _)); exact BK179.out) hb); have n4_ := Aside0.mk (below_step (by repeat (first | (with_reducible first | exact HB.out | apply below_alloc | apply pw_below_drewN | apply below_drew1 | refine below_set ?_ GE177.out | refine below_set ?_ GE178.out | refine below_set ?_ GE179.out) | exact HB.out)) hb); have n5_ := Aside0.mk (hbox); have n6_ := Aside0.mk ((by rw [hg]; exact (below_size (by repeat (first | (with_reducible first | exact HB.out | apply below_alloc | apply pw_below_drewN | apply below_drew1 | refine below_set ?_ GE177.out | refine below_set ?_ GE178.out | refine below_set ?_ GE179.out) | exact HB.out))) : w.heap.size ≤ gb182)); have n7_ := Aside0.mk ((by rw [hg]; exact (below_size (by repeat (first | (with_reducible first | exact HB.out | apply below_alloc | apply pw_below_drewN | apply below_drew1 | refine below_set ?_ GE177.out | refine below_set ?_ GE178.out | refine below_set ?_ GE179.out) | exact HB.out))) : w.heap.size ≤ gb182)); have n8_ := Aside0.mk ((by rw [hg]; exact Nat.ne_of_lt (blk_lt (g := gb177) (o := .cells #[.slice (some ad180) l0_0.length c0_0, .slice (some ad181) l0_1.length c0_1] 25 (0, 0)) (by (with_reducible repeat (first | refine blk_drewN ?_ _ | refine blk_drew ?_ | refine blk_alloc ?_ _)); exact BK177.out)) : gb177 ≠ gb182)); have n9_ := Aside0.mk ((by rw [hg]; exact Nat.ne_of_gt (blk_lt (g := gb177) (o := .cells #[.slice (some ad180) l0_0.length c0_0, .slice (some ad181) l0_1.length c0_1] 25 (0, 0)) (by (with_reducible repeat (first | refine blk_drewN ?_ _ | refine blk_drew ?_ | refine blk_alloc ?_ _)); exact BK177.out)) : gb182 ≠ gb177)); have n10_ := Aside0.mk ((by rw [hg]; exact Nat.ne_of_lt (blk_lt (g := gb178) (o := .cells #[.slice none 0 0, .slice none 0 0] 25 (0, 0)) (by (with_reducible repeat (first | refine blk_drewN ?_ _ | refine blk_drew ?_ | refine blk_alloc ?_ _)); exact BK178.out)) : gb178 ≠ gb182)); have n11_ := Aside0.mk ((by rw [hg]; exact Nat.ne_of_gt (blk_lt (g := gb178) (o := .cells #[.slice none 0 0, .slice none 0 0] 25 (0, 0)) (by (with_reducible repeat (first | refine blk_drewN ?_ _ | refine blk_drew ?_ | refine blk_alloc ?_ _)); exact BK178.out)) : gb182 ≠ gb178)); have n12_ := Aside0.mk ((by rw [hg]; exact Nat.ne_of_lt (blk_lt (g := gb179) (o := .cells #[u180000, .slice none 0 0] 25 (0, 0)) (by (with_reducible repeat (first | refine blk_drewN ?_ _ | refine blk_drew ?_ | refine blk_alloc ?_ _)); exact BK179.out)) : gb179 ≠ gb182)); have n13_ := Aside0.mk ((by rw [hg]; exact Nat.ne_of_gt (blk_lt (g := gb179) (o := .cells #[u180000, .slice none 0 0] 25 (0, 0)) (by (with_reducible repeat (first | refine blk_drewN ?_ _ | refine blk_drew ?_ | refine blk_alloc ?_ _)); exact BK179.out)) : gb182 ≠ gb179)); clear HO_180000; clear BK177; clear BK178; clear BK179; clear HB; have HO_180000 := n0_; have BK177 := n1_; have BK178 := n2_; have BK179 := n3_; have HB := n4_; have BK182 := n5_; have GW182 := n6_; have GE182 := n7_; have NB177_182 := n8_; have NB182_177 := n9_; have NB178_182 := n10_; have NB182_178 := n11_; have NB179_182 := n12_; have NB182_179 := n13_; clear n0_ n1_ n2_ n3_ n4_ n5_ n6_ n7_ n8_ n9_ n10_ n11_ n12_ n13_; clear hb hbox hg; have hnb24 := NB182_177.out; have hnc24 := NB177_182.out; have hnb25 := NB182_178.out; have hnc25 := NB178_182.out; have hnb26 := NB182_179.out; have hnc26 := NB179_182.out; have hcz27_0 : w23.cell? ⟨gb182, 0, none⟩ = some (.int .i64 0) := (blk_cell BK182.out 0).trans rfl; have hcz27_1 : w23.cell? ⟨gb182, 1, none⟩ = some (.string (⟨#[]⟩ : ByteArray)) := (blk_cell BK182.out 1).trans rfl; have hfz27_0 := blk_frozen BK182.out 0; have hfz27_1 := blk_frozen BK182.out 1))
                          go_roundg k2
                          case measure => have := HK1.out; have := HK2.out; omega
                          case rel => exact ⟨((rd_T42 l0_1 x25_2).f1), (wrap64 (x25_2 + 1)), (by first | rfl | (simp; done) | (simp [*]; done)), (by first | rfl | (simp; done) | (simp [*]; done)), H', ⟨by have := HK1.out; have := HK2.out; omega⟩, ⟨by (with_reducible repeat (first | apply Kd.R_alloc | apply Kd.R_drewN | apply Kd.R_drew)); exact Kd.R_mono (Kd.R_far (p := ⟨gb182, 1, none⟩) (Kd.R_far (p := ⟨gb182, 0, none⟩) (Kd.R_types HO_180000.out BK182.out (by decide)) (fun _ hk => hk.2) (.int .i64 ((rd_T42 l0_1 x25_2).f0))) (fun _ hk => hk.2) (.string ((rd_T42 l0_1 x25_2).f1))) (fun _ hk => trivial)⟩, ⟨by (with_reducible repeat (first | refine blk_drewN ?_ _ | refine blk_drew ?_ | refine blk_alloc ?_ _)); refine blk_far ?_ NB177_182.out _; (with_reducible repeat (first | refine blk_drewN ?_ _ | refine blk_drew ?_ | refine blk_alloc ?_ _)); refine blk_far ?_ NB177_182.out _; (with_reducible repeat (first | refine blk_drewN ?_ _ | refine blk_drew ?_ | refine blk_alloc ?_ _)); exact BK177.out⟩, ⟨by (with_reducible repeat (first | refine blk_drewN ?_ _ | refine blk_drew ?_ | refine blk_alloc ?_ _)); refine blk_far ?_ NB178_182.out _; (with_reducible repeat (first | refine blk_drewN ?_ _ | refine blk_drew ?_ | refine blk_alloc ?_ _)); refine blk_far ?_ NB178_182.out _; (with_reducible repeat (first | refine blk_drewN ?_ _ | refine blk_drew ?_ | refine blk_alloc ?_ _)); exact BK178.out⟩, ⟨by (with_reducible repeat (first | refine blk_drewN ?_ _ | refine blk_drew ?_ | refine blk_alloc ?_ _)); refine blk_far ?_ NB179_182.out _; (with_reducible repeat (first | refine blk_drewN ?_ _ | refine blk_drew ?_ | refine blk_alloc ?_ _)); refine blk_far ?_ NB179_182.out _; (with_reducible repeat (first | refine blk_drewN ?_ _ | refine blk_drew ?_ | refine blk_alloc ?_ _)); exact BK179.out⟩, ⟨by repeat (first | (with_reducible first | exact HB.out | apply below_alloc | apply pw_below_drewN | apply below_drew1 | refine below_set ?_ GE177.out | refine below_set ?_ GE178.out | refine below_set ?_ GE179.out | refine below_set ?_ GE182.out) | exact HB.out)⟩⟩
                        · rw [if_neg c22] at H
                          have c22b0 : (((rd_T42 l0_1 x25_2).f0) == x17_1) = false := beq_eq_false_iff_ne.mpr c22
                          have c22b1 : (((rd_T42 l0_1 x25_2).f0) != x17_1) = true := bne_iff_ne.mpr c22
                          have H' := Aside0.mk H
                          clear H
                          have p181 : 0 ≤ (x25_2 : Int) := of_decide_eq_true (by first | (with_reducible assumption) | assumption)
                          have q181 : x25_2 < (l0_1.length : Int) := of_decide_eq_true (by first | (with_reducible assumption) | assumption)
                          obtain ⟨ad181, e181, hx181_0, hx181_1⟩ := at_T42 HR0_1.out x25_2 p181 q181
                          cases e181
                          replace hx181_0 := (HB.out.cell (World.block_lt_of_cell? w _ hx181_0)).trans hx181_0
                          replace hx181_1 := (HB.out.cell (World.block_lt_of_cell? w _ hx181_1)).trans hx181_1
                          replace p181 := eq_true p181
                          replace q181 := eq_true q181
                          go_wp2_with (first | ((with_reducible refine gate_dst (N := 11) rfl ?_); (try (refine gate_guard (by rfl) ?_; dsimp only)); refine box_event ?hg (N := 11) ?hd (cs := #[.int .i64 0, .string (⟨#[]⟩ : ByteArray)]) (t := 42) ?hr ?_; (case hd => rfl); (case hg => rfl); (case hr => first | (go_simp; done) | (go_simp; rfl)); intro gb182 hg w28 hbox hb; have n0_ := Aside0.mk (Kd.R_below (by (with_reducible repeat (first | apply Kd.R_alloc | apply Kd.R_drewN | apply Kd.R_drew)); exact HO_180000.out) hb); have n1_ := Aside0.mk (blk_below (g := gb177) (o := .cells #[.slice (some ad180) l0_0.length c0_0, .slice (some ad181) l0_1.length c0_1] 25 (0, 0)) (by (with_reducible repeat (first | refine blk_drewN ?_ _ | refine blk_drew ?_ | refine blk_alloc ?_ _)); exact BK177.out) hb); have n2_ := Aside0.mk (blk_below (g := gb178) (o := .cells #[.slice none 0 0, .slice none 0 0] 25 (0, 0)) (by (with_reducible repeat (first | refine blk_drewN ?_ _ | refine blk_drew ?_ | refine blk_alloc ?_ _)); exact BK178.out) hb); have n3_ := Aside0.mk (blk_below (g := gb179) (o := .cells #[u180000, .slice none 0 0] 25 (0, 0)) (by (with_reducible repeat (first | refine blk_drewN ?_ _ | refine blk_drew ?_ | refine blk_alloc ?_ _)); exact BK179.out) hb); have n4_ := Aside0.mk (below_step (by repeat (first | (with_reducible first | exact HB.out | apply below_alloc | apply pw_below_drewN | apply below_drew1 | refine below_set ?_ GE177.out | refine below_set ?_ GE178.out | refine below_set ?_ GE179.out) | exact HB.out)) hb); have n5_ := Aside0.mk (hbox); have n6_ := Aside0.mk ((by rw [hg]; exact (below_size (by repeat (first | (with_reducible first | exact HB.out | apply below_alloc | apply pw_below_drewN | apply below_drew1 | refine below_set ?_ GE177.out | refine below_set ?_ GE178.out | refine below_set ?_ GE179.out) | exact HB.out))) : w.heap.size ≤ gb182)); have n7_ := Aside0.mk ((by rw [hg]; exact (below_size (by repeat (first | (with_reducible first | exact HB.out | apply below_alloc | apply pw_below_drewN | apply below_drew1 | refine below_set ?_ GE177.out | refine below_set ?_ GE178.out | refine below_set ?_ GE179.out) | exact HB.out))) : w.heap.size ≤ gb182)); have n8_ := Aside0.mk ((by rw [hg]; exact Nat.ne_of_lt (blk_lt (g := gb177) (o := .cells #[.slice (some ad180) l0_0.length c0_0, .slice (some ad181) l0_1.length c0_1] 25 (0, 0)) (by (with_reducible repeat (first | refine blk_drewN ?_ _ | refine blk_drew ?_ | refine blk_alloc ?_ _)); exact BK177.out)) : gb177 ≠ gb182)); have n9_ := Aside0.mk ((by rw [hg]; exact Nat.ne_of_gt (blk_lt (g := gb177) (o := .cells #[.slice (some ad180) l0_0.length c0_0, .slice (some ad181) l0_1.length c0_1] 25 (0, 0)) (by (with_reducible repeat (first | refine blk_drewN ?_ _ | refine blk_drew ?_ | refine blk_alloc ?_ _)); exact BK177.out)) : gb182 ≠ gb177)); have n10_ := Aside0.mk ((by rw [hg]; exact Nat.ne_of_lt (blk_lt (g := gb178) (o := .cells #[.slice none 0 0, .slice none 0 0] 25 (0, 0)) (by (with_reducible repeat (first | refine blk_drewN ?_ _ | refine blk_drew ?_ | refine blk_alloc ?_ _)); exact BK178.out)) : gb178 ≠ gb182)); have n11_ := Aside0.mk ((by rw [hg]; exact Nat.ne_of_gt (blk_lt (g := gb178) (o := .cells #[.slice none 0 0, .slice none 0 0] 25 (0, 0)) (by (with_reducible repeat (first | refine blk_drewN ?_ _ | refine blk_drew ?_ | refine blk_alloc ?_ _)); exact BK178.out)) : gb182 ≠ gb178)); have n12_ := Aside0.mk ((by rw [hg]; exact Nat.ne_of_lt (blk_lt (g := gb179) (o := .cells #[u180000, .slice none 0 0] 25 (0, 0)) (by (with_reducible repeat (first | refine blk_drewN ?_ _ | refine blk_drew ?_ | refine blk_alloc ?_ _)); exact BK179.out)) : gb179 ≠ gb182)); have n13_ := Aside0.mk ((by rw [hg]; exact Nat.ne_of_gt (blk_lt (g := gb179) (o := .cells #[u180000, .slice none 0 0] 25 (0, 0)) (by (with_reducible repeat (first | refine blk_drewN ?_ _ | refine blk_drew ?_ | refine blk_alloc ?_ _)); exact BK179.out)) : gb182 ≠ gb179)); clear HO_180000; clear BK177; clear BK178; clear BK179; clear HB; have HO_180000 := n0_; have BK177 := n1_; have BK178 := n2_; have BK179 := n3_; have HB := n4_; have BK182 := n5_; have GW182 := n6_; have GE182 := n7_; have NB177_182 := n8_; have NB182_177 := n9_; have NB178_182 := n10_; have NB182_178 := n11_; have NB179_182 := n12_; have NB182_179 := n13_; clear n0_ n1_ n2_ n3_ n4_ n5_ n6_ n7_ n8_ n9_ n10_ n11_ n12_ n13_; clear hb hbox hg; have hnb29 := NB182_177.out; have hnc29 := NB177_182.out; have hnb30 := NB182_178.out; have hnc30 := NB178_182.out; have hnb31 := NB182_179.out; have hnc31 := NB179_182.out; have hcz32_0 : w28.cell? ⟨gb182, 0, none⟩ = some (.int .i64 0) := (blk_cell BK182.out 0).trans rfl; have hcz32_1 : w28.cell? ⟨gb182, 1, none⟩ = some (.string (⟨#[]⟩ : ByteArray)) := (blk_cell BK182.out 1).trans rfl; have hfz32_0 := blk_frozen BK182.out 0; have hfz32_1 := blk_frozen BK182.out 1))
                          go_roundg k2
                          case measure => have := HK1.out; have := HK2.out; omega
                          case rel => exact ⟨(x9_2), (wrap64 (x25_2 + 1)), (by first | rfl | (simp; done) | (simp [*]; done)), (by first | rfl | (simp; done) | (simp [*]; done)), H', ⟨by have := HK1.out; have := HK2.out; omega⟩, ⟨by (with_reducible repeat (first | apply Kd.R_alloc | apply Kd.R_drewN | apply Kd.R_drew)); exact Kd.R_mono (Kd.R_far (p := ⟨gb182, 1, none⟩) (Kd.R_far (p := ⟨gb182, 0, none⟩) (Kd.R_types HO_180000.out BK182.out (by decide)) (fun _ hk => hk.2) (.int .i64 ((rd_T42 l0_1 x25_2).f0))) (fun _ hk => hk.2) (.string ((rd_T42 l0_1 x25_2).f1))) (fun _ hk => trivial)⟩, ⟨by (with_reducible repeat (first | refine blk_drewN ?_ _ | refine blk_drew ?_ | refine blk_alloc ?_ _)); refine blk_far ?_ NB177_182.out _; (with_reducible repeat (first | refine blk_drewN ?_ _ | refine blk_drew ?_ | refine blk_alloc ?_ _)); refine blk_far ?_ NB177_182.out _; (with_reducible repeat (first | refine blk_drewN ?_ _ | refine blk_drew ?_ | refine blk_alloc ?_ _)); exact BK177.out⟩, ⟨by (with_reducible repeat (first | refine blk_drewN ?_ _ | refine blk_drew ?_ | refine blk_alloc ?_ _)); refine blk_far ?_ NB178_182.out _; (with_reducible repeat (first | refine blk_drewN ?_ _ | refine blk_drew ?_ | refine blk_alloc ?_ _)); refine blk_far ?_ NB178_182.out _; (with_reducible repeat (first | refine blk_drewN ?_ _ | refine blk_drew ?_ | refine blk_alloc ?_ _)); exact BK178.out⟩, ⟨by (with_reducible repeat (first | refine blk_drewN ?_ _ | refine blk_drew ?_ | refine blk_alloc ?_ _)); refine blk_far ?_ NB179_182.out _; (with_reducible repeat (first | refine blk_drewN ?_ _ | refine blk_drew ?_ | refine blk_alloc ?_ _)); refine blk_far ?_ NB179_182.out _; (with_reducible repeat (first | refine blk_drewN ?_ _ | refine blk_drew ?_ | refine blk_alloc ?_ _)); exact BK179.out⟩, ⟨by repeat (first | (with_reducible first | exact HB.out | apply below_alloc | apply pw_below_drewN | apply below_drew1 | refine below_set ?_ GE177.out | refine below_set ?_ GE178.out | refine below_set ?_ GE179.out | refine below_set ?_ GE182.out) | exact HB.out)⟩⟩
                      · replace c21 := Bool.eq_false_iff.mpr c21
                        subst c21
                        have H1 : (if x25_2 < (l2.length : Int) then (if ((rd_T42 l0_1 x25_2).f0) = x17_1 then (if rdOf false l2 x25_2 = true then (doorwardref03_Crash.l1 k2 false l2 x17_1 ((rd_T42 l0_1 x25_2).f1) l0_0 (l0_0.length : Int) x17_1 l0_1 (l0_1.length : Int) (wrap64 (x25_2 + 1)) l0_0 l0_1 x180000_1) else (doorwardref03_Crash.l1 k2 false l2 x17_1 x9_2 l0_0 (l0_0.length : Int) x17_1 l0_1 (l0_1.length : Int) (wrap64 (x25_2 + 1)) l0_0 l0_1 x180000_1)) else (doorwardref03_Crash.l1 k2 false l2 x17_1 x9_2 l0_0 (l0_0.length : Int) x17_1 l0_1 (l0_1.length : Int) (wrap64 (x25_2 + 1)) l0_0 l0_1 x180000_1)) else (if ((rd_T42 l0_1 x25_2).f0) = x17_1 then (doorwardref03_Crash.l1 k2 false l2 x17_1 x9_2 l0_0 (l0_0.length : Int) x17_1 l0_1 (l0_1.length : Int) (wrap64 (x25_2 + 1)) l0_0 l0_1 x180000_1) else (doorwardref03_Crash.l1 k2 false l2 x17_1 x9_2 l0_0 (l0_0.length : Int) x17_1 l0_1 (l0_1.length : Int) (wrap64 (x25_2 + 1)) l0_0 l0_1 x180000_1))) = some (r1, r2) := by rw [if_neg (show ¬ (false = true) by decide)] at H; exact H
                        clear H
                        have H := H1
                        clear H1
                        by_cases c33 : x25_2 < (l2.length : Int)
                        · rw [if_pos c33] at H
                          have c33b0 : decide (x25_2 < (l2.length : Int)) = true := decide_eq_true c33
                          clear c33
                          by_cases c34 : ((rd_T42 l0_1 x25_2).f0) = x17_1
                          · rw [if_pos c34] at H
                            have c34b0 : (((rd_T42 l0_1 x25_2).f0) == x17_1) = true := beq_iff_eq.mpr c34
                            have c34b1 : (((rd_T42 l0_1 x25_2).f0) != x17_1) = false := bne_eq_false_iff_eq.mpr c34
                            clear c34
                            obtain ⟨bq35, hbq35⟩ : ∃ b_ : Bool, b_ = (rdOf false l2 x25_2) := ⟨_, rfl⟩
                            replace H : (if bq35 = true then (doorwardref03_Crash.l1 k2 false l2 x17_1 ((rd_T42 l0_1 x25_2).f1) l0_0 (l0_0.length : Int) x17_1 l0_1 (l0_1.length : Int) (wrap64 (x25_2 + 1)) l0_0 l0_1 x180000_1) else (doorwardref03_Crash.l1 k2 false l2 x17_1 x9_2 l0_0 (l0_0.length : Int) x17_1 l0_1 (l0_1.length : Int) (wrap64 (x25_2 + 1)) l0_0 l0_1 x180000_1)) = some (r1, r2) := by rw [← hbq35] at H; exact H
                            have Nbq35 := Aside0.mk hbq35
                            clear hbq35
                            by_cases c36 : bq35 = true
                            · subst c36
                              have H1 : (doorwardref03_Crash.l1 k2 false l2 x17_1 ((rd_T42 l0_1 x25_2).f1) l0_0 (l0_0.length : Int) x17_1 l0_1 (l0_1.length : Int) (wrap64 (x25_2 + 1)) l0_0 l0_1 x180000_1) = some (r1, r2) := by rw [if_pos rfl] at H; exact H
                              clear H
                              have H := H1
                              clear H1
                              have H' := Aside0.mk H
                              clear H
                              have p181 : 0 ≤ (x25_2 : Int) := of_decide_eq_true (by first | (with_reducible assumption) | assumption)
                              have q181 : x25_2 < (l0_1.length : Int) := of_decide_eq_true (by first | (with_reducible assumption) | assumption)
                              obtain ⟨ad181, e181, hx181_0, hx181_1⟩ := at_T42 HR0_1.out x25_2 p181 q181
                              cases e181
                              replace hx181_0 := (HB.out.cell (World.block_lt_of_cell? w _ hx181_0)).trans hx181_0
                              replace hx181_1 := (HB.out.cell (World.block_lt_of_cell? w _ hx181_1)).trans hx181_1
                              replace p181 := eq_true p181
                              replace q181 := eq_true q181
                              go_wp2_with (first | ((with_reducible refine gate_dst (N := 11) rfl ?_); (try (refine gate_guard (by rfl) ?_; dsimp only)); refine box_event ?hg (N := 11) ?hd (cs := #[.int .i64 0, .string (⟨#[]⟩ : ByteArray)]) (t := 42) ?hr ?_; (case hd => rfl); (case hg => rfl); (case hr => first | (go_simp; done) | (go_simp; rfl)); intro gb182 hg w37 hbox hb; have n0_ := Aside0.mk (Kd.R_below (by (with_reducible repeat (first | apply Kd.R_alloc | apply Kd.R_drewN | apply Kd.R_drew)); exact HO_180000.out) hb); have n1_ := Aside0.mk (blk_below (g := gb177) (o := .cells #[.slice (some ad180) l0_0.length c0_0, .slice (some ad181) l0_1.length c0_1] 25 (0, 0)) (by (with_reducible repeat (first | refine blk_drewN ?_ _ | refine blk_drew ?_ | refine blk_alloc ?_ _)); exact BK177.out) hb); have n2_ := Aside0.mk (blk_below (g := gb178) (o := .cells #[.slice none 0 0, .slice none 0 0] 25 (0, 0)) (by (with_reducible repeat (first | refine blk_drewN ?_ _ | refine blk_drew ?_ | refine blk_alloc ?_ _)); exact BK178.out) hb); have n3_ := Aside0.mk (blk_below (g := gb179) (o := .cells #[u180000, .slice none 0 0] 25 (0, 0)) (by (with_reducible repeat (first | refine blk_drewN ?_ _ | refine blk_drew ?_ | refine blk_alloc ?_ _)); exact BK179.out) hb); have n4_ := Aside0.mk (below_step (by repeat (first | (with_reducible first | exact HB.out | apply below_alloc | apply pw_below_drewN | apply below_drew1 | refine below_set ?_ GE177.out | refine below_set ?_ GE178.out | refine below_set ?_ GE179.out) | exact HB.out)) hb); have n5_ := Aside0.mk (hbox); have n6_ := Aside0.mk ((by rw [hg]; exact (below_size (by repeat (first | (with_reducible first | exact HB.out | apply below_alloc | apply pw_below_drewN | apply below_drew1 | refine below_set ?_ GE177.out | refine below_set ?_ GE178.out | refine below_set ?_ GE179.out) | exact HB.out))) : w.heap.size ≤ gb182)); have n7_ := Aside0.mk ((by rw [hg]; exact (below_size (by repeat (first | (with_reducible first | exact HB.out | apply below_alloc | apply pw_below_drewN | apply below_drew1 | refine below_set ?_ GE177.out | refine below_set ?_ GE178.out | refine below_set ?_ GE179.out) | exact HB.out))) : w.heap.size ≤ gb182)); have n8_ := Aside0.mk ((by rw [hg]; exact Nat.ne_of_lt (blk_lt (g := gb177) (o := .cells #[.slice (some ad180) l0_0.length c0_0, .slice (some ad181) l0_1.length c0_1] 25 (0, 0)) (by (with_reducible repeat (first | refine blk_drewN ?_ _ | refine blk_drew ?_ | refine blk_alloc ?_ _)); exact BK177.out)) : gb177 ≠ gb182)); have n9_ := Aside0.mk ((by rw [hg]; exact Nat.ne_of_gt (blk_lt (g := gb177) (o := .cells #[.slice (some ad180) l0_0.length c0_0, .slice (some ad181) l0_1.length c0_1] 25 (0, 0)) (by (with_reducible repeat (first | refine blk_drewN ?_ _ | refine blk_drew ?_ | refine blk_alloc ?_ _)); exact BK177.out)) : gb182 ≠ gb177)); have n10_ := Aside0.mk ((by rw [hg]; exact Nat.ne_of_lt (blk_lt (g := gb178) (o := .cells #[.slice none 0 0, .slice none 0 0] 25 (0, 0)) (by (with_reducible repeat (first | refine blk_drewN ?_ _ | refine blk_drew ?_ | refine blk_alloc ?_ _)); exact BK178.out)) : gb178 ≠ gb182)); have n11_ := Aside0.mk ((by rw [hg]; exact Nat.ne_of_gt (blk_lt (g := gb178) (o := .cells #[.slice none 0 0, .slice none 0 0] 25 (0, 0)) (by (with_reducible repeat (first | refine blk_drewN ?_ _ | refine blk_drew ?_ | refine blk_alloc ?_ _)); exact BK178.out)) : gb182 ≠ gb178)); have n12_ := Aside0.mk ((by rw [hg]; exact Nat.ne_of_lt (blk_lt (g := gb179) (o := .cells #[u180000, .slice none 0 0] 25 (0, 0)) (by (with_reducible repeat (first | refine blk_drewN ?_ _ | refine blk_drew ?_ | refine blk_alloc ?_ _)); exact BK179.out)) : gb179 ≠ gb182)); have n13_ := Aside0.mk ((by rw [hg]; exact Nat.ne_of_gt (blk_lt (g := gb179) (o := .cells #[u180000, .slice none 0 0] 25 (0, 0)) (by (with_reducible repeat (first | refine blk_drewN ?_ _ | refine blk_drew ?_ | refine blk_alloc ?_ _)); exact BK179.out)) : gb182 ≠ gb179)); clear HO_180000; clear BK177; clear BK178; clear BK179; clear HB; have HO_180000 := n0_; have BK177 := n1_; have BK178 := n2_; have BK179 := n3_; have HB := n4_; have BK182 := n5_; have GW182 := n6_; have GE182 := n7_; have NB177_182 := n8_; have NB182_177 := n9_; have NB178_182 := n10_; have NB182_178 := n11_; have NB179_182 := n12_; have NB182_179 := n13_; clear n0_ n1_ n2_ n3_ n4_ n5_ n6_ n7_ n8_ n9_ n10_ n11_ n12_ n13_; clear hb hbox hg; have hnb38 := NB182_177.out; have hnc38 := NB177_182.out; have hnb39 := NB182_178.out; have hnc39 := NB178_182.out; have hnb40 := NB182_179.out; have hnc40 := NB179_182.out; have hcz41_0 : w37.cell? ⟨gb182, 0, none⟩ = some (.int .i64 0) := (blk_cell BK182.out 0).trans rfl; have hcz41_1 : w37.cell? ⟨gb182, 1, none⟩ = some (.string (⟨#[]⟩ : ByteArray)) := (blk_cell BK182.out 1).trans rfl; have hfz41_0 := blk_frozen BK182.out 0; have hfz41_1 := blk_frozen BK182.out 1; have p183 : 0 ≤ (x25_2 : Int) := of_decide_eq_true (by first | (with_reducible assumption) | assumption); have q183 : x25_2 < (l2.length : Int) := of_decide_eq_true (by first | (with_reducible assumption) | assumption); obtain ⟨ad183, e183, hx183_0⟩ := Kd.at_bool HR2.out x25_2 p183 q183; (try rw [← Nbq35.out] at hx183_0); cases e183; have hn183_0 : ad183.block ≠ gb182 := Nat.ne_of_lt (Nat.lt_of_lt_of_le (by have := World.block_lt_of_cell? _ _ hx183_0; first | rwa [add_block] at this | exact this) GW182.out); have hn183_1 : ad183.block ≠ gb182 := Nat.ne_of_lt (Nat.lt_of_lt_of_le (by have := World.block_lt_of_cell? _ _ hx183_0; first | rwa [add_block] at this | exact this) GW182.out); replace hx183_0 := (HB.out.cell (World.block_lt_of_cell? w _ hx183_0)).trans hx183_0; replace hx183_0 := (cell_far (p := ⟨gb182, 0, none⟩) (by first | (rw [add_block]; exact hn183_0) | (show (Addr.add _ _).block ≠ _; rw [add_block]; exact hn183_0) | exact hn183_0) (.int .i64 ((rd_T42 l0_1 x25_2).f0))).trans hx183_0; replace hx183_0 := (cell_far (p := ⟨gb182, 1, none⟩) (by first | (rw [add_block]; exact hn183_1) | (show (Addr.add _ _).block ≠ _; rw [add_block]; exact hn183_1) | exact hn183_1) (.string ((rd_T42 l0_1 x25_2).f1))).trans hx183_0; clear hn183_0; clear hn183_1; replace p183 := eq_true p183; replace q183 := eq_true q183))
                              go_roundg k2
                              case measure => have := HK1.out; have := HK2.out; omega
                              case rel => exact ⟨((rd_T42 l0_1 x25_2).f1), (wrap64 (x25_2 + 1)), (by first | rfl | (simp; done) | (simp [*]; done)), (by first | rfl | (simp; done) | (simp [*]; done)), H', ⟨by have := HK1.out; have := HK2.out; omega⟩, ⟨by (with_reducible repeat (first | apply Kd.R_alloc | apply Kd.R_drewN | apply Kd.R_drew)); exact Kd.R_mono (Kd.R_far (p := ⟨gb182, 1, none⟩) (Kd.R_far (p := ⟨gb182, 0, none⟩) (Kd.R_types HO_180000.out BK182.out (by decide)) (fun _ hk => hk.2) (.int .i64 ((rd_T42 l0_1 x25_2).f0))) (fun _ hk => hk.2) (.string ((rd_T42 l0_1 x25_2).f1))) (fun _ hk => trivial)⟩, ⟨by (with_reducible repeat (first | refine blk_drewN ?_ _ | refine blk_drew ?_ | refine blk_alloc ?_ _)); refine blk_far ?_ NB177_182.out _; (with_reducible repeat (first | refine blk_drewN ?_ _ | refine blk_drew ?_ | refine blk_alloc ?_ _)); refine blk_far ?_ NB177_182.out _; (with_reducible repeat (first | refine blk_drewN ?_ _ | refine blk_drew ?_ | refine blk_alloc ?_ _)); exact BK177.out⟩, ⟨by (with_reducible repeat (first | refine blk_drewN ?_ _ | refine blk_drew ?_ | refine blk_alloc ?_ _)); refine blk_far ?_ NB178_182.out _; (with_reducible repeat (first | refine blk_drewN ?_ _ | refine blk_drew ?_ | refine blk_alloc ?_ _)); refine blk_far ?_ NB178_182.out _; (with_reducible repeat (first | refine blk_drewN ?_ _ | refine blk_drew ?_ | refine blk_alloc ?_ _)); exact BK178.out⟩, ⟨by (with_reducible repeat (first | refine blk_drewN ?_ _ | refine blk_drew ?_ | refine blk_alloc ?_ _)); refine blk_far ?_ NB179_182.out _; (with_reducible repeat (first | refine blk_drewN ?_ _ | refine blk_drew ?_ | refine blk_alloc ?_ _)); refine blk_far ?_ NB179_182.out _; (with_reducible repeat (first | refine blk_drewN ?_ _ | refine blk_drew ?_ | refine blk_alloc ?_ _)); exact BK179.out⟩, ⟨by repeat (first | (with_reducible first | exact HB.out | apply below_alloc | apply pw_below_drewN | apply below_drew1 | refine below_set ?_ GE177.out | refine below_set ?_ GE178.out | refine below_set ?_ GE179.out | refine below_set ?_ GE182.out) | exact HB.out)⟩⟩
                            · replace c36 := Bool.eq_false_iff.mpr c36
                              subst c36
                              have H1 : (doorwardref03_Crash.l1 k2 false l2 x17_1 x9_2 l0_0 (l0_0.length : Int) x17_1 l0_1 (l0_1.length : Int) (wrap64 (x25_2 + 1)) l0_0 l0_1 x180000_1) = some (r1, r2) := by rw [if_neg (show ¬ (false = true) by decide)] at H; exact H
                              clear H
                              have H := H1
                              clear H1
                              have H' := Aside0.mk H
                              clear H
                              have p181 : 0 ≤ (x25_2 : Int) := of_decide_eq_true (by first | (with_reducible assumption) | assumption)
                              have q181 : x25_2 < (l0_1.length : Int) := of_decide_eq_true (by first | (with_reducible assumption) | assumption)
                              obtain ⟨ad181, e181, hx181_0, hx181_1⟩ := at_T42 HR0_1.out x25_2 p181 q181
                              cases e181
                              replace hx181_0 := (HB.out.cell (World.block_lt_of_cell? w _ hx181_0)).trans hx181_0
                              replace hx181_1 := (HB.out.cell (World.block_lt_of_cell? w _ hx181_1)).trans hx181_1
                              replace p181 := eq_true p181
                              replace q181 := eq_true q181
                              go_wp2_with (first | ((with_reducible refine gate_dst (N := 11) rfl ?_); (try (refine gate_guard (by rfl) ?_; dsimp only)); refine box_event ?hg (N := 11) ?hd (cs := #[.int .i64 0, .string (⟨#[]⟩ : ByteArray)]) (t := 42) ?hr ?_; (case hd => rfl); (case hg => rfl); (case hr => first | (go_simp; done) | (go_simp; rfl)); intro gb182 hg w42 hbox hb; have n0_ := Aside0.mk (Kd.R_below (by (with_reducible repeat (first | apply Kd.R_alloc | apply Kd.R_drewN | apply Kd.R_drew)); exact HO_180000.out) hb); have n1_ := Aside0.mk (blk_below (g := gb177) (o := .cells #[.slice (some ad180) l0_0.length c0_0, .slice (some ad181) l0_1.length c0_1] 25 (0, 0)) (by (with_reducible repeat (first | refine blk_drewN ?_ _ | refine blk_drew ?_ | refine blk_alloc ?_ _)); exact BK177.out) hb); have n2_ := Aside0.mk (blk_below (g := gb178) (o := .cells #[.slice none 0 0, .slice none 0 0] 25 (0, 0)) (by (with_reducible repeat (first | refine blk_drewN ?_ _ | refine blk_drew ?_ | refine blk_alloc ?_ _)); exact BK178.out) hb); have n3_ := Aside0.mk (blk_below (g := gb179) (o := .cells #[u180000, .slice none 0 0] 25 (0, 0)) (by (with_reducible repeat (first | refine blk_drewN ?_ _ | refine blk_drew ?_ | refine blk_alloc ?_ _)); exact BK179.out) hb); have n4_ := Aside0.mk (below_step (by repeat (first | (with_reducible first | exact HB.out | apply below_alloc | apply pw_below_drewN | apply below_drew1 | refine below_set ?_ GE177.out | refine below_set ?_ GE178.out | refine below_set ?_ GE179.out) | exact HB.out)) hb); have n5_ := Aside0.mk (hbox); have n6_ := Aside0.mk ((by rw [hg]; exact (below_size (by repeat (first | (with_reducible first | exact HB.out | apply below_alloc | apply pw_below_drewN | apply below_drew1 | refine below_set ?_ GE177.out | refine below_set ?_ GE178.out | refine below_set ?_ GE179.out) | exact HB.out))) : w.heap.size ≤ gb182)); have n7_ := Aside0.mk ((by rw [hg]; exact (below_size (by repeat (first | (with_reducible first | exact HB.out | apply below_alloc | apply pw_below_drewN | apply below_drew1 | refine below_set ?_ GE177.out | refine below_set ?_ GE178.out | refine below_set ?_ GE179.out) | exact HB.out))) : w.heap.size ≤ gb182)); have n8_ := Aside0.mk ((by rw [hg]; exact Nat.ne_of_lt (blk_lt (g := gb177) (o := .cells #[.slice (some ad180) l0_0.length c0_0, .slice (some ad181) l0_1.length c0_1] 25 (0, 0)) (by (with_reducible repeat (first | refine blk_drewN ?_ _ | refine blk_drew ?_ | refine blk_alloc ?_ _)); exact BK177.out)) : gb177 ≠ gb182)); have n9_ := Aside0.mk ((by rw [hg]; exact Nat.ne_of_gt (blk_lt (g := gb177) (o := .cells #[.slice (some ad180) l0_0.length c0_0, .slice (some ad181) l0_1.length c0_1] 25 (0, 0)) (by (with_reducible repeat (first | refine blk_drewN ?_ _ | refine blk_drew ?_ | refine blk_alloc ?_ _)); exact BK177.out)) : gb182 ≠ gb177)); have n10_ := Aside0.mk ((by rw [hg]; exact Nat.ne_of_lt (blk_lt (g := gb178) (o := .cells #[.slice none 0 0, .slice none 0 0] 25 (0, 0)) (by (with_reducible repeat (first | refine blk_drewN ?_ _ | refine blk_drew ?_ | refine blk_alloc ?_ _)); exact BK178.out)) : gb178 ≠ gb182)); have n11_ := Aside0.mk ((by rw [hg]; exact Nat.ne_of_gt (blk_lt (g := gb178) (o := .cells #[.slice none 0 0, .slice none 0 0] 25 (0, 0)) (by (with_reducible repeat (first | refine blk_drewN ?_ _ | refine blk_drew ?_ | refine blk_alloc ?_ _)); exact BK178.out)) : gb182 ≠ gb178)); have n12_ := Aside0.mk ((by rw [hg]; exact Nat.ne_of_lt (blk_lt (g := gb179) (o := .cells #[u180000, .slice none 0 0] 25 (0, 0)) (by (with_reducible repeat (first | refine blk_drewN ?_ _ | refine blk_drew ?_ | refine blk_alloc ?_ _)); exact BK179.out)) : gb179 ≠ gb182)); have n13_ := Aside0.mk ((by rw [hg]; exact Nat.ne_of_gt (blk_lt (g := gb179) (o := .cells #[u180000, .slice none 0 0] 25 (0, 0)) (by (with_reducible repeat (first | refine blk_drewN ?_ _ | refine blk_drew ?_ | refine blk_alloc ?_ _)); exact BK179.out)) : gb182 ≠ gb179)); clear HO_180000; clear BK177; clear BK178; clear BK179; clear HB; have HO_180000 := n0_; have BK177 := n1_; have BK178 := n2_; have BK179 := n3_; have HB := n4_; have BK182 := n5_; have GW182 := n6_; have GE182 := n7_; have NB177_182 := n8_; have NB182_177 := n9_; have NB178_182 := n10_; have NB182_178 := n11_; have NB179_182 := n12_; have NB182_179 := n13_; clear n0_ n1_ n2_ n3_ n4_ n5_ n6_ n7_ n8_ n9_ n10_ n11_ n12_ n13_; clear hb hbox hg; have hnb43 := NB182_177.out; have hnc43 := NB177_182.out; have hnb44 := NB182_178.out; have hnc44 := NB178_182.out; have hnb45 := NB182_179.out; have hnc45 := NB179_182.out; have hcz46_0 : w42.cell? ⟨gb182, 0, none⟩ = some (.int .i64 0) := (blk_cell BK182.out 0).trans rfl; have hcz46_1 : w42.cell? ⟨gb182, 1, none⟩ = some (.string (⟨#[]⟩ : ByteArray)) := (blk_cell BK182.out 1).trans rfl; have hfz46_0 := blk_frozen BK182.out 0; have hfz46_1 := blk_frozen BK182.out 1; have p183 : 0 ≤ (x25_2 : Int) := of_decide_eq_true (by first | (with_reducible assumption) | assumption); have q183 : x25_2 < (l2.length : Int) := of_decide_eq_true (by first | (with_reducible assumption) | assumption); obtain ⟨ad183, e183, hx183_0⟩ := Kd.at_bool HR2.out x25_2 p183 q183; (try rw [← Nbq35.out] at hx183_0); cases e183; have hn183_0 : ad183.block ≠ gb182 := Nat.ne_of_lt (Nat.lt_of_lt_of_le (by have := World.block_lt_of_cell? _ _ hx183_0; first | rwa [add_block] at this | exact this) GW182.out); have hn183_1 : ad183.block ≠ gb182 := Nat.ne_of_lt (Nat.lt_of_lt_of_le (by have := World.block_lt_of_cell? _ _ hx183_0; first | rwa [add_block] at this | exact this) GW182.out); replace hx183_0 := (HB.out.cell (World.block_lt_of_cell? w _ hx183_0)).trans hx183_0; replace hx183_0 := (cell_far (p := ⟨gb182, 0, none⟩) (by first | (rw [add_block]; exact hn183_0) | (show (Addr.add _ _).block ≠ _; rw [add_block]; exact hn183_0) | exact hn183_0) (.int .i64 ((rd_T42 l0_1 x25_2).f0))).trans hx183_0; replace hx183_0 := (cell_far (p := ⟨gb182, 1, none⟩) (by first | (rw [add_block]; exact hn183_1) | (show (Addr.add _ _).block ≠ _; rw [add_block]; exact hn183_1) | exact hn183_1) (.string ((rd_T42 l0_1 x25_2).f1))).trans hx183_0; clear hn183_0; clear hn183_1; replace p183 := eq_true p183; replace q183 := eq_true q183))
                              go_roundg k2
                              case measure => have := HK1.out; have := HK2.out; omega
                              case rel => exact ⟨(x9_2), (wrap64 (x25_2 + 1)), (by first | rfl | (simp; done) | (simp [*]; done)), (by first | rfl | (simp; done) | (simp [*]; done)), H', ⟨by have := HK1.out; have := HK2.out; omega⟩, ⟨by (with_reducible repeat (first | apply Kd.R_alloc | apply Kd.R_drewN | apply Kd.R_drew)); exact Kd.R_mono (Kd.R_far (p := ⟨gb182, 1, none⟩) (Kd.R_far (p := ⟨gb182, 0, none⟩) (Kd.R_types HO_180000.out BK182.out (by decide)) (fun _ hk => hk.2) (.int .i64 ((rd_T42 l0_1 x25_2).f0))) (fun _ hk => hk.2) (.string ((rd_T42 l0_1 x25_2).f1))) (fun _ hk => trivial)⟩, ⟨by (with_reducible repeat (first | refine blk_drewN ?_ _ | refine blk_drew ?_ | refine blk_alloc ?_ _)); refine blk_far ?_ NB177_182.out _; (with_reducible repeat (first | refine blk_drewN ?_ _ | refine blk_drew ?_ | refine blk_alloc ?_ _)); refine blk_far ?_ NB177_182.out _; (with_reducible repeat (first | refine blk_drewN ?_ _ | refine blk_drew ?_ | refine blk_alloc ?_ _)); exact BK177.out⟩, ⟨by (with_reducible repeat (first | refine blk_drewN ?_ _ | refine blk_drew ?_ | refine blk_alloc ?_ _)); refine blk_far ?_ NB178_182.out _; (with_reducible repeat (first | refine blk_drewN ?_ _ | refine blk_drew ?_ | refine blk_alloc ?_ _)); refine blk_far ?_ NB178_182.out _; (with_reducible repeat (first | refine blk_drewN ?_ _ | refine blk_drew ?_ | refine blk_alloc ?_ _)); exact BK178.out⟩, ⟨by (with_reducible repeat (first | refine blk_drewN ?_ _ | refine blk_drew ?_ | refine blk_alloc ?_ _)); refine blk_far ?_ NB179_182.out _; (with_reducible repeat (first | refine blk_drewN ?_ _ | refine blk_drew ?_ | refine blk_alloc ?_ _)); refine blk_far ?_ NB179_182.out _; (with_reducible repeat (first | refine blk_drewN ?_ _ | refine blk_drew ?_ | refine blk_alloc ?_ _)); exact BK179.out⟩, ⟨by repeat (first | (with_reducible first | exact HB.out | apply below_alloc | apply pw_below_drewN | apply below_drew1 | refine below_set ?_ GE177.out | refine below_set ?_ GE178.out | refine below_set ?_ GE179.out | refine below_set ?_ GE182.out) | exact HB.out)⟩⟩
                          · rw [if_neg c34] at H
                            have c34b0 : (((rd_T42 l0_1 x25_2).f0) == x17_1) = false := beq_eq_false_iff_ne.mpr c34
                            have c34b1 : (((rd_T42 l0_1 x25_2).f0) != x17_1) = true := bne_iff_ne.mpr c34
                            have H' := Aside0.mk H
                            clear H
                            have p181 : 0 ≤ (x25_2 : Int) := of_decide_eq_true (by first | (with_reducible assumption) | assumption)
                            have q181 : x25_2 < (l0_1.length : Int) := of_decide_eq_true (by first | (with_reducible assumption) | assumption)
                            obtain ⟨ad181, e181, hx181_0, hx181_1⟩ := at_T42 HR0_1.out x25_2 p181 q181
                            cases e181
                            replace hx181_0 := (HB.out.cell (World.block_lt_of_cell? w _ hx181_0)).trans hx181_0
                            replace hx181_1 := (HB.out.cell (World.block_lt_of_cell? w _ hx181_1)).trans hx181_1
                            replace p181 := eq_true p181
                            replace q181 := eq_true q181
                            go_wp2_with (first | ((with_reducible refine gate_dst (N := 11) rfl ?_); (try (refine gate_guard (by rfl) ?_; dsimp only)); refine box_event ?hg (N := 11) ?hd (cs := #[.int .i64 0, .string (⟨#[]⟩ : ByteArray)]) (t := 42) ?hr ?_; (case hd => rfl); (case hg => rfl); (case hr => first | (go_simp; done) | (go_simp; rfl)); intro gb182 hg w47 hbox hb; have n0_ := Aside0.mk (Kd.R_below (by (with_reducible repeat (first | apply Kd.R_alloc | apply Kd.R_drewN | apply Kd.R_drew)); exact HO_180000.out) hb); have n1_ := Aside0.mk (blk_below (g := gb177) (o := .cells #[.slice (some ad180) l0_0.length c0_0, .slice (some ad181) l0_1.length c0_1] 25 (0, 0)) (by (with_reducible repeat (first | refine blk_drewN ?_ _ | refine blk_drew ?_ | refine blk_alloc ?_ _)); exact BK177.out) hb); have n2_ := Aside0.mk (blk_below (g := gb178) (o := .cells #[.slice none 0 0, .slice none 0 0] 25 (0, 0)) (by (with_reducible repeat (first | refine blk_drewN ?_ _ | refine blk_drew ?_ | refine blk_alloc ?_ _)); exact BK178.out) hb); have n3_ := Aside0.mk (blk_below (g := gb179) (o := .cells #[u180000, .slice none 0 0] 25 (0, 0)) (by (with_reducible repeat (first | refine blk_drewN ?_ _ | refine blk_drew ?_ | refine blk_alloc ?_ _)); exact BK179.out) hb); have n4_ := Aside0.mk (below_step (by repeat (first | (with_reducible first | exact HB.out | apply below_alloc | apply pw_below_drewN | apply below_drew1 | refine below_set ?_ GE177.out | refine below_set ?_ GE178.out | refine below_set ?_ GE179.out) | exact HB.out)) hb); have n5_ := Aside0.mk (hbox); have n6_ := Aside0.mk ((by rw [hg]; exact (below_size (by repeat (first | (with_reducible first | exact HB.out | apply below_alloc | apply pw_below_drewN | apply below_drew1 | refine below_set ?_ GE177.out | refine below_set ?_ GE178.out | refine below_set ?_ GE179.out) | exact HB.out))) : w.heap.size ≤ gb182)); have n7_ := Aside0.mk ((by rw [hg]; exact (below_size (by repeat (first | (with_reducible first | exact HB.out | apply below_alloc | apply pw_below_drewN | apply below_drew1 | refine below_set ?_ GE177.out | refine below_set ?_ GE178.out | refine below_set ?_ GE179.out) | exact HB.out))) : w.heap.size ≤ gb182)); have n8_ := Aside0.mk ((by rw [hg]; exact Nat.ne_of_lt (blk_lt (g := gb177) (o := .cells #[.slice (some ad180) l0_0.length c0_0, .slice (some ad181) l0_1.length c0_1] 25 (0, 0)) (by (with_reducible repeat (first | refine blk_drewN ?_ _ | refine blk_drew ?_ | refine blk_alloc ?_ _)); exact BK177.out)) : gb177 ≠ gb182)); have n9_ := Aside0.mk ((by rw [hg]; exact Nat.ne_of_gt (blk_lt (g := gb177) (o := .cells #[.slice (some ad180) l0_0.length c0_0, .slice (some ad181) l0_1.length c0_1] 25 (0, 0)) (by (with_reducible repeat (first | refine blk_drewN ?_ _ | refine blk_drew ?_ | refine blk_alloc ?_ _)); exact BK177.out)) : gb182 ≠ gb177)); have n10_ := Aside0.mk ((by rw [hg]; exact Nat.ne_of_lt (blk_lt (g := gb178) (o := .cells #[.slice none 0 0, .slice none 0 0] 25 (0, 0)) (by (with_reducible repeat (first | refine blk_drewN ?_ _ | refine blk_drew ?_ | refine blk_alloc ?_ _)); exact BK178.out)) : gb178 ≠ gb182)); have n11_ := Aside0.mk ((by rw [hg]; exact Nat.ne_of_gt (blk_lt (g := gb178) (o := .cells #[.slice none 0 0, .slice none 0 0] 25 (0, 0)) (by (with_reducible repeat (first | refine blk_drewN ?_ _ | refine blk_drew ?_ | refine blk_alloc ?_ _)); exact BK178.out)) : gb182 ≠ gb178)); have n12_ := Aside0.mk ((by rw [hg]; exact Nat.ne_of_lt (blk_lt (g := gb179) (o := .cells #[u180000, .slice none 0 0] 25 (0, 0)) (by (with_reducible repeat (first | refine blk_drewN ?_ _ | refine blk_drew ?_ | refine blk_alloc ?_ _)); exact BK179.out)) : gb179 ≠ gb182)); have n13_ := Aside0.mk ((by rw [hg]; exact Nat.ne_of_gt (blk_lt (g := gb179) (o := .cells #[u180000, .slice none 0 0] 25 (0, 0)) (by (with_reducible repeat (first | refine blk_drewN ?_ _ | refine blk_drew ?_ | refine blk_alloc ?_ _)); exact BK179.out)) : gb182 ≠ gb179)); clear HO_180000; clear BK177; clear BK178; clear BK179; clear HB; have HO_180000 := n0_; have BK177 := n1_; have BK178 := n2_; have BK179 := n3_; have HB := n4_; have BK182 := n5_; have GW182 := n6_; have GE182 := n7_; have NB177_182 := n8_; have NB182_177 := n9_; have NB178_182 := n10_; have NB182_178 := n11_; have NB179_182 := n12_; have NB182_179 := n13_; clear n0_ n1_ n2_ n3_ n4_ n5_ n6_ n7_ n8_ n9_ n10_ n11_ n12_ n13_; clear hb hbox hg; have hnb48 := NB182_177.out; have hnc48 := NB177_182.out; have hnb49 := NB182_178.out; have hnc49 := NB178_182.out; have hnb50 := NB182_179.out; have hnc50 := NB179_182.out; have hcz51_0 : w47.cell? ⟨gb182, 0, none⟩ = some (.int .i64 0) := (blk_cell BK182.out 0).trans rfl; have hcz51_1 : w47.cell? ⟨gb182, 1, none⟩ = some (.string (⟨#[]⟩ : ByteArray)) := (blk_cell BK182.out 1).trans rfl; have hfz51_0 := blk_frozen BK182.out 0; have hfz51_1 := blk_frozen BK182.out 1; have p183 : 0 ≤ (x25_2 : Int) := of_decide_eq_true (by first | (with_reducible assumption) | assumption); have q183 : x25_2 < (l2.length : Int) := of_decide_eq_true (by first | (with_reducible assumption) | assumption); obtain ⟨ad183, e183, hx183_0⟩ := Kd.at_bool HR2.out x25_2 p183 q183; cases e183; have hn183_0 : ad183.block ≠ gb182 := Nat.ne_of_lt (Nat.lt_of_lt_of_le (by have := World.block_lt_of_cell? _ _ hx183_0; first | rwa [add_block] at this | exact this) GW182.out); have hn183_1 : ad183.block ≠ gb182 := Nat.ne_of_lt (Nat.lt_of_lt_of_le (by have := World.block_lt_of_cell? _ _ hx183_0; first | rwa [add_block] at this | exact this) GW182.out); replace hx183_0 := (HB.out.cell (World.block_lt_of_cell? w _ hx183_0)).trans hx183_0; replace hx183_0 := (cell_far (p := ⟨gb182, 0, none⟩) (by first | (rw [add_block]; exact hn183_0) | (show (Addr.add _ _).block ≠ _; rw [add_block]; exact hn183_0) | exact hn183_0) (.int .i64 ((rd_T42 l0_1 x25_2).f0))).trans hx183_0; replace hx183_0 := (cell_far (p := ⟨gb182, 1, none⟩) (by first | (rw [add_block]; exact hn183_1) | (show (Addr.add _ _).block ≠ _; rw [add_block]; exact hn183_1) | exact hn183_1) (.string ((rd_T42 l0_1 x25_2).f1))).trans hx183_0; clear hn183_0; clear hn183_1; replace p183 := eq_true p183; replace q183 := eq_true q183))
                            go_roundg k2
                            case measure => have := HK1.out; have := HK2.out; omega
                            case rel => exact ⟨(x9_2), (wrap64 (x25_2 + 1)), (by first | rfl | (simp; done) | (simp [*]; done)), (by first | rfl | (simp; done) | (simp [*]; done)), H', ⟨by have := HK1.out; have := HK2.out; omega⟩, ⟨by (with_reducible repeat (first | apply Kd.R_alloc | apply Kd.R_drewN | apply Kd.R_drew)); exact Kd.R_mono (Kd.R_far (p := ⟨gb182, 1, none⟩) (Kd.R_far (p := ⟨gb182, 0, none⟩) (Kd.R_types HO_180000.out BK182.out (by decide)) (fun _ hk => hk.2) (.int .i64 ((rd_T42 l0_1 x25_2).f0))) (fun _ hk => hk.2) (.string ((rd_T42 l0_1 x25_2).f1))) (fun _ hk => trivial)⟩, ⟨by (with_reducible repeat (first | refine blk_drewN ?_ _ | refine blk_drew ?_ | refine blk_alloc ?_ _)); refine blk_far ?_ NB177_182.out _; (with_reducible repeat (first | refine blk_drewN ?_ _ | refine blk_drew ?_ | refine blk_alloc ?_ _)); refine blk_far ?_ NB177_182.out _; (with_reducible repeat (first | refine blk_drewN ?_ _ | refine blk_drew ?_ | refine blk_alloc ?_ _)); exact BK177.out⟩, ⟨by (with_reducible repeat (first | refine blk_drewN ?_ _ | refine blk_drew ?_ | refine blk_alloc ?_ _)); refine blk_far ?_ NB178_182.out _; (with_reducible repeat (first | refine blk_drewN ?_ _ | refine blk_drew ?_ | refine blk_alloc ?_ _)); refine blk_far ?_ NB178_182.out _; (with_reducible repeat (first | refine blk_drewN ?_ _ | refine blk_drew ?_ | refine blk_alloc ?_ _)); exact BK178.out⟩, ⟨by (with_reducible repeat (first | refine blk_drewN ?_ _ | refine blk_drew ?_ | refine blk_alloc ?_ _)); refine blk_far ?_ NB179_182.out _; (with_reducible repeat (first | refine blk_drewN ?_ _ | refine blk_drew ?_ | refine blk_alloc ?_ _)); refine blk_far ?_ NB179_182.out _; (with_reducible repeat (first | refine blk_drewN ?_ _ | refine blk_drew ?_ | refine blk_alloc ?_ _)); exact BK179.out⟩, ⟨by repeat (first | (with_reducible first | exact HB.out | apply below_alloc | apply pw_below_drewN | apply below_drew1 | refine below_set ?_ GE177.out | refine below_set ?_ GE178.out | refine below_set ?_ GE179.out | refine below_set ?_ GE182.out) | exact HB.out)⟩⟩
                        · rw [if_neg c33] at H
                          have c33b0 : decide (x25_2 < (l2.length : Int)) = false := decide_eq_false c33
                          clear c33
                          by_cases c52 : ((rd_T42 l0_1 x25_2).f0) = x17_1
                          · rw [if_pos c52] at H
                            have c52b0 : (((rd_T42 l0_1 x25_2).f0) == x17_1) = true := beq_iff_eq.mpr c52
                            have c52b1 : (((rd_T42 l0_1 x25_2).f0) != x17_1) = false := bne_eq_false_iff_eq.mpr c52
                            clear c52
                            have H' := Aside0.mk H
                            clear H
                            have p181 : 0 ≤ (x25_2 : Int) := of_decide_eq_true (by first | (with_reducible assumption) | assumption)
                            have q181 : x25_2 < (l0_1.length : Int) := of_decide_eq_true (by first | (with_reducible assumption) | assumption)
                            obtain ⟨ad181, e181, hx181_0, hx181_1⟩ := at_T42 HR0_1.out x25_2 p181 q181
                            cases e181
                            replace hx181_0 := (HB.out.cell (World.block_lt_of_cell? w _ hx181_0)).trans hx181_0
                            replace hx181_1 := (HB.out.cell (World.block_lt_of_cell? w _ hx181_1)).trans hx181_1
                            replace p181 := eq_true p181
                            replace q181 := eq_true q181
                            go_wp2_with (first | ((with_reducible refine gate_dst (N := 11) rfl ?_); (try (refine gate_guard (by rfl) ?_; dsimp only)); refine box_event ?hg (N := 11) ?hd (cs := #[.int .i64 0, .string (⟨#[]⟩ : ByteArray)]) (t := 42) ?hr ?_; (case hd => rfl); (case hg => rfl); (case hr => first | (go_simp; done) | (go_simp; rfl)); intro gb182 hg w53 hbox hb; have n0_ := Aside0.mk (Kd.R_below (by (with_reducible repeat (first | apply Kd.R_alloc | apply Kd.R_drewN | apply Kd.R_drew)); exact HO_180000.out) hb); have n1_ := Aside0.mk (blk_below (g := gb177) (o := .cells #[.slice (some ad180) l0_0.length c0_0, .slice (some ad181) l0_1.length c0_1] 25 (0, 0)) (by (with_reducible repeat (first | refine blk_drewN ?_ _ | refine blk_drew ?_ | refine blk_alloc ?_ _)); exact BK177.out) hb); have n2_ := Aside0.mk (blk_below (g := gb178) (o := .cells #[.slice none 0 0, .slice none 0 0] 25 (0, 0)) (by (with_reducible repeat (first | refine blk_drewN ?_ _ | refine blk_drew ?_ | refine blk_alloc ?_ _)); exact BK178.out) hb); have n3_ := Aside0.mk (blk_below (g := gb179) (o := .cells #[u180000, .slice none 0 0] 25 (0, 0)) (by (with_reducible repeat (first | refine blk_drewN ?_ _ | refine blk_drew ?_ | refine blk_alloc ?_ _)); exact BK179.out) hb); have n4_ := Aside0.mk (below_step (by repeat (first | (with_reducible first | exact HB.out | apply below_alloc | apply pw_below_drewN | apply below_drew1 | refine below_set ?_ GE177.out | refine below_set ?_ GE178.out | refine below_set ?_ GE179.out) | exact HB.out)) hb); have n5_ := Aside0.mk (hbox); have n6_ := Aside0.mk ((by rw [hg]; exact (below_size (by repeat (first | (with_reducible first | exact HB.out | apply below_alloc | apply pw_below_drewN | apply below_drew1 | refine below_set ?_ GE177.out | refine below_set ?_ GE178.out | refine below_set ?_ GE179.out) | exact HB.out))) : w.heap.size ≤ gb182)); have n7_ := Aside0.mk ((by rw [hg]; exact (below_size (by repeat (first | (with_reducible first | exact HB.out | apply below_alloc | apply pw_below_drewN | apply below_drew1 | refine below_set ?_ GE177.out | refine below_set ?_ GE178.out | refine below_set ?_ GE179.out) | exact HB.out))) : w.heap.size ≤ gb182)); have n8_ := Aside0.mk ((by rw [hg]; exact Nat.ne_of_lt (blk_lt (g := gb177) (o := .cells #[.slice (some ad180) l0_0.length c0_0, .slice (some ad181) l0_1.length c0_1] 25 (0, 0)) (by (with_reducible repeat (first | refine blk_drewN ?_ _ | refine blk_drew ?_ | refine blk_alloc ?_ _)); exact BK177.out)) : gb177 ≠ gb182)); have n9_ := Aside0.mk ((by rw [hg]; exact Nat.ne_of_gt (blk_lt (g := gb177) (o := .cells #[.slice (some ad180) l0_0.length c0_0, .slice (some ad181) l0_1.length c0_1] 25 (0, 0)) (by (with_reducible repeat (first | refine blk_drewN ?_ _ | refine blk_drew ?_ | refine blk_alloc ?_ _)); exact BK177.out)) : gb182 ≠ gb177)); have n10_ := Aside0.mk ((by rw [hg]; exact Nat.ne_of_lt (blk_lt (g := gb178) (o := .cells #[.slice none 0 0, .slice none 0 0] 25 (0, 0)) (by (with_reducible repeat (first | refine blk_drewN ?_ _ | refine blk_drew ?_ | refine blk_alloc ?_ _)); exact BK178.out)) : gb178 ≠ gb182)); have n11_ := Aside0.mk ((by rw [hg]; exact Nat.ne_of_gt (blk_lt (g := gb178) (o := .cells #[.slice none 0 0, .slice none 0 0] 25 (0, 0)) (by (with_reducible repeat (first | refine blk_drewN ?_ _ | refine blk_drew ?_ | refine blk_alloc ?_ _)); exact BK178.out)) : gb182 ≠ gb178)); have n12_ := Aside0.mk ((by rw [hg]; exact Nat.ne_of_lt (blk_lt (g := gb179) (o := .cells #[u180000, .slice none 0 0] 25 (0, 0)) (by (with_reducible repeat (first | refine blk_drewN ?_ _ | refine blk_drew ?_ | refine blk_alloc ?_ _)); exact BK179.out)) : gb179 ≠ gb182)); have n13_ := Aside0.mk ((by rw [hg]; exact Nat.ne_of_gt (blk_lt (g := gb179) (o := .cells #[u180000, .slice none 0 0] 25 (0, 0)) (by (with_reducible repeat (first | refine blk_drewN ?_ _ | refine blk_drew ?_ | refine blk_alloc ?_ _)); exact BK179.out)) : gb182 ≠ gb179)); clear HO_180000; clear BK177; clear BK178; clear BK179; clear HB; have HO_180000 := n0_; have BK177 := n1_; have BK178 := n2_; have BK179 := n3_; have HB := n4_; have BK182 := n5_; have GW182 := n6_; have GE182 := n7_; have NB177_182 := n8_; have NB182_177 := n9_; have NB178_182 := n10_; have NB182_178 := n11_; have NB179_182 := n12_; have NB182_179 := n13_; clear n0_ n1_ n2_ n3_ n4_ n5_ n6_ n7_ n8_ n9_ n10_ n11_ n12_ n13_; clear hb hbox hg; have hnb54 := NB182_177.out; have hnc54 := NB177_182.out; have hnb55 := NB182_178.out; have hnc55 := NB178_182.out; have hnb56 := NB182_179.out; have hnc56 := NB179_182.out; have hcz57_0 : w53.cell? ⟨gb182, 0, none⟩ = some (.int .i64 0) := (blk_cell BK182.out 0).trans rfl; have hcz57_1 : w53.cell? ⟨gb182, 1, none⟩ = some (.string (⟨#[]⟩ : ByteArray)) := (blk_cell BK182.out 1).trans rfl; have hfz57_0 := blk_frozen BK182.out 0; have hfz57_1 := blk_frozen BK182.out 1))
                            go_roundg k2
                            case measure => have := HK1.out; have := HK2.out; omega
                            case rel => exact ⟨(x9_2), (wrap64 (x25_2 + 1)), (by first | rfl | (simp; done) | (simp [*]; done)), (by first | rfl | (simp; done) | (simp [*]; done)), H', ⟨by have := HK1.out; have := HK2.out; omega⟩, ⟨by (with_reducible repeat (first | apply Kd.R_alloc | apply Kd.R_drewN | apply Kd.R_drew)); exact Kd.R_mono (Kd.R_far (p := ⟨gb182, 1, none⟩) (Kd.R_far (p := ⟨gb182, 0, none⟩) (Kd.R_types HO_180000.out BK182.out (by decide)) (fun _ hk => hk.2) (.int .i64 ((rd_T42 l0_1 x25_2).f0))) (fun _ hk => hk.2) (.string ((rd_T42 l0_1 x25_2).f1))) (fun _ hk => trivial)⟩, ⟨by (with_reducible repeat (first | refine blk_drewN ?_ _ | refine blk_drew ?_ | refine blk_alloc ?_ _)); refine blk_far ?_ NB177_182.out _; (with_reducible repeat (first | refine blk_drewN ?_ _ | refine blk_drew ?_ | refine blk_alloc ?_ _)); refine blk_far ?_ NB177_182.out _; (with_reducible repeat (first | refine blk_drewN ?_ _ | refine blk_drew ?_ | refine blk_alloc ?_ _)); exact BK177.out⟩, ⟨by (with_reducible repeat (first | refine blk_drewN ?_ _ | refine blk_drew ?_ | refine blk_alloc ?_ _)); refine blk_far ?_ NB178_182.out _; (with_reducible repeat (first | refine blk_drewN ?_ _ | refine blk_drew ?_ | refine blk_alloc ?_ _)); refine blk_far ?_ NB178_182.out _; (with_reducible repeat (first | refine blk_drewN ?_ _ | refine blk_drew ?_ | refine blk_alloc ?_ _)); exact BK178.out⟩, ⟨by (with_reducible repeat (first | refine blk_drewN ?_ _ | refine blk_drew ?_ | refine blk_alloc ?_ _)); refine blk_far ?_ NB179_182.out _; (with_reducible repeat (first | refine blk_drewN ?_ _ | refine blk_drew ?_ | refine blk_alloc ?_ _)); refine blk_far ?_ NB179_182.out _; (with_reducible repeat (first | refine blk_drewN ?_ _ | refine blk_drew ?_ | refine blk_alloc ?_ _)); exact BK179.out⟩, ⟨by repeat (first | (with_reducible first | exact HB.out | apply below_alloc | apply pw_below_drewN | apply below_drew1 | refine below_set ?_ GE177.out | refine below_set ?_ GE178.out | refine below_set ?_ GE179.out | refine below_set ?_ GE182.out) | exact HB.out)⟩⟩
                          · rw [if_neg c52] at H
                            have c52b0 : (((rd_T42 l0_1 x25_2).f0) == x17_1) = false := beq_eq_false_iff_ne.mpr c52
                            have c52b1 : (((rd_T42 l0_1 x25_2).f0) != x17_1) = true := bne_iff_ne.mpr c52
                            have H' := Aside0.mk H
                            clear H
                            have p181 : 0 ≤ (x25_2 : Int) := of_decide_eq_true (by first | (with_reducible assumption) | assumption)
                            have q181 : x25_2 < (l0_1.length : Int) := of_decide_eq_true (by first | (with_reducible assumption) | assumption)
                            obtain ⟨ad181, e181, hx181_0, hx181_1⟩ := at_T42 HR0_1.out x25_2 p181 q181
                            cases e181
                            replace hx181_0 := (HB.out.cell (World.block_lt_of_cell? w _ hx181_0)).trans hx181_0
                            replace hx181_1 := (HB.out.cell (World.block_lt_of_cell? w _ hx181_1)).trans hx181_1
                            replace p181 := eq_true p181
                            replace q181 := eq_true q181
                            go_wp2_with (first | ((with_reducible refine gate_dst (N := 11) rfl ?_); (try (refine gate_guard (by rfl) ?_; dsimp only)); refine box_event ?hg (N := 11) ?hd (cs := #[.int .i64 0, .string (⟨#[]⟩ : ByteArray)]) (t := 42) ?hr ?_; (case hd => rfl); (case hg => rfl); (case hr => first | (go_simp; done) | (go_simp; rfl)); intro gb182 hg w58 hbox hb; have n0_ := Aside0.mk (Kd.R_below (by (with_reducible repeat (first | apply Kd.R_alloc | apply Kd.R_drewN | apply Kd.R_drew)); exact HO_180000.out) hb); have n1_ := Aside0.mk (blk_below (g := gb177) (o := .cells #[.slice (some ad180) l0_0.length c0_0, .slice (some ad181) l0_1.length c0_1] 25 (0, 0)) (by (with_reducible repeat (first | refine blk_drewN ?_ _ | refine blk_drew ?_ | refine blk_alloc ?_ _)); exact BK177.out) hb); have n2_ := Aside0.mk (blk_below (g := gb178) (o := .cells #[.slice none 0 0, .slice none 0 0] 25 (0, 0)) (by (with_reducible repeat (first | refine blk_drewN ?_ _ | refine blk_drew ?_ | refine blk_alloc ?_ _)); exact BK178.out) hb); have n3_ := Aside0.mk (blk_below (g := gb179) (o := .cells #[u180000, .slice none 0 0] 25 (0, 0)) (by (with_reducible repeat (first | refine blk_drewN ?_ _ | refine blk_drew ?_ | refine blk_alloc ?_ _)); exact BK179.out) hb); have n4_ := Aside0.mk (below_step (by repeat (first | (with_reducible first | exact HB.out | apply below_alloc | apply pw_below_drewN | apply below_drew1 | refine below_set ?_ GE177.out | refine below_set ?_ GE178.out | refine below_set ?_ GE179.out) | exact HB.out)) hb); have n5_ := Aside0.mk (hbox); have n6_ := Aside0.mk ((by rw [hg]; exact (below_size (by repeat (first | (with_reducible first | exact HB.out | apply below_alloc | apply pw_below_drewN | apply below_drew1 | refine below_set ?_ GE177.out | refine below_set ?_ GE178.out | refine below_set ?_ GE179.out) | exact HB.out))) : w.heap.size ≤ gb182)); have n7_ := Aside0.mk ((by rw [hg]; exact (below_size (by repeat (first | (with_reducible first | exact HB.out | apply below_alloc | apply pw_below_drewN | apply below_drew1 | refine below_set ?_ GE177.out | refine below_set ?_ GE178.out | refine below_set ?_ GE179.out) | exact HB.out))) : w.heap.size ≤ gb182)); have n8_ := Aside0.mk ((by rw [hg]; exact Nat.ne_of_lt (blk_lt (g := gb177) (o := .cells #[.slice (some ad180) l0_0.length c0_0, .slice (some ad181) l0_1.length c0_1] 25 (0, 0)) (by (with_reducible repeat (first | refine blk_drewN ?_ _ | refine blk_drew ?_ | refine blk_alloc ?_ _)); exact BK177.out)) : gb177 ≠ gb182)); have n9_ := Aside0.mk ((by rw [hg]; exact Nat.ne_of_gt (blk_lt (g := gb177) (o := .cells #[.slice (some ad180) l0_0.length c0_0, .slice (some ad181) l0_1.length c0_1] 25 (0, 0)) (by (with_reducible repeat (first | refine blk_drewN ?_ _ | refine blk_drew ?_ | refine blk_alloc ?_ _)); exact BK177.out)) : gb182 ≠ gb177)); have n10_ := Aside0.mk ((by rw [hg]; exact Nat.ne_of_lt (blk_lt (g := gb178) (o := .cells #[.slice none 0 0, .slice none 0 0] 25 (0, 0)) (by (with_reducible repeat (first | refine blk_drewN ?_ _ | refine blk_drew ?_ | refine blk_alloc ?_ _)); exact BK178.out)) : gb178 ≠ gb182)); have n11_ := Aside0.mk ((by rw [hg]; exact Nat.ne_of_gt (blk_lt (g := gb178) (o := .cells #[.slice none 0 0, .slice none 0 0] 25 (0, 0)) (by (with_reducible repeat (first | refine blk_drewN ?_ _ | refine blk_drew ?_ | refine blk_alloc ?_ _)); exact BK178.out)) : gb182 ≠ gb178)); have n12_ := Aside0.mk ((by rw [hg]; exact Nat.ne_of_lt (blk_lt (g := gb179) (o := .cells #[u180000, .slice none 0 0] 25 (0, 0)) (by (with_reducible repeat (first | refine blk_drewN ?_ _ | refine blk_drew ?_ | refine blk_alloc ?_ _)); exact BK179.out)) : gb179 ≠ gb182)); have n13_ := Aside0.mk ((by rw [hg]; exact Nat.ne_of_gt (blk_lt (g := gb179) (o := .cells #[u180000, .slice none 0 0] 25 (0, 0)) (by (with_reducible repeat (first | refine blk_drewN ?_ _ | refine blk_drew ?_ | refine blk_alloc ?_ _)); exact BK179.out)) : gb182 ≠ gb179)); clear HO_180000; clear BK177; clear BK178; clear BK179; clear HB; have HO_180000 := n0_; have BK177 := n1_; have BK178 := n2_; have BK179 := n3_; have HB := n4_; have BK182 := n5_; have GW182 := n6_; have GE182 := n7_; have NB177_182 := n8_; have NB182_177 := n9_; have NB178_182 := n10_; have NB182_178 := n11_; have NB179_182 := n12_; have NB182_179 := n13_; clear n0_ n1_ n2_ n3_ n4_ n5_ n6_ n7_ n8_ n9_ n10_ n11_ n12_ n13_; clear hb hbox hg; have hnb59 := NB182_177.out; have hnc59 := NB177_182.out; have hnb60 := NB182_178.out; have hnc60 := NB178_182.out; have hnb61 := NB182_179.out; have hnc61 := NB179_182.out; have hcz62_0 : w58.cell? ⟨gb182, 0, none⟩ = some (.int .i64 0) := (blk_cell BK182.out 0).trans rfl; have hcz62_1 : w58.cell? ⟨gb182, 1, none⟩ = some (.string (⟨#[]⟩ : ByteArray)) := (blk_cell BK182.out 1).trans rfl; have hfz62_0 := blk_frozen BK182.out 0; have hfz62_1 := blk_frozen BK182.out 1))
                            go_roundg k2
                            case measure => have := HK1.out; have := HK2.out; omega
                            case rel => exact ⟨(x9_2), (wrap64 (x25_2 + 1)), (by first | rfl | (simp; done) | (simp [*]; done)), (by first | rfl | (simp; done) | (simp [*]; done)), H', ⟨by have := HK1.out; have := HK2.out; omega⟩, ⟨by (with_reducible repeat (first | apply Kd.R_alloc | apply Kd.R_drewN | apply Kd.R_drew)); exact Kd.R_mono (Kd.R_far (p := ⟨gb182, 1, none⟩) (Kd.R_far (p := ⟨gb182, 0, none⟩) (Kd.R_types HO_180000.out BK182.out (by decide)) (fun _ hk => hk.2) (.int .i64 ((rd_T42 l0_1 x25_2).f0))) (fun _ hk => hk.2) (.string ((rd_T42 l0_1 x25_2).f1))) (fun _ hk => trivial)⟩, ⟨by (with_reducible repeat (first | refine blk_drewN ?_ _ | refine blk_drew ?_ | refine blk_alloc ?_ _)); refine blk_far ?_ NB177_182.out _; (with_reducible repeat (first | refine blk_drewN ?_ _ | refine blk_drew ?_ | refine blk_alloc ?_ _)); refine blk_far ?_ NB177_182.out _; (with_reducible repeat (first | refine blk_drewN ?_ _ | refine blk_drew ?_ | refine blk_alloc ?_ _)); exact BK177.out⟩, ⟨by (with_reducible repeat (first | refine blk_drewN ?_ _ | refine blk_drew ?_ | refine blk_alloc ?_ _)); refine blk_far ?_ NB178_182.out _; (with_reducible repeat (first | refine blk_drewN ?_ _ | refine blk_drew ?_ | refine blk_alloc ?_ _)); refine blk_far ?_ NB178_182.out _; (with_reducible repeat (first | refine blk_drewN ?_ _ | refine blk_drew ?_ | refine blk_alloc ?_ _)); exact BK178.out⟩, ⟨by (with_reducible repeat (first | refine blk_drewN ?_ _ | refine blk_drew ?_ | refine blk_alloc ?_ _)); refine blk_far ?_ NB179_182.out _; (with_reducible repeat (first | refine blk_drewN ?_ _ | refine blk_drew ?_ | refine blk_alloc ?_ _)); refine blk_far ?_ NB179_182.out _; (with_reducible repeat (first | refine blk_drewN ?_ _ | refine blk_drew ?_ | refine blk_alloc ?_ _)); exact BK179.out⟩, ⟨by repeat (first | (with_reducible first | exact HB.out | apply below_alloc | apply pw_below_drewN | apply below_drew1 | refine below_set ?_ GE177.out | refine below_set ?_ GE178.out | refine below_set ?_ GE179.out | refine below_set ?_ GE182.out) | exact HB.out)⟩⟩
                    · rw [if_neg c20] at H
                      exact absurd H (by simp)
                  · rw [if_neg c19] at H
                    exact absurd H (by simp)
                · rw [if_neg c18] at H
                  have c18b0 : decide (x25_2 < (l0_1.length : Int)) = false := decide_eq_false c18
                  clear c18
                  by_cases c63 : x180000_1.length < 8796093022208
                  · rw [if_pos c63] at H
                    have LMc63 := Aside0.mk c63
                    clear c63
                    obtain ⟨y184, hy184⟩ : ∃ y_ : List ByteArray, y_ = (x180000_1 ++ [x9_2]) := ⟨_, rfl⟩
                    replace H : (doorwardref03_Crash.l0 k2 a1 l2 l0_0 (l0_0.length : Int) (wrap64 (x17_1 + 1)) l0_0 l0_1 y184) = some (r1, r2) := by first | (rw [hy184]; with_reducible exact H) | (have H2_ := (Option.bind_some _ _).symm.trans H; rw [hy184]; with_reducible exact H2_) | (have H2_ := (Option.bind_some _ _).symm.trans H; with_reducible exact H2_) | with_reducible exact H | (rw [hy184]; exact H) | exact H
                    have Ny184 := Aside0.mk hy184
                    clear hy184
                    have H' := Aside0.mk H
                    clear H
                    have hnb64 := NB179_177.out
                    have hnc64 := NB177_179.out
                    have hnb65 := NB179_178.out
                    have hnc65 := NB178_179.out
                    have hcz66_0 : wr.cell? ⟨gb179, 0, none⟩ = some (u180000) := (blk_cell BK179.out 0).trans rfl
                    have hcz66_1 : wr.cell? ⟨gb179, 1, none⟩ = some (.slice none 0 0) := (blk_cell BK179.out 1).trans rfl
                    have hfz66_0 := blk_frozen BK179.out 0
                    have hfz66_1 := blk_frozen BK179.out 1
                    go_wp2_with (first | ((with_reducible refine gate_builtin (b := .append) (xs := #[.tmp 54, .tmp 56]) rfl ?_); (try (refine gate_guard (by rfl) ?_; dsimp only)); at_builtin; refine Kd.R_append Kd.string (w0 := w) w.heap.size rfl (.tmp 54) (.tmp 56) 22 9 (.string ⟨#[]⟩) 16 rfl Tryd.underlying22 info9 rfl (by decide) (by omega) u180000 x180000_1 x9_2 [.string x9_2] (fun _ => True) (fun _ => False) rfl rfl ?aP (fun _ hk => hk.elim) ?aF ?aO ?aB ?aS ?aL ?_; (case aP => exact rfl); (case aB => exact (by repeat (first | (with_reducible first | exact HB.out | apply below_alloc | apply pw_below_drewN | apply below_drew1 | refine below_set ?_ GE177.out | refine below_set ?_ GE178.out | refine below_set ?_ GE179.out) | exact HB.out))); (case aF => exact (fun _ _ => trivial)); (case aO => exact (by (with_reducible repeat (first | apply Kd.R_alloc | apply Kd.R_drewN | apply Kd.R_drew)); exact HO_180000.out)); (case aS => exact (below_size (by repeat (first | (with_reducible first | exact HB.out | apply below_alloc | apply pw_below_drewN | apply below_drew1 | refine below_set ?_ GE177.out | refine below_set ?_ GE178.out | refine below_set ?_ GE179.out) | exact HB.out)))); (case aL => have := LMc63.out; omega); intro v185 w67 ho hb hg hat; rw [← Ny184.out] at ho; have n0_ := Aside0.mk (blk_grown (g := gb177) (o := .cells #[.slice (some ad180) l0_0.length c0_0, .slice A0_1 l0_1.length c0_1] 25 (0, 0)) (by (with_reducible repeat (first | refine blk_drewN ?_ _ | refine blk_drew ?_ | refine blk_alloc ?_ _)); exact BK177.out) hg (Kd.R_ne HO_180000.out BK177.out (by decide))); have n1_ := Aside0.mk (blk_grown (g := gb178) (o := .cells #[.slice none 0 0, .slice none 0 0] 25 (0, 0)) (by (with_reducible repeat (first | refine blk_drewN ?_ _ | refine blk_drew ?_ | refine blk_alloc ?_ _)); exact BK178.out) hg (Kd.R_ne HO_180000.out BK178.out (by decide))); have n2_ := Aside0.mk (blk_grown (g := gb179) (o := .cells #[u180000, .slice none 0 0] 25 (0, 0)) (by (with_reducible repeat (first | refine blk_drewN ?_ _ | refine blk_drew ?_ | refine blk_alloc ?_ _)); exact BK179.out) hg (Kd.R_ne HO_180000.out BK179.out (by decide))); have n3_ := Aside0.mk (hb); have n4_ := Aside0.mk (ho); clear BK177; clear BK178; clear BK179; clear HB; clear HO_180000; have BK177 := n0_; have BK178 := n1_; have BK179 := n2_; have HB := n3_; have HO186 := n4_; clear n0_ n1_ n2_ n3_ n4_; clear ho hb hg hat; obtain ⟨Ao68, co68, eo68⟩ := Kd.R_slice HO186.out; subst eo68; have hcz69_0 : w67.cell? ⟨gb179, 0, none⟩ = some (u180000) := (blk_cell BK179.out 0).trans rfl; have hcz69_1 : w67.cell? ⟨gb179, 1, none⟩ = some (.slice none 0 0) := (blk_cell BK179.out 1).trans rfl; have hfz69_0 := blk_frozen BK179.out 0; have hfz69_1 := blk_frozen BK179.out 1))
                    go_roundg k2
                    case measure => have := HK1.out; have := HK2.out; omega
                    case rel => exact ⟨(wrap64 (x17_1 + 1)), (y184), (.slice Ao68 y184.length co68), (by first | rfl | (simp; done) | (simp [*]; done)), H', ⟨by have := HK1.out; have := HK2.out; omega⟩, ⟨by (with_reducible repeat (first | apply Kd.R_alloc | apply Kd.R_drewN | apply Kd.R_drew)); exact Kd.R_mono (Kd.R_far (p := ⟨gb179, 0, none⟩) (Kd.R_types HO186.out BK179.out (by decide)) (fun _ hk => hk.2) (.slice Ao68 y184.length co68)) (fun _ hk => trivial)⟩, ⟨by (with_reducible repeat (first | refine blk_drewN ?_ _ | refine blk_drew ?_ | refine blk_alloc ?_ _)); refine blk_far ?_ NB177_179.out _; (with_reducible repeat (first | refine blk_drewN ?_ _ | refine blk_drew ?_ | refine blk_alloc ?_ _)); exact BK177.out⟩, ⟨by (with_reducible repeat (first | refine blk_drewN ?_ _ | refine blk_drew ?_ | refine blk_alloc ?_ _)); refine blk_far ?_ NB178_179.out _; (with_reducible repeat (first | refine blk_drewN ?_ _ | refine blk_drew ?_ | refine blk_alloc ?_ _)); exact BK178.out⟩, ⟨by (with_reducible repeat (first | refine blk_drewN ?_ _ | refine blk_drew ?_ | refine blk_alloc ?_ _)); refine blk_put (cs := #[u180000, .slice none 0 0]) ?_ 0 _ rfl; (with_reducible repeat (first | refine blk_drewN ?_ _ | refine blk_drew ?_ | refine blk_alloc ?_ _)); exact BK179.out⟩, ⟨by repeat (first | (with_reducible first | exact HB.out | apply below_alloc | apply pw_below_drewN | apply below_drew1 | refine below_set ?_ GE177.out | refine below_set ?_ GE178.out | refine below_set ?_ GE179.out) | exact HB.out)⟩⟩
                  · rw [if_neg c63] at H
                    exact absurd H (by simp)
          · rw [if_neg c14] at H
            exact absurd H (by simp)
        · rw [if_neg c13] at H
          exact absurd H (by simp)
      · rw [if_neg c12] at H
        have c12b0 : decide (x17_1 < (l0_0.length : Int)) = false := decide_eq_false c12
        clear c12
        simp only [Option.some.injEq, Prod.mk.injEq] at H
        obtain ⟨rfl, rfl⟩ := H
        have hnb70 := NB179_177.out
        have hnc70 := NB177_179.out
        have hnb71 := NB179_178.out
        have hnc71 := NB178_179.out
        have hcz72_0 : wr.cell? ⟨gb179, 0, none⟩ = some (u180000) := (blk_cell BK179.out 0).trans rfl
        have hcz72_1 : wr.cell? ⟨gb179, 1, none⟩ = some (.slice none 0 0) := (blk_cell BK179.out 1).trans rfl
        have hfz72_0 := blk_frozen BK179.out 0
        have hfz72_1 := blk_frozen BK179.out 1
        obtain ⟨Ao73, co73, eo73⟩ := Kd.R_slice HO_180000.out
        subst eo73
        have hnb74 := NB178_177.out
        have hnc74 := NB177_178.out
        have hcz75_0 : wr.cell? ⟨gb178, 0, none⟩ = some (.slice none 0 0) := (blk_cell BK178.out 0).trans rfl
        have hcz75_1 : wr.cell? ⟨gb178, 1, none⟩ = some (.slice none 0 0) := (blk_cell BK178.out 1).trans rfl
        have hfz75_0 := blk_frozen BK178.out 0
        have hfz75_1 := blk_frozen BK178.out 1
        go_wp2
        refine bodyPost_ret (results_cell_row rfl _ _ gb178 25 #[.slice Ao73 x180000_1.length co73, .slice none 0 0] (0, 0) _ rfl (by (with_reducible repeat (first | refine blk_drewN ?_ _ | refine blk_drew ?_ | refine blk_alloc ?_ _)); refine blk_put (cs := #[.slice Ao73 x180000_1.length co73, .slice none 0 0]) ?_ 1 _ rfl; (with_reducible repeat (first | refine blk_drewN ?_ _ | refine blk_drew ?_ | refine blk_alloc ?_ _)); refine blk_put (cs := #[.slice none 0 0, .slice none 0 0]) ?_ 0 _ rfl; (with_reducible repeat (first | refine blk_drewN ?_ _ | refine blk_drew ?_ | refine blk_alloc ?_ _)); exact BK178.out) Tryd.underlying25 rfl (by kernel_rfl)) rfl ?_
        exact ⟨_, _, by first | rfl | (simp [errW_none, errW_some] <;> rfl) | (simp [*, errW_none, errW_some] <;> rfl), by (with_reducible repeat (first | apply Kd.R_alloc | apply Kd.R_drewN | apply Kd.R_drew)); exact Kd.R_mono (Kd.R_far (p := ⟨gb178, 1, none⟩) (Kd.R_far (p := ⟨gb178, 0, none⟩) (Kd.R_types HO_180000.out BK178.out (by decide)) (fun _ hk => hk.2) (.slice Ao73 x180000_1.length co73)) (fun _ hk => hk.2) (.slice none 0 0)) (fun _ hk => trivial), by first | exact Kd.R_nil _ _ _ _ _ | exact Kd.N_nil _ _ _ _ _ | exact Kd.V_nil _ _ _ _ _ | exact Kd.Q_nil _ _ _ _ _ | exact Kd.S_nil _ _ _ _ _, by repeat (first | (with_reducible first | exact HB.out | apply below_alloc | apply pw_below_drewN | apply below_drew1 | refine below_set ?_ GE177.out | refine below_set ?_ GE178.out | refine below_set ?_ GE179.out) | exact HB.out)⟩

/-! ### doorwardref03_Tells: function 24 -/
def doorwardref03_Tells.l0 : Nat → Int → ByteArray → List (S42) → Int → Int → Option (ByteArray)
  | 0, _, _, _, _, _ => none
  | k + 1, x1, x5, x14, x15, x16 => if x16 < x15 then (if 0 ≤ x16 then (if x16 < (x14.length : Int) then (if ((rd_T42 x14 x16).f0) = x1 then (doorwardref03_Tells.l0 k x1 ((rd_T42 x14 x16).f1) x14 x15 (wrap64 (x16 + 1))) else (doorwardref03_Tells.l0 k x1 x5 x14 x15 (wrap64 (x16 + 1)))) else (none)) else (none)) else (some x5)
def doorwardref03_Tells.f (k : Nat) (l0_0 : List ByteArray) (l0_1 : List (S42)) (a1 : Int) : Option (ByteArray) := if 0 ≤ a1 then (if a1 < (l0_0.length : Int) then (doorwardref03_Tells.l0 k a1 (rdOf ByteArray.empty l0_0 a1) l0_1 (l0_1.length : Int) 0) else (none)) else (none)
theorem doorwardref03_Tells.mono_l : ∀ k, (∀ y0 y1 y2 y3 y4, LeO (doorwardref03_Tells.l0 k y0 y1 y2 y3 y4) (doorwardref03_Tells.l0 (k + 1) y0 y1 y2 y3 y4))
  | 0 => fun _ _ _ _ _ r h => by simp [doorwardref03_Tells.l0] at h
  | k + 1 => by
    have ih0 := doorwardref03_Tells.mono_l k
    · intro y0 y1 y2 y3 y4
      unfold doorwardref03_Tells.l0
      repeat' first
      | (with_reducible exact ih0 _ _ _ _ _)
      | (with_reducible exact LeO.refl _)
      | (with_reducible exact LeO.none _)
      | (with_reducible refine LeO.ite ?_ ?_)
      | (with_reducible refine LeO.bind ?_ (fun _ => ?_))
      | exact ih0 _ _ _ _ _
      | exact LeO.none _
      | refine LeO.ite ?_ ?_
      | refine LeO.bind ?_ (fun _ => ?_)
theorem doorwardref03_Tells.mono : ∀ a0 a1 a2 k, LeO (doorwardref03_Tells.f k a0 a1 a2) (doorwardref03_Tells.f (k + 1) a0 a1 a2) := by
  intro a0 a1 a2 k
  have ih0 := doorwardref03_Tells.mono_l k
  unfold doorwardref03_Tells.f
  repeat' first
      | (with_reducible exact ih0 _ _ _ _ _)
      | (with_reducible exact LeO.refl _)
      | (with_reducible exact LeO.none _)
      | (with_reducible refine LeO.ite ?_ ?_)
      | (with_reducible refine LeO.bind ?_ (fun _ => ?_))
      | exact ih0 _ _ _ _ _
      | exact LeO.none _
      | refine LeO.ite ?_ ?_
      | refine LeO.bind ?_ (fun _ => ?_)
set_option maxHeartbeats 8000000 in
set_option maxRecDepth 100000 in
theorem doorwardref03_Tells.calls (k : Nat) (A0_0 : Option Addr) (c0_0 : Nat) (l0_0 : List ByteArray) (A0_1 : Option Addr) (c0_1 : Nat) (l0_1 : List (S42)) (a1 : Int) (r : ByteArray) (w : World) (hr0_0 : Kd.C Kd.string w A0_0 l0_0.length l0_0) (hc0_0 : l0_0.length ≤ c0_0) (hr0_1 : Kd.C k42 w A0_1 l0_1.length l0_1) (hc0_1 : l0_1.length ≤ c0_1) (h : doorwardref03_Tells.f k l0_0 l0_1 a1 = some r) :
    Calls Tryd.prog 24 #[.agg #[.slice A0_0 l0_0.length c0_0, .slice A0_1 l0_1.length c0_1], .int .i64 a1] w fun e w' => e = .returned (.string r) ∧ Below w.heap.size w w' := by
  have hu25 := Tryd.underlying25
  have hu42 := Tryd.underlying42
  have HR0_0 := Aside0.mk hr0_0
  have HC0_0 := Aside0.mk hc0_0
  clear hr0_0 hc0_0
  have HR0_1 := Aside0.mk hr0_1
  have HC0_1 := Aside0.mk hc0_1
  clear hr0_1 hc0_1
  have HB := Aside0.mk (Below.refl w.heap.size w)
  have H : (if 0 ≤ a1 then (if a1 < (l0_0.length : Int) then (doorwardref03_Tells.l0 k a1 (rdOf ByteArray.empty l0_0 a1) l0_1 (l0_1.length : Int) 0) else (none)) else (none)) = some r := h
  clear h
  by_cases c3 : 0 ≤ a1
  · rw [if_pos c3] at H
    have c3b0 : decide (0 ≤ a1) = true := decide_eq_true c3
    clear c3
    by_cases c4 : a1 < (l0_0.length : Int)
    · rw [if_pos c4] at H
      have c4b0 : decide (a1 < (l0_0.length : Int)) = true := decide_eq_true c4
      clear c4
      have H' := Aside0.mk H
      clear H
      go_enter Tryd.func24, Tryd.ntmps24
      go_wp2_with (first | ((with_reducible refine gate_dst (N := 2) rfl ?_); refine box_event ?hg (N := 2) ?hd (cs := #[.slice A0_0 l0_0.length c0_0, .slice A0_1 l0_1.length c0_1]) (t := 25) ?hr ?_; (case hd => rfl); (case hg => rfl); (case hr => first | (go_simp; done) | (go_simp; rfl)); intro gb187 hg w5 hbox hb; have n0_ := Aside0.mk (below_step (by repeat (first | (with_reducible first | exact HB.out | apply below_alloc | apply pw_below_drewN | apply below_drew1) | exact HB.out)) hb); have n1_ := Aside0.mk (hbox); have n2_ := Aside0.mk ((by rw [hg]; exact (below_size (by repeat (first | (with_reducible first | exact HB.out | apply below_alloc | apply pw_below_drewN | apply below_drew1) | exact HB.out))) : w.heap.size ≤ gb187)); have n3_ := Aside0.mk ((by rw [hg]; exact (below_size (by repeat (first | (with_reducible first | exact HB.out | apply below_alloc | apply pw_below_drewN | apply below_drew1) | exact HB.out))) : w.heap.size ≤ gb187)); clear HB; have HB := n0_; have BK187 := n1_; have GW187 := n2_; have GE187 := n3_; clear n0_ n1_ n2_ n3_; clear hb hbox hg; have hcz6_0 : w5.cell? ⟨gb187, 0, none⟩ = some (.slice A0_0 l0_0.length c0_0) := (blk_cell BK187.out 0).trans rfl; have hcz6_1 : w5.cell? ⟨gb187, 1, none⟩ = some (.slice A0_1 l0_1.length c0_1) := (blk_cell BK187.out 1).trans rfl; have hfz6_0 := blk_frozen BK187.out 0; have hfz6_1 := blk_frozen BK187.out 1; have p188 : 0 ≤ (a1 : Int) := of_decide_eq_true (by first | (with_reducible assumption) | assumption); have q188 : a1 < (l0_0.length : Int) := of_decide_eq_true (by first | (with_reducible assumption) | assumption); obtain ⟨ad188, e188, hx188_0⟩ := Kd.at_string HR0_0.out a1 p188 q188; cases e188; replace hx188_0 := (HB.out.cell (World.block_lt_of_cell? w _ hx188_0)).trans hx188_0; replace p188 := eq_true p188; replace q188 := eq_true q188))
      go_loopg [5, 16] k (fun kq v5 v16 w' => ∃ (x5_1 : ByteArray) (x16_1 : Int), v5 = .string x5_1 ∧ v16 = .int .i64 x16_1 ∧ Aside0 (doorwardref03_Tells.l0 kq a1 x5_1 l0_1 (l0_1.length : Int) x16_1 = some r) ∧ Aside0 (kq ≤ k) ∧ Aside0 (w'.heap[gb187]? = some (.cells #[(.slice (some ad188) l0_0.length c0_0), (.slice A0_1 l0_1.length c0_1)] 25 (0, 0))) ∧ Aside0 (Below w.heap.size w w'))
      case atStart => exact ⟨(rdOf ByteArray.empty l0_0 a1), (0), (by first | rfl | (simp; done) | (simp [*]; done)), (by first | rfl | (simp; done) | (simp [*]; done)), H', ⟨Nat.le_refl _⟩, ⟨by (with_reducible repeat (first | refine blk_drewN ?_ _ | refine blk_drew ?_ | refine blk_alloc ?_ _)); exact BK187.out⟩, ⟨by repeat (first | (with_reducible first | exact HB.out | apply below_alloc | apply pw_below_drewN | apply below_drew1 | refine below_set ?_ GE187.out) | exact HB.out)⟩⟩
      case round =>
        clear H'
        try clear p1
        try clear q1
        try clear hx1
        try clear c2
        try clear p2
        try clear c3
        try clear c3b0
        try clear c4
        try clear c4b0
        try clear hcz6_0
        try clear hcz6_1
        try clear hfz6_0
        try clear hfz6_1
        try clear hx188_0
        try clear p188
        try clear q188
        obtain ⟨x5_1, x16_1, rfl, rfl, HA, HK1, BK187, HB⟩ := hrel
        cases gk with
        | zero => exact absurd HA.out (by simp [doorwardref03_Tells.l0])
        | succ k1 =>
          have H := HA.out
          clear HA
          simp only [doorwardref03_Tells.l0] at H
          by_cases c7 : x16_1 < (l0_1.length : Int)
          · rw [if_pos c7] at H
            have c7b0 : decide (x16_1 < (l0_1.length : Int)) = true := decide_eq_true c7
            clear c7
            by_cases c8 : 0 ≤ x16_1
            · rw [if_pos c8] at H
              have c8b0 : decide (0 ≤ x16_1) = true := decide_eq_true c8
              clear c8
              by_cases c9 : x16_1 < (l0_1.length : Int)
              · rw [if_pos c9] at H
                have c9b0 : decide (x16_1 < (l0_1.length : Int)) = true := decide_eq_true c9
                clear c9
                by_cases c10 : ((rd_T42 l0_1 x16_1).f0) = a1
                · rw [if_pos c10] at H
                  have c10b0 : (((rd_T42 l0_1 x16_1).f0) == a1) = true := beq_iff_eq.mpr c10
                  have c10b1 : (((rd_T42 l0_1 x16_1).f0) != a1) = false := bne_eq_false_iff_eq.mpr c10
                  clear c10
                  have H' := Aside0.mk H
                  clear H
                  have p189 : 0 ≤ (x16_1 : Int) := of_decide_eq_true (by first | (with_reducible assumption) | assumption)
                  have q189 : x16_1 < (l0_1.length : Int) := of_decide_eq_true (by first | (with_reducible assumption) | assumption)
                  obtain ⟨ad189, e189, hx189_0, hx189_1⟩ := at_T42 HR0_1.out x16_1 p189 q189
                  cases e189
                  replace hx189_0 := (HB.out.cell (World.block_lt_of_cell? w _ hx189_0)).trans hx189_0
                  replace hx189_1 := (HB.out.cell (World.block_lt_of_cell? w _ hx189_1)).trans hx189_1
                  replace p189 := eq_true p189
                  replace q189 := eq_true q189
                  go_wp2_with (first | ((with_reducible refine gate_dst (N := 7) rfl ?_); refine box_event ?hg (N := 7) ?hd (cs := #[.int .i64 0, .string (⟨#[]⟩ : ByteArray)]) (t := 42) ?hr ?_; (case hd => rfl); (case hg => rfl); (case hr => first | (go_simp; done) | (go_simp; rfl)); intro gb190 hg w11 hbox hb; have n0_ := Aside0.mk (blk_below (g := gb187) (o := .cells #[.slice (some ad188) l0_0.length c0_0, .slice (some ad189) l0_1.length c0_1] 25 (0, 0)) (by (with_reducible repeat (first | refine blk_drewN ?_ _ | refine blk_drew ?_ | refine blk_alloc ?_ _)); exact BK187.out) hb); have n1_ := Aside0.mk (below_step (by repeat (first | (with_reducible first | exact HB.out | apply below_alloc | apply pw_below_drewN | apply below_drew1 | refine below_set ?_ GE187.out) | exact HB.out)) hb); have n2_ := Aside0.mk (hbox); have n3_ := Aside0.mk ((by rw [hg]; exact (below_size (by repeat (first | (with_reducible first | exact HB.out | apply below_alloc | apply pw_below_drewN | apply below_drew1 | refine below_set ?_ GE187.out) | exact HB.out))) : w.heap.size ≤ gb190)); have n4_ := Aside0.mk ((by rw [hg]; exact (below_size (by repeat (first | (with_reducible first | exact HB.out | apply below_alloc | apply pw_below_drewN | apply below_drew1 | refine below_set ?_ GE187.out) | exact HB.out))) : w.heap.size ≤ gb190)); have n5_ := Aside0.mk ((by rw [hg]; exact Nat.ne_of_lt (blk_lt (g := gb187) (o := .cells #[.slice (some ad188) l0_0.length c0_0, .slice (some ad189) l0_1.length c0_1] 25 (0, 0)) (by (with_reducible repeat (first | refine blk_drewN ?_ _ | refine blk_drew ?_ | refine blk_alloc ?_ _)); exact BK187.out)) : gb187 ≠ gb190)); have n6_ := Aside0.mk ((by rw [hg]; exact Nat.ne_of_gt (blk_lt (g := gb187) (o := .cells #[.slice (some ad188) l0_0.length c0_0, .slice (some ad189) l0_1.length c0_1] 25 (0, 0)) (by (with_reducible repeat (first | refine blk_drewN ?_ _ | refine blk_drew ?_ | refine blk_alloc ?_ _)); exact BK187.out)) : gb190 ≠ gb187)); clear BK187; clear HB; have BK187 := n0_; have HB := n1_; have BK190 := n2_; have GW190 := n3_; have GE190 := n4_; have NB187_190 := n5_; have NB190_187 := n6_; clear n0_ n1_ n2_ n3_ n4_ n5_ n6_; clear hb hbox hg; have hnb12 := NB190_187.out; have hnc12 := NB187_190.out; have hcz13_0 : w11.cell? ⟨gb190, 0, none⟩ = some (.int .i64 0) := (blk_cell BK190.out 0).trans rfl; have hcz13_1 : w11.cell? ⟨gb190, 1, none⟩ = some (.string (⟨#[]⟩ : ByteArray)) := (blk_cell BK190.out 1).trans rfl; have hfz13_0 := blk_frozen BK190.out 0; have hfz13_1 := blk_frozen BK190.out 1))
                  go_roundg k1
                  case measure => have := HK1.out; omega
                  case rel => exact ⟨((rd_T42 l0_1 x16_1).f1), (wrap64 (x16_1 + 1)), (by first | rfl | (simp; done) | (simp [*]; done)), (by first | rfl | (simp; done) | (simp [*]; done)), H', ⟨by have := HK1.out; omega⟩, ⟨by (with_reducible repeat (first | refine blk_drewN ?_ _ | refine blk_drew ?_ | refine blk_alloc ?_ _)); refine blk_far ?_ NB187_190.out _; (with_reducible repeat (first | refine blk_drewN ?_ _ | refine blk_drew ?_ | refine blk_alloc ?_ _)); refine blk_far ?_ NB187_190.out _; (with_reducible repeat (first | refine blk_drewN ?_ _ | refine blk_drew ?_ | refine blk_alloc ?_ _)); exact BK187.out⟩, ⟨by repeat (first | (with_reducible first | exact HB.out | apply below_alloc | apply pw_below_drewN | apply below_drew1 | refine below_set ?_ GE187.out | refine below_set ?_ GE190.out) | exact HB.out)⟩⟩
                · rw [if_neg c10] at H
                  have c10b0 : (((rd_T42 l0_1 x16_1).f0) == a1) = false := beq_eq_false_iff_ne.mpr c10
                  have c10b1 : (((rd_T42 l0_1 x16_1).f0) != a1) = true := bne_iff_ne.mpr c10
                  have H' := Aside0.mk H
                  clear H
                  have p189 : 0 ≤ (x16_1 : Int) := of_decide_eq_true (by first | (with_reducible assumption) | assumption)
                  have q189 : x16_1 < (l0_1.length : Int) := of_decide_eq_true (by first | (with_reducible assumption) | assumption)
                  obtain ⟨ad189, e189, hx189_0, hx189_1⟩ := at_T42 HR0_1.out x16_1 p189 q189
                  cases e189
                  replace hx189_0 := (HB.out.cell (World.block_lt_of_cell? w _ hx189_0)).trans hx189_0
                  replace hx189_1 := (HB.out.cell (World.block_lt_of_cell? w _ hx189_1)).trans hx189_1
                  replace p189 := eq_true p189
                  replace q189 := eq_true q189
                  go_wp2_with (first | ((with_reducible refine gate_dst (N := 7) rfl ?_); refine box_event ?hg (N := 7) ?hd (cs := #[.int .i64 0, .string (⟨#[]⟩ : ByteArray)]) (t := 42) ?hr ?_; (case hd => rfl); (case hg => rfl); (case hr => first | (go_simp; done) | (go_simp; rfl)); intro gb190 hg w14 hbox hb; have n0_ := Aside0.mk (blk_below (g := gb187) (o := .cells #[.slice (some ad188) l0_0.length c0_0, .slice (some ad189) l0_1.length c0_1] 25 (0, 0)) (by (with_reducible repeat (first | refine blk_drewN ?_ _ | refine blk_drew ?_ | refine blk_alloc ?_ _)); exact BK187.out) hb); have n1_ := Aside0.mk (below_step (by repeat (first | (with_reducible first | exact HB.out | apply below_alloc | apply pw_below_drewN | apply below_drew1 | refine below_set ?_ GE187.out) | exact HB.out)) hb); have n2_ := Aside0.mk (hbox); have n3_ := Aside0.mk ((by rw [hg]; exact (below_size (by repeat (first | (with_reducible first | exact HB.out | apply below_alloc | apply pw_below_drewN | apply below_drew1 | refine below_set ?_ GE187.out) | exact HB.out))) : w.heap.size ≤ gb190)); have n4_ := Aside0.mk ((by rw [hg]; exact (below_size (by repeat (first | (with_reducible first | exact HB.out | apply below_alloc | apply pw_below_drewN | apply below_drew1 | refine below_set ?_ GE187.out) | exact HB.out))) : w.heap.size ≤ gb190)); have n5_ := Aside0.mk ((by rw [hg]; exact Nat.ne_of_lt (blk_lt (g := gb187) (o := .cells #[.slice (some ad188) l0_0.length c0_0, .slice (some ad189) l0_1.length c0_1] 25 (0, 0)) (by (with_reducible repeat (first | refine blk_drewN ?_ _ | refine blk_drew ?_ | refine blk_alloc ?_ _)); exact BK187.out)) : gb187 ≠ gb190)); have n6_ := Aside0.mk ((by rw [hg]; exact Nat.ne_of_gt (blk_lt (g := gb187) (o := .cells #[.slice (some ad188) l0_0.length c0_0, .slice (some ad189) l0_1.length c0_1] 25 (0, 0)) (by (with_reducible repeat (first | refine blk_drewN ?_ _ | refine blk_drew ?_ | refine blk_alloc ?_ _)); exact BK187.out)) : gb190 ≠ gb187)); clear BK187; clear HB; have BK187 := n0_; have HB := n1_; have BK190 := n2_; have GW190 := n3_; have GE190 := n4_; have NB187_190 := n5_; have NB190_187 := n6_; clear n0_ n1_ n2_ n3_ n4_ n5_ n6_; clear hb hbox hg; have hnb15 := NB190_187.out; have hnc15 := NB187_190.out; have hcz16_0 : w14.cell? ⟨gb190, 0, none⟩ = some (.int .i64 0) := (blk_cell BK190.out 0).trans rfl; have hcz16_1 : w14.cell? ⟨gb190, 1, none⟩ = some (.string (⟨#[]⟩ : ByteArray)) := (blk_cell BK190.out 1).trans rfl; have hfz16_0 := blk_frozen BK190.out 0; have hfz16_1 := blk_frozen BK190.out 1))
                  go_roundg k1
                  case measure => have := HK1.out; omega
                  case rel => exact ⟨(x5_1), (wrap64 (x16_1 + 1)), (by first | rfl | (simp; done) | (simp [*]; done)), (by first | rfl | (simp; done) | (simp [*]; done)), H', ⟨by have := HK1.out; omega⟩, ⟨by (with_reducible repeat (first | refine blk_drewN ?_ _ | refine blk_drew ?_ | refine blk_alloc ?_ _)); refine blk_far ?_ NB187_190.out _; (with_reducible repeat (first | refine blk_drewN ?_ _ | refine blk_drew ?_ | refine blk_alloc ?_ _)); refine blk_far ?_ NB187_190.out _; (with_reducible repeat (first | refine blk_drewN ?_ _ | refine blk_drew ?_ | refine blk_alloc ?_ _)); exact BK187.out⟩, ⟨by repeat (first | (with_reducible first | exact HB.out | apply below_alloc | apply pw_below_drewN | apply below_drew1 | refine below_set ?_ GE187.out | refine below_set ?_ GE190.out) | exact HB.out)⟩⟩
              · rw [if_neg c9] at H
                exact absurd H (by simp)
            · rw [if_neg c8] at H
              exact absurd H (by simp)
          · rw [if_neg c7] at H
            have c7b0 : decide (x16_1 < (l0_1.length : Int)) = false := decide_eq_false c7
            clear c7
            obtain rfl := Option.some.inj H
            go_wp2
            go_ret
            exact ⟨by first | rfl | (rw [show ∀ n_ : Int, -9223372036854775808 ≤ n_ → n_ < 9223372036854775808 → wrap64 n_ = n_ from fun n_ h1_ h2_ => by unfold wrap64; omega] <;> first | rfl | omega) | (simp [errW_none, errW_some] <;> rfl) | (simp [*, errW_none, errW_some] <;> rfl), by repeat (first | (with_reducible first | exact HB.out | apply below_alloc | apply pw_below_drewN | apply below_drew1 | refine below_set ?_ GE187.out) | exact HB.out)⟩
    · rw [if_neg c4] at H
      exact absurd H (by simp)
  · rw [if_neg c3] at H
    exact absurd H (by simp)

end Go.Proofs.YtniplmjbligmlaaDoor.Q
