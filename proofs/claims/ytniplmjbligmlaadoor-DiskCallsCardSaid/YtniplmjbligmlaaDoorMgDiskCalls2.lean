/- Texts of this claim, one behind the other. -/
import Derived.Test.YtniplmjbligmlaaDoorMgDiskCalls1
import Derived.Lib.SliceRun
/-! Rules: a row compared with none; a part of a row copied over another one; slices.Clone, slices.Repeat. -/
namespace Go.Proofs.YtniplmjbligmlaaDoor.V
open Go.RowKit Go.Proofs.YtniplmjbligmlaaDoorW.PrintLast
set_option linter.unusedVariables false
set_option linter.unusedSimpArgs false
section
variable {P : Program} {l : List Oper} {a : Act} {rest : List Oper} {Q : Exit → Act → World → Prop} {w : World} {n : Nat} {D : List Deferred} {T : Tm} {tb : Tb}
variable {d : Nat} {op : Op} {ty : TypeId} {pos : String} {aft : Array Edge} {g : Option (Nat × Bool)}
variable {M F0 F : Nat → Prop} {w0 : World} {B B' B1 B2 : List Box} {R : List (World → Prop)}
variable {α : Type} {dk : Kd α} {Ad A2 : Option Addr} {xs ys zs : List α}
variable {S : World → Prop} {ds : List Nat} {fuel : Nat} {lb : Array Bool}
theorem sx_isnil (A : Fr n D T a) (hT : TbOk P tb) (hw : wantedT T l g = some true) {t u e : TypeId} {x y : Operand} {m c sz by_ : Nat} {zs : List Value} (ht : tb.lookup t = some ⟨.slice e, sz, by_, zs⟩) (hx : ev T x = some (.slice Ad m c)) (hy : ev T y = some (.slice none 0 0)) (hd : Nat.blt d n = true)
    (K : ∀ a', Fr n D ((d, .bool Ad.isNone) :: T) a' → wpList P l.toArray Q rest a' w) : wpList P l.toArray Q (⟨some d, .binOp .eql t x y u, ty, pos, aft, g⟩ :: rest) a w :=
  list_run A hw (bin_run A rfl hx hy (by unfold eqGuard; split <;> rfl) (Lib.run_eql_slice_nil w _ _ Ad m c 0 0 (hT _ _ ht).slice)) (K _ (A.put (blt_lt hd) _))
theorem cutv_run (A : Fr n D T a) (hT : TbOk P tb) {t e : TypeId} {x : Operand} {nn c : Nat} {lo hi : Option Operand} {i j : Int} {sz by_ sze bye : Nat} {zs0 zse : List Value} {ke : TK} (ht : tb.lookup t = some ⟨.slice e, sz, by_, zs0⟩) (he : tb.lookup e = some ⟨ke, sze, bye, zse⟩) (hx : ev T x = some (.slice Ad nn c)) (hlo : bnd T 0 lo = some i) (hhi : bnd T nn hi = some j)
    (h0 : 0 ≤ i) (h1 : i ≤ j) (h2 : j ≤ c) (hcl : nn ≤ c) (w : World) : (execOp a.eval ⟨some d, .slice t x lo hi none, ty, pos, aft, g⟩).run P w = .ok (.value (.slice (if c = i.toNat then Ad else Ad.map (·.add (i.toNat * sze))) (j.toNat - i.toNat) (c - i.toNat))) w := by
  have hund := run_underlying (hT _ _ ht).slice w
  have hsz := (hT _ _ he).run_size w
  have hb := run_bounds (P := P) (w := w) A true nn c hlo hhi h0 h1 (by omega) hcl
  unfold execOp
  simp [Instr.sliceAt, Instr.slice, hund, A.ev hx, hb, hsz]
theorem vcut (A : Fr n D T a) (hT : TbOk P tb) (q : Nat) (lb' : Array Bool) {t e : TypeId} {x : Operand} {nn c : Nat} {lo hi : Option Operand} {i j : Int} {sz by_ sze bye : Nat} {zs0 zse : List Value} {ke : TK} {v : Value} (hi' : l.toArray[q]? = some ⟨some d, .slice t x lo hi none, ty, pos, aft, g⟩) (hc : anyB .any l.toArray lb lb' q = true) (hQ : ∀ c a v w, Q (.panic c) (a.put (some d) v) w → Q (.panic c) a w) (hw : wantedT T l g = some true)
    (ht : tb.lookup t = some ⟨.slice e, sz, by_, zs0⟩) (he : tb.lookup e = some ⟨ke, sze, bye, zse⟩) (hx : ev T x = some (.slice Ad nn c)) (hlo : bnd T 0 lo = some i) (hhi : bnd T nn hi = some j) (hd : Nat.blt d n = true) (h0 : 0 ≤ i) (h1 : i ≤ j) (h2 : j ≤ c) (hcl : nn ≤ c) (hv : Value.slice (if c = i.toNat then Ad else Ad.map (·.add (i.toNat * sze))) (j.toNat - i.toNat) (c - i.toNat) = v)
    (K : ∀ a', Fr n D ((d, v) :: T) a' → wpAnyLast P .any l.toArray Q S ds fuel lb' a' w) : wpAnyLast P .any l.toArray Q S ds (fuel + 1) lb a w := by
  subst hv
  exact pure_ lb' hi' rfl hc (fun c a w hq => hQ c _ _ w hq) (.inl ⟨wanted_of (o := ⟨some d, .slice t x lo hi none, ty, pos, aft, g⟩) A hw, fun w => cutv_run A hT ht he hx hlo hhi h0 h1 h2 hcl w⟩) rfl (K _ (A.put (blt_lt hd) _))
theorem src_take {w : World} {F : Nat → Prop} (h : Src' dk A2 zs w F) (j : Nat) (hj : j ≤ zs.length) : Src' dk A2 (zs.take j) w F := by
  obtain ⟨cs, h1, h2, h3, h4⟩ := h
  refine ⟨cs.take (j * dk.sz), reps_take h1 j hj, ?_, fun u hu => h3 u (List.mem_of_mem_take hu), fun h0 => ?_⟩
  · have := Nat.mul_le_mul_right dk.sz hj
    rw [List.length_take, List.length_take, show min j zs.length = j by omega]; omega
  · rw [List.length_take] at h0
    obtain ⟨a0, e, h5⟩ := h4 (by omega)
    refine ⟨a0, e, fun q u hu => h5 q u ?_⟩
    rw [List.getElem?_take] at hu
    split at hu
    · exact hu
    · cases hu
theorem reps_drop {cs : List Value} {w : World} {F : Nat → Prop} (h : Foot (Reps dk ys cs) w F) (m : Nat) (hm : m ≤ ys.length) : Foot (Reps dk (ys.drop m) (cs.drop (m * dk.sz))) w F := fun W hW => by
  obtain ⟨h1, h2⟩ := h W hW
  have hle : m * dk.sz ≤ cs.length := by rw [h1]; exact Nat.mul_le_mul_right _ hm
  refine ⟨by rw [List.length_drop, List.length_drop, h1, Nat.sub_mul], fun j z hz => ?_⟩
  rw [List.getElem?_drop] at hz
  have := h2 (m + j) z hz
  rw [List.drop_drop, show m * dk.sz + j * dk.sz = (m + j) * dk.sz by rw [Nat.add_mul]]
  exact this
/-- copy: what stands in one row over a part of a row of one's own. -/
theorem copy_at_run (H : St M F0 w0 F B R w) (hT : TbOk P tb) {t t2 e : TypeId} {b o nd cd c c2 sz by_ sze bye : Nat} {zt zse : List Value} {ke : TK} (ht : tb.lookup t = some ⟨.slice e, sz, by_, zt⟩) (he : tb.lookup e = some ⟨ke, sze, bye, zse⟩)
    (hu : Upd B (.row dk e (some ⟨b, 0, none⟩) c ys) (.row dk e (some ⟨b, 0, none⟩) c (ys.take o ++ (zs ++ ys.drop (o + zs.length)))) B') (hsrc : Src' dk A2 zs w F) (hs : dk.sz = sze) (h0 : 0 < zs.length) (ho : o + zs.length ≤ ys.length) {ns : Nat} (hm : min ns nd = zs.length) :
    ∃ w', (Builtin.copy_ #[t, t2] ty #[.slice (some ⟨b, o * sze, none⟩) nd cd, .slice A2 ns c2]).run P w = .ok (.int .i64 zs.length) w' ∧ St M F0 w0 F B' R w' := by
  subst hs
  obtain ⟨cs, g1, g2⟩ := H.box _ hu.mem
  obtain ⟨ns', f1, f2, f3, f4⟩ := hsrc
  have hsz := (hT _ _ he).run_size w
  have hund := run_underlying (hT _ _ ht).slice w
  obtain ⟨a0, rfl, f5⟩ := f4 h0
  rcases g1.2 with ⟨hv, _⟩ | ⟨g', cap, cur, hv, _, hg, hnc, hcm, hcs, htake⟩
  · cases hv
  injection hv with ha _ hcap
  injection ha with ha
  injection ha with ha
  subst ha; subst hcap
  have hmc : ys.length * dk.sz ≤ c * dk.sz := Nat.mul_le_mul_right _ hnc
  have hoc : (o + zs.length) * dk.sz ≤ ys.length * dk.sz := Nat.mul_le_mul_right _ ho
  rw [Nat.add_mul] at hoc
  have hlen : cur.toList.length = c * dk.sz := by rw [Array.length_toList]; exact hcs
  have hcsl : cs.length = ys.length * dk.sz := g1.1
  have hr := run_storeCells_at P b (o * dk.sz) e ns' 0 cur w hg (by rw [f2]; omega) f3
  have hlc := run_loadCells_list (P := P) w a0 ns' f5
  rw [f2] at hlc
  have hr2 := hr
  simp only [Nat.add_zero, Nat.zero_add] at hr2
  refine ⟨w.setRow b (cur.toList.take (o * dk.sz) ++ ns' ++ cur.toList.drop (o * dk.sz + ns'.length)).toArray, ?_, H.turn hu rfl rfl rfl (by simp [World.setRow]) (fun k _ hk => ?_) ?_ (fun _ h => .inl h)⟩
  · have hmm : Nat.min ns nd = zs.length := hm
    simp [Builtin.copy_, Sem.run_bind, hund, hsz, Builtin.lenOf, Builtin.firstCells, goInt, hmm, hlc, hr2]
  · have hne : k ≠ b := fun e => hk (by subst e; rfl)
    simp only [World.setRow, Array.getElem?_modify]
    rw [if_neg (Ne.symm hne)]
  · have hh : (w.setRow b (cur.toList.take (o * dk.sz) ++ ns' ++ cur.toList.drop (o * dk.sz + ns'.length)).toArray).heap[b]? = some (.cells (cur.toList.take (o * dk.sz) ++ ns' ++ cur.toList.drop (o * dk.sz + ns'.length)).toArray e (0, 0)) := by
      rw [setRow_heap w b _ _ e _ hg]
    have hcl : (cur.toList.take (o * dk.sz) ++ ns' ++ cur.toList.drop (o * dk.sz + ns'.length)).length = c * dk.sz := by
      rw [List.length_append, List.length_append, List.length_drop, List.length_take, hlen, f2]; omega
    have hlz : (ys.take o ++ (zs ++ ys.drop (o + zs.length))).length = ys.length := by
      rw [List.length_append, List.length_append, List.length_drop, List.length_take]; omega
    have htk : (cur.toList.take (o * dk.sz) ++ ns' ++ cur.toList.drop (o * dk.sz + ns'.length)).take (ys.length * dk.sz) = cs.take (o * dk.sz) ++ (ns' ++ cs.drop ((o + zs.length) * dk.sz)) := by
      rw [← htake, List.append_assoc, List.take_append, List.take_take, List.take_append, List.length_take, hlen, f2, List.take_take, List.drop_take, Nat.add_mul]
      rw [show min (ys.length * dk.sz) (o * dk.sz) = o * dk.sz by omega, show min (o * dk.sz) (ys.length * dk.sz) = o * dk.sz by omega, show min (o * dk.sz) (c * dk.sz) = o * dk.sz by omega]
      rw [List.take_of_length_le (show ns'.length ≤ ys.length * dk.sz - o * dk.sz by rw [f2]; omega)]
      congr 3
      omega
    have hown := own_row_mk (n := ys.length) hh hcl hnc hcm
    rw [htk] at hown
    have f1' := reps_append (reps_take g2 o (by omega)) (reps_append f1 (reps_drop g2 (o + zs.length) (by omega)))
    refine ⟨_, ?_, f1'.step (fun k hk _ => ?_)⟩
    · show World.ownsRow _ 0 e dk.sz (.slice (some ⟨b, 0, none⟩) (ys.take o ++ (zs ++ ys.drop (o + zs.length))).length c) (ys.take o ++ (zs ++ ys.drop (o + zs.length))).length _
      rw [hlz]; exact hown
    · have hne : k ≠ b := fun e => H.nf _ hu.mem k (by subst e; rfl) hk
      simp only [World.setRow, Array.getElem?_modify]
      rw [if_neg (Ne.symm hne)]
theorem sx_copyAt (H : St M F0 w0 F B R w) (A : Fr n D T a) (hT : TbOk P tb) (hw : wantedT T l g = some true) {t t2 e : TypeId} {x y : Operand} {b o nd cd c c2 sz by_ sze bye : Nat} {ns : Nat} {zt zse : List Value} {ke : TK} (ht : tb.lookup t = some ⟨.slice e, sz, by_, zt⟩) (he : tb.lookup e = some ⟨ke, sze, bye, zse⟩)
    (hx : ev T x = some (.slice (some ⟨b, o * sze, none⟩) nd cd)) (hy : ev T y = some (.slice A2 ns c2)) (hdd : Nat.blt d n = true) (hsrc : Src' dk A2 zs w F) (h0 : 0 < zs.length) (ho : o + zs.length ≤ ys.length) (hm : min ns nd = zs.length)
    (K : ∀ a' w', Fr n D ((d, .int .i64 zs.length) :: T) a' → St M F0 w0 F B' R w' → wpList P l.toArray Q rest a' w')
    (hu : Upd B (.row dk e (some ⟨b, 0, none⟩) c ys) (.row dk e (some ⟨b, 0, none⟩) c (ys.take o ++ (zs ++ ys.drop (o + zs.length)))) B' := by (repeat (first | with_reducible exact Upd.hd | apply Upd.tl))) (hs : dk.sz = sze := by rfl) : wpList P l.toArray Q (⟨some d, .call ⟨.builtin .copy, #[x, y], #[t, t2]⟩, ty, pos, aft, g⟩ :: rest) a w := by
  obtain ⟨w', h1, h2⟩ := copy_at_run (P := P) (ty := ty) (t2 := t2) (cd := cd) (c2 := c2) H hT ht he hu hsrc hs h0 ho hm
  refine list_run A hw (v := .int .i64 zs.length) (w' := w') ?_ (K _ _ (A.put (blt_lt hdd) _) h2)
  unfold execOp
  simp [resolve, invoke, builtin, A.ev hx, A.ev hy, h1]
theorem sx_copy0 (A : Fr n D T a) (hT : TbOk P tb) (hw : wantedT T l g = some true) {t t2 e : TypeId} {x y : Operand} {nd cd ns c2 sz by_ sze bye : Nat} {zt zse : List Value} {ke : TK} (ht : tb.lookup t = some ⟨.slice e, sz, by_, zt⟩) (he : tb.lookup e = some ⟨ke, sze, bye, zse⟩)
    (hx : ev T x = some (.slice Ad nd cd)) (hy : ev T y = some (.slice A2 ns c2)) (hdd : Nat.blt d n = true) (h0 : min ns nd = 0) (K : ∀ a', Fr n D ((d, .int .i64 0) :: T) a' → wpList P l.toArray Q rest a' w) : wpList P l.toArray Q (⟨some d, .call ⟨.builtin .copy, #[x, y], #[t, t2]⟩, ty, pos, aft, g⟩ :: rest) a w := by
  have hsz := (hT _ _ he).run_size w
  have hund := run_underlying (hT _ _ ht).slice w
  have hmm : Nat.min ns nd = 0 := h0
  refine list_run A hw (v := .int .i64 0) (w' := w) ?_ (K _ (A.put (blt_lt hdd) _))
  unfold execOp
  cases Ad <;> cases A2 <;> simp [resolve, invoke, builtin, A.ev hx, A.ev hy, Builtin.copy_, hund, hsz, Builtin.lenOf, Builtin.firstCells, load0, storeCells, goInt, hmm]
end
theorem and64 (n : Nat) (hn : n < 4294967296) : arithI .and .u64 (n : Int) 4294967295 = some (n : Int) := by
  show some (IntKind.u64.wrap ((BitVec.ofInt 64 (n : Int) &&& BitVec.ofInt 64 4294967295).toNat : Int)) = _
  have : (BitVec.ofInt 64 (n : Int) &&& BitVec.ofInt 64 4294967295).toNat = n := by
    rw [BitVec.toNat_and, show (BitVec.ofInt 64 (n : Int)).toNat = n by (simp [BitVec.toNat_ofInt]; omega), show (BitVec.ofInt 64 4294967295).toNat = 2 ^ 32 - 1 by decide, Nat.and_two_pow_sub_one_eq_mod]; omega
  rw [this, wrap_u64 (by omega) (by omega)]
def trueL (k n : Nat) : List Bool := List.replicate k true ++ List.replicate (n - k) false
theorem trueL_len (k n : Nat) (h : k ≤ n) : (trueL k n).length = n := by simp [trueL]; omega
theorem trueL_take (k m n : Nat) (h : m ≤ k) : (trueL k n).take m = List.replicate m true := by
  unfold trueL
  rw [List.take_append_of_le_length (by simpa using h), List.take_replicate, Nat.min_eq_left h]
theorem trueL_put (k m n : Nat) (h : k + m ≤ n) : (trueL k n).take k ++ (List.replicate m true ++ (trueL k n).drop (k + m)) = trueL (k + m) n := by
  rw [trueL_take k k n (Nat.le_refl _)]
  unfold trueL
  rw [List.drop_append, List.length_replicate, List.drop_of_length_le (by simp), List.nil_append, List.drop_replicate, show n - k - (k + m - k) = n - (k + m) by omega, ← List.append_assoc, List.replicate_append_replicate]
section
variable {M F0 F : Nat → Prop} {w0 w : World} {B : List Box} {R : List (World → Prop)} {K : Ending → World → Prop}
set_option maxRecDepth 100000
set_option maxHeartbeats 4000000
theorem sl_Mul64_one (H : St M F0 w0 F B R w) {n : Nat} (hn : n < 4294967296) (k : ∀ Fx w', St M F0 w0 Fx B R w' → K (.returned (.tuple #[.int .u64 0, .int .u64 (n : Int)])) w') : Calls Tryd.prog 88 #[.int .u64 1, .int .u64 (n : Int)] w K := by
  refine St.fn0 H (R0 := []) no_mem (fun H => ?_)
  refine sx_enter Tryd.func88 Tryd.ntmps88 rfl rfl (fun a A => ?_)
  have a1 : arithI .and .u64 1 4294967295 = some 1 := and64 1 (by decide)
  have a2 := and64 n hn
  have a3 : arithI .and .u64 0 4294967295 = some 0 := and64 0 (by decide)
  have s1 : (1 : Int).fdiv (2 ^ min (32 : Int).toNat IntKind.u64.bits) = 0 := by decide
  have s2 : (n : Int).fdiv (2 ^ min (32 : Int).toNat IntKind.u64.bits) = 0 := by
    rw [Int.fdiv_eq_ediv_of_nonneg _ (by decide)]
    exact Int.ediv_eq_zero_of_lt (by omega) (by show (n : Int) < 4294967296; omega)
  have s3 : (0 : Int).fdiv (2 ^ min (32 : Int).toNat IntKind.u64.bits) = 0 := by decide
  have m1 : arithI .mul .u64 1 (n : Int) = some (n : Int) := by show some (IntKind.u64.wrap (1 * (n : Int))) = _; rw [Int.one_mul, wrap_u64 (by omega) (by omega)]
  have m2 : arithI .mul .u64 0 (n : Int) = some 0 := by show some (IntKind.u64.wrap (0 * (n : Int))) = _; rw [Int.zero_mul]; rfl
  have m3 : arithI .mul .u64 1 0 = some 0 := by decide
  have m4 : arithI .mul .u64 0 0 = some 0 := by decide
  have p1 : arithI .add .u64 0 0 = some 0 := by decide
  repeat' (first
    | (refine sx_ret tbOk H A rfl ?_; exact H.ret0 fun Fx Hx => k Fx _ Hx)
    | with_reducible refine wp_seq ?_
    | with_reducible refine sx_region ?_
    | with_reducible refine wp_block ?_
    | with_reducible refine wpList_nil ?_
    | with_reducible refine sx_then ?_
    | with_reducible refine sx_inb ?_
    | with_reducible refine wp_skip ?_
    | with_reducible refine wp_ret ?_
    | with_reducible refine wp_exit ?_
    | with_reducible refine sx_then_ret ?_
    | with_reducible refine sx_inb_ret ?_
    | with_reducible refine sx_then_exit ?_
    | with_reducible refine sx_inb_exit ?_
    | with_reducible refine sx_inb_other rfl ?_
    | with_reducible refine sx_if_t A rfl ?_
    | with_reducible refine sx_if_f A rfl ?_
    | ((with_reducible refine sx_at ?_); first
      | (refine sx_pure A tbOk rfl rfl rfl ?_; clear A; intro a A)
      | (refine sx_skip A rfl rfl ?_; clear A; intro a A)
      | ((with_reducible refine g_bin ?_); first | ((refine g_int A rfl ?_); first | (refine sx_cmp A rfl rfl rfl rfl ?_; clear A; intro a A) | (refine sx_arith A rfl rfl rfl rfl ?_; clear A; intro a A) | (refine sx_shl A rfl rfl rfl rfl ?_; clear A; intro a A) | (refine sx_shr A rfl rfl rfl rfl ?_; clear A; intro a A)) | ((refine g_str A rfl ?_); first | (refine sx_scmp A rfl rfl rfl rfl ?_; clear A; intro a A) | (refine sx_concat A rfl rfl rfl rfl ?_; clear A; intro a A)))
      | ((with_reducible refine g_load ?_); first | (refine sx_load_all H A tbOk rfl rfl rfl rfl rfl ?_; clear A; intro a A) | (refine sx_load H A tbOk rfl rfl rfl rfl ?_; clear A; intro a A))
      | ((with_reducible refine g_store ?_); refine sx_store H A tbOk rfl rfl rfl rfl ?_; clear H; intro w_ H)
      | ((with_reducible refine g_box ?_); refine sx_box H A rfl rfl rfl ?_; clear H A; intro b_ a w_ A H)
      | ((with_reducible refine g_alloc ?_); refine sx_alloc H A tbOk rfl rfl rfl ?_; clear H A; intro b_ a w_ A H)
      | ((with_reducible refine g_build ?_); refine sx_build A tbOk rfl rfl rfl rfl rfl rfl ?_; clear A; intro a A)
      | ((with_reducible refine g_builtin ?_); first | (refine sx_min A rfl rfl rfl rfl ?_; clear A; intro a A) | (refine sx_max A rfl rfl rfl rfl ?_; clear A; intro a A))
      | ((with_reducible refine g_slice ?_); first | (refine sx_sstr A tbOk rfl rfl rfl rfl rfl rfl ?_; clear A; intro a A) | (refine sx_cut H A tbOk rfl rfl rfl rfl rfl rfl rfl ?_; clear A H; intro A_ c_ a hc_ A H))
      | ((with_reducible refine g_index ?_); refine sx_sidx A tbOk rfl rfl rfl rfl rfl ?_; clear A; intro a A)
      | ((with_reducible refine g_idx ?_); first | (refine sx_idx H A tbOk rfl rfl rfl rfl rfl rfl ?_; clear A; intro a A) | (refine sx_oidx H A tbOk rfl rfl rfl rfl rfl rfl ?_; clear A; intro a A))
      | ((with_reducible refine g_conv ?_); refine sx_conv A tbOk rfl rfl rfl rfl rfl ?_; clear A; intro a A)
      )
    | ((with_reducible refine g_draw ?_); refine qx_region H (by kernel_rfl) (by kernel_rfl) ?_)
    | ((with_reducible refine qx_nil ?_); clear H; intro w_ F_ H)
    | ((with_reducible refine q_at ?_); first
      | (refine qx_pure A tbOk rfl rfl rfl ?_; clear A; intro a A)
      | (refine qx_skip A rfl rfl ?_; clear A; intro a A)
      | ((with_reducible refine qg_bin ?_); first | ((refine qg_int A rfl ?_); first | (refine qx_cmp A rfl rfl rfl rfl ?_; clear A; intro a A) | (refine qx_arith A rfl rfl rfl rfl ?_; clear A; intro a A)) | ((refine qg_str A rfl ?_); first | (refine qx_scmp A rfl rfl rfl rfl ?_; clear A; intro a A) | (refine qx_concat A rfl rfl rfl rfl ?_; clear A; intro a A)))
      | ((with_reducible refine qg_builtin ?_); first | (refine qx_min A rfl rfl rfl rfl ?_; clear A; intro a A) | (refine qx_max A rfl rfl rfl rfl ?_; clear A; intro a A))
      | ((with_reducible refine qg_slice ?_); refine qx_sstr A tbOk rfl rfl rfl rfl rfl rfl ?_; clear A; intro a A)
      | ((with_reducible refine qg_load ?_); refine qx_load A tbOk rfl rfl rfl rfl ?_; clear A; intro a A)
      | ((with_reducible refine qg_idx ?_); first | (refine qx_idx H A tbOk rfl rfl rfl rfl rfl rfl ?_; clear A; intro a A) | (refine qx_oidx H A tbOk rfl rfl rfl rfl rfl rfl ?_; clear A; intro a A)))
    )
theorem sl_Mul_one (H : St M F0 w0 F B R w) {n : Nat} (hn : n < 4294967296) (k : ∀ Fx w', St M F0 w0 Fx B R w' → K (.returned (.tuple #[.int .u64 0, .int .u64 (n : Int)])) w') : Calls Tryd.prog 76 #[.int .u64 1, .int .u64 (n : Int)] w K := by
  refine St.fn0 H (R0 := []) no_mem (fun H => ?_)
  refine sx_enter Tryd.func76 Tryd.ntmps76 rfl rfl (fun a A => ?_)
  repeat' (first
    | ((with_reducible refine g_call ?_); refine sx_call (f := 88) A rfl Tryd.call88 rfl rfl ?_; refine sl_Mul64_one H hn ?_; clear H; intro F_ w_ H; refine ⟨_, rfl, ?_⟩; clear A; intro a A)
    | (refine sx_ret tbOk H A rfl ?_; exact H.ret0 fun Fx Hx => k Fx _ Hx)
    | with_reducible refine wp_seq ?_
    | with_reducible refine sx_region ?_
    | with_reducible refine wp_block ?_
    | with_reducible refine wpList_nil ?_
    | with_reducible refine sx_then ?_
    | with_reducible refine sx_inb ?_
    | with_reducible refine wp_skip ?_
    | with_reducible refine wp_ret ?_
    | with_reducible refine wp_exit ?_
    | with_reducible refine sx_then_ret ?_
    | with_reducible refine sx_inb_ret ?_
    | with_reducible refine sx_then_exit ?_
    | with_reducible refine sx_inb_exit ?_
    | with_reducible refine sx_inb_other rfl ?_
    | with_reducible refine sx_if_t A rfl ?_
    | with_reducible refine sx_if_f A rfl ?_
    | ((with_reducible refine sx_at ?_); first
      | (refine sx_pure A tbOk rfl rfl rfl ?_; clear A; intro a A)
      | (refine sx_skip A rfl rfl ?_; clear A; intro a A)
      | ((with_reducible refine g_bin ?_); first | ((refine g_int A rfl ?_); first | (refine sx_cmp A rfl rfl rfl rfl ?_; clear A; intro a A) | (refine sx_arith A rfl rfl rfl rfl ?_; clear A; intro a A) | (refine sx_shl A rfl rfl rfl rfl ?_; clear A; intro a A) | (refine sx_shr A rfl rfl rfl rfl ?_; clear A; intro a A)) | ((refine g_str A rfl ?_); first | (refine sx_scmp A rfl rfl rfl rfl ?_; clear A; intro a A) | (refine sx_concat A rfl rfl rfl rfl ?_; clear A; intro a A)))
      | ((with_reducible refine g_load ?_); first | (refine sx_load_all H A tbOk rfl rfl rfl rfl rfl ?_; clear A; intro a A) | (refine sx_load H A tbOk rfl rfl rfl rfl ?_; clear A; intro a A))
      | ((with_reducible refine g_store ?_); refine sx_store H A tbOk rfl rfl rfl rfl ?_; clear H; intro w_ H)
      | ((with_reducible refine g_box ?_); refine sx_box H A rfl rfl rfl ?_; clear H A; intro b_ a w_ A H)
      | ((with_reducible refine g_alloc ?_); refine sx_alloc H A tbOk rfl rfl rfl ?_; clear H A; intro b_ a w_ A H)
      | ((with_reducible refine g_build ?_); refine sx_build A tbOk rfl rfl rfl rfl rfl rfl ?_; clear A; intro a A)
      | ((with_reducible refine g_builtin ?_); first | (refine sx_min A rfl rfl rfl rfl ?_; clear A; intro a A) | (refine sx_max A rfl rfl rfl rfl ?_; clear A; intro a A))
      | ((with_reducible refine g_slice ?_); first | (refine sx_sstr A tbOk rfl rfl rfl rfl rfl rfl ?_; clear A; intro a A) | (refine sx_cut H A tbOk rfl rfl rfl rfl rfl rfl rfl ?_; clear A H; intro A_ c_ a hc_ A H))
      | ((with_reducible refine g_index ?_); refine sx_sidx A tbOk rfl rfl rfl rfl rfl ?_; clear A; intro a A)
      | ((with_reducible refine g_idx ?_); first | (refine sx_idx H A tbOk rfl rfl rfl rfl rfl rfl ?_; clear A; intro a A) | (refine sx_oidx H A tbOk rfl rfl rfl rfl rfl rfl ?_; clear A; intro a A))
      | ((with_reducible refine g_conv ?_); refine sx_conv A tbOk rfl rfl rfl rfl rfl ?_; clear A; intro a A)
      )
    | ((with_reducible refine g_draw ?_); refine qx_region H (by kernel_rfl) (by kernel_rfl) ?_)
    | ((with_reducible refine qx_nil ?_); clear H; intro w_ F_ H)
    | ((with_reducible refine q_at ?_); first
      | (refine qx_pure A tbOk rfl rfl rfl ?_; clear A; intro a A)
      | (refine qx_skip A rfl rfl ?_; clear A; intro a A)
      | ((with_reducible refine qg_bin ?_); first | ((refine qg_int A rfl ?_); first | (refine qx_cmp A rfl rfl rfl rfl ?_; clear A; intro a A) | (refine qx_arith A rfl rfl rfl rfl ?_; clear A; intro a A)) | ((refine qg_str A rfl ?_); first | (refine qx_scmp A rfl rfl rfl rfl ?_; clear A; intro a A) | (refine qx_concat A rfl rfl rfl rfl ?_; clear A; intro a A)))
      | ((with_reducible refine qg_builtin ?_); first | (refine qx_min A rfl rfl rfl rfl ?_; clear A; intro a A) | (refine qx_max A rfl rfl rfl rfl ?_; clear A; intro a A))
      | ((with_reducible refine qg_slice ?_); refine qx_sstr A tbOk rfl rfl rfl rfl rfl rfl ?_; clear A; intro a A)
      | ((with_reducible refine qg_load ?_); refine qx_load A tbOk rfl rfl rfl rfl ?_; clear A; intro a A)
      | ((with_reducible refine qg_idx ?_); first | (refine qx_idx H A tbOk rfl rfl rfl rfl rfl rfl ?_; clear A; intro a A) | (refine qx_oidx H A tbOk rfl rfl rfl rfl rfl rfl ?_; clear A; intro a A)))
    )
theorem sl_repeatTrue (H : St M F0 w0 F B R w) {A0 : Option Addr} {c0 n : Nat} (hn : n < 4294967296) (k : ∀ Fx w' A' c', Cap (List.replicate n true).length c' → St M F0 w0 Fx B (rdc Kd.bool A' (List.replicate n true) :: R) w' → K (.returned (.slice A' (List.replicate n true).length c')) w') (hm : rdc Kd.bool A0 [true] ∈ R := by (repeat (first | with_reducible exact List.mem_cons_self | apply List.mem_cons_of_mem))) : Calls Tryd.prog 65 #[.slice A0 1 c0, .int .i64 (n : Int)] w K := by
  refine St.fn0 H (R0 := [rdc Kd.bool A0 [true]]) (fun p hp => by rw [List.mem_singleton.1 hp]; exact hm) (fun H => ?_)
  refine sx_enter Tryd.func65 Tryd.ntmps65 rfl rfl (fun a A => ?_)
  have hv1 : IntKind.u64.wrap (n : Int) = (n : Int) := wrap_u64 (by omega) (by omega)
  have hv2 : IntKind.i64.wrap (n : Int) = (n : Int) := wrap_i64 (by omega) (by omega)
  have hlr : (List.replicate n false).length = n := List.length_replicate ..
  have ht0 : List.replicate n false = trueL 0 n := by simp [trueL]
  rcases Nat.eq_zero_or_pos n with rfl | hpos
  · repeat' (first
    | ((with_reducible refine g_call ?_); refine sx_call (f := 76) A rfl Tryd.call76 rfl rfl ?_; refine sl_Mul_one H hn ?_; clear H; intro F_ w_ H; refine ⟨_, rfl, ?_⟩; clear A; intro a A)
    | ((with_reducible refine g_make ?_); refine sx_make (dk := Kd.bool) H A tbOk rfl rfl rfl rfl rfl rfl false (fun _ => rfl) rfl ?_ (m' := 0); clear H A; intro br a w_ A H)
    | ((with_reducible refine g_dst 33 ?_); refine sx_copy0 A tbOk rfl rfl rfl rfl rfl rfl rfl ?_; clear A; intro a A)
    | with_reducible refine wp_seq ?_
    | with_reducible refine sx_region ?_
    | with_reducible refine wp_block ?_
    | with_reducible refine wpList_nil ?_
    | with_reducible refine sx_then ?_
    | with_reducible refine sx_inb ?_
    | with_reducible refine wp_skip ?_
    | with_reducible refine wp_ret ?_
    | with_reducible refine wp_exit ?_
    | with_reducible refine sx_then_ret ?_
    | with_reducible refine sx_inb_ret ?_
    | with_reducible refine sx_then_exit ?_
    | with_reducible refine sx_inb_exit ?_
    | with_reducible refine sx_inb_other rfl ?_
    | with_reducible refine sx_if_t A rfl ?_
    | with_reducible refine sx_if_f A rfl ?_
    | ((with_reducible refine sx_at ?_); first
      | (refine sx_pure A tbOk rfl rfl rfl ?_; clear A; intro a A)
      | (refine sx_skip A rfl rfl ?_; clear A; intro a A)
      | ((with_reducible refine g_bin ?_); first | ((refine g_int A rfl ?_); first | (refine sx_cmp A rfl rfl rfl rfl ?_; clear A; intro a A) | (refine sx_arith A rfl rfl rfl rfl ?_; clear A; intro a A) | (refine sx_shl A rfl rfl rfl rfl ?_; clear A; intro a A) | (refine sx_shr A rfl rfl rfl rfl ?_; clear A; intro a A)) | ((refine g_str A rfl ?_); first | (refine sx_scmp A rfl rfl rfl rfl ?_; clear A; intro a A) | (refine sx_concat A rfl rfl rfl rfl ?_; clear A; intro a A)))
      | ((with_reducible refine g_load ?_); first | (refine sx_load_all H A tbOk rfl rfl rfl rfl rfl ?_; clear A; intro a A) | (refine sx_load H A tbOk rfl rfl rfl rfl ?_; clear A; intro a A))
      | ((with_reducible refine g_store ?_); refine sx_store H A tbOk rfl rfl rfl rfl ?_; clear H; intro w_ H)
      | ((with_reducible refine g_box ?_); refine sx_box H A rfl rfl rfl ?_; clear H A; intro b_ a w_ A H)
      | ((with_reducible refine g_alloc ?_); refine sx_alloc H A tbOk rfl rfl rfl ?_; clear H A; intro b_ a w_ A H)
      | ((with_reducible refine g_build ?_); refine sx_build A tbOk rfl rfl rfl rfl rfl rfl ?_; clear A; intro a A)
      | ((with_reducible refine g_builtin ?_); first | (refine sx_min A rfl rfl rfl rfl ?_; clear A; intro a A) | (refine sx_max A rfl rfl rfl rfl ?_; clear A; intro a A))
      | ((with_reducible refine g_slice ?_); first | (refine sx_sstr A tbOk rfl rfl rfl rfl rfl rfl ?_; clear A; intro a A) | (refine sx_cut H A tbOk rfl rfl rfl rfl rfl rfl rfl ?_; clear A H; intro A_ c_ a hc_ A H))
      | ((with_reducible refine g_index ?_); refine sx_sidx A tbOk rfl rfl rfl rfl rfl ?_; clear A; intro a A)
      | ((with_reducible refine g_idx ?_); first | (refine sx_idx H A tbOk rfl rfl rfl rfl rfl rfl ?_; clear A; intro a A) | (refine sx_oidx H A tbOk rfl rfl rfl rfl rfl rfl ?_; clear A; intro a A))
      | ((with_reducible refine g_conv ?_); refine sx_conv A tbOk rfl rfl rfl rfl rfl ?_; clear A; intro a A)
      )
    | ((with_reducible refine g_draw ?_); refine qx_region H (by kernel_rfl) (by kernel_rfl) ?_)
    | ((with_reducible refine qx_nil ?_); clear H; intro w_ F_ H)
    | ((with_reducible refine q_at ?_); first
      | (refine qx_pure A tbOk rfl rfl rfl ?_; clear A; intro a A)
      | (refine qx_skip A rfl rfl ?_; clear A; intro a A)
      | ((with_reducible refine qg_bin ?_); first | ((refine qg_int A rfl ?_); first | (refine qx_cmp A rfl rfl rfl rfl ?_; clear A; intro a A) | (refine qx_arith A rfl rfl rfl rfl ?_; clear A; intro a A)) | ((refine qg_str A rfl ?_); first | (refine qx_scmp A rfl rfl rfl rfl ?_; clear A; intro a A) | (refine qx_concat A rfl rfl rfl rfl ?_; clear A; intro a A)))
      | ((with_reducible refine qg_builtin ?_); first | (refine qx_min A rfl rfl rfl rfl ?_; clear A; intro a A) | (refine qx_max A rfl rfl rfl rfl ?_; clear A; intro a A))
      | ((with_reducible refine qg_slice ?_); refine qx_sstr A tbOk rfl rfl rfl rfl rfl rfl ?_; clear A; intro a A)
      | ((with_reducible refine qg_load ?_); refine qx_load A tbOk rfl rfl rfl rfl ?_; clear A; intro a A)
      | ((with_reducible refine qg_idx ?_); first | (refine qx_idx H A tbOk rfl rfl rfl rfl rfl rfl ?_; clear A; intro a A) | (refine qx_oidx H A tbOk rfl rfl rfl rfl rfl rfl ?_; clear A; intro a A)))
    )
    refine sx_rounds (fun i : Nat => i = 0) (fun i => [(8, .int .i64 0), (7, .slice (some ⟨br, 0, none⟩) 0 0)]) (fun i => [.row Kd.bool _ (some ⟨br, 0, none⟩) 0 []]) (fun _ => []) (fun i => 0) 0 (H.only (fun p hp => absurd hp List.not_mem_nil)) A.subs rfl (fun i F a W hi H A => ?_)
    repeat' (first
    | (refine sx_ret tbOk H A rfl ?_; obtain ⟨hcp, F2, _, H2⟩ := H.freeze_row Del.hd; exact H2.retR (ps := [rdc Kd.bool (some ⟨br, 0, none⟩) ([] : List Bool)]) (fun Fx Hx => k Fx _ _ _ hcp Hx))
    | with_reducible refine wp_seq ?_
    | with_reducible refine sx_region ?_
    | with_reducible refine wp_block ?_
    | with_reducible refine wpList_nil ?_
    | with_reducible refine sx_then ?_
    | with_reducible refine sx_inb ?_
    | with_reducible refine wp_skip ?_
    | with_reducible refine wp_ret ?_
    | with_reducible refine wp_exit ?_
    | with_reducible refine sx_then_ret ?_
    | with_reducible refine sx_inb_ret ?_
    | with_reducible refine sx_then_exit ?_
    | with_reducible refine sx_inb_exit ?_
    | with_reducible refine sx_inb_other rfl ?_
    | with_reducible refine sx_if_t A rfl ?_
    | with_reducible refine sx_if_f A rfl ?_
    | ((with_reducible refine sx_at ?_); first
      | (refine sx_pure A tbOk rfl rfl rfl ?_; clear A; intro a A)
      | (refine sx_skip A rfl rfl ?_; clear A; intro a A)
      | ((with_reducible refine g_bin ?_); first | ((refine g_int A rfl ?_); first | (refine sx_cmp A rfl rfl rfl rfl ?_; clear A; intro a A) | (refine sx_arith A rfl rfl rfl rfl ?_; clear A; intro a A) | (refine sx_shl A rfl rfl rfl rfl ?_; clear A; intro a A) | (refine sx_shr A rfl rfl rfl rfl ?_; clear A; intro a A)) | ((refine g_str A rfl ?_); first | (refine sx_scmp A rfl rfl rfl rfl ?_; clear A; intro a A) | (refine sx_concat A rfl rfl rfl rfl ?_; clear A; intro a A)))
      | ((with_reducible refine g_load ?_); first | (refine sx_load_all H A tbOk rfl rfl rfl rfl rfl ?_; clear A; intro a A) | (refine sx_load H A tbOk rfl rfl rfl rfl ?_; clear A; intro a A))
      | ((with_reducible refine g_store ?_); refine sx_store H A tbOk rfl rfl rfl rfl ?_; clear H; intro w_ H)
      | ((with_reducible refine g_box ?_); refine sx_box H A rfl rfl rfl ?_; clear H A; intro b_ a w_ A H)
      | ((with_reducible refine g_alloc ?_); refine sx_alloc H A tbOk rfl rfl rfl ?_; clear H A; intro b_ a w_ A H)
      | ((with_reducible refine g_build ?_); refine sx_build A tbOk rfl rfl rfl rfl rfl rfl ?_; clear A; intro a A)
      | ((with_reducible refine g_builtin ?_); first | (refine sx_min A rfl rfl rfl rfl ?_; clear A; intro a A) | (refine sx_max A rfl rfl rfl rfl ?_; clear A; intro a A))
      | ((with_reducible refine g_slice ?_); first | (refine sx_sstr A tbOk rfl rfl rfl rfl rfl rfl ?_; clear A; intro a A) | (refine sx_cut H A tbOk rfl rfl rfl rfl rfl rfl rfl ?_; clear A H; intro A_ c_ a hc_ A H))
      | ((with_reducible refine g_index ?_); refine sx_sidx A tbOk rfl rfl rfl rfl rfl ?_; clear A; intro a A)
      | ((with_reducible refine g_idx ?_); first | (refine sx_idx H A tbOk rfl rfl rfl rfl rfl rfl ?_; clear A; intro a A) | (refine sx_oidx H A tbOk rfl rfl rfl rfl rfl rfl ?_; clear A; intro a A))
      | ((with_reducible refine g_conv ?_); refine sx_conv A tbOk rfl rfl rfl rfl rfl ?_; clear A; intro a A)
      )
    | ((with_reducible refine g_draw ?_); refine qx_region H (by kernel_rfl) (by kernel_rfl) ?_)
    | ((with_reducible refine qx_nil ?_); clear H; intro w_ F_ H)
    | ((with_reducible refine q_at ?_); first
      | (refine qx_pure A tbOk rfl rfl rfl ?_; clear A; intro a A)
      | (refine qx_skip A rfl rfl ?_; clear A; intro a A)
      | ((with_reducible refine qg_bin ?_); first | ((refine qg_int A rfl ?_); first | (refine qx_cmp A rfl rfl rfl rfl ?_; clear A; intro a A) | (refine qx_arith A rfl rfl rfl rfl ?_; clear A; intro a A)) | ((refine qg_str A rfl ?_); first | (refine qx_scmp A rfl rfl rfl rfl ?_; clear A; intro a A) | (refine qx_concat A rfl rfl rfl rfl ?_; clear A; intro a A)))
      | ((with_reducible refine qg_builtin ?_); first | (refine qx_min A rfl rfl rfl rfl ?_; clear A; intro a A) | (refine qx_max A rfl rfl rfl rfl ?_; clear A; intro a A))
      | ((with_reducible refine qg_slice ?_); refine qx_sstr A tbOk rfl rfl rfl rfl rfl rfl ?_; clear A; intro a A)
      | ((with_reducible refine qg_load ?_); refine qx_load A tbOk rfl rfl rfl rfl ?_; clear A; intro a A)
      | ((with_reducible refine qg_idx ?_); first | (refine qx_idx H A tbOk rfl rfl rfl rfl rfl rfl ?_; clear A; intro a A) | (refine qx_oidx H A tbOk rfl rfl rfl rfl rfl rfl ?_; clear A; intro a A)))
    )
  · repeat' (first
    | ((with_reducible refine g_call ?_); refine sx_call (f := 76) A rfl Tryd.call76 rfl rfl ?_; refine sl_Mul_one H hn ?_; clear H; intro F_ w_ H; refine ⟨_, rfl, ?_⟩; clear A; intro a A)
    | ((with_reducible refine g_make ?_); refine sx_make (dk := Kd.bool) H A tbOk rfl rfl rfl rfl rfl rfl false (fun _ => rfl) rfl ?_ (m' := n); clear H A; intro br a w_ A H; rw [hlr] at A)
    | ((with_reducible refine g_dst 33 ?_); refine sx_copyAt (dk := Kd.bool) (o := 0) (zs := [true]) (ys := List.replicate n false) H A tbOk rfl rfl rfl rfl rfl rfl (src_rdc (by decide) (H.get (by (repeat (first | with_reducible exact List.mem_cons_self | apply List.mem_cons_of_mem))))) (by decide) (by rw [hlr]; exact hpos) (by show min 1 n = 1; omega) ?_; clear H A; intro a w_ A H)
    | with_reducible refine wp_seq ?_
    | with_reducible refine sx_region ?_
    | with_reducible refine wp_block ?_
    | with_reducible refine wpList_nil ?_
    | with_reducible refine sx_then ?_
    | with_reducible refine sx_inb ?_
    | with_reducible refine wp_skip ?_
    | with_reducible refine wp_ret ?_
    | with_reducible refine wp_exit ?_
    | with_reducible refine sx_then_ret ?_
    | with_reducible refine sx_inb_ret ?_
    | with_reducible refine sx_then_exit ?_
    | with_reducible refine sx_inb_exit ?_
    | with_reducible refine sx_inb_other rfl ?_
    | with_reducible refine sx_if_t A rfl ?_
    | with_reducible refine sx_if_f A rfl ?_
    | ((with_reducible refine sx_at ?_); first
      | (refine sx_pure A tbOk rfl rfl rfl ?_; clear A; intro a A)
      | (refine sx_skip A rfl rfl ?_; clear A; intro a A)
      | ((with_reducible refine g_bin ?_); first | ((refine g_int A rfl ?_); first | (refine sx_cmp A rfl rfl rfl rfl ?_; clear A; intro a A) | (refine sx_arith A rfl rfl rfl rfl ?_; clear A; intro a A) | (refine sx_shl A rfl rfl rfl rfl ?_; clear A; intro a A) | (refine sx_shr A rfl rfl rfl rfl ?_; clear A; intro a A)) | ((refine g_str A rfl ?_); first | (refine sx_scmp A rfl rfl rfl rfl ?_; clear A; intro a A) | (refine sx_concat A rfl rfl rfl rfl ?_; clear A; intro a A)))
      | ((with_reducible refine g_load ?_); first | (refine sx_load_all H A tbOk rfl rfl rfl rfl rfl ?_; clear A; intro a A) | (refine sx_load H A tbOk rfl rfl rfl rfl ?_; clear A; intro a A))
      | ((with_reducible refine g_store ?_); refine sx_store H A tbOk rfl rfl rfl rfl ?_; clear H; intro w_ H)
      | ((with_reducible refine g_box ?_); refine sx_box H A rfl rfl rfl ?_; clear H A; intro b_ a w_ A H)
      | ((with_reducible refine g_alloc ?_); refine sx_alloc H A tbOk rfl rfl rfl ?_; clear H A; intro b_ a w_ A H)
      | ((with_reducible refine g_build ?_); refine sx_build A tbOk rfl rfl rfl rfl rfl rfl ?_; clear A; intro a A)
      | ((with_reducible refine g_builtin ?_); first | (refine sx_min A rfl rfl rfl rfl ?_; clear A; intro a A) | (refine sx_max A rfl rfl rfl rfl ?_; clear A; intro a A))
      | ((with_reducible refine g_slice ?_); first | (refine sx_sstr A tbOk rfl rfl rfl rfl rfl rfl ?_; clear A; intro a A) | (refine sx_cut H A tbOk rfl rfl rfl rfl rfl rfl rfl ?_; clear A H; intro A_ c_ a hc_ A H))
      | ((with_reducible refine g_index ?_); refine sx_sidx A tbOk rfl rfl rfl rfl rfl ?_; clear A; intro a A)
      | ((with_reducible refine g_idx ?_); first | (refine sx_idx H A tbOk rfl rfl rfl rfl rfl rfl ?_; clear A; intro a A) | (refine sx_oidx H A tbOk rfl rfl rfl rfl rfl rfl ?_; clear A; intro a A))
      | ((with_reducible refine g_conv ?_); refine sx_conv A tbOk rfl rfl rfl rfl rfl ?_; clear A; intro a A)
      )
    | ((with_reducible refine g_draw ?_); refine qx_region H (by kernel_rfl) (by kernel_rfl) ?_)
    | ((with_reducible refine qx_nil ?_); clear H; intro w_ F_ H)
    | ((with_reducible refine q_at ?_); first
      | (refine qx_pure A tbOk rfl rfl rfl ?_; clear A; intro a A)
      | (refine qx_skip A rfl rfl ?_; clear A; intro a A)
      | ((with_reducible refine qg_bin ?_); first | ((refine qg_int A rfl ?_); first | (refine qx_cmp A rfl rfl rfl rfl ?_; clear A; intro a A) | (refine qx_arith A rfl rfl rfl rfl ?_; clear A; intro a A)) | ((refine qg_str A rfl ?_); first | (refine qx_scmp A rfl rfl rfl rfl ?_; clear A; intro a A) | (refine qx_concat A rfl rfl rfl rfl ?_; clear A; intro a A)))
      | ((with_reducible refine qg_builtin ?_); first | (refine qx_min A rfl rfl rfl rfl ?_; clear A; intro a A) | (refine qx_max A rfl rfl rfl rfl ?_; clear A; intro a A))
      | ((with_reducible refine qg_slice ?_); refine qx_sstr A tbOk rfl rfl rfl rfl rfl rfl ?_; clear A; intro a A)
      | ((with_reducible refine qg_load ?_); refine qx_load A tbOk rfl rfl rfl rfl ?_; clear A; intro a A)
      | ((with_reducible refine qg_idx ?_); first | (refine qx_idx H A tbOk rfl rfl rfl rfl rfl rfl ?_; clear A; intro a A) | (refine qx_oidx H A tbOk rfl rfl rfl rfl rfl rfl ?_; clear A; intro a A)))
    )
    have hr1 : (List.replicate n false).take 0 ++ ([true] ++ (List.replicate n false).drop (0 + [true].length)) = trueL 1 n := by
      have := trueL_put 0 1 n (by omega)
      rw [← ht0] at this
      simpa using this
    rw [hr1] at H
    refine sx_rounds (fun i : Nat => 0 < i ∧ i ≤ n) (fun i => [(8, .int .i64 (i : Int)), (7, .slice (some ⟨br, 0, none⟩) n n)]) (fun i => [.row Kd.bool _ (some ⟨br, 0, none⟩) n (trueL i n)]) (fun _ => []) (fun i => n - i) 1 (H.only (fun p hp => absurd hp List.not_mem_nil)) A.subs ⟨by decide, hpos⟩ (fun i F a W hi H A => ?_)
    obtain ⟨hi0, hi⟩ := hi
    have hlen := trueL_len i n hi
    have hzl : (List.replicate (min i (n - i)) true).length = min i (n - i) := List.length_replicate ..
    have hsrc : ∀ {F0 F : Nat → Prop} {w0 w : World} {M : Nat → Prop}, St M F0 w0 F [.row Kd.bool 4 (some ⟨br, 0, none⟩) n (trueL i n)] [] w → Src' Kd.bool (some ⟨br, 0, none⟩) (List.replicate (min i (n - i)) true) w F := by
      intro F0 F w0 w M H
      have := src_take (src_row H List.mem_cons_self) (min i (n - i)) (by rw [hlen]; omega)
      rwa [trueL_take _ _ _ (by omega)] at this
    have hcut1 : i < n → Value.slice (if n = (i : Int).toNat then some ⟨br, 0, none⟩ else (some (⟨br, 0, none⟩ : Addr)).map (·.add ((i : Int).toNat * 1))) ((n : Int).toNat - (i : Int).toNat) (n - (i : Int).toNat) = .slice (some ⟨br, i * 1, none⟩) (n - i) (n - i) := by
      intro h
      rw [if_neg (by omega)]
      simp [add_spot]
    have hcut2 : i < n → Value.slice (if n = (0 : Int).toNat then some ⟨br, 0, none⟩ else (some (⟨br, 0, none⟩ : Addr)).map (·.add ((0 : Int).toNat * 1))) ((i : Int).toNat - (0 : Int).toNat) (n - (0 : Int).toNat) = .slice (some ⟨br, 0, none⟩) i n := by
      intro h
      rw [if_neg (by simp; omega)]
      simp [add_spot]
    have hadd : arithI .add .i64 (i : Int) ((min i (n - i) : Nat) : Int) = some ((i + min i (n - i) : Nat) : Int) := by
      show some (IntKind.i64.wrap _) = _
      rw [wrap_i64 (by omega) (by omega)]; rfl
    rcases Nat.lt_or_ge i n with hlt | hge
    · replace hcut1 := hcut1 hlt
      replace hcut2 := hcut2 hlt
      repeat' (first
    | ((with_reducible refine g_draw ?_); refine vstartB H [] [7, 8] #[false, false, false, false, false, false, false, false, false, false] (by kernel_rfl) rfl rfl (fun w_ H => ?_))
    | with_reducible refine wp_seq ?_
    | with_reducible refine sx_region ?_
    | with_reducible refine wp_block ?_
    | with_reducible refine wpList_nil ?_
    | with_reducible refine sx_then ?_
    | with_reducible refine sx_inb ?_
    | with_reducible refine wp_skip ?_
    | with_reducible refine wp_ret ?_
    | with_reducible refine wp_exit ?_
    | with_reducible refine sx_then_ret ?_
    | with_reducible refine sx_inb_ret ?_
    | with_reducible refine sx_then_exit ?_
    | with_reducible refine sx_inb_exit ?_
    | with_reducible refine sx_inb_other rfl ?_
    | with_reducible refine sx_if_t A rfl ?_
    | with_reducible refine sx_if_f A rfl ?_
    | ((with_reducible refine sx_at ?_); first
      | (refine sx_pure A tbOk rfl rfl rfl ?_; clear A; intro a A)
      | (refine sx_skip A rfl rfl ?_; clear A; intro a A)
      | ((with_reducible refine g_bin ?_); first | ((refine g_int A rfl ?_); first | (refine sx_cmp A rfl rfl rfl rfl ?_; clear A; intro a A) | (refine sx_arith A rfl rfl rfl rfl ?_; clear A; intro a A) | (refine sx_shl A rfl rfl rfl rfl ?_; clear A; intro a A) | (refine sx_shr A rfl rfl rfl rfl ?_; clear A; intro a A)) | ((refine g_str A rfl ?_); first | (refine sx_scmp A rfl rfl rfl rfl ?_; clear A; intro a A) | (refine sx_concat A rfl rfl rfl rfl ?_; clear A; intro a A)))
      | ((with_reducible refine g_load ?_); first | (refine sx_load_all H A tbOk rfl rfl rfl rfl rfl ?_; clear A; intro a A) | (refine sx_load H A tbOk rfl rfl rfl rfl ?_; clear A; intro a A))
      | ((with_reducible refine g_store ?_); refine sx_store H A tbOk rfl rfl rfl rfl ?_; clear H; intro w_ H)
      | ((with_reducible refine g_box ?_); refine sx_box H A rfl rfl rfl ?_; clear H A; intro b_ a w_ A H)
      | ((with_reducible refine g_alloc ?_); refine sx_alloc H A tbOk rfl rfl rfl ?_; clear H A; intro b_ a w_ A H)
      | ((with_reducible refine g_build ?_); refine sx_build A tbOk rfl rfl rfl rfl rfl rfl ?_; clear A; intro a A)
      | ((with_reducible refine g_builtin ?_); first | (refine sx_min A rfl rfl rfl rfl ?_; clear A; intro a A) | (refine sx_max A rfl rfl rfl rfl ?_; clear A; intro a A))
      | ((with_reducible refine g_slice ?_); first | (refine sx_sstr A tbOk rfl rfl rfl rfl rfl rfl ?_; clear A; intro a A) | (refine sx_cut H A tbOk rfl rfl rfl rfl rfl rfl rfl ?_; clear A H; intro A_ c_ a hc_ A H))
      | ((with_reducible refine g_index ?_); refine sx_sidx A tbOk rfl rfl rfl rfl rfl ?_; clear A; intro a A)
      | ((with_reducible refine g_idx ?_); first | (refine sx_idx H A tbOk rfl rfl rfl rfl rfl rfl ?_; clear A; intro a A) | (refine sx_oidx H A tbOk rfl rfl rfl rfl rfl rfl ?_; clear A; intro a A))
      | ((with_reducible refine g_conv ?_); refine sx_conv A tbOk rfl rfl rfl rfl rfl ?_; clear A; intro a A)
      )
    | ((with_reducible refine g_draw ?_); refine qx_region H (by kernel_rfl) (by kernel_rfl) ?_)
    | ((with_reducible refine qx_nil ?_); clear H; intro w_ F_ H)
    | ((with_reducible refine q_at ?_); first
      | (refine qx_pure A tbOk rfl rfl rfl ?_; clear A; intro a A)
      | (refine qx_skip A rfl rfl ?_; clear A; intro a A)
      | ((with_reducible refine qg_bin ?_); first | ((refine qg_int A rfl ?_); first | (refine qx_cmp A rfl rfl rfl rfl ?_; clear A; intro a A) | (refine qx_arith A rfl rfl rfl rfl ?_; clear A; intro a A)) | ((refine qg_str A rfl ?_); first | (refine qx_scmp A rfl rfl rfl rfl ?_; clear A; intro a A) | (refine qx_concat A rfl rfl rfl rfl ?_; clear A; intro a A)))
      | ((with_reducible refine qg_builtin ?_); first | (refine qx_min A rfl rfl rfl rfl ?_; clear A; intro a A) | (refine qx_max A rfl rfl rfl rfl ?_; clear A; intro a A))
      | ((with_reducible refine qg_slice ?_); refine qx_sstr A tbOk rfl rfl rfl rfl rfl rfl ?_; clear A; intro a A)
      | ((with_reducible refine qg_load ?_); refine qx_load A tbOk rfl rfl rfl rfl ?_; clear A; intro a A)
      | ((with_reducible refine qg_idx ?_); first | (refine qx_idx H A tbOk rfl rfl rfl rfl rfl rfl ?_; clear A; intro a A) | (refine qx_oidx H A tbOk rfl rfl rfl rfl rfl rfl ?_; clear A; intro a A)))
      )
      refine vp A tbOk 0 #[true, false, false, false, false, false, false, false, false, false] rfl (by kernel_rfl) (fun _ _ _ _ h => h) rfl rfl rfl rfl ?_; clear A; intro a A
      refine vp A tbOk 1 #[true, true, false, false, false, false, false, false, false, false] rfl (by kernel_rfl) (fun _ _ _ _ h => h) rfl rfl rfl rfl ?_; clear A; intro a A
      refine vp A tbOk 2 #[true, true, true, false, false, false, false, false, false, false] rfl (by kernel_rfl) (fun _ _ _ _ h => h) rfl rfl rfl rfl ?_; clear A; intro a A
      refine vcut A tbOk 3 #[true, true, true, true, false, false, false, false, false, false] rfl (by kernel_rfl) (fun _ _ _ _ h => h) rfl rfl rfl rfl rfl rfl rfl (by omega) (by omega) (by omega) (Nat.le_refl _) hcut1 ?_; clear A; intro a A
      refine vp A tbOk 4 #[true, true, true, true, true, false, false, false, false, false] rfl (by kernel_rfl) (fun _ _ _ _ h => h) rfl rfl rfl rfl ?_; clear A; intro a A
      refine vp A tbOk 5 #[true, true, true, true, true, true, false, false, false, false] rfl (by kernel_rfl) (fun _ _ _ _ h => h) rfl rfl rfl rfl ?_; clear A; intro a A
      refine vcut A tbOk 6 #[true, true, true, true, true, true, true, false, false, false] rfl (by kernel_rfl) (fun _ _ _ _ h => h) rfl rfl rfl rfl rfl rfl rfl (by omega) (by omega) (by omega) (Nat.le_refl _) hcut2 ?_; clear A; intro a A
      refine vone #[true, true, true, true, true, true, true, true, false, false] (i := 7) rfl (by kernel_rfl) ?_
      refine sx_copyAt (dk := Kd.bool) (o := i) (zs := List.replicate (min i (n - i)) true) (ys := trueL i n) H A tbOk rfl rfl rfl rfl rfl rfl (hsrc H) (by rw [hzl]; omega) (by rw [hzl, trueL_len _ _ (by omega)]; omega) hzl.symm ?_; clear H A; intro a w_ A H; rw [hzl] at A
      refine wpList_nil ?_
      refine ⟨fun hn => absurd (by decide) hn, ?_⟩
      refine vone #[true, true, true, true, true, true, true, true, true, false] (i := 8) rfl (by kernel_rfl) ?_
      refine sx_arith A rfl rfl rfl rfl ?_ (hr := hadd); clear A; intro a A
      refine wpList_nil ?_
      refine ⟨fun hn => absurd (by decide) hn, ?_⟩
      refine vp A tbOk 9 #[true, true, true, true, true, true, true, true, true, true] rfl (by kernel_rfl) (fun _ _ _ _ h => h) rfl rfl rfl rfl ?_; clear A; intro a A
      refine vdone (by kernel_rfl) ?_
      rw [hzl, trueL_put i (min i (n - i)) n (by omega)] at H
      exact ⟨i + min i (n - i), _, ⟨by omega, by omega⟩, by omega, H, A.subs⟩
    · obtain rfl : i = n := by omega
      have ht : trueL i i = List.replicate i true := by simp [trueL]
      rw [ht] at H
      have hlt : (List.replicate i true).length = i := List.length_replicate ..
      repeat' (first
    | (refine sx_ret tbOk H A rfl ?_; obtain ⟨hcp, F2, _, H2⟩ := H.freeze_row Del.hd; exact H2.retR (ps := [_]) (fun Fx Hx => by (rw [hlt] at k hcp; exact k Fx _ _ _ hcp Hx)))
    | (refine sx_end tbOk H A rfl ?_; obtain ⟨hcp, F2, _, H2⟩ := H.freeze_row Del.hd; exact H2.retR (ps := [_]) (fun Fx Hx => by (rw [hlt] at k hcp; exact k Fx _ _ _ hcp Hx)))
    | with_reducible refine wp_seq ?_
    | with_reducible refine sx_region ?_
    | with_reducible refine wp_block ?_
    | with_reducible refine wpList_nil ?_
    | with_reducible refine sx_then ?_
    | with_reducible refine sx_inb ?_
    | with_reducible refine wp_skip ?_
    | with_reducible refine wp_ret ?_
    | with_reducible refine wp_exit ?_
    | with_reducible refine sx_then_ret ?_
    | with_reducible refine sx_inb_ret ?_
    | with_reducible refine sx_then_exit ?_
    | with_reducible refine sx_inb_exit ?_
    | with_reducible refine sx_inb_other rfl ?_
    | with_reducible refine sx_if_t A rfl ?_
    | with_reducible refine sx_if_f A rfl ?_
    | ((with_reducible refine sx_at ?_); first
      | (refine sx_pure A tbOk rfl rfl rfl ?_; clear A; intro a A)
      | (refine sx_skip A rfl rfl ?_; clear A; intro a A)
      | ((with_reducible refine g_bin ?_); first | ((refine g_int A rfl ?_); first | (refine sx_cmp A rfl rfl rfl rfl ?_; clear A; intro a A) | (refine sx_arith A rfl rfl rfl rfl ?_; clear A; intro a A) | (refine sx_shl A rfl rfl rfl rfl ?_; clear A; intro a A) | (refine sx_shr A rfl rfl rfl rfl ?_; clear A; intro a A)) | ((refine g_str A rfl ?_); first | (refine sx_scmp A rfl rfl rfl rfl ?_; clear A; intro a A) | (refine sx_concat A rfl rfl rfl rfl ?_; clear A; intro a A)))
      | ((with_reducible refine g_load ?_); first | (refine sx_load_all H A tbOk rfl rfl rfl rfl rfl ?_; clear A; intro a A) | (refine sx_load H A tbOk rfl rfl rfl rfl ?_; clear A; intro a A))
      | ((with_reducible refine g_store ?_); refine sx_store H A tbOk rfl rfl rfl rfl ?_; clear H; intro w_ H)
      | ((with_reducible refine g_box ?_); refine sx_box H A rfl rfl rfl ?_; clear H A; intro b_ a w_ A H)
      | ((with_reducible refine g_alloc ?_); refine sx_alloc H A tbOk rfl rfl rfl ?_; clear H A; intro b_ a w_ A H)
      | ((with_reducible refine g_build ?_); refine sx_build A tbOk rfl rfl rfl rfl rfl rfl ?_; clear A; intro a A)
      | ((with_reducible refine g_builtin ?_); first | (refine sx_min A rfl rfl rfl rfl ?_; clear A; intro a A) | (refine sx_max A rfl rfl rfl rfl ?_; clear A; intro a A))
      | ((with_reducible refine g_slice ?_); first | (refine sx_sstr A tbOk rfl rfl rfl rfl rfl rfl ?_; clear A; intro a A) | (refine sx_cut H A tbOk rfl rfl rfl rfl rfl rfl rfl ?_; clear A H; intro A_ c_ a hc_ A H))
      | ((with_reducible refine g_index ?_); refine sx_sidx A tbOk rfl rfl rfl rfl rfl ?_; clear A; intro a A)
      | ((with_reducible refine g_idx ?_); first | (refine sx_idx H A tbOk rfl rfl rfl rfl rfl rfl ?_; clear A; intro a A) | (refine sx_oidx H A tbOk rfl rfl rfl rfl rfl rfl ?_; clear A; intro a A))
      | ((with_reducible refine g_conv ?_); refine sx_conv A tbOk rfl rfl rfl rfl rfl ?_; clear A; intro a A)
      )
    | ((with_reducible refine g_draw ?_); refine qx_region H (by kernel_rfl) (by kernel_rfl) ?_)
    | ((with_reducible refine qx_nil ?_); clear H; intro w_ F_ H)
    | ((with_reducible refine q_at ?_); first
      | (refine qx_pure A tbOk rfl rfl rfl ?_; clear A; intro a A)
      | (refine qx_skip A rfl rfl ?_; clear A; intro a A)
      | ((with_reducible refine qg_bin ?_); first | ((refine qg_int A rfl ?_); first | (refine qx_cmp A rfl rfl rfl rfl ?_; clear A; intro a A) | (refine qx_arith A rfl rfl rfl rfl ?_; clear A; intro a A)) | ((refine qg_str A rfl ?_); first | (refine qx_scmp A rfl rfl rfl rfl ?_; clear A; intro a A) | (refine qx_concat A rfl rfl rfl rfl ?_; clear A; intro a A)))
      | ((with_reducible refine qg_builtin ?_); first | (refine qx_min A rfl rfl rfl rfl ?_; clear A; intro a A) | (refine qx_max A rfl rfl rfl rfl ?_; clear A; intro a A))
      | ((with_reducible refine qg_slice ?_); refine qx_sstr A tbOk rfl rfl rfl rfl rfl rfl ?_; clear A; intro a A)
      | ((with_reducible refine qg_load ?_); refine qx_load A tbOk rfl rfl rfl rfl ?_; clear A; intro a A)
      | ((with_reducible refine qg_idx ?_); first | (refine qx_idx H A tbOk rfl rfl rfl rfl rfl rfl ?_; clear A; intro a A) | (refine qx_oidx H A tbOk rfl rfl rfl rfl rfl rfl ?_; clear A; intro a A)))
      )
end
end Go.Proofs.YtniplmjbligmlaaDoor.V

/-! Layer 3 of the program, walked: rows copied; what a crash leaves. -/
namespace Go.Proofs.YtniplmjbligmlaaDoor.V
open Go.RowKit Go.Proofs.YtniplmjbligmlaaDoorW.PrintLast
set_option linter.unusedVariables false
set_option linter.unusedSimpArgs false
def crashN (kp : Nat → Bool) (ss : List ByteArray) (ws : List Wr) : Nat → List ByteArray
  | 0 => ss
  | n + 1 => match ws[n]? with
    | some x => if kp n then (crashN kp ss ws n).set x.sec.toNat x.bytes else crashN kp ss ws n
    | none => crashN kp ss ws n
def valN (kp : Nat → Bool) (ws : List Wr) (q : Nat) (s : ByteArray) : Nat → ByteArray
  | 0 => s
  | n + 1 => match ws[n]? with
    | some x => if x.sec = (q : Int) ∧ kp n = true then x.bytes else valN kp ws q s n
    | none => valN kp ws q s n
theorem crashN_len (kp : Nat → Bool) (ss : List ByteArray) (ws : List Wr) (n : Nat) : (crashN kp ss ws n).length = ss.length := by
  induction n with
  | zero => rfl
  | succ n ih =>
    unfold crashN
    split
    · split
      · rw [List.length_set, ih]
      · exact ih
    · exact ih
theorem crashN_val (kp : Nat → Bool) (ss : List ByteArray) (ws : List Wr) (hw : ∀ x ∈ ws, 0 ≤ x.sec) (n q : Nat) (s : ByteArray) (hq : ss[q]? = some s) : (crashN kp ss ws n)[q]? = some (valN kp ws q s n) := by
  induction n with
  | zero => exact hq
  | succ n ih =>
    unfold crashN valN
    cases hx : ws[n]? with
    | none => exact ih
    | some x =>
      have h0 := hw x (List.mem_of_getElem? hx)
      have hlt : q < (crashN kp ss ws n).length := by rw [crashN_len]; exact (List.getElem?_eq_some_iff.1 hq).1
      cases hk : kp n
      · simp only [Bool.false_eq_true, if_false, and_false]; exact ih
      · simp only [if_true, and_true]
        by_cases hs : x.sec = (q : Int)
        · rw [if_pos hs, hs, Int.toNat_natCast, List.getElem?_set_self hlt]
        · rw [if_neg hs, List.getElem?_set_ne (by omega)]; exact ih
theorem right_sec {ss : List ByteArray} {ws : List Wr} (h : rightB ss ws = true) : 1 ≤ ss.length ∧ ss.length ≤ 256 ∧ ∀ x ∈ ws, 0 ≤ x.sec ∧ x.sec < (ss.length : Int) := by
  unfold rightB at h
  simp only [Bool.and_eq_true, decide_eq_true_eq] at h
  obtain ⟨⟨⟨h1, h2⟩, _⟩, h3⟩ := h
  refine ⟨h1, h2, fun x hx => ?_⟩
  have := List.all_eq_true.1 h3 x hx
  unfold wrB hasB at this
  simp only [Bool.and_eq_true, decide_eq_true_eq] at this
  exact this.1
section
variable {M F0 F : Nat → Prop} {w0 w : World} {B : List Box} {R : List (World → Prop)} {K : Ending → World → Prop}
set_option maxRecDepth 100000
set_option maxHeartbeats 4000000
theorem sl_cloneS (H : St M F0 w0 F B R w) {A0 : Option Addr} {c0 : Nat} {ss : List ByteArray} (hl : ss.length ≤ 1000000) (k : ∀ Fx w' A' c', St M F0 w0 Fx (.row Kd.string 9 A' c' ss :: B) R w' → K (.returned (.slice A' ss.length c')) w') (hm : rdc Kd.string A0 ss ∈ R := by (repeat (first | with_reducible exact List.mem_cons_self | apply List.mem_cons_of_mem))) : Calls Tryd.prog 54 #[.slice A0 ss.length c0] w K := by
  have hnil : A0 = none → ss = [] := by
    rintro rfl
    rcases Nat.eq_zero_or_pos ss.length with h | h
    · exact List.eq_nil_of_length_eq_zero h
    · obtain ⟨a, e, _⟩ := (H.get hm).now h; cases e
  refine St.fn0 H (R0 := [rdc Kd.string A0 ss]) (fun p hp => by rw [List.mem_singleton.1 hp]; exact hm) (fun H => ?_)
  refine sx_enter Tryd.func54 Tryd.ntmps54 rfl rfl (fun a A => ?_)
  cases A0 with
  | none =>
    obtain rfl := hnil rfl
    repeat' (first
    | ((with_reducible refine g_dst 4 ?_); refine sx_isnil A tbOk rfl rfl rfl rfl rfl ?_; clear A; intro a A)
    | (refine sx_ret tbOk H A rfl ?_; exact (H.nilrow Kd.string 9).retB (Bs := [_]) (ps := []) (fun Fx Hx => k Fx _ none 0 Hx))
    | with_reducible refine wp_seq ?_
    | with_reducible refine sx_region ?_
    | with_reducible refine wp_block ?_
    | with_reducible refine wpList_nil ?_
    | with_reducible refine sx_then ?_
    | with_reducible refine sx_inb ?_
    | with_reducible refine wp_skip ?_
    | with_reducible refine wp_ret ?_
    | with_reducible refine wp_exit ?_
    | with_reducible refine sx_then_ret ?_
    | with_reducible refine sx_inb_ret ?_
    | with_reducible refine sx_then_exit ?_
    | with_reducible refine sx_inb_exit ?_
    | with_reducible refine sx_inb_other rfl ?_
    | with_reducible refine sx_if_t A rfl ?_
    | with_reducible refine sx_if_f A rfl ?_
    | ((with_reducible refine sx_at ?_); first
      | (refine sx_pure A tbOk rfl rfl rfl ?_; clear A; intro a A)
      | (refine sx_skip A rfl rfl ?_; clear A; intro a A)
      | ((with_reducible refine g_bin ?_); first | ((refine g_int A rfl ?_); first | (refine sx_cmp A rfl rfl rfl rfl ?_; clear A; intro a A) | (refine sx_arith A rfl rfl rfl rfl ?_; clear A; intro a A) | (refine sx_shl A rfl rfl rfl rfl ?_; clear A; intro a A) | (refine sx_shr A rfl rfl rfl rfl ?_; clear A; intro a A)) | ((refine g_str A rfl ?_); first | (refine sx_scmp A rfl rfl rfl rfl ?_; clear A; intro a A) | (refine sx_concat A rfl rfl rfl rfl ?_; clear A; intro a A)))
      | ((with_reducible refine g_load ?_); first | (refine sx_load_all H A tbOk rfl rfl rfl rfl rfl ?_; clear A; intro a A) | (refine sx_load H A tbOk rfl rfl rfl rfl ?_; clear A; intro a A))
      | ((with_reducible refine g_store ?_); refine sx_store H A tbOk rfl rfl rfl rfl ?_; clear H; intro w_ H)
      | ((with_reducible refine g_box ?_); refine sx_box H A rfl rfl rfl ?_; clear H A; intro b_ a w_ A H)
      | ((with_reducible refine g_alloc ?_); refine sx_alloc H A tbOk rfl rfl rfl ?_; clear H A; intro b_ a w_ A H)
      | ((with_reducible refine g_build ?_); refine sx_build A tbOk rfl rfl rfl rfl rfl rfl ?_; clear A; intro a A)
      | ((with_reducible refine g_builtin ?_); first | (refine sx_min A rfl rfl rfl rfl ?_; clear A; intro a A) | (refine sx_max A rfl rfl rfl rfl ?_; clear A; intro a A))
      | ((with_reducible refine g_slice ?_); first | (refine sx_sstr A tbOk rfl rfl rfl rfl rfl rfl ?_; clear A; intro a A) | (refine sx_cut H A tbOk rfl rfl rfl rfl rfl rfl rfl ?_; clear A H; intro A_ c_ a hc_ A H))
      | ((with_reducible refine g_index ?_); refine sx_sidx A tbOk rfl rfl rfl rfl rfl ?_; clear A; intro a A)
      | ((with_reducible refine g_idx ?_); first | (refine sx_idx H A tbOk rfl rfl rfl rfl rfl rfl ?_; clear A; intro a A) | (refine sx_oidx H A tbOk rfl rfl rfl rfl rfl rfl ?_; clear A; intro a A))
      | ((with_reducible refine g_conv ?_); refine sx_conv A tbOk rfl rfl rfl rfl rfl ?_; clear A; intro a A)
      )
    | ((with_reducible refine g_draw ?_); refine qx_region H (by kernel_rfl) (by kernel_rfl) ?_)
    | ((with_reducible refine qx_nil ?_); clear H; intro w_ F_ H)
    | ((with_reducible refine q_at ?_); first
      | (refine qx_pure A tbOk rfl rfl rfl ?_; clear A; intro a A)
      | (refine qx_skip A rfl rfl ?_; clear A; intro a A)
      | ((with_reducible refine qg_bin ?_); first | ((refine qg_int A rfl ?_); first | (refine qx_cmp A rfl rfl rfl rfl ?_; clear A; intro a A) | (refine qx_arith A rfl rfl rfl rfl ?_; clear A; intro a A)) | ((refine qg_str A rfl ?_); first | (refine qx_scmp A rfl rfl rfl rfl ?_; clear A; intro a A) | (refine qx_concat A rfl rfl rfl rfl ?_; clear A; intro a A)))
      | ((with_reducible refine qg_builtin ?_); first | (refine qx_min A rfl rfl rfl rfl ?_; clear A; intro a A) | (refine qx_max A rfl rfl rfl rfl ?_; clear A; intro a A))
      | ((with_reducible refine qg_slice ?_); refine qx_sstr A tbOk rfl rfl rfl rfl rfl rfl ?_; clear A; intro a A)
      | ((with_reducible refine qg_load ?_); refine qx_load A tbOk rfl rfl rfl rfl ?_; clear A; intro a A)
      | ((with_reducible refine qg_idx ?_); first | (refine qx_idx H A tbOk rfl rfl rfl rfl rfl rfl ?_; clear A; intro a A) | (refine qx_oidx H A tbOk rfl rfl rfl rfl rfl rfl ?_; clear A; intro a A)))
    )
  | some ad =>
    repeat' (first
    | ((with_reducible refine g_dst 4 ?_); refine sx_isnil A tbOk rfl rfl rfl rfl rfl ?_; clear A; intro a A)
    | ((with_reducible refine g_lit ?_); refine sx_lit (dk := Kd.string) (ys := []) H A tbOk rfl rfl rfl rfl rfl rfl .nil ?_; clear H A; intro b_ a w_ A H)
    | ((with_reducible refine g_builtin ?_); refine sx_append (dk := Kd.string) (zs := ss) (ys := []) H A tbOk rfl rfl rfl rfl rfl rfl rfl rfl rfl ?_; clear A H; intro A1 c1 a w_ A H; rw [List.nil_append] at H A)
    | (refine sx_ret tbOk H A rfl ?_; exact H.retB (Bs := [_]) (ps := []) (fun Fx Hx => k Fx _ _ _ Hx))
    | with_reducible refine wp_seq ?_
    | with_reducible refine sx_region ?_
    | with_reducible refine wp_block ?_
    | with_reducible refine wpList_nil ?_
    | with_reducible refine sx_then ?_
    | with_reducible refine sx_inb ?_
    | with_reducible refine wp_skip ?_
    | with_reducible refine wp_ret ?_
    | with_reducible refine wp_exit ?_
    | with_reducible refine sx_then_ret ?_
    | with_reducible refine sx_inb_ret ?_
    | with_reducible refine sx_then_exit ?_
    | with_reducible refine sx_inb_exit ?_
    | with_reducible refine sx_inb_other rfl ?_
    | with_reducible refine sx_if_t A rfl ?_
    | with_reducible refine sx_if_f A rfl ?_
    | ((with_reducible refine sx_at ?_); first
      | (refine sx_pure A tbOk rfl rfl rfl ?_; clear A; intro a A)
      | (refine sx_skip A rfl rfl ?_; clear A; intro a A)
      | ((with_reducible refine g_bin ?_); first | ((refine g_int A rfl ?_); first | (refine sx_cmp A rfl rfl rfl rfl ?_; clear A; intro a A) | (refine sx_arith A rfl rfl rfl rfl ?_; clear A; intro a A) | (refine sx_shl A rfl rfl rfl rfl ?_; clear A; intro a A) | (refine sx_shr A rfl rfl rfl rfl ?_; clear A; intro a A)) | ((refine g_str A rfl ?_); first | (refine sx_scmp A rfl rfl rfl rfl ?_; clear A; intro a A) | (refine sx_concat A rfl rfl rfl rfl ?_; clear A; intro a A)))
      | ((with_reducible refine g_load ?_); first | (refine sx_load_all H A tbOk rfl rfl rfl rfl rfl ?_; clear A; intro a A) | (refine sx_load H A tbOk rfl rfl rfl rfl ?_; clear A; intro a A))
      | ((with_reducible refine g_store ?_); refine sx_store H A tbOk rfl rfl rfl rfl ?_; clear H; intro w_ H)
      | ((with_reducible refine g_box ?_); refine sx_box H A rfl rfl rfl ?_; clear H A; intro b_ a w_ A H)
      | ((with_reducible refine g_alloc ?_); refine sx_alloc H A tbOk rfl rfl rfl ?_; clear H A; intro b_ a w_ A H)
      | ((with_reducible refine g_build ?_); refine sx_build A tbOk rfl rfl rfl rfl rfl rfl ?_; clear A; intro a A)
      | ((with_reducible refine g_builtin ?_); first | (refine sx_min A rfl rfl rfl rfl ?_; clear A; intro a A) | (refine sx_max A rfl rfl rfl rfl ?_; clear A; intro a A))
      | ((with_reducible refine g_slice ?_); first | (refine sx_sstr A tbOk rfl rfl rfl rfl rfl rfl ?_; clear A; intro a A) | (refine sx_cut H A tbOk rfl rfl rfl rfl rfl rfl rfl ?_; clear A H; intro A_ c_ a hc_ A H))
      | ((with_reducible refine g_index ?_); refine sx_sidx A tbOk rfl rfl rfl rfl rfl ?_; clear A; intro a A)
      | ((with_reducible refine g_idx ?_); first | (refine sx_idx H A tbOk rfl rfl rfl rfl rfl rfl ?_; clear A; intro a A) | (refine sx_oidx H A tbOk rfl rfl rfl rfl rfl rfl ?_; clear A; intro a A))
      | ((with_reducible refine g_conv ?_); refine sx_conv A tbOk rfl rfl rfl rfl rfl ?_; clear A; intro a A)
      )
    | ((with_reducible refine g_draw ?_); refine qx_region H (by kernel_rfl) (by kernel_rfl) ?_)
    | ((with_reducible refine qx_nil ?_); clear H; intro w_ F_ H)
    | ((with_reducible refine q_at ?_); first
      | (refine qx_pure A tbOk rfl rfl rfl ?_; clear A; intro a A)
      | (refine qx_skip A rfl rfl ?_; clear A; intro a A)
      | ((with_reducible refine qg_bin ?_); first | ((refine qg_int A rfl ?_); first | (refine qx_cmp A rfl rfl rfl rfl ?_; clear A; intro a A) | (refine qx_arith A rfl rfl rfl rfl ?_; clear A; intro a A)) | ((refine qg_str A rfl ?_); first | (refine qx_scmp A rfl rfl rfl rfl ?_; clear A; intro a A) | (refine qx_concat A rfl rfl rfl rfl ?_; clear A; intro a A)))
      | ((with_reducible refine qg_builtin ?_); first | (refine qx_min A rfl rfl rfl rfl ?_; clear A; intro a A) | (refine qx_max A rfl rfl rfl rfl ?_; clear A; intro a A))
      | ((with_reducible refine qg_slice ?_); refine qx_sstr A tbOk rfl rfl rfl rfl rfl rfl ?_; clear A; intro a A)
      | ((with_reducible refine qg_load ?_); refine qx_load A tbOk rfl rfl rfl rfl ?_; clear A; intro a A)
      | ((with_reducible refine qg_idx ?_); first | (refine qx_idx H A tbOk rfl rfl rfl rfl rfl rfl ?_; clear A; intro a A) | (refine qx_oidx H A tbOk rfl rfl rfl rfl rfl rfl ?_; clear A; intro a A)))
    )
theorem sl_cloneW (H : St M F0 w0 F B R w) {A0 : Option Addr} {c0 : Nat} {ss : List Wr} (hl : ss.length ≤ 1000000) (k : ∀ Fx w' A' c', St M F0 w0 Fx (.row kWr 42 A' c' ss :: B) R w' → K (.returned (.slice A' ss.length c')) w') (hm : rdc kWr A0 ss ∈ R := by (repeat (first | with_reducible exact List.mem_cons_self | apply List.mem_cons_of_mem))) : Calls Tryd.prog 59 #[.slice A0 ss.length c0] w K := by
  have hnil : A0 = none → ss = [] := by
    rintro rfl
    rcases Nat.eq_zero_or_pos ss.length with h | h
    · exact List.eq_nil_of_length_eq_zero h
    · obtain ⟨a, e, _⟩ := (H.get hm).now h; cases e
  refine St.fn0 H (R0 := [rdc kWr A0 ss]) (fun p hp => by rw [List.mem_singleton.1 hp]; exact hm) (fun H => ?_)
  refine sx_enter Tryd.func59 Tryd.ntmps59 rfl rfl (fun a A => ?_)
  cases A0 with
  | none =>
    obtain rfl := hnil rfl
    repeat' (first
    | ((with_reducible refine g_dst 4 ?_); refine sx_isnil A tbOk rfl rfl rfl rfl rfl ?_; clear A; intro a A)
    | (refine sx_ret tbOk H A rfl ?_; exact (H.nilrow kWr 42).retB (Bs := [_]) (ps := []) (fun Fx Hx => k Fx _ none 0 Hx))
    | with_reducible refine wp_seq ?_
    | with_reducible refine sx_region ?_
    | with_reducible refine wp_block ?_
    | with_reducible refine wpList_nil ?_
    | with_reducible refine sx_then ?_
    | with_reducible refine sx_inb ?_
    | with_reducible refine wp_skip ?_
    | with_reducible refine wp_ret ?_
    | with_reducible refine wp_exit ?_
    | with_reducible refine sx_then_ret ?_
    | with_reducible refine sx_inb_ret ?_
    | with_reducible refine sx_then_exit ?_
    | with_reducible refine sx_inb_exit ?_
    | with_reducible refine sx_inb_other rfl ?_
    | with_reducible refine sx_if_t A rfl ?_
    | with_reducible refine sx_if_f A rfl ?_
    | ((with_reducible refine sx_at ?_); first
      | (refine sx_pure A tbOk rfl rfl rfl ?_; clear A; intro a A)
      | (refine sx_skip A rfl rfl ?_; clear A; intro a A)
      | ((with_reducible refine g_bin ?_); first | ((refine g_int A rfl ?_); first | (refine sx_cmp A rfl rfl rfl rfl ?_; clear A; intro a A) | (refine sx_arith A rfl rfl rfl rfl ?_; clear A; intro a A) | (refine sx_shl A rfl rfl rfl rfl ?_; clear A; intro a A) | (refine sx_shr A rfl rfl rfl rfl ?_; clear A; intro a A)) | ((refine g_str A rfl ?_); first | (refine sx_scmp A rfl rfl rfl rfl ?_; clear A; intro a A) | (refine sx_concat A rfl rfl rfl rfl ?_; clear A; intro a A)))
      | ((with_reducible refine g_load ?_); first | (refine sx_load_all H A tbOk rfl rfl rfl rfl rfl ?_; clear A; intro a A) | (refine sx_load H A tbOk rfl rfl rfl rfl ?_; clear A; intro a A))
      | ((with_reducible refine g_store ?_); refine sx_store H A tbOk rfl rfl rfl rfl ?_; clear H; intro w_ H)
      | ((with_reducible refine g_box ?_); refine sx_box H A rfl rfl rfl ?_; clear H A; intro b_ a w_ A H)
      | ((with_reducible refine g_alloc ?_); refine sx_alloc H A tbOk rfl rfl rfl ?_; clear H A; intro b_ a w_ A H)
      | ((with_reducible refine g_build ?_); refine sx_build A tbOk rfl rfl rfl rfl rfl rfl ?_; clear A; intro a A)
      | ((with_reducible refine g_builtin ?_); first | (refine sx_min A rfl rfl rfl rfl ?_; clear A; intro a A) | (refine sx_max A rfl rfl rfl rfl ?_; clear A; intro a A))
      | ((with_reducible refine g_slice ?_); first | (refine sx_sstr A tbOk rfl rfl rfl rfl rfl rfl ?_; clear A; intro a A) | (refine sx_cut H A tbOk rfl rfl rfl rfl rfl rfl rfl ?_; clear A H; intro A_ c_ a hc_ A H))
      | ((with_reducible refine g_index ?_); refine sx_sidx A tbOk rfl rfl rfl rfl rfl ?_; clear A; intro a A)
      | ((with_reducible refine g_idx ?_); first | (refine sx_idx H A tbOk rfl rfl rfl rfl rfl rfl ?_; clear A; intro a A) | (refine sx_oidx H A tbOk rfl rfl rfl rfl rfl rfl ?_; clear A; intro a A))
      | ((with_reducible refine g_conv ?_); refine sx_conv A tbOk rfl rfl rfl rfl rfl ?_; clear A; intro a A)
      )
    | ((with_reducible refine g_draw ?_); refine qx_region H (by kernel_rfl) (by kernel_rfl) ?_)
    | ((with_reducible refine qx_nil ?_); clear H; intro w_ F_ H)
    | ((with_reducible refine q_at ?_); first
      | (refine qx_pure A tbOk rfl rfl rfl ?_; clear A; intro a A)
      | (refine qx_skip A rfl rfl ?_; clear A; intro a A)
      | ((with_reducible refine qg_bin ?_); first | ((refine qg_int A rfl ?_); first | (refine qx_cmp A rfl rfl rfl rfl ?_; clear A; intro a A) | (refine qx_arith A rfl rfl rfl rfl ?_; clear A; intro a A)) | ((refine qg_str A rfl ?_); first | (refine qx_scmp A rfl rfl rfl rfl ?_; clear A; intro a A) | (refine qx_concat A rfl rfl rfl rfl ?_; clear A; intro a A)))
      | ((with_reducible refine qg_builtin ?_); first | (refine qx_min A rfl rfl rfl rfl ?_; clear A; intro a A) | (refine qx_max A rfl rfl rfl rfl ?_; clear A; intro a A))
      | ((with_reducible refine qg_slice ?_); refine qx_sstr A tbOk rfl rfl rfl rfl rfl rfl ?_; clear A; intro a A)
      | ((with_reducible refine qg_load ?_); refine qx_load A tbOk rfl rfl rfl rfl ?_; clear A; intro a A)
      | ((with_reducible refine qg_idx ?_); first | (refine qx_idx H A tbOk rfl rfl rfl rfl rfl rfl ?_; clear A; intro a A) | (refine qx_oidx H A tbOk rfl rfl rfl rfl rfl rfl ?_; clear A; intro a A)))
    )
  | some ad =>
    repeat' (first
    | ((with_reducible refine g_dst 4 ?_); refine sx_isnil A tbOk rfl rfl rfl rfl rfl ?_; clear A; intro a A)
    | ((with_reducible refine g_lit ?_); refine sx_lit (dk := kWr) (ys := []) H A tbOk rfl rfl rfl rfl rfl rfl .nil ?_; clear H A; intro b_ a w_ A H)
    | ((with_reducible refine g_builtin ?_); refine sx_append (dk := kWr) (zs := ss) (ys := []) H A tbOk rfl rfl rfl rfl rfl rfl rfl rfl rfl ?_; clear A H; intro A1 c1 a w_ A H; rw [List.nil_append] at H A)
    | (refine sx_ret tbOk H A rfl ?_; exact H.retB (Bs := [_]) (ps := []) (fun Fx Hx => k Fx _ _ _ Hx))
    | with_reducible refine wp_seq ?_
    | with_reducible refine sx_region ?_
    | with_reducible refine wp_block ?_
    | with_reducible refine wpList_nil ?_
    | with_reducible refine sx_then ?_
    | with_reducible refine sx_inb ?_
    | with_reducible refine wp_skip ?_
    | with_reducible refine wp_ret ?_
    | with_reducible refine wp_exit ?_
    | with_reducible refine sx_then_ret ?_
    | with_reducible refine sx_inb_ret ?_
    | with_reducible refine sx_then_exit ?_
    | with_reducible refine sx_inb_exit ?_
    | with_reducible refine sx_inb_other rfl ?_
    | with_reducible refine sx_if_t A rfl ?_
    | with_reducible refine sx_if_f A rfl ?_
    | ((with_reducible refine sx_at ?_); first
      | (refine sx_pure A tbOk rfl rfl rfl ?_; clear A; intro a A)
      | (refine sx_skip A rfl rfl ?_; clear A; intro a A)
      | ((with_reducible refine g_bin ?_); first | ((refine g_int A rfl ?_); first | (refine sx_cmp A rfl rfl rfl rfl ?_; clear A; intro a A) | (refine sx_arith A rfl rfl rfl rfl ?_; clear A; intro a A) | (refine sx_shl A rfl rfl rfl rfl ?_; clear A; intro a A) | (refine sx_shr A rfl rfl rfl rfl ?_; clear A; intro a A)) | ((refine g_str A rfl ?_); first | (refine sx_scmp A rfl rfl rfl rfl ?_; clear A; intro a A) | (refine sx_concat A rfl rfl rfl rfl ?_; clear A; intro a A)))
      | ((with_reducible refine g_load ?_); first | (refine sx_load_all H A tbOk rfl rfl rfl rfl rfl ?_; clear A; intro a A) | (refine sx_load H A tbOk rfl rfl rfl rfl ?_; clear A; intro a A))
      | ((with_reducible refine g_store ?_); refine sx_store H A tbOk rfl rfl rfl rfl ?_; clear H; intro w_ H)
      | ((with_reducible refine g_box ?_); refine sx_box H A rfl rfl rfl ?_; clear H A; intro b_ a w_ A H)
      | ((with_reducible refine g_alloc ?_); refine sx_alloc H A tbOk rfl rfl rfl ?_; clear H A; intro b_ a w_ A H)
      | ((with_reducible refine g_build ?_); refine sx_build A tbOk rfl rfl rfl rfl rfl rfl ?_; clear A; intro a A)
      | ((with_reducible refine g_builtin ?_); first | (refine sx_min A rfl rfl rfl rfl ?_; clear A; intro a A) | (refine sx_max A rfl rfl rfl rfl ?_; clear A; intro a A))
      | ((with_reducible refine g_slice ?_); first | (refine sx_sstr A tbOk rfl rfl rfl rfl rfl rfl ?_; clear A; intro a A) | (refine sx_cut H A tbOk rfl rfl rfl rfl rfl rfl rfl ?_; clear A H; intro A_ c_ a hc_ A H))
      | ((with_reducible refine g_index ?_); refine sx_sidx A tbOk rfl rfl rfl rfl rfl ?_; clear A; intro a A)
      | ((with_reducible refine g_idx ?_); first | (refine sx_idx H A tbOk rfl rfl rfl rfl rfl rfl ?_; clear A; intro a A) | (refine sx_oidx H A tbOk rfl rfl rfl rfl rfl rfl ?_; clear A; intro a A))
      | ((with_reducible refine g_conv ?_); refine sx_conv A tbOk rfl rfl rfl rfl rfl ?_; clear A; intro a A)
      )
    | ((with_reducible refine g_draw ?_); refine qx_region H (by kernel_rfl) (by kernel_rfl) ?_)
    | ((with_reducible refine qx_nil ?_); clear H; intro w_ F_ H)
    | ((with_reducible refine q_at ?_); first
      | (refine qx_pure A tbOk rfl rfl rfl ?_; clear A; intro a A)
      | (refine qx_skip A rfl rfl ?_; clear A; intro a A)
      | ((with_reducible refine qg_bin ?_); first | ((refine qg_int A rfl ?_); first | (refine qx_cmp A rfl rfl rfl rfl ?_; clear A; intro a A) | (refine qx_arith A rfl rfl rfl rfl ?_; clear A; intro a A)) | ((refine qg_str A rfl ?_); first | (refine qx_scmp A rfl rfl rfl rfl ?_; clear A; intro a A) | (refine qx_concat A rfl rfl rfl rfl ?_; clear A; intro a A)))
      | ((with_reducible refine qg_builtin ?_); first | (refine qx_min A rfl rfl rfl rfl ?_; clear A; intro a A) | (refine qx_max A rfl rfl rfl rfl ?_; clear A; intro a A))
      | ((with_reducible refine qg_slice ?_); refine qx_sstr A tbOk rfl rfl rfl rfl rfl rfl ?_; clear A; intro a A)
      | ((with_reducible refine qg_load ?_); refine qx_load A tbOk rfl rfl rfl rfl ?_; clear A; intro a A)
      | ((with_reducible refine qg_idx ?_); first | (refine qx_idx H A tbOk rfl rfl rfl rfl rfl rfl ?_; clear A; intro a A) | (refine qx_oidx H A tbOk rfl rfl rfl rfl rfl rfl ?_; clear A; intro a A)))
    )
theorem sl_disk_Crash (H : St M F0 w0 F B R w) {A0 A1 A2 : Option Addr} {c0 c1 c2 : Nat} {ss r : List ByteArray} {ws : List Wr} {keep : List Bool} {e : Int} (hl : ss.length ≤ 1000000) (hl2 : ws.length ≤ 1000000) (hr : (if rightB ss ws then (crashN (fun i => keep.getD i false) ss ws ws.length, (0 : Int)) else ([], 1)) = (r, e)) (k : ∀ Fx w' A' c', Cap r.length c' → St M F0 w0 Fx B (rdc Kd.string A' r :: R) w' → K (.returned (.tuple #[.agg #[.slice A' r.length c', .slice none 0 0], .int .i64 e])) w') (hm : rdc Kd.string A0 ss ∈ R := by (repeat (first | with_reducible exact List.mem_cons_self | apply List.mem_cons_of_mem))) (hm2 : rdc kWr A1 ws ∈ R := by (repeat (first | with_reducible exact List.mem_cons_self | apply List.mem_cons_of_mem))) (hm3 : rdc Kd.bool A2 keep ∈ R := by (repeat (first | with_reducible exact List.mem_cons_self | apply List.mem_cons_of_mem))) : Calls Tryd.prog 21 #[.agg #[.slice A0 ss.length c0, .slice A1 ws.length c1], .slice A2 keep.length c2] w K := by
  refine St.fn0 H (R0 := [rdc Kd.string A0 ss, rdc kWr A1 ws, rdc Kd.bool A2 keep]) (by intro p hp; simp only [List.mem_cons, List.not_mem_nil, or_false] at hp; rcases hp with rfl | rfl | rfl <;> assumption) (fun H => ?_)
  refine sx_enter Tryd.func21 Tryd.ntmps21 rfl rfl (fun a A => ?_)
  obtain ⟨b, hb⟩ : ∃ b, rightB ss ws = b := ⟨_, rfl⟩
  rw [hb] at hr
  cases b
  · simp only [Bool.false_eq_true, if_false] at hr
    injection hr with q1 q2; subst q1; subst q2
    repeat' (first
    | ((with_reducible refine g_call ?_); refine sx_call (f := 18) A rfl Tryd.call18 rfl rfl ?_; refine sl_disk_Right H (by omega) (by omega) hb ?_; clear H; intro F_ w_ H; refine ⟨_, rfl, ?_⟩; clear A; intro a A)
    | (refine sx_ret tbOk H A rfl ?_; exact (H.fact (fun W _ => rdc_nil Kd.string none W)).retR (ps := [_]) fun Fx Hx => k Fx _ none 0 ⟨Nat.le_refl _⟩ Hx)
    | with_reducible refine wp_seq ?_
    | with_reducible refine sx_region ?_
    | with_reducible refine wp_block ?_
    | with_reducible refine wpList_nil ?_
    | with_reducible refine sx_then ?_
    | with_reducible refine sx_inb ?_
    | with_reducible refine wp_skip ?_
    | with_reducible refine wp_ret ?_
    | with_reducible refine wp_exit ?_
    | with_reducible refine sx_then_ret ?_
    | with_reducible refine sx_inb_ret ?_
    | with_reducible refine sx_then_exit ?_
    | with_reducible refine sx_inb_exit ?_
    | with_reducible refine sx_inb_other rfl ?_
    | with_reducible refine sx_if_t A rfl ?_
    | with_reducible refine sx_if_f A rfl ?_
    | ((with_reducible refine sx_at ?_); first
      | (refine sx_pure A tbOk rfl rfl rfl ?_; clear A; intro a A)
      | (refine sx_skip A rfl rfl ?_; clear A; intro a A)
      | ((with_reducible refine g_bin ?_); first | ((refine g_int A rfl ?_); first | (refine sx_cmp A rfl rfl rfl rfl ?_; clear A; intro a A) | (refine sx_arith A rfl rfl rfl rfl ?_; clear A; intro a A) | (refine sx_shl A rfl rfl rfl rfl ?_; clear A; intro a A) | (refine sx_shr A rfl rfl rfl rfl ?_; clear A; intro a A)) | ((refine g_str A rfl ?_); first | (refine sx_scmp A rfl rfl rfl rfl ?_; clear A; intro a A) | (refine sx_concat A rfl rfl rfl rfl ?_; clear A; intro a A)))
      | ((with_reducible refine g_load ?_); first | (refine sx_load_all H A tbOk rfl rfl rfl rfl rfl ?_; clear A; intro a A) | (refine sx_load H A tbOk rfl rfl rfl rfl ?_; clear A; intro a A))
      | ((with_reducible refine g_store ?_); refine sx_store H A tbOk rfl rfl rfl rfl ?_; clear H; intro w_ H)
      | ((with_reducible refine g_box ?_); refine sx_box H A rfl rfl rfl ?_; clear H A; intro b_ a w_ A H)
      | ((with_reducible refine g_alloc ?_); refine sx_alloc H A tbOk rfl rfl rfl ?_; clear H A; intro b_ a w_ A H)
      | ((with_reducible refine g_build ?_); refine sx_build A tbOk rfl rfl rfl rfl rfl rfl ?_; clear A; intro a A)
      | ((with_reducible refine g_builtin ?_); first | (refine sx_min A rfl rfl rfl rfl ?_; clear A; intro a A) | (refine sx_max A rfl rfl rfl rfl ?_; clear A; intro a A))
      | ((with_reducible refine g_slice ?_); first | (refine sx_sstr A tbOk rfl rfl rfl rfl rfl rfl ?_; clear A; intro a A) | (refine sx_cut H A tbOk rfl rfl rfl rfl rfl rfl rfl ?_; clear A H; intro A_ c_ a hc_ A H))
      | ((with_reducible refine g_index ?_); refine sx_sidx A tbOk rfl rfl rfl rfl rfl ?_; clear A; intro a A)
      | ((with_reducible refine g_idx ?_); first | (refine sx_idx H A tbOk rfl rfl rfl rfl rfl rfl ?_; clear A; intro a A) | (refine sx_oidx H A tbOk rfl rfl rfl rfl rfl rfl ?_; clear A; intro a A))
      | ((with_reducible refine g_conv ?_); refine sx_conv A tbOk rfl rfl rfl rfl rfl ?_; clear A; intro a A)
      )
    | ((with_reducible refine g_draw ?_); refine qx_region H (by kernel_rfl) (by kernel_rfl) ?_)
    | ((with_reducible refine qx_nil ?_); clear H; intro w_ F_ H)
    | ((with_reducible refine q_at ?_); first
      | (refine qx_pure A tbOk rfl rfl rfl ?_; clear A; intro a A)
      | (refine qx_skip A rfl rfl ?_; clear A; intro a A)
      | ((with_reducible refine qg_bin ?_); first | ((refine qg_int A rfl ?_); first | (refine qx_cmp A rfl rfl rfl rfl ?_; clear A; intro a A) | (refine qx_arith A rfl rfl rfl rfl ?_; clear A; intro a A)) | ((refine qg_str A rfl ?_); first | (refine qx_scmp A rfl rfl rfl rfl ?_; clear A; intro a A) | (refine qx_concat A rfl rfl rfl rfl ?_; clear A; intro a A)))
      | ((with_reducible refine qg_builtin ?_); first | (refine qx_min A rfl rfl rfl rfl ?_; clear A; intro a A) | (refine qx_max A rfl rfl rfl rfl ?_; clear A; intro a A))
      | ((with_reducible refine qg_slice ?_); refine qx_sstr A tbOk rfl rfl rfl rfl rfl rfl ?_; clear A; intro a A)
      | ((with_reducible refine qg_load ?_); refine qx_load A tbOk rfl rfl rfl rfl ?_; clear A; intro a A)
      | ((with_reducible refine qg_idx ?_); first | (refine qx_idx H A tbOk rfl rfl rfl rfl rfl rfl ?_; clear A; intro a A) | (refine qx_oidx H A tbOk rfl rfl rfl rfl rfl rfl ?_; clear A; intro a A)))
    )
  simp only [if_true] at hr
  injection hr with q1 q2; subst q2
  obtain ⟨g1, g2, g3⟩ := right_sec hb
  repeat' (first
    | ((with_reducible refine g_dst 10 ?_); refine sx_call (f := 18) A rfl Tryd.call18 rfl rfl ?_; refine sl_disk_Right H (by omega) (by omega) hb ?_; clear H; intro F_ w_ H; refine ⟨_, rfl, ?_⟩; clear A; intro a A)
    | ((with_reducible refine g_dst 15 ?_); refine sx_call (f := 54) A rfl Tryd.call54 rfl rfl ?_; refine sl_cloneS H (by omega) ?_; clear H; intro F_ w_ A3 c3 H; refine ⟨_, rfl, ?_⟩; clear A; intro a A)
    | with_reducible refine wp_seq ?_
    | with_reducible refine sx_region ?_
    | with_reducible refine wp_block ?_
    | with_reducible refine wpList_nil ?_
    | with_reducible refine sx_then ?_
    | with_reducible refine sx_inb ?_
    | with_reducible refine wp_skip ?_
    | with_reducible refine wp_ret ?_
    | with_reducible refine wp_exit ?_
    | with_reducible refine sx_then_ret ?_
    | with_reducible refine sx_inb_ret ?_
    | with_reducible refine sx_then_exit ?_
    | with_reducible refine sx_inb_exit ?_
    | with_reducible refine sx_inb_other rfl ?_
    | with_reducible refine sx_if_t A rfl ?_
    | with_reducible refine sx_if_f A rfl ?_
    | ((with_reducible refine sx_at ?_); first
      | (refine sx_pure A tbOk rfl rfl rfl ?_; clear A; intro a A)
      | (refine sx_skip A rfl rfl ?_; clear A; intro a A)
      | ((with_reducible refine g_bin ?_); first | ((refine g_int A rfl ?_); first | (refine sx_cmp A rfl rfl rfl rfl ?_; clear A; intro a A) | (refine sx_arith A rfl rfl rfl rfl ?_; clear A; intro a A) | (refine sx_shl A rfl rfl rfl rfl ?_; clear A; intro a A) | (refine sx_shr A rfl rfl rfl rfl ?_; clear A; intro a A)) | ((refine g_str A rfl ?_); first | (refine sx_scmp A rfl rfl rfl rfl ?_; clear A; intro a A) | (refine sx_concat A rfl rfl rfl rfl ?_; clear A; intro a A)))
      | ((with_reducible refine g_load ?_); first | (refine sx_load_all H A tbOk rfl rfl rfl rfl rfl ?_; clear A; intro a A) | (refine sx_load H A tbOk rfl rfl rfl rfl ?_; clear A; intro a A))
      | ((with_reducible refine g_store ?_); refine sx_store H A tbOk rfl rfl rfl rfl ?_; clear H; intro w_ H)
      | ((with_reducible refine g_box ?_); refine sx_box H A rfl rfl rfl ?_; clear H A; intro b_ a w_ A H)
      | ((with_reducible refine g_alloc ?_); refine sx_alloc H A tbOk rfl rfl rfl ?_; clear H A; intro b_ a w_ A H)
      | ((with_reducible refine g_build ?_); refine sx_build A tbOk rfl rfl rfl rfl rfl rfl ?_; clear A; intro a A)
      | ((with_reducible refine g_builtin ?_); first | (refine sx_min A rfl rfl rfl rfl ?_; clear A; intro a A) | (refine sx_max A rfl rfl rfl rfl ?_; clear A; intro a A))
      | ((with_reducible refine g_slice ?_); first | (refine sx_sstr A tbOk rfl rfl rfl rfl rfl rfl ?_; clear A; intro a A) | (refine sx_cut H A tbOk rfl rfl rfl rfl rfl rfl rfl ?_; clear A H; intro A_ c_ a hc_ A H))
      | ((with_reducible refine g_index ?_); refine sx_sidx A tbOk rfl rfl rfl rfl rfl ?_; clear A; intro a A)
      | ((with_reducible refine g_idx ?_); first | (refine sx_idx H A tbOk rfl rfl rfl rfl rfl rfl ?_; clear A; intro a A) | (refine sx_oidx H A tbOk rfl rfl rfl rfl rfl rfl ?_; clear A; intro a A))
      | ((with_reducible refine g_conv ?_); refine sx_conv A tbOk rfl rfl rfl rfl rfl ?_; clear A; intro a A)
      )
    | ((with_reducible refine g_draw ?_); refine qx_region H (by kernel_rfl) (by kernel_rfl) ?_)
    | ((with_reducible refine qx_nil ?_); clear H; intro w_ F_ H)
    | ((with_reducible refine q_at ?_); first
      | (refine qx_pure A tbOk rfl rfl rfl ?_; clear A; intro a A)
      | (refine qx_skip A rfl rfl ?_; clear A; intro a A)
      | ((with_reducible refine qg_bin ?_); first | ((refine qg_int A rfl ?_); first | (refine qx_cmp A rfl rfl rfl rfl ?_; clear A; intro a A) | (refine qx_arith A rfl rfl rfl rfl ?_; clear A; intro a A)) | ((refine qg_str A rfl ?_); first | (refine qx_scmp A rfl rfl rfl rfl ?_; clear A; intro a A) | (refine qx_concat A rfl rfl rfl rfl ?_; clear A; intro a A)))
      | ((with_reducible refine qg_builtin ?_); first | (refine qx_min A rfl rfl rfl rfl ?_; clear A; intro a A) | (refine qx_max A rfl rfl rfl rfl ?_; clear A; intro a A))
      | ((with_reducible refine qg_slice ?_); refine qx_sstr A tbOk rfl rfl rfl rfl rfl rfl ?_; clear A; intro a A)
      | ((with_reducible refine qg_load ?_); refine qx_load A tbOk rfl rfl rfl rfl ?_; clear A; intro a A)
      | ((with_reducible refine qg_idx ?_); first | (refine qx_idx H A tbOk rfl rfl rfl rfl rfl rfl ?_; clear A; intro a A) | (refine qx_oidx H A tbOk rfl rfl rfl rfl rfl rfl ?_; clear A; intro a A)))
    )
  refine sx_rounds (fun i : Nat => i ≤ ws.length) (fun i => [(20, .int .i64 (i : Int)), (19, _), (18, _), (1, _), (6, _), (2, _), (4, _)]) (fun i => [_, .row Kd.string _ A3 c3 (crashN (fun i => keep.getD i false) ss ws i), _, _]) (fun _ => [_, _, _]) (fun i => ws.length - i) 0 H A.subs (Nat.zero_le _) (fun i F a W hi H A => ?_)
  have hcl := crashN_len (fun i => keep.getD i false) ss ws i
  rcases Nat.lt_or_ge i ws.length with hlt | hge
  · obtain ⟨y, hy⟩ : ∃ y, ws[i]? = some y := ⟨_, List.getElem?_eq_getElem hlt⟩
    have hmem : y ∈ ws := List.mem_of_getElem? hy
    obtain ⟨h0, h1⟩ := g3 y hmem
    have hcase : (keep.length ≤ i ∧ crashN (fun i => keep.getD i false) ss ws (i + 1) = crashN (fun i => keep.getD i false) ss ws i) ∨ (i < keep.length ∧ keep[i]? = some false ∧ crashN (fun i => keep.getD i false) ss ws (i + 1) = crashN (fun i => keep.getD i false) ss ws i) ∨ (i < keep.length ∧ keep[i]? = some true ∧ crashN (fun i => keep.getD i false) ss ws (i + 1) = (crashN (fun i => keep.getD i false) ss ws i).set y.sec.toNat y.bytes) := by
      rcases Nat.lt_or_ge i keep.length with hk | hk
      · cases hb2 : keep[i]
        · exact .inr (.inl ⟨hk, by rw [List.getElem?_eq_getElem hk, hb2], by simp [crashN, hy, List.getD, List.getElem?_eq_getElem hk, hb2]⟩)
        · exact .inr (.inr ⟨hk, by rw [List.getElem?_eq_getElem hk, hb2], by simp [crashN, hy, List.getD, List.getElem?_eq_getElem hk, hb2]⟩)
      · exact .inl ⟨hk, by simp [crashN, hy, List.getD, List.getElem?_eq_none hk]⟩
    generalize hC : crashN (fun i => keep.getD i false) ss ws i = C at *
    rcases hcase with ⟨hk, hn⟩ | ⟨hk, hkb, hn⟩ | ⟨hk, hkb, hn⟩
    all_goals repeat' (first
    | ((with_reducible refine g_dst 24 ?_); refine sx_eload (dk := kWr) H A tbOk rfl rfl rfl rfl rfl (fun c hcl hK => ?_); obtain rfl := kWr_open hK; refine ⟨_, rfl, ?_⟩; clear A; intro a A)
    | ((with_reducible refine g_dst 33 ?_); refine sx_eloadB H A tbOk rfl rfl rfl rfl rfl ?_ (hx := hkb); clear A; intro a A)
    | ((with_reducible refine g_store ?_); refine sx_ostore (dk := Kd.string) H A tbOk rfl rfl rfl rfl ?_ (mk_scalar _); clear H; intro w_ H)
    | with_reducible refine wp_seq ?_
    | with_reducible refine sx_region ?_
    | with_reducible refine wp_block ?_
    | with_reducible refine wpList_nil ?_
    | with_reducible refine sx_then ?_
    | with_reducible refine sx_inb ?_
    | with_reducible refine wp_skip ?_
    | with_reducible refine wp_ret ?_
    | with_reducible refine wp_exit ?_
    | with_reducible refine sx_then_ret ?_
    | with_reducible refine sx_inb_ret ?_
    | with_reducible refine sx_then_exit ?_
    | with_reducible refine sx_inb_exit ?_
    | with_reducible refine sx_inb_other rfl ?_
    | with_reducible refine sx_if_t A rfl ?_
    | with_reducible refine sx_if_f A rfl ?_
    | ((with_reducible refine sx_at ?_); first
      | (refine sx_pure A tbOk rfl rfl rfl ?_; clear A; intro a A)
      | (refine sx_skip A rfl rfl ?_; clear A; intro a A)
      | ((with_reducible refine g_bin ?_); first | ((refine g_int A rfl ?_); first | (refine sx_cmp A rfl rfl rfl rfl ?_; clear A; intro a A) | (refine sx_arith A rfl rfl rfl rfl ?_; clear A; intro a A) | (refine sx_shl A rfl rfl rfl rfl ?_; clear A; intro a A) | (refine sx_shr A rfl rfl rfl rfl ?_; clear A; intro a A)) | ((refine g_str A rfl ?_); first | (refine sx_scmp A rfl rfl rfl rfl ?_; clear A; intro a A) | (refine sx_concat A rfl rfl rfl rfl ?_; clear A; intro a A)))
      | ((with_reducible refine g_load ?_); first | (refine sx_load_all H A tbOk rfl rfl rfl rfl rfl ?_; clear A; intro a A) | (refine sx_load H A tbOk rfl rfl rfl rfl ?_; clear A; intro a A))
      | ((with_reducible refine g_store ?_); refine sx_store H A tbOk rfl rfl rfl rfl ?_; clear H; intro w_ H)
      | ((with_reducible refine g_box ?_); refine sx_box H A rfl rfl rfl ?_; clear H A; intro b_ a w_ A H)
      | ((with_reducible refine g_alloc ?_); refine sx_alloc H A tbOk rfl rfl rfl ?_; clear H A; intro b_ a w_ A H)
      | ((with_reducible refine g_build ?_); refine sx_build A tbOk rfl rfl rfl rfl rfl rfl ?_; clear A; intro a A)
      | ((with_reducible refine g_builtin ?_); first | (refine sx_min A rfl rfl rfl rfl ?_; clear A; intro a A) | (refine sx_max A rfl rfl rfl rfl ?_; clear A; intro a A))
      | ((with_reducible refine g_slice ?_); first | (refine sx_sstr A tbOk rfl rfl rfl rfl rfl rfl ?_; clear A; intro a A) | (refine sx_cut H A tbOk rfl rfl rfl rfl rfl rfl rfl ?_; clear A H; intro A_ c_ a hc_ A H))
      | ((with_reducible refine g_index ?_); refine sx_sidx A tbOk rfl rfl rfl rfl rfl ?_; clear A; intro a A)
      | ((with_reducible refine g_idx ?_); first | (refine sx_idx H A tbOk rfl rfl rfl rfl rfl rfl ?_; clear A; intro a A) | (refine sx_oidx H A tbOk rfl rfl rfl rfl rfl rfl ?_; clear A; intro a A))
      | ((with_reducible refine g_conv ?_); refine sx_conv A tbOk rfl rfl rfl rfl rfl ?_; clear A; intro a A)
      )
    | ((with_reducible refine g_draw ?_); refine qx_region H (by kernel_rfl) (by kernel_rfl) ?_)
    | ((with_reducible refine qx_nil ?_); clear H; intro w_ F_ H)
    | ((with_reducible refine q_at ?_); first
      | (refine qx_pure A tbOk rfl rfl rfl ?_; clear A; intro a A)
      | (refine qx_skip A rfl rfl ?_; clear A; intro a A)
      | ((with_reducible refine qg_bin ?_); first | ((refine qg_int A rfl ?_); first | (refine qx_cmp A rfl rfl rfl rfl ?_; clear A; intro a A) | (refine qx_arith A rfl rfl rfl rfl ?_; clear A; intro a A)) | ((refine qg_str A rfl ?_); first | (refine qx_scmp A rfl rfl rfl rfl ?_; clear A; intro a A) | (refine qx_concat A rfl rfl rfl rfl ?_; clear A; intro a A)))
      | ((with_reducible refine qg_builtin ?_); first | (refine qx_min A rfl rfl rfl rfl ?_; clear A; intro a A) | (refine qx_max A rfl rfl rfl rfl ?_; clear A; intro a A))
      | ((with_reducible refine qg_slice ?_); refine qx_sstr A tbOk rfl rfl rfl rfl rfl rfl ?_; clear A; intro a A)
      | ((with_reducible refine qg_load ?_); refine qx_load A tbOk rfl rfl rfl rfl ?_; clear A; intro a A)
      | ((with_reducible refine qg_idx ?_); first | (refine qx_idx H A tbOk rfl rfl rfl rfl rfl rfl ?_; clear A; intro a A) | (refine qx_oidx H A tbOk rfl rfl rfl rfl rfl rfl ?_; clear A; intro a A)))
    )
    all_goals (refine ⟨i + 1, _, by omega, by omega, (by rw [hn]; exact H.sel), A.subs⟩)
  · obtain rfl : i = ws.length := by omega
    rw [q1] at H hcl
    repeat' (first
    | (refine sx_ret tbOk H A rfl ?_; obtain ⟨hcp, F2, _, H2⟩ := H.freeze_row (.tl .hd); rw [hcl] at k hcp; exact H2.retR (ps := [_]) (fun Fx Hx => k Fx _ A3 c3 hcp Hx))
    | with_reducible refine wp_seq ?_
    | with_reducible refine sx_region ?_
    | with_reducible refine wp_block ?_
    | with_reducible refine wpList_nil ?_
    | with_reducible refine sx_then ?_
    | with_reducible refine sx_inb ?_
    | with_reducible refine wp_skip ?_
    | with_reducible refine wp_ret ?_
    | with_reducible refine wp_exit ?_
    | with_reducible refine sx_then_ret ?_
    | with_reducible refine sx_inb_ret ?_
    | with_reducible refine sx_then_exit ?_
    | with_reducible refine sx_inb_exit ?_
    | with_reducible refine sx_inb_other rfl ?_
    | with_reducible refine sx_if_t A rfl ?_
    | with_reducible refine sx_if_f A rfl ?_
    | ((with_reducible refine sx_at ?_); first
      | (refine sx_pure A tbOk rfl rfl rfl ?_; clear A; intro a A)
      | (refine sx_skip A rfl rfl ?_; clear A; intro a A)
      | ((with_reducible refine g_bin ?_); first | ((refine g_int A rfl ?_); first | (refine sx_cmp A rfl rfl rfl rfl ?_; clear A; intro a A) | (refine sx_arith A rfl rfl rfl rfl ?_; clear A; intro a A) | (refine sx_shl A rfl rfl rfl rfl ?_; clear A; intro a A) | (refine sx_shr A rfl rfl rfl rfl ?_; clear A; intro a A)) | ((refine g_str A rfl ?_); first | (refine sx_scmp A rfl rfl rfl rfl ?_; clear A; intro a A) | (refine sx_concat A rfl rfl rfl rfl ?_; clear A; intro a A)))
      | ((with_reducible refine g_load ?_); first | (refine sx_load_all H A tbOk rfl rfl rfl rfl rfl ?_; clear A; intro a A) | (refine sx_load H A tbOk rfl rfl rfl rfl ?_; clear A; intro a A))
      | ((with_reducible refine g_store ?_); refine sx_store H A tbOk rfl rfl rfl rfl ?_; clear H; intro w_ H)
      | ((with_reducible refine g_box ?_); refine sx_box H A rfl rfl rfl ?_; clear H A; intro b_ a w_ A H)
      | ((with_reducible refine g_alloc ?_); refine sx_alloc H A tbOk rfl rfl rfl ?_; clear H A; intro b_ a w_ A H)
      | ((with_reducible refine g_build ?_); refine sx_build A tbOk rfl rfl rfl rfl rfl rfl ?_; clear A; intro a A)
      | ((with_reducible refine g_builtin ?_); first | (refine sx_min A rfl rfl rfl rfl ?_; clear A; intro a A) | (refine sx_max A rfl rfl rfl rfl ?_; clear A; intro a A))
      | ((with_reducible refine g_slice ?_); first | (refine sx_sstr A tbOk rfl rfl rfl rfl rfl rfl ?_; clear A; intro a A) | (refine sx_cut H A tbOk rfl rfl rfl rfl rfl rfl rfl ?_; clear A H; intro A_ c_ a hc_ A H))
      | ((with_reducible refine g_index ?_); refine sx_sidx A tbOk rfl rfl rfl rfl rfl ?_; clear A; intro a A)
      | ((with_reducible refine g_idx ?_); first | (refine sx_idx H A tbOk rfl rfl rfl rfl rfl rfl ?_; clear A; intro a A) | (refine sx_oidx H A tbOk rfl rfl rfl rfl rfl rfl ?_; clear A; intro a A))
      | ((with_reducible refine g_conv ?_); refine sx_conv A tbOk rfl rfl rfl rfl rfl ?_; clear A; intro a A)
      )
    | ((with_reducible refine g_draw ?_); refine qx_region H (by kernel_rfl) (by kernel_rfl) ?_)
    | ((with_reducible refine qx_nil ?_); clear H; intro w_ F_ H)
    | ((with_reducible refine q_at ?_); first
      | (refine qx_pure A tbOk rfl rfl rfl ?_; clear A; intro a A)
      | (refine qx_skip A rfl rfl ?_; clear A; intro a A)
      | ((with_reducible refine qg_bin ?_); first | ((refine qg_int A rfl ?_); first | (refine qx_cmp A rfl rfl rfl rfl ?_; clear A; intro a A) | (refine qx_arith A rfl rfl rfl rfl ?_; clear A; intro a A)) | ((refine qg_str A rfl ?_); first | (refine qx_scmp A rfl rfl rfl rfl ?_; clear A; intro a A) | (refine qx_concat A rfl rfl rfl rfl ?_; clear A; intro a A)))
      | ((with_reducible refine qg_builtin ?_); first | (refine qx_min A rfl rfl rfl rfl ?_; clear A; intro a A) | (refine qx_max A rfl rfl rfl rfl ?_; clear A; intro a A))
      | ((with_reducible refine qg_slice ?_); refine qx_sstr A tbOk rfl rfl rfl rfl rfl rfl ?_; clear A; intro a A)
      | ((with_reducible refine qg_load ?_); refine qx_load A tbOk rfl rfl rfl rfl ?_; clear A; intro a A)
      | ((with_reducible refine qg_idx ?_); first | (refine qx_idx H A tbOk rfl rfl rfl rfl rfl rfl ?_; clear A; intro a A) | (refine qx_oidx H A tbOk rfl rfl rfl rfl rfl rfl ?_; clear A; intro a A)))
    )
theorem sl_ref03_Crash (H : St M F0 w0 F B R w) {A0 A1 A2 : Option Addr} {c0 c1 c2 kn : Nat} {ss r : List ByteArray} {ws : List Wr} {all : Bool} {keep : List Bool} (hl : ss.length ≤ 1000000) (hl2 : ws.length ≤ 1000000) (hw : ∀ x ∈ ws, 0 ≤ x.sec) (hr : crashN (fun i => all || keep.getD i false) ss ws ws.length = r) (k : ∀ Fx w' A' c', Cap r.length c' → St M F0 w0 Fx B (rdc Kd.string A' r :: R) w' → K (.returned (.agg #[.slice A' r.length c', .slice none 0 0])) w') (hm : rdc Kd.string A0 ss ∈ R := by (repeat (first | with_reducible exact List.mem_cons_self | apply List.mem_cons_of_mem))) (hm2 : rdc kWr A1 ws ∈ R := by (repeat (first | with_reducible exact List.mem_cons_self | apply List.mem_cons_of_mem))) (hm3 : rdc Kd.bool A2 keep ∈ R := by (repeat (first | with_reducible exact List.mem_cons_self | apply List.mem_cons_of_mem))) (hkn : kn = keep.length := by rfl) : Calls Tryd.prog 23 #[.agg #[.slice A0 ss.length c0, .slice A1 ws.length c1], .bool all, .slice A2 kn c2] w K := by
  subst hkn
  refine St.fn0 H (R0 := [rdc Kd.string A0 ss, rdc kWr A1 ws, rdc Kd.bool A2 keep]) (by intro p hp; simp only [List.mem_cons, List.not_mem_nil, or_false] at hp; rcases hp with rfl | rfl | rfl <;> assumption) (fun H => ?_)
  refine sx_enter Tryd.func23 Tryd.ntmps23 rfl rfl (fun a A => ?_)
  have hrl : r.length = ss.length := by rw [← hr]; exact crashN_len _ ss ws _
  obtain ⟨kp, hkp⟩ : ∃ kp : Nat → Bool, (fun i => all || keep.getD i false) = kp := ⟨_, rfl⟩
  rw [hkp] at hr
  repeat' (first
    | with_reducible refine wp_seq ?_
    | with_reducible refine sx_region ?_
    | with_reducible refine wp_block ?_
    | with_reducible refine wpList_nil ?_
    | with_reducible refine sx_then ?_
    | with_reducible refine sx_inb ?_
    | with_reducible refine wp_skip ?_
    | with_reducible refine wp_ret ?_
    | with_reducible refine wp_exit ?_
    | with_reducible refine sx_then_ret ?_
    | with_reducible refine sx_inb_ret ?_
    | with_reducible refine sx_then_exit ?_
    | with_reducible refine sx_inb_exit ?_
    | with_reducible refine sx_inb_other rfl ?_
    | with_reducible refine sx_if_t A rfl ?_
    | with_reducible refine sx_if_f A rfl ?_
    | ((with_reducible refine sx_at ?_); first
      | (refine sx_pure A tbOk rfl rfl rfl ?_; clear A; intro a A)
      | (refine sx_skip A rfl rfl ?_; clear A; intro a A)
      | ((with_reducible refine g_bin ?_); first | ((refine g_int A rfl ?_); first | (refine sx_cmp A rfl rfl rfl rfl ?_; clear A; intro a A) | (refine sx_arith A rfl rfl rfl rfl ?_; clear A; intro a A) | (refine sx_shl A rfl rfl rfl rfl ?_; clear A; intro a A) | (refine sx_shr A rfl rfl rfl rfl ?_; clear A; intro a A)) | ((refine g_str A rfl ?_); first | (refine sx_scmp A rfl rfl rfl rfl ?_; clear A; intro a A) | (refine sx_concat A rfl rfl rfl rfl ?_; clear A; intro a A)))
      | ((with_reducible refine g_load ?_); first | (refine sx_load_all H A tbOk rfl rfl rfl rfl rfl ?_; clear A; intro a A) | (refine sx_load H A tbOk rfl rfl rfl rfl ?_; clear A; intro a A))
      | ((with_reducible refine g_store ?_); refine sx_store H A tbOk rfl rfl rfl rfl ?_; clear H; intro w_ H)
      | ((with_reducible refine g_box ?_); refine sx_box H A rfl rfl rfl ?_; clear H A; intro b_ a w_ A H)
      | ((with_reducible refine g_alloc ?_); refine sx_alloc H A tbOk rfl rfl rfl ?_; clear H A; intro b_ a w_ A H)
      | ((with_reducible refine g_build ?_); refine sx_build A tbOk rfl rfl rfl rfl rfl rfl ?_; clear A; intro a A)
      | ((with_reducible refine g_builtin ?_); first | (refine sx_min A rfl rfl rfl rfl ?_; clear A; intro a A) | (refine sx_max A rfl rfl rfl rfl ?_; clear A; intro a A))
      | ((with_reducible refine g_slice ?_); first | (refine sx_sstr A tbOk rfl rfl rfl rfl rfl rfl ?_; clear A; intro a A) | (refine sx_cut H A tbOk rfl rfl rfl rfl rfl rfl rfl ?_; clear A H; intro A_ c_ a hc_ A H))
      | ((with_reducible refine g_index ?_); refine sx_sidx A tbOk rfl rfl rfl rfl rfl ?_; clear A; intro a A)
      | ((with_reducible refine g_idx ?_); first | (refine sx_idx H A tbOk rfl rfl rfl rfl rfl rfl ?_; clear A; intro a A) | (refine sx_oidx H A tbOk rfl rfl rfl rfl rfl rfl ?_; clear A; intro a A))
      | ((with_reducible refine g_conv ?_); refine sx_conv A tbOk rfl rfl rfl rfl rfl ?_; clear A; intro a A)
      )
    | ((with_reducible refine g_draw ?_); refine qx_region H (by kernel_rfl) (by kernel_rfl) ?_)
    | ((with_reducible refine qx_nil ?_); clear H; intro w_ F_ H)
    | ((with_reducible refine q_at ?_); first
      | (refine qx_pure A tbOk rfl rfl rfl ?_; clear A; intro a A)
      | (refine qx_skip A rfl rfl ?_; clear A; intro a A)
      | ((with_reducible refine qg_bin ?_); first | ((refine qg_int A rfl ?_); first | (refine qx_cmp A rfl rfl rfl rfl ?_; clear A; intro a A) | (refine qx_arith A rfl rfl rfl rfl ?_; clear A; intro a A)) | ((refine qg_str A rfl ?_); first | (refine qx_scmp A rfl rfl rfl rfl ?_; clear A; intro a A) | (refine qx_concat A rfl rfl rfl rfl ?_; clear A; intro a A)))
      | ((with_reducible refine qg_builtin ?_); first | (refine qx_min A rfl rfl rfl rfl ?_; clear A; intro a A) | (refine qx_max A rfl rfl rfl rfl ?_; clear A; intro a A))
      | ((with_reducible refine qg_slice ?_); refine qx_sstr A tbOk rfl rfl rfl rfl rfl rfl ?_; clear A; intro a A)
      | ((with_reducible refine qg_load ?_); refine qx_load A tbOk rfl rfl rfl rfl ?_; clear A; intro a A)
      | ((with_reducible refine qg_idx ?_); first | (refine qx_idx H A tbOk rfl rfl rfl rfl rfl rfl ?_; clear A; intro a A) | (refine qx_oidx H A tbOk rfl rfl rfl rfl rfl rfl ?_; clear A; intro a A)))
    )
  have Hn := H.nilrow Kd.string 9
  clear H
  refine sx_rounds (ι := Nat × Option Addr × Nat) (fun x => x.1 ≤ ss.length) (fun x => [(17, .int .i64 (x.1 : Int)), (16, _), (15, _), (7, _), (3, _), (6, _), (1, _), (2, _)]) (fun x => [.row Kd.string _ x.2.1 x.2.2 (r.take x.1), .mk _ _ [.slice x.2.1 x.1 x.2.2, .slice none 0 0], _, _]) (fun _ => [_, _, _]) (fun x => ss.length - x.1) (0, none, 0) Hn A.subs (Nat.zero_le _) (fun x F a W hi H A => ?_)
  obtain ⟨i, Ai, ci⟩ := x
  dsimp only at hi H A
  rcases Nat.lt_or_ge i ss.length with hlt | hge
  · obtain ⟨y, hy⟩ : ∃ y, ss[i]? = some y := ⟨_, List.getElem?_eq_getElem hlt⟩
    have hv := crashN_val kp ss ws hw ws.length i y hy
    rw [hr] at hv
    have hlen : (r.take i).length = i := by rw [List.length_take]; omega
    have hnx : r.take i ++ [valN kp ws i y ws.length] = r.take (i + 1) := by
      obtain ⟨h1, h2⟩ := List.getElem?_eq_some_iff.1 hv
      rw [List.take_succ_eq_append_getElem h1, h2]
    have hl2' : (r.take (i + 1)).length = i + 1 := by rw [List.length_take]; omega
    repeat' (first
    | ((with_reducible refine g_dst 21 ?_); refine sx_eloadS H A tbOk rfl rfl rfl rfl rfl ?_; clear A; intro a A)
    | with_reducible refine wp_seq ?_
    | with_reducible refine sx_region ?_
    | with_reducible refine wp_block ?_
    | with_reducible refine wpList_nil ?_
    | with_reducible refine sx_then ?_
    | with_reducible refine sx_inb ?_
    | with_reducible refine wp_skip ?_
    | with_reducible refine wp_ret ?_
    | with_reducible refine wp_exit ?_
    | with_reducible refine sx_then_ret ?_
    | with_reducible refine sx_inb_ret ?_
    | with_reducible refine sx_then_exit ?_
    | with_reducible refine sx_inb_exit ?_
    | with_reducible refine sx_inb_other rfl ?_
    | with_reducible refine sx_if_t A rfl ?_
    | with_reducible refine sx_if_f A rfl ?_
    | ((with_reducible refine sx_at ?_); first
      | (refine sx_pure A tbOk rfl rfl rfl ?_; clear A; intro a A)
      | (refine sx_skip A rfl rfl ?_; clear A; intro a A)
      | ((with_reducible refine g_bin ?_); first | ((refine g_int A rfl ?_); first | (refine sx_cmp A rfl rfl rfl rfl ?_; clear A; intro a A) | (refine sx_arith A rfl rfl rfl rfl ?_; clear A; intro a A) | (refine sx_shl A rfl rfl rfl rfl ?_; clear A; intro a A) | (refine sx_shr A rfl rfl rfl rfl ?_; clear A; intro a A)) | ((refine g_str A rfl ?_); first | (refine sx_scmp A rfl rfl rfl rfl ?_; clear A; intro a A) | (refine sx_concat A rfl rfl rfl rfl ?_; clear A; intro a A)))
      | ((with_reducible refine g_load ?_); first | (refine sx_load_all H A tbOk rfl rfl rfl rfl rfl ?_; clear A; intro a A) | (refine sx_load H A tbOk rfl rfl rfl rfl ?_; clear A; intro a A))
      | ((with_reducible refine g_store ?_); refine sx_store H A tbOk rfl rfl rfl rfl ?_; clear H; intro w_ H)
      | ((with_reducible refine g_box ?_); refine sx_box H A rfl rfl rfl ?_; clear H A; intro b_ a w_ A H)
      | ((with_reducible refine g_alloc ?_); refine sx_alloc H A tbOk rfl rfl rfl ?_; clear H A; intro b_ a w_ A H)
      | ((with_reducible refine g_build ?_); refine sx_build A tbOk rfl rfl rfl rfl rfl rfl ?_; clear A; intro a A)
      | ((with_reducible refine g_builtin ?_); first | (refine sx_min A rfl rfl rfl rfl ?_; clear A; intro a A) | (refine sx_max A rfl rfl rfl rfl ?_; clear A; intro a A))
      | ((with_reducible refine g_slice ?_); first | (refine sx_sstr A tbOk rfl rfl rfl rfl rfl rfl ?_; clear A; intro a A) | (refine sx_cut H A tbOk rfl rfl rfl rfl rfl rfl rfl ?_; clear A H; intro A_ c_ a hc_ A H))
      | ((with_reducible refine g_index ?_); refine sx_sidx A tbOk rfl rfl rfl rfl rfl ?_; clear A; intro a A)
      | ((with_reducible refine g_idx ?_); first | (refine sx_idx H A tbOk rfl rfl rfl rfl rfl rfl ?_; clear A; intro a A) | (refine sx_oidx H A tbOk rfl rfl rfl rfl rfl rfl ?_; clear A; intro a A))
      | ((with_reducible refine g_conv ?_); refine sx_conv A tbOk rfl rfl rfl rfl rfl ?_; clear A; intro a A)
      )
    | ((with_reducible refine g_draw ?_); refine qx_region H (by kernel_rfl) (by kernel_rfl) ?_)
    | ((with_reducible refine qx_nil ?_); clear H; intro w_ F_ H)
    | ((with_reducible refine q_at ?_); first
      | (refine qx_pure A tbOk rfl rfl rfl ?_; clear A; intro a A)
      | (refine qx_skip A rfl rfl ?_; clear A; intro a A)
      | ((with_reducible refine qg_bin ?_); first | ((refine qg_int A rfl ?_); first | (refine qx_cmp A rfl rfl rfl rfl ?_; clear A; intro a A) | (refine qx_arith A rfl rfl rfl rfl ?_; clear A; intro a A)) | ((refine qg_str A rfl ?_); first | (refine qx_scmp A rfl rfl rfl rfl ?_; clear A; intro a A) | (refine qx_concat A rfl rfl rfl rfl ?_; clear A; intro a A)))
      | ((with_reducible refine qg_builtin ?_); first | (refine qx_min A rfl rfl rfl rfl ?_; clear A; intro a A) | (refine qx_max A rfl rfl rfl rfl ?_; clear A; intro a A))
      | ((with_reducible refine qg_slice ?_); refine qx_sstr A tbOk rfl rfl rfl rfl rfl rfl ?_; clear A; intro a A)
      | ((with_reducible refine qg_load ?_); refine qx_load A tbOk rfl rfl rfl rfl ?_; clear A; intro a A)
      | ((with_reducible refine qg_idx ?_); first | (refine qx_idx H A tbOk rfl rfl rfl rfl rfl rfl ?_; clear A; intro a A) | (refine qx_oidx H A tbOk rfl rfl rfl rfl rfl rfl ?_; clear A; intro a A)))
    )
    refine sx_rounds (fun j : Nat => j ≤ ws.length) (fun j => [(25, .int .i64 (j : Int)), (9, .string (valN kp ws i y j)), (24, _), (23, _), (8, _), (17, _), (16, _), (15, _), (7, _), (3, _), (6, _), (1, _), (2, _)]) (fun j => [_, _, _, _]) (fun _ => [_, _, _]) (fun j => ws.length - j) 0 H A.subs (Nat.zero_le _) (fun j F a W hj H A => ?_)
    rcases Nat.lt_or_ge j ws.length with hjl | hjg
    · obtain ⟨x, hx⟩ : ∃ x, ws[j]? = some x := ⟨_, List.getElem?_eq_getElem hjl⟩
      have hkj : kp j = (all || keep.getD j false) := by rw [← hkp]
      have hcase : (kp j = false ∧ all = false ∧ keep.length ≤ j) ∨ (kp j = false ∧ all = false ∧ j < keep.length ∧ keep[j]? = some false) ∨ (kp j = true ∧ all = true) ∨ (kp j = true ∧ all = false ∧ j < keep.length ∧ keep[j]? = some true) := by
        cases all
        · rcases Nat.lt_or_ge j keep.length with hk | hk
          · cases hb2 : keep[j]
            · exact .inr (.inl ⟨by simp [hkj, List.getD, List.getElem?_eq_getElem hk, hb2], rfl, hk, by rw [List.getElem?_eq_getElem hk, hb2]⟩)
            · exact .inr (.inr (.inr ⟨by simp [hkj, List.getD, List.getElem?_eq_getElem hk, hb2], rfl, hk, by rw [List.getElem?_eq_getElem hk, hb2]⟩))
          · exact .inl ⟨by simp [hkj, List.getD, List.getElem?_eq_none hk], rfl, hk⟩
        · exact .inr (.inr (.inl ⟨by simp [hkj], rfl⟩))
      have hvn : valN kp ws i y (j + 1) = if x.sec = (i : Int) ∧ kp j = true then x.bytes else valN kp ws i y j := by
        show (match ws[j]? with | some x => if x.sec = (i : Int) ∧ kp j = true then x.bytes else valN kp ws i y j | none => valN kp ws i y j) = _
        rw [hx]
      generalize valN kp ws i y j = V at *
      clear hkj hr hv hnx
      by_cases hs : x.sec = (i : Int) <;> rcases hcase with ⟨hk, rfl, h1⟩ | ⟨hk, rfl, h1, h2⟩ | ⟨hk, rfl⟩ | ⟨hk, rfl, h1, h2⟩
      all_goals (simp only [hs, hk, true_and, false_and, if_true, if_false, Bool.false_eq_true, and_self, and_false] at hvn)
      all_goals repeat' (first
    | ((with_reducible refine g_dst 29 ?_); refine sx_eload (dk := kWr) H A tbOk rfl rfl rfl rfl rfl (fun c hcl hK => ?_); obtain rfl := kWr_open hK; refine ⟨_, rfl, ?_⟩; clear A; intro a A)
    | ((with_reducible refine g_dst 40 ?_); refine sx_eloadB H A tbOk rfl rfl rfl rfl rfl ?_ (hx := h2); clear A; intro a A)
    | with_reducible refine wp_seq ?_
    | with_reducible refine sx_region ?_
    | with_reducible refine wp_block ?_
    | with_reducible refine wpList_nil ?_
    | with_reducible refine sx_then ?_
    | with_reducible refine sx_inb ?_
    | with_reducible refine wp_skip ?_
    | with_reducible refine wp_ret ?_
    | with_reducible refine wp_exit ?_
    | with_reducible refine sx_then_ret ?_
    | with_reducible refine sx_inb_ret ?_
    | with_reducible refine sx_then_exit ?_
    | with_reducible refine sx_inb_exit ?_
    | with_reducible refine sx_inb_other rfl ?_
    | with_reducible refine sx_if_t A rfl ?_
    | with_reducible refine sx_if_f A rfl ?_
    | ((with_reducible refine sx_at ?_); first
      | (refine sx_pure A tbOk rfl rfl rfl ?_; clear A; intro a A)
      | (refine sx_skip A rfl rfl ?_; clear A; intro a A)
      | ((with_reducible refine g_bin ?_); first | ((refine g_int A rfl ?_); first | (refine sx_cmp A rfl rfl rfl rfl ?_; clear A; intro a A) | (refine sx_arith A rfl rfl rfl rfl ?_; clear A; intro a A) | (refine sx_shl A rfl rfl rfl rfl ?_; clear A; intro a A) | (refine sx_shr A rfl rfl rfl rfl ?_; clear A; intro a A)) | ((refine g_str A rfl ?_); first | (refine sx_scmp A rfl rfl rfl rfl ?_; clear A; intro a A) | (refine sx_concat A rfl rfl rfl rfl ?_; clear A; intro a A)))
      | ((with_reducible refine g_load ?_); first | (refine sx_load_all H A tbOk rfl rfl rfl rfl rfl ?_; clear A; intro a A) | (refine sx_load H A tbOk rfl rfl rfl rfl ?_; clear A; intro a A))
      | ((with_reducible refine g_store ?_); refine sx_store H A tbOk rfl rfl rfl rfl ?_; clear H; intro w_ H)
      | ((with_reducible refine g_box ?_); refine sx_box H A rfl rfl rfl ?_; clear H A; intro b_ a w_ A H)
      | ((with_reducible refine g_alloc ?_); refine sx_alloc H A tbOk rfl rfl rfl ?_; clear H A; intro b_ a w_ A H)
      | ((with_reducible refine g_build ?_); refine sx_build A tbOk rfl rfl rfl rfl rfl rfl ?_; clear A; intro a A)
      | ((with_reducible refine g_builtin ?_); first | (refine sx_min A rfl rfl rfl rfl ?_; clear A; intro a A) | (refine sx_max A rfl rfl rfl rfl ?_; clear A; intro a A))
      | ((with_reducible refine g_slice ?_); first | (refine sx_sstr A tbOk rfl rfl rfl rfl rfl rfl ?_; clear A; intro a A) | (refine sx_cut H A tbOk rfl rfl rfl rfl rfl rfl rfl ?_; clear A H; intro A_ c_ a hc_ A H))
      | ((with_reducible refine g_index ?_); refine sx_sidx A tbOk rfl rfl rfl rfl rfl ?_; clear A; intro a A)
      | ((with_reducible refine g_idx ?_); first | (refine sx_idx H A tbOk rfl rfl rfl rfl rfl rfl ?_; clear A; intro a A) | (refine sx_oidx H A tbOk rfl rfl rfl rfl rfl rfl ?_; clear A; intro a A))
      | ((with_reducible refine g_conv ?_); refine sx_conv A tbOk rfl rfl rfl rfl rfl ?_; clear A; intro a A)
      )
    | ((with_reducible refine g_draw ?_); refine qx_region H (by kernel_rfl) (by kernel_rfl) ?_)
    | ((with_reducible refine qx_nil ?_); clear H; intro w_ F_ H)
    | ((with_reducible refine q_at ?_); first
      | (refine qx_pure A tbOk rfl rfl rfl ?_; clear A; intro a A)
      | (refine qx_skip A rfl rfl ?_; clear A; intro a A)
      | ((with_reducible refine qg_bin ?_); first | ((refine qg_int A rfl ?_); first | (refine qx_cmp A rfl rfl rfl rfl ?_; clear A; intro a A) | (refine qx_arith A rfl rfl rfl rfl ?_; clear A; intro a A)) | ((refine qg_str A rfl ?_); first | (refine qx_scmp A rfl rfl rfl rfl ?_; clear A; intro a A) | (refine qx_concat A rfl rfl rfl rfl ?_; clear A; intro a A)))
      | ((with_reducible refine qg_builtin ?_); first | (refine qx_min A rfl rfl rfl rfl ?_; clear A; intro a A) | (refine qx_max A rfl rfl rfl rfl ?_; clear A; intro a A))
      | ((with_reducible refine qg_slice ?_); refine qx_sstr A tbOk rfl rfl rfl rfl rfl rfl ?_; clear A; intro a A)
      | ((with_reducible refine qg_load ?_); refine qx_load A tbOk rfl rfl rfl rfl ?_; clear A; intro a A)
      | ((with_reducible refine qg_idx ?_); first | (refine qx_idx H A tbOk rfl rfl rfl rfl rfl rfl ?_; clear A; intro a A) | (refine qx_oidx H A tbOk rfl rfl rfl rfl rfl rfl ?_; clear A; intro a A)))
      )
      all_goals exact ⟨j + 1, _, by omega, by omega, H.sel, by rw [hvn]; exact A.subs⟩
    · obtain rfl : j = ws.length := by omega
      repeat' (first
    | ((with_reducible refine g_lit ?_); refine sx_lit (dk := Kd.string) (ys := [_]) H A tbOk rfl rfl rfl rfl rfl rfl (.cons (mk_scalar _) .nil) ?_; clear H A; intro b2 a w_ A H)
    | ((with_reducible refine g_builtin ?_); refine sx_appendL (dk := Kd.string) H A tbOk rfl rfl rfl rfl rfl rfl rfl rfl rfl ?_ (hn := hlen.symm) (hb := by rw [hlen]; simp only [List.length_cons, List.length_nil]; omega) (h63 := by rw [hlen]; simp only [List.length_cons, List.length_nil]; omega); clear A H; intro A3 c3 a w_ A H; rw [hnx] at H A; rw [hl2'] at A)
    | with_reducible refine wp_seq ?_
    | with_reducible refine sx_region ?_
    | with_reducible refine wp_block ?_
    | with_reducible refine wpList_nil ?_
    | with_reducible refine sx_then ?_
    | with_reducible refine sx_inb ?_
    | with_reducible refine wp_skip ?_
    | with_reducible refine wp_ret ?_
    | with_reducible refine wp_exit ?_
    | with_reducible refine sx_then_ret ?_
    | with_reducible refine sx_inb_ret ?_
    | with_reducible refine sx_then_exit ?_
    | with_reducible refine sx_inb_exit ?_
    | with_reducible refine sx_inb_other rfl ?_
    | with_reducible refine sx_if_t A rfl ?_
    | with_reducible refine sx_if_f A rfl ?_
    | ((with_reducible refine sx_at ?_); first
      | (refine sx_pure A tbOk rfl rfl rfl ?_; clear A; intro a A)
      | (refine sx_skip A rfl rfl ?_; clear A; intro a A)
      | ((with_reducible refine g_bin ?_); first | ((refine g_int A rfl ?_); first | (refine sx_cmp A rfl rfl rfl rfl ?_; clear A; intro a A) | (refine sx_arith A rfl rfl rfl rfl ?_; clear A; intro a A) | (refine sx_shl A rfl rfl rfl rfl ?_; clear A; intro a A) | (refine sx_shr A rfl rfl rfl rfl ?_; clear A; intro a A)) | ((refine g_str A rfl ?_); first | (refine sx_scmp A rfl rfl rfl rfl ?_; clear A; intro a A) | (refine sx_concat A rfl rfl rfl rfl ?_; clear A; intro a A)))
      | ((with_reducible refine g_load ?_); first | (refine sx_load_all H A tbOk rfl rfl rfl rfl rfl ?_; clear A; intro a A) | (refine sx_load H A tbOk rfl rfl rfl rfl ?_; clear A; intro a A))
      | ((with_reducible refine g_store ?_); refine sx_store H A tbOk rfl rfl rfl rfl ?_; clear H; intro w_ H)
      | ((with_reducible refine g_box ?_); refine sx_box H A rfl rfl rfl ?_; clear H A; intro b_ a w_ A H)
      | ((with_reducible refine g_alloc ?_); refine sx_alloc H A tbOk rfl rfl rfl ?_; clear H A; intro b_ a w_ A H)
      | ((with_reducible refine g_build ?_); refine sx_build A tbOk rfl rfl rfl rfl rfl rfl ?_; clear A; intro a A)
      | ((with_reducible refine g_builtin ?_); first | (refine sx_min A rfl rfl rfl rfl ?_; clear A; intro a A) | (refine sx_max A rfl rfl rfl rfl ?_; clear A; intro a A))
      | ((with_reducible refine g_slice ?_); first | (refine sx_sstr A tbOk rfl rfl rfl rfl rfl rfl ?_; clear A; intro a A) | (refine sx_cut H A tbOk rfl rfl rfl rfl rfl rfl rfl ?_; clear A H; intro A_ c_ a hc_ A H))
      | ((with_reducible refine g_index ?_); refine sx_sidx A tbOk rfl rfl rfl rfl rfl ?_; clear A; intro a A)
      | ((with_reducible refine g_idx ?_); first | (refine sx_idx H A tbOk rfl rfl rfl rfl rfl rfl ?_; clear A; intro a A) | (refine sx_oidx H A tbOk rfl rfl rfl rfl rfl rfl ?_; clear A; intro a A))
      | ((with_reducible refine g_conv ?_); refine sx_conv A tbOk rfl rfl rfl rfl rfl ?_; clear A; intro a A)
      )
    | ((with_reducible refine g_draw ?_); refine qx_region H (by kernel_rfl) (by kernel_rfl) ?_)
    | ((with_reducible refine qx_nil ?_); clear H; intro w_ F_ H)
    | ((with_reducible refine q_at ?_); first
      | (refine qx_pure A tbOk rfl rfl rfl ?_; clear A; intro a A)
      | (refine qx_skip A rfl rfl ?_; clear A; intro a A)
      | ((with_reducible refine qg_bin ?_); first | ((refine qg_int A rfl ?_); first | (refine qx_cmp A rfl rfl rfl rfl ?_; clear A; intro a A) | (refine qx_arith A rfl rfl rfl rfl ?_; clear A; intro a A)) | ((refine qg_str A rfl ?_); first | (refine qx_scmp A rfl rfl rfl rfl ?_; clear A; intro a A) | (refine qx_concat A rfl rfl rfl rfl ?_; clear A; intro a A)))
      | ((with_reducible refine qg_builtin ?_); first | (refine qx_min A rfl rfl rfl rfl ?_; clear A; intro a A) | (refine qx_max A rfl rfl rfl rfl ?_; clear A; intro a A))
      | ((with_reducible refine qg_slice ?_); refine qx_sstr A tbOk rfl rfl rfl rfl rfl rfl ?_; clear A; intro a A)
      | ((with_reducible refine qg_load ?_); refine qx_load A tbOk rfl rfl rfl rfl ?_; clear A; intro a A)
      | ((with_reducible refine qg_idx ?_); first | (refine qx_idx H A tbOk rfl rfl rfl rfl rfl rfl ?_; clear A; intro a A) | (refine qx_oidx H A tbOk rfl rfl rfl rfl rfl rfl ?_; clear A; intro a A)))
      )
      exact ⟨(i + 1, A3, c3), _, by (show i + 1 ≤ ss.length); omega, by (show ss.length - (i + 1) < ss.length - i); omega, H.sel, A.subs⟩
  · obtain rfl : i = ss.length := by omega
    rw [← hrl, List.take_length] at H
    obtain ⟨hcp, F2, _, H2⟩ := H.freeze_row Del.hd
    clear H
    have H := H2
    clear H2
    repeat' (first
    | (refine sx_ret tbOk H A rfl ?_; exact H.retR (ps := [_]) (fun Fx Hx => k Fx _ _ _ hcp Hx))
    | with_reducible refine wp_seq ?_
    | with_reducible refine sx_region ?_
    | with_reducible refine wp_block ?_
    | with_reducible refine wpList_nil ?_
    | with_reducible refine sx_then ?_
    | with_reducible refine sx_inb ?_
    | with_reducible refine wp_skip ?_
    | with_reducible refine wp_ret ?_
    | with_reducible refine wp_exit ?_
    | with_reducible refine sx_then_ret ?_
    | with_reducible refine sx_inb_ret ?_
    | with_reducible refine sx_then_exit ?_
    | with_reducible refine sx_inb_exit ?_
    | with_reducible refine sx_inb_other rfl ?_
    | with_reducible refine sx_if_t A rfl ?_
    | with_reducible refine sx_if_f A rfl ?_
    | ((with_reducible refine sx_at ?_); first
      | (refine sx_pure A tbOk rfl rfl rfl ?_; clear A; intro a A)
      | (refine sx_skip A rfl rfl ?_; clear A; intro a A)
      | ((with_reducible refine g_bin ?_); first | ((refine g_int A rfl ?_); first | (refine sx_cmp A rfl rfl rfl rfl ?_; clear A; intro a A) | (refine sx_arith A rfl rfl rfl rfl ?_; clear A; intro a A) | (refine sx_shl A rfl rfl rfl rfl ?_; clear A; intro a A) | (refine sx_shr A rfl rfl rfl rfl ?_; clear A; intro a A)) | ((refine g_str A rfl ?_); first | (refine sx_scmp A rfl rfl rfl rfl ?_; clear A; intro a A) | (refine sx_concat A rfl rfl rfl rfl ?_; clear A; intro a A)))
      | ((with_reducible refine g_load ?_); first | (refine sx_load_all H A tbOk rfl rfl rfl rfl rfl ?_; clear A; intro a A) | (refine sx_load H A tbOk rfl rfl rfl rfl ?_; clear A; intro a A))
      | ((with_reducible refine g_store ?_); refine sx_store H A tbOk rfl rfl rfl rfl ?_; clear H; intro w_ H)
      | ((with_reducible refine g_box ?_); refine sx_box H A rfl rfl rfl ?_; clear H A; intro b_ a w_ A H)
      | ((with_reducible refine g_alloc ?_); refine sx_alloc H A tbOk rfl rfl rfl ?_; clear H A; intro b_ a w_ A H)
      | ((with_reducible refine g_build ?_); refine sx_build A tbOk rfl rfl rfl rfl rfl rfl ?_; clear A; intro a A)
      | ((with_reducible refine g_builtin ?_); first | (refine sx_min A rfl rfl rfl rfl ?_; clear A; intro a A) | (refine sx_max A rfl rfl rfl rfl ?_; clear A; intro a A))
      | ((with_reducible refine g_slice ?_); first | (refine sx_sstr A tbOk rfl rfl rfl rfl rfl rfl ?_; clear A; intro a A) | (refine sx_cut H A tbOk rfl rfl rfl rfl rfl rfl rfl ?_; clear A H; intro A_ c_ a hc_ A H))
      | ((with_reducible refine g_index ?_); refine sx_sidx A tbOk rfl rfl rfl rfl rfl ?_; clear A; intro a A)
      | ((with_reducible refine g_idx ?_); first | (refine sx_idx H A tbOk rfl rfl rfl rfl rfl rfl ?_; clear A; intro a A) | (refine sx_oidx H A tbOk rfl rfl rfl rfl rfl rfl ?_; clear A; intro a A))
      | ((with_reducible refine g_conv ?_); refine sx_conv A tbOk rfl rfl rfl rfl rfl ?_; clear A; intro a A)
      )
    | ((with_reducible refine g_draw ?_); refine qx_region H (by kernel_rfl) (by kernel_rfl) ?_)
    | ((with_reducible refine qx_nil ?_); clear H; intro w_ F_ H)
    | ((with_reducible refine q_at ?_); first
      | (refine qx_pure A tbOk rfl rfl rfl ?_; clear A; intro a A)
      | (refine qx_skip A rfl rfl ?_; clear A; intro a A)
      | ((with_reducible refine qg_bin ?_); first | ((refine qg_int A rfl ?_); first | (refine qx_cmp A rfl rfl rfl rfl ?_; clear A; intro a A) | (refine qx_arith A rfl rfl rfl rfl ?_; clear A; intro a A)) | ((refine qg_str A rfl ?_); first | (refine qx_scmp A rfl rfl rfl rfl ?_; clear A; intro a A) | (refine qx_concat A rfl rfl rfl rfl ?_; clear A; intro a A)))
      | ((with_reducible refine qg_builtin ?_); first | (refine qx_min A rfl rfl rfl rfl ?_; clear A; intro a A) | (refine qx_max A rfl rfl rfl rfl ?_; clear A; intro a A))
      | ((with_reducible refine qg_slice ?_); refine qx_sstr A tbOk rfl rfl rfl rfl rfl rfl ?_; clear A; intro a A)
      | ((with_reducible refine qg_load ?_); refine qx_load A tbOk rfl rfl rfl rfl ?_; clear A; intro a A)
      | ((with_reducible refine qg_idx ?_); first | (refine qx_idx H A tbOk rfl rfl rfl rfl rfl rfl ?_; clear A; intro a A) | (refine qx_oidx H A tbOk rfl rfl rfl rfl rfl rfl ?_; clear A; intro a A)))
    )
end
end Go.Proofs.YtniplmjbligmlaaDoor.V

/-! Layer 3 of the program, walked: calls, as long as there is power. -/
namespace Go.Proofs.YtniplmjbligmlaaDoor.V
open Go.RowKit Go.Proofs.YtniplmjbligmlaaDoorW.PrintLast
set_option linter.unusedVariables false
set_option linter.unusedSimpArgs false
def dec1 (l : Int) : Int := if 0 < l then l - 1 else l
def callP (ss : List ByteArray) (ws : List Wr) (left : Int) (ss1 : List ByteArray) (ws1 : List Wr) (e1 : Int) : List ByteArray × List Wr × Int × Int :=
  if left = 0 then (ss, ws, left, 21) else if rightB ss ws = false then (ss, ws, left, 1) else if e1 ≠ 0 then (ss, ws, left, e1) else (ss1, ws1, dec1 left, 0)
def wrDo (ss : List ByteArray) (ws : List Wr) (sec : Int) (bytes : ByteArray) : List ByteArray × List Wr × Int :=
  if hasB ss.length sec = false then (ss, ws, 20) else if 512 < bytes.size then (ss, ws, 2) else (ss, ws ++ [⟨sec, bytes⟩], 0)
def flDo (ss : List ByteArray) (ws : List Wr) : List ByteArray := crashN (fun _ => true) ss ws ws.length
theorem crashN_congr {kp kp' : Nat → Bool} (ss : List ByteArray) (ws : List Wr) (n : Nat) (h : ∀ i, i < n → kp i = kp' i) : crashN kp ss ws n = crashN kp' ss ws n := by
  induction n with
  | zero => rfl
  | succ n ih =>
    unfold crashN
    rw [ih (fun i hi => h i (by omega)), h n (by omega)]
theorem mem2 {α : Type _} {a b : α} {R : List α} (h1 : a ∈ R) (h2 : b ∈ R) : ∀ p ∈ [a, b], p ∈ R := by
  intro p hp; simp only [List.mem_cons, List.not_mem_nil, or_false] at hp; rcases hp with rfl | rfl <;> assumption
theorem St.freezeM {F0 F : Nat → Prop} {w0 w : World} {Bm B B' : List Box} {R : List (World → Prop)} {α : Type} {dk : Kd α} {Ad : Option Addr} {ys : List α} {e : TypeId} {c : Nat} (H : St (fun k => ∃ x ∈ Bm, x.foot = some k) F0 w0 F B R w) (hd : Del B (.row dk e Ad c ys) B') (hs : Sel B' Bm) :
    Cap ys.length c ∧ ∃ F', (∀ k, F k → F' k) ∧ St (fun k => ∃ x ∈ Bm, x.foot = some k) F0 w0 F' B' (rdc dk Ad ys :: R) w :=
  H.freeze_row hd (fun k hk ⟨x, hx, he⟩ => by
    have hnd := (H.sel (.cons hd (sel_refl B'))).nd
    exact (List.pairwise_cons.1 hnd).1 x (hs.mem x hx) k hk he)
theorem del_mid (x : Box) (Br : List Box) : ∀ Bm : List Box, Del (Bm ++ x :: Br) x (Bm ++ Br)
  | [] => .hd
  | y :: Bm => .tl (del_mid x Br Bm)
theorem sel_swap (Bm : List Box) : ∀ Br : List Box, Sel (Bm ++ Br) (Br ++ Bm)
  | [] => by rw [List.append_nil]; exact sel_refl _
  | x :: Br => .cons (del_mid x Br Bm) (sel_swap Bm Br)
theorem sel_skip {x : Box} {B B' : List Box} (h : Sel B B') : Sel (x :: B) B' := by
  induction h with
  | nil => exact .nil
  | cons h k ih => exact .cons (.tl h) ih
section
variable {M F0 F : Nat → Prop} {w0 w : World} {B : List Box} {R : List (World → Prop)} {K : Ending → World → Prop}
set_option maxRecDepth 100000
set_option maxHeartbeats 4000000
theorem sl_disk_Write1 (H : St M F0 w0 F B R w) {Br : List Box} {b4 b5 : Nat} {A0 A1 : Option Addr} {c0 c1 : Nat} {ss ss1 : List ByteArray} {ws ws1 : List Wr} {sec e1 : Int} {bytes : ByteArray} (hl : ss.length ≤ 1000000) (hl2 : ws.length ≤ 1000000) (hr : wrDo ss ws sec bytes = (ss1, ws1, e1)) (hB : Sel B ([.mk b4 3 [.int .i64 sec], .mk b5 9 [.string bytes]] ++ Br)) (k : ∀ Fx w' A0' c0' A1' c1', Cap ss1.length c0' → Cap ws1.length c1' → St M F0 w0 Fx ([.mk b4 3 [.int .i64 sec], .mk b5 9 [.string bytes]] ++ Br) (rdc Kd.string A0' ss1 :: rdc kWr A1' ws1 :: R) w' → K (.returned (.tuple #[.agg #[.slice A0' ss1.length c0', .slice A1' ws1.length c1'], .int .i64 e1])) w') (hm : rdc Kd.string A0 ss ∈ R := by (repeat (first | with_reducible exact List.mem_cons_self | apply List.mem_cons_of_mem))) (hm2 : rdc kWr A1 ws ∈ R := by (repeat (first | with_reducible exact List.mem_cons_self | apply List.mem_cons_of_mem))) (hc0 : Cap ss.length c0 := by with_reducible assumption) (hc1 : Cap ws.length c1 := by with_reducible assumption) : Calls Tryd.prog 58 #[.agg #[.slice A0 ss.length c0, .slice A1 ws.length c1], .pointer (some ⟨b4, 0, none⟩), .pointer (some ⟨b5, 0, none⟩)] w K := by
  refine St.fn H hB (R0 := [rdc Kd.string A0 ss, rdc kWr A1 ws]) (by intro p hp; simp only [List.mem_cons, List.not_mem_nil, or_false] at hp; rcases hp with rfl | rfl <;> assumption) (fun H => ?_)
  refine sx_enter Tryd.func58 Tryd.ntmps58 rfl rfl (fun a A => ?_)
  have hcase : (hasB ss.length sec = false ∧ ss1 = ss ∧ ws1 = ws ∧ e1 = 20) ∨ (hasB ss.length sec = true ∧ 512 < bytes.size ∧ ss1 = ss ∧ ws1 = ws ∧ e1 = 2) ∨ (hasB ss.length sec = true ∧ bytes.size ≤ 512 ∧ ss1 = ss ∧ ws1 = ws ++ [⟨sec, bytes⟩] ∧ e1 = 0) := by
    unfold wrDo at hr
    cases h1 : hasB ss.length sec
    · rw [h1, if_pos rfl] at hr
      injection hr with q1 q2; injection q2 with q2 q3
      exact .inl ⟨rfl, q1.symm, q2.symm, q3.symm⟩
    · rw [h1, if_neg (by decide)] at hr
      split at hr
      · rename_i h2
        injection hr with q1 q2; injection q2 with q2 q3
        exact .inr (.inl ⟨rfl, h2, q1.symm, q2.symm, q3.symm⟩)
      · rename_i h2
        injection hr with q1 q2; injection q2 with q2 q3
        exact .inr (.inr ⟨rfl, by omega, q1.symm, q2.symm, q3.symm⟩)
  clear hr
  rcases hcase with ⟨h1, rfl, rfl, rfl⟩ | ⟨h1, h2, rfl, rfl, rfl⟩ | ⟨h1, h2, rfl, rfl, rfl⟩
  all_goals repeat' (first
    | ((with_reducible refine g_call ?_); refine sx_call (f := 51) A rfl Tryd.call51 rfl rfl ?_; refine sl_disk_has H h1 ?_; clear H; intro F_ w_ H; refine ⟨_, rfl, ?_⟩; clear A; intro a A)
    | ((with_reducible refine g_dst 3 ?_); refine sx_box H A rfl rfl rfl ?_; clear H A; intro b3 a w_ A H)
    | ((with_reducible refine g_draw ?_); refine vstartB H [.mk b3 25 [.slice A0 ss1.length c0, .slice A1 ws.length c1], .mk b4 3 [.int .i64 sec], .mk b5 9 [.string bytes]] [9] #[false, false, false, false, false, false, false, false, false, false] (by kernel_rfl) rfl rfl (fun w_ H => ?_))
    | (refine sx_ret tbOk H A rfl ?_; exact H.retB (Bs := [.mk b4 3 [.int .i64 sec], .mk b5 9 [.string bytes]]) (ps := [rdc Kd.string A0 ss1, rdc kWr A1 ws1]) (fun Fx Hx => k Fx _ A0 c0 A1 c1 hc0 hc1 Hx) (hp := mem2 (by (repeat (first | with_reducible exact List.mem_cons_self | apply List.mem_cons_of_mem))) (by (repeat (first | with_reducible exact List.mem_cons_self | apply List.mem_cons_of_mem)))))
    | with_reducible refine wp_seq ?_
    | with_reducible refine sx_region ?_
    | with_reducible refine wp_block ?_
    | with_reducible refine wpList_nil ?_
    | with_reducible refine sx_then ?_
    | with_reducible refine sx_inb ?_
    | with_reducible refine wp_skip ?_
    | with_reducible refine wp_ret ?_
    | with_reducible refine wp_exit ?_
    | with_reducible refine sx_then_ret ?_
    | with_reducible refine sx_inb_ret ?_
    | with_reducible refine sx_then_exit ?_
    | with_reducible refine sx_inb_exit ?_
    | with_reducible refine sx_inb_other rfl ?_
    | with_reducible refine sx_if_t A rfl ?_
    | with_reducible refine sx_if_f A rfl ?_
    | ((with_reducible refine sx_at ?_); first
      | (refine sx_pure A tbOk rfl rfl rfl ?_; clear A; intro a A)
      | (refine sx_skip A rfl rfl ?_; clear A; intro a A)
      | ((with_reducible refine g_bin ?_); first | ((refine g_int A rfl ?_); first | (refine sx_cmp A rfl rfl rfl rfl ?_; clear A; intro a A) | (refine sx_arith A rfl rfl rfl rfl ?_; clear A; intro a A) | (refine sx_shl A rfl rfl rfl rfl ?_; clear A; intro a A) | (refine sx_shr A rfl rfl rfl rfl ?_; clear A; intro a A)) | ((refine g_str A rfl ?_); first | (refine sx_scmp A rfl rfl rfl rfl ?_; clear A; intro a A) | (refine sx_concat A rfl rfl rfl rfl ?_; clear A; intro a A)))
      | ((with_reducible refine g_load ?_); first | (refine sx_load_all H A tbOk rfl rfl rfl rfl rfl ?_; clear A; intro a A) | (refine sx_load H A tbOk rfl rfl rfl rfl ?_; clear A; intro a A))
      | ((with_reducible refine g_store ?_); refine sx_store H A tbOk rfl rfl rfl rfl ?_; clear H; intro w_ H)
      | ((with_reducible refine g_box ?_); refine sx_box H A rfl rfl rfl ?_; clear H A; intro b_ a w_ A H)
      | ((with_reducible refine g_alloc ?_); refine sx_alloc H A tbOk rfl rfl rfl ?_; clear H A; intro b_ a w_ A H)
      | ((with_reducible refine g_build ?_); refine sx_build A tbOk rfl rfl rfl rfl rfl rfl ?_; clear A; intro a A)
      | ((with_reducible refine g_builtin ?_); first | (refine sx_min A rfl rfl rfl rfl ?_; clear A; intro a A) | (refine sx_max A rfl rfl rfl rfl ?_; clear A; intro a A))
      | ((with_reducible refine g_slice ?_); first | (refine sx_sstr A tbOk rfl rfl rfl rfl rfl rfl ?_; clear A; intro a A) | (refine sx_cut H A tbOk rfl rfl rfl rfl rfl rfl rfl ?_; clear A H; intro A_ c_ a hc_ A H))
      | ((with_reducible refine g_index ?_); refine sx_sidx A tbOk rfl rfl rfl rfl rfl ?_; clear A; intro a A)
      | ((with_reducible refine g_idx ?_); first | (refine sx_idx H A tbOk rfl rfl rfl rfl rfl rfl ?_; clear A; intro a A) | (refine sx_oidx H A tbOk rfl rfl rfl rfl rfl rfl ?_; clear A; intro a A))
      | ((with_reducible refine g_conv ?_); refine sx_conv A tbOk rfl rfl rfl rfl rfl ?_; clear A; intro a A)
      )
    | ((with_reducible refine g_draw ?_); refine qx_region H (by kernel_rfl) (by kernel_rfl) ?_)
    | ((with_reducible refine qx_nil ?_); clear H; intro w_ F_ H)
    | ((with_reducible refine q_at ?_); first
      | (refine qx_pure A tbOk rfl rfl rfl ?_; clear A; intro a A)
      | (refine qx_skip A rfl rfl ?_; clear A; intro a A)
      | ((with_reducible refine qg_bin ?_); first | ((refine qg_int A rfl ?_); first | (refine qx_cmp A rfl rfl rfl rfl ?_; clear A; intro a A) | (refine qx_arith A rfl rfl rfl rfl ?_; clear A; intro a A)) | ((refine qg_str A rfl ?_); first | (refine qx_scmp A rfl rfl rfl rfl ?_; clear A; intro a A) | (refine qx_concat A rfl rfl rfl rfl ?_; clear A; intro a A)))
      | ((with_reducible refine qg_builtin ?_); first | (refine qx_min A rfl rfl rfl rfl ?_; clear A; intro a A) | (refine qx_max A rfl rfl rfl rfl ?_; clear A; intro a A))
      | ((with_reducible refine qg_slice ?_); refine qx_sstr A tbOk rfl rfl rfl rfl rfl rfl ?_; clear A; intro a A)
      | ((with_reducible refine qg_load ?_); refine qx_load A tbOk rfl rfl rfl rfl ?_; clear A; intro a A)
      | ((with_reducible refine qg_idx ?_); first | (refine qx_idx H A tbOk rfl rfl rfl rfl rfl rfl ?_; clear A; intro a A) | (refine qx_oidx H A tbOk rfl rfl rfl rfl rfl rfl ?_; clear A; intro a A)))
    )
  refine vp A tbOk 0 #[true, false, false, false, false, false, false, false, false, false] rfl (by kernel_rfl) (fun _ _ _ _ h => h) rfl rfl rfl rfl ?_; clear A; intro a A
  refine vload H.sel A tbOk 1 #[true, true, false, false, false, false, false, false, false, false] rfl (by kernel_rfl) (fun _ _ _ _ h => h) rfl rfl rfl rfl ?_; clear A; intro a A
  refine vload H.sel A tbOk 3 #[true, true, false, true, false, false, false, false, false, false] rfl (by kernel_rfl) (fun _ _ _ _ h => h) rfl rfl rfl rfl ?_; clear A; intro a A
  refine vload H.sel A tbOk 4 #[true, true, false, true, true, false, false, false, false, false] rfl (by kernel_rfl) (fun _ _ _ _ h => h) rfl rfl rfl rfl ?_; clear A; intro a A
  refine vbuild A tbOk 5 #[true, true, false, true, true, true, false, false, false, false] rfl (by kernel_rfl) (fun _ _ _ _ h => h) rfl rfl rfl rfl rfl rfl ?_; clear A; intro a A
  refine vtwo #[true, true, true, true, true, true, false, false, false, false] #[true, true, false, true, true, true, true, false, false, false] (i := 2) (j := 6) rfl rfl (by kernel_rfl) ?_ ?_
  · skip
    refine sx_call (f := 59) A rfl Tryd.call59 rfl rfl ?_; refine sl_cloneW H (by omega) ?_; clear H; intro F_ w_ A3 c3 H; refine ⟨_, rfl, ?_⟩; clear A; intro a A
    refine wpList_nil ?_; refine ⟨fun hn => ⟨_, H.sel⟩, ?_⟩
    refine vone #[true, true, true, true, true, true, true, false, false, false] (i := 6) rfl (by kernel_rfl) ?_
    refine sx_lit (dk := kWr) (ys := [⟨_, _⟩]) H A tbOk rfl rfl rfl rfl rfl rfl (.cons (kWr_mk _) .nil) ?_; clear H A; intro b7 a w_ A H
    refine wpList_nil ?_; refine ⟨fun hn => ⟨_, H.sel⟩, ?_⟩
    refine vone #[true, true, true, true, true, true, true, true, false, false] (i := 7) rfl (by kernel_rfl) ?_
    refine sx_appendL (dk := kWr) (ys := ws) (zs := [⟨sec, bytes⟩]) H A tbOk rfl rfl rfl rfl rfl rfl rfl rfl rfl ?_; clear A H; intro A4 c4 a w_ A H
    refine wpList_nil ?_; refine ⟨fun hn => ⟨_, H.sel⟩, ?_⟩
    refine vp A tbOk 8 #[true, true, true, true, true, true, true, true, true, false] rfl (by kernel_rfl) (fun _ _ _ _ h => h) rfl rfl rfl rfl ?_; clear A; intro a A
    refine vone #[true, true, true, true, true, true, true, true, true, true] (i := 9) rfl (by kernel_rfl) ?_
    refine sx_store H A tbOk rfl rfl rfl rfl ?_; clear H; intro w_ H
    refine wpList_nil ?_; refine ⟨fun hn => absurd (by decide) hn, ?_⟩
    refine vdone (by kernel_rfl) ?_
    repeat' (first
    | (refine sx_ret tbOk H A rfl ?_; obtain ⟨hcp, F2, _, H2⟩ := H.freezeM (dk := kWr) (ys := ws ++ [⟨sec, bytes⟩]) (by (repeat (first | with_reducible exact Del.hd | apply Del.tl))) (by (repeat (first | exact Sel.nil | (refine Sel.cons (by (repeat (first | exact Del.hd | apply Del.tl))) ?_)))); exact H2.retB (Bs := [.mk b4 3 [.int .i64 sec], .mk b5 9 [.string bytes]]) (ps := [rdc Kd.string A0 ss1, rdc kWr A4 (ws ++ [(⟨sec, bytes⟩ : Wr)])]) (fun Fx Hx => k Fx _ A0 c0 A4 c4 hc0 hcp Hx) (hp := mem2 (by (repeat (first | with_reducible exact List.mem_cons_self | apply List.mem_cons_of_mem))) (by (repeat (first | with_reducible exact List.mem_cons_self | apply List.mem_cons_of_mem)))))
    | with_reducible refine wp_seq ?_
    | with_reducible refine sx_region ?_
    | with_reducible refine wp_block ?_
    | with_reducible refine wpList_nil ?_
    | with_reducible refine sx_then ?_
    | with_reducible refine sx_inb ?_
    | with_reducible refine wp_skip ?_
    | with_reducible refine wp_ret ?_
    | with_reducible refine wp_exit ?_
    | with_reducible refine sx_then_ret ?_
    | with_reducible refine sx_inb_ret ?_
    | with_reducible refine sx_then_exit ?_
    | with_reducible refine sx_inb_exit ?_
    | with_reducible refine sx_inb_other rfl ?_
    | with_reducible refine sx_if_t A rfl ?_
    | with_reducible refine sx_if_f A rfl ?_
    | ((with_reducible refine sx_at ?_); first
      | (refine sx_pure A tbOk rfl rfl rfl ?_; clear A; intro a A)
      | (refine sx_skip A rfl rfl ?_; clear A; intro a A)
      | ((with_reducible refine g_bin ?_); first | ((refine g_int A rfl ?_); first | (refine sx_cmp A rfl rfl rfl rfl ?_; clear A; intro a A) | (refine sx_arith A rfl rfl rfl rfl ?_; clear A; intro a A) | (refine sx_shl A rfl rfl rfl rfl ?_; clear A; intro a A) | (refine sx_shr A rfl rfl rfl rfl ?_; clear A; intro a A)) | ((refine g_str A rfl ?_); first | (refine sx_scmp A rfl rfl rfl rfl ?_; clear A; intro a A) | (refine sx_concat A rfl rfl rfl rfl ?_; clear A; intro a A)))
      | ((with_reducible refine g_load ?_); first | (refine sx_load_all H A tbOk rfl rfl rfl rfl rfl ?_; clear A; intro a A) | (refine sx_load H A tbOk rfl rfl rfl rfl ?_; clear A; intro a A))
      | ((with_reducible refine g_store ?_); refine sx_store H A tbOk rfl rfl rfl rfl ?_; clear H; intro w_ H)
      | ((with_reducible refine g_box ?_); refine sx_box H A rfl rfl rfl ?_; clear H A; intro b_ a w_ A H)
      | ((with_reducible refine g_alloc ?_); refine sx_alloc H A tbOk rfl rfl rfl ?_; clear H A; intro b_ a w_ A H)
      | ((with_reducible refine g_build ?_); refine sx_build A tbOk rfl rfl rfl rfl rfl rfl ?_; clear A; intro a A)
      | ((with_reducible refine g_builtin ?_); first | (refine sx_min A rfl rfl rfl rfl ?_; clear A; intro a A) | (refine sx_max A rfl rfl rfl rfl ?_; clear A; intro a A))
      | ((with_reducible refine g_slice ?_); first | (refine sx_sstr A tbOk rfl rfl rfl rfl rfl rfl ?_; clear A; intro a A) | (refine sx_cut H A tbOk rfl rfl rfl rfl rfl rfl rfl ?_; clear A H; intro A_ c_ a hc_ A H))
      | ((with_reducible refine g_index ?_); refine sx_sidx A tbOk rfl rfl rfl rfl rfl ?_; clear A; intro a A)
      | ((with_reducible refine g_idx ?_); first | (refine sx_idx H A tbOk rfl rfl rfl rfl rfl rfl ?_; clear A; intro a A) | (refine sx_oidx H A tbOk rfl rfl rfl rfl rfl rfl ?_; clear A; intro a A))
      | ((with_reducible refine g_conv ?_); refine sx_conv A tbOk rfl rfl rfl rfl rfl ?_; clear A; intro a A)
      )
    | ((with_reducible refine g_draw ?_); refine qx_region H (by kernel_rfl) (by kernel_rfl) ?_)
    | ((with_reducible refine qx_nil ?_); clear H; intro w_ F_ H)
    | ((with_reducible refine q_at ?_); first
      | (refine qx_pure A tbOk rfl rfl rfl ?_; clear A; intro a A)
      | (refine qx_skip A rfl rfl ?_; clear A; intro a A)
      | ((with_reducible refine qg_bin ?_); first | ((refine qg_int A rfl ?_); first | (refine qx_cmp A rfl rfl rfl rfl ?_; clear A; intro a A) | (refine qx_arith A rfl rfl rfl rfl ?_; clear A; intro a A)) | ((refine qg_str A rfl ?_); first | (refine qx_scmp A rfl rfl rfl rfl ?_; clear A; intro a A) | (refine qx_concat A rfl rfl rfl rfl ?_; clear A; intro a A)))
      | ((with_reducible refine qg_builtin ?_); first | (refine qx_min A rfl rfl rfl rfl ?_; clear A; intro a A) | (refine qx_max A rfl rfl rfl rfl ?_; clear A; intro a A))
      | ((with_reducible refine qg_slice ?_); refine qx_sstr A tbOk rfl rfl rfl rfl rfl rfl ?_; clear A; intro a A)
      | ((with_reducible refine qg_load ?_); refine qx_load A tbOk rfl rfl rfl rfl ?_; clear A; intro a A)
      | ((with_reducible refine qg_idx ?_); first | (refine qx_idx H A tbOk rfl rfl rfl rfl rfl rfl ?_; clear A; intro a A) | (refine qx_oidx H A tbOk rfl rfl rfl rfl rfl rfl ?_; clear A; intro a A)))
    )
  · skip
    refine sx_lit (dk := kWr) (ys := [⟨_, _⟩]) H A tbOk rfl rfl rfl rfl rfl rfl (.cons (kWr_mk _) .nil) ?_; clear H A; intro b7 a w_ A H
    refine wpList_nil ?_; refine ⟨fun hn => ⟨_, H.sel⟩, ?_⟩
    refine vone #[true, true, true, true, true, true, true, false, false, false] (i := 2) rfl (by kernel_rfl) ?_
    refine sx_call (f := 59) A rfl Tryd.call59 rfl rfl ?_; refine sl_cloneW H (by omega) ?_; clear H; intro F_ w_ A3 c3 H; refine ⟨_, rfl, ?_⟩; clear A; intro a A
    refine wpList_nil ?_; refine ⟨fun hn => ⟨_, H.sel⟩, ?_⟩
    refine vone #[true, true, true, true, true, true, true, true, false, false] (i := 7) rfl (by kernel_rfl) ?_
    refine sx_appendL (dk := kWr) (ys := ws) (zs := [⟨sec, bytes⟩]) H A tbOk rfl rfl rfl rfl rfl rfl rfl rfl rfl ?_; clear A H; intro A4 c4 a w_ A H
    refine wpList_nil ?_; refine ⟨fun hn => ⟨_, H.sel⟩, ?_⟩
    refine vp A tbOk 8 #[true, true, true, true, true, true, true, true, true, false] rfl (by kernel_rfl) (fun _ _ _ _ h => h) rfl rfl rfl rfl ?_; clear A; intro a A
    refine vone #[true, true, true, true, true, true, true, true, true, true] (i := 9) rfl (by kernel_rfl) ?_
    refine sx_store H A tbOk rfl rfl rfl rfl ?_; clear H; intro w_ H
    refine wpList_nil ?_; refine ⟨fun hn => absurd (by decide) hn, ?_⟩
    refine vdone (by kernel_rfl) ?_
    repeat' (first
    | (refine sx_ret tbOk H A rfl ?_; obtain ⟨hcp, F2, _, H2⟩ := H.freezeM (dk := kWr) (ys := ws ++ [⟨sec, bytes⟩]) (by (repeat (first | with_reducible exact Del.hd | apply Del.tl))) (by (repeat (first | exact Sel.nil | (refine Sel.cons (by (repeat (first | exact Del.hd | apply Del.tl))) ?_)))); exact H2.retB (Bs := [.mk b4 3 [.int .i64 sec], .mk b5 9 [.string bytes]]) (ps := [rdc Kd.string A0 ss1, rdc kWr A4 (ws ++ [(⟨sec, bytes⟩ : Wr)])]) (fun Fx Hx => k Fx _ A0 c0 A4 c4 hc0 hcp Hx) (hp := mem2 (by (repeat (first | with_reducible exact List.mem_cons_self | apply List.mem_cons_of_mem))) (by (repeat (first | with_reducible exact List.mem_cons_self | apply List.mem_cons_of_mem)))))
    | with_reducible refine wp_seq ?_
    | with_reducible refine sx_region ?_
    | with_reducible refine wp_block ?_
    | with_reducible refine wpList_nil ?_
    | with_reducible refine sx_then ?_
    | with_reducible refine sx_inb ?_
    | with_reducible refine wp_skip ?_
    | with_reducible refine wp_ret ?_
    | with_reducible refine wp_exit ?_
    | with_reducible refine sx_then_ret ?_
    | with_reducible refine sx_inb_ret ?_
    | with_reducible refine sx_then_exit ?_
    | with_reducible refine sx_inb_exit ?_
    | with_reducible refine sx_inb_other rfl ?_
    | with_reducible refine sx_if_t A rfl ?_
    | with_reducible refine sx_if_f A rfl ?_
    | ((with_reducible refine sx_at ?_); first
      | (refine sx_pure A tbOk rfl rfl rfl ?_; clear A; intro a A)
      | (refine sx_skip A rfl rfl ?_; clear A; intro a A)
      | ((with_reducible refine g_bin ?_); first | ((refine g_int A rfl ?_); first | (refine sx_cmp A rfl rfl rfl rfl ?_; clear A; intro a A) | (refine sx_arith A rfl rfl rfl rfl ?_; clear A; intro a A) | (refine sx_shl A rfl rfl rfl rfl ?_; clear A; intro a A) | (refine sx_shr A rfl rfl rfl rfl ?_; clear A; intro a A)) | ((refine g_str A rfl ?_); first | (refine sx_scmp A rfl rfl rfl rfl ?_; clear A; intro a A) | (refine sx_concat A rfl rfl rfl rfl ?_; clear A; intro a A)))
      | ((with_reducible refine g_load ?_); first | (refine sx_load_all H A tbOk rfl rfl rfl rfl rfl ?_; clear A; intro a A) | (refine sx_load H A tbOk rfl rfl rfl rfl ?_; clear A; intro a A))
      | ((with_reducible refine g_store ?_); refine sx_store H A tbOk rfl rfl rfl rfl ?_; clear H; intro w_ H)
      | ((with_reducible refine g_box ?_); refine sx_box H A rfl rfl rfl ?_; clear H A; intro b_ a w_ A H)
      | ((with_reducible refine g_alloc ?_); refine sx_alloc H A tbOk rfl rfl rfl ?_; clear H A; intro b_ a w_ A H)
      | ((with_reducible refine g_build ?_); refine sx_build A tbOk rfl rfl rfl rfl rfl rfl ?_; clear A; intro a A)
      | ((with_reducible refine g_builtin ?_); first | (refine sx_min A rfl rfl rfl rfl ?_; clear A; intro a A) | (refine sx_max A rfl rfl rfl rfl ?_; clear A; intro a A))
      | ((with_reducible refine g_slice ?_); first | (refine sx_sstr A tbOk rfl rfl rfl rfl rfl rfl ?_; clear A; intro a A) | (refine sx_cut H A tbOk rfl rfl rfl rfl rfl rfl rfl ?_; clear A H; intro A_ c_ a hc_ A H))
      | ((with_reducible refine g_index ?_); refine sx_sidx A tbOk rfl rfl rfl rfl rfl ?_; clear A; intro a A)
      | ((with_reducible refine g_idx ?_); first | (refine sx_idx H A tbOk rfl rfl rfl rfl rfl rfl ?_; clear A; intro a A) | (refine sx_oidx H A tbOk rfl rfl rfl rfl rfl rfl ?_; clear A; intro a A))
      | ((with_reducible refine g_conv ?_); refine sx_conv A tbOk rfl rfl rfl rfl rfl ?_; clear A; intro a A)
      )
    | ((with_reducible refine g_draw ?_); refine qx_region H (by kernel_rfl) (by kernel_rfl) ?_)
    | ((with_reducible refine qx_nil ?_); clear H; intro w_ F_ H)
    | ((with_reducible refine q_at ?_); first
      | (refine qx_pure A tbOk rfl rfl rfl ?_; clear A; intro a A)
      | (refine qx_skip A rfl rfl ?_; clear A; intro a A)
      | ((with_reducible refine qg_bin ?_); first | ((refine qg_int A rfl ?_); first | (refine qx_cmp A rfl rfl rfl rfl ?_; clear A; intro a A) | (refine qx_arith A rfl rfl rfl rfl ?_; clear A; intro a A)) | ((refine qg_str A rfl ?_); first | (refine qx_scmp A rfl rfl rfl rfl ?_; clear A; intro a A) | (refine qx_concat A rfl rfl rfl rfl ?_; clear A; intro a A)))
      | ((with_reducible refine qg_builtin ?_); first | (refine qx_min A rfl rfl rfl rfl ?_; clear A; intro a A) | (refine qx_max A rfl rfl rfl rfl ?_; clear A; intro a A))
      | ((with_reducible refine qg_slice ?_); refine qx_sstr A tbOk rfl rfl rfl rfl rfl rfl ?_; clear A; intro a A)
      | ((with_reducible refine qg_load ?_); refine qx_load A tbOk rfl rfl rfl rfl ?_; clear A; intro a A)
      | ((with_reducible refine qg_idx ?_); first | (refine qx_idx H A tbOk rfl rfl rfl rfl rfl rfl ?_; clear A; intro a A) | (refine qx_oidx H A tbOk rfl rfl rfl rfl rfl rfl ?_; clear A; intro a A)))
    )
theorem sl_disk_Flush1 (H : St M F0 w0 F B R w) {A0 A1 : Option Addr} {c0 c1 : Nat} {ss ss1 : List ByteArray} {ws : List Wr} (hl : ss.length ≤ 1000000) (hl2 : ws.length ≤ 1000000) (hb : rightB ss ws = true) (hr : flDo ss ws = ss1) (k : ∀ Fx w' A0' c0' A1' c1', Cap ss1.length c0' → Cap ([] : List Wr).length c1' → St M F0 w0 Fx B (rdc Kd.string A0' ss1 :: rdc kWr A1' [] :: R) w' → K (.returned (.tuple #[.agg #[.slice A0' ss1.length c0', .slice A1' ([] : List Wr).length c1'], .int .i64 0])) w') (hm : rdc Kd.string A0 ss ∈ R := by (repeat (first | with_reducible exact List.mem_cons_self | apply List.mem_cons_of_mem))) (hm2 : rdc kWr A1 ws ∈ R := by (repeat (first | with_reducible exact List.mem_cons_self | apply List.mem_cons_of_mem))) : Calls Tryd.prog 64 #[.agg #[.slice A0 ss.length c0, .slice A1 ws.length c1]] w K := by
  refine St.fn0 H (R0 := [rdc Kd.string A0 ss, rdc kWr A1 ws]) (mem2 hm hm2) (fun H => ?_)
  refine sx_enter Tryd.func64 Tryd.ntmps64 rfl rfl (fun a A => ?_)
  have hcr : (if rightB ss ws then (crashN (fun i => (List.replicate ws.length true).getD i false) ss ws ws.length, (0 : Int)) else ([], 1)) = (ss1, 0) := by
    rw [if_pos hb, ← hr]
    congr 1
    exact crashN_congr _ _ _ (fun i hi => by simp [List.getD, hi])
  repeat' (first
    | ((with_reducible refine g_dst 1 ?_); refine sx_box H A rfl rfl rfl ?_; clear H A; intro b1 a w_ A H)
    | ((with_reducible refine g_draw ?_); refine vstartB H [.mk b1 25 [.slice A0 ss.length c0, .slice A1 ws.length c1]] [9] #[false, false, false, false, false, false, false, false, false, false, false] (by kernel_rfl) rfl rfl (fun w_ H => ?_))
    | with_reducible refine wp_seq ?_
    | with_reducible refine sx_region ?_
    | with_reducible refine wp_block ?_
    | with_reducible refine wpList_nil ?_
    | with_reducible refine sx_then ?_
    | with_reducible refine sx_inb ?_
    | with_reducible refine wp_skip ?_
    | with_reducible refine wp_ret ?_
    | with_reducible refine wp_exit ?_
    | with_reducible refine sx_then_ret ?_
    | with_reducible refine sx_inb_ret ?_
    | with_reducible refine sx_then_exit ?_
    | with_reducible refine sx_inb_exit ?_
    | with_reducible refine sx_inb_other rfl ?_
    | with_reducible refine sx_if_t A rfl ?_
    | with_reducible refine sx_if_f A rfl ?_
    | ((with_reducible refine sx_at ?_); first
      | (refine sx_pure A tbOk rfl rfl rfl ?_; clear A; intro a A)
      | (refine sx_skip A rfl rfl ?_; clear A; intro a A)
      | ((with_reducible refine g_bin ?_); first | ((refine g_int A rfl ?_); first | (refine sx_cmp A rfl rfl rfl rfl ?_; clear A; intro a A) | (refine sx_arith A rfl rfl rfl rfl ?_; clear A; intro a A) | (refine sx_shl A rfl rfl rfl rfl ?_; clear A; intro a A) | (refine sx_shr A rfl rfl rfl rfl ?_; clear A; intro a A)) | ((refine g_str A rfl ?_); first | (refine sx_scmp A rfl rfl rfl rfl ?_; clear A; intro a A) | (refine sx_concat A rfl rfl rfl rfl ?_; clear A; intro a A)))
      | ((with_reducible refine g_load ?_); first | (refine sx_load_all H A tbOk rfl rfl rfl rfl rfl ?_; clear A; intro a A) | (refine sx_load H A tbOk rfl rfl rfl rfl ?_; clear A; intro a A))
      | ((with_reducible refine g_store ?_); refine sx_store H A tbOk rfl rfl rfl rfl ?_; clear H; intro w_ H)
      | ((with_reducible refine g_box ?_); refine sx_box H A rfl rfl rfl ?_; clear H A; intro b_ a w_ A H)
      | ((with_reducible refine g_alloc ?_); refine sx_alloc H A tbOk rfl rfl rfl ?_; clear H A; intro b_ a w_ A H)
      | ((with_reducible refine g_build ?_); refine sx_build A tbOk rfl rfl rfl rfl rfl rfl ?_; clear A; intro a A)
      | ((with_reducible refine g_builtin ?_); first | (refine sx_min A rfl rfl rfl rfl ?_; clear A; intro a A) | (refine sx_max A rfl rfl rfl rfl ?_; clear A; intro a A))
      | ((with_reducible refine g_slice ?_); first | (refine sx_sstr A tbOk rfl rfl rfl rfl rfl rfl ?_; clear A; intro a A) | (refine sx_cut H A tbOk rfl rfl rfl rfl rfl rfl rfl ?_; clear A H; intro A_ c_ a hc_ A H))
      | ((with_reducible refine g_index ?_); refine sx_sidx A tbOk rfl rfl rfl rfl rfl ?_; clear A; intro a A)
      | ((with_reducible refine g_idx ?_); first | (refine sx_idx H A tbOk rfl rfl rfl rfl rfl rfl ?_; clear A; intro a A) | (refine sx_oidx H A tbOk rfl rfl rfl rfl rfl rfl ?_; clear A; intro a A))
      | ((with_reducible refine g_conv ?_); refine sx_conv A tbOk rfl rfl rfl rfl rfl ?_; clear A; intro a A)
      )
    | ((with_reducible refine g_draw ?_); refine qx_region H (by kernel_rfl) (by kernel_rfl) ?_)
    | ((with_reducible refine qx_nil ?_); clear H; intro w_ F_ H)
    | ((with_reducible refine q_at ?_); first
      | (refine qx_pure A tbOk rfl rfl rfl ?_; clear A; intro a A)
      | (refine qx_skip A rfl rfl ?_; clear A; intro a A)
      | ((with_reducible refine qg_bin ?_); first | ((refine qg_int A rfl ?_); first | (refine qx_cmp A rfl rfl rfl rfl ?_; clear A; intro a A) | (refine qx_arith A rfl rfl rfl rfl ?_; clear A; intro a A)) | ((refine qg_str A rfl ?_); first | (refine qx_scmp A rfl rfl rfl rfl ?_; clear A; intro a A) | (refine qx_concat A rfl rfl rfl rfl ?_; clear A; intro a A)))
      | ((with_reducible refine qg_builtin ?_); first | (refine qx_min A rfl rfl rfl rfl ?_; clear A; intro a A) | (refine qx_max A rfl rfl rfl rfl ?_; clear A; intro a A))
      | ((with_reducible refine qg_slice ?_); refine qx_sstr A tbOk rfl rfl rfl rfl rfl rfl ?_; clear A; intro a A)
      | ((with_reducible refine qg_load ?_); refine qx_load A tbOk rfl rfl rfl rfl ?_; clear A; intro a A)
      | ((with_reducible refine qg_idx ?_); first | (refine qx_idx H A tbOk rfl rfl rfl rfl rfl rfl ?_; clear A; intro a A) | (refine qx_oidx H A tbOk rfl rfl rfl rfl rfl rfl ?_; clear A; intro a A)))
  )
  refine vload H.sel A tbOk 0 #[true, false, false, false, false, false, false, false, false, false, false] rfl (by kernel_rfl) (fun _ _ _ _ h => h) rfl rfl rfl rfl ?_; clear A; intro a A
  refine vp A tbOk 2 #[true, false, true, false, false, false, false, false, false, false, false] rfl (by kernel_rfl) (fun _ _ _ _ h => h) rfl rfl rfl rfl ?_; clear A; intro a A
  refine vload H.sel A tbOk 3 #[true, false, true, true, false, false, false, false, false, false, false] rfl (by kernel_rfl) (fun _ _ _ _ h => h) rfl rfl rfl rfl ?_; clear A; intro a A
  refine vp A tbOk 4 #[true, false, true, true, true, false, false, false, false, false, false] rfl (by kernel_rfl) (fun _ _ _ _ h => h) rfl rfl rfl rfl ?_; clear A; intro a A
  refine vone #[true, true, true, true, true, false, false, false, false, false, false] (i := 1) rfl (by kernel_rfl) ?_
  refine sx_lit (dk := Kd.bool) (ys := [true]) H A tbOk rfl rfl rfl rfl rfl rfl (.cons (mk_scalar _) .nil) ?_; clear H A; intro b7 a w_ A H; obtain ⟨hcp, F_, _, H2⟩ := H.freeze_row Del.hd; clear H; have H := H2; clear H2
  refine wpList_nil ?_; refine ⟨fun hn => ⟨_, (H.only (by intro p hp; repeat (first | exact hp | apply List.mem_cons_of_mem))).sel⟩, ?_⟩
  refine vone #[true, true, true, true, true, true, false, false, false, false, false] (i := 5) rfl (by kernel_rfl) ?_
  refine sx_call (f := 65) A rfl Tryd.call65 rfl rfl ?_; refine sl_repeatTrue H (by omega) ?_; clear H; intro F_ w_ A3 c3 hc3 H; refine ⟨_, rfl, ?_⟩; clear A; intro a A
  refine wpList_nil ?_; refine ⟨fun hn => ⟨_, (H.only (by intro p hp; repeat (first | exact hp | apply List.mem_cons_of_mem))).sel⟩, ?_⟩
  refine vone #[true, true, true, true, true, true, true, false, false, false, false] (i := 6) rfl (by kernel_rfl) ?_
  refine sx_call (f := 21) A rfl Tryd.call21 rfl rfl ?_; refine sl_disk_Crash H hl hl2 hcr ?_; clear H; intro F_ w_ A4 c4 hc4 H; refine ⟨_, rfl, ?_⟩; clear A; intro a A
  refine wpList_nil ?_; refine ⟨fun hn => ⟨_, (H.only (by intro p hp; repeat (first | exact hp | apply List.mem_cons_of_mem))).sel⟩, ?_⟩
  refine vp A tbOk 7 #[true, true, true, true, true, true, true, true, false, false, false] rfl (by kernel_rfl) (fun _ _ _ _ h => h) rfl rfl rfl rfl ?_; clear A; intro a A
  refine vp A tbOk 8 #[true, true, true, true, true, true, true, true, true, false, false] rfl (by kernel_rfl) (fun _ _ _ _ h => h) rfl rfl rfl rfl ?_; clear A; intro a A
  refine vone #[true, true, true, true, true, true, true, true, true, true, false] (i := 9) rfl (by kernel_rfl) ?_
  refine sx_store H A tbOk rfl rfl rfl rfl ?_; clear H; intro w_ H
  refine wpList_nil ?_; refine ⟨fun hn => absurd (by decide) hn, ?_⟩
  refine vp A tbOk 10 #[true, true, true, true, true, true, true, true, true, true, true] rfl (by kernel_rfl) (fun _ _ _ _ h => h) rfl rfl rfl rfl ?_; clear A; intro a A
  refine vdone (by kernel_rfl) ?_
  repeat' (first
    | (refine sx_ret tbOk H A rfl ?_; exact (H.fact (fun W _ => rdc_nil kWr none W)).retR (ps := [rdc Kd.string A4 ss1, rdc kWr none []]) (fun Fx Hx => k Fx _ A4 c4 none 0 hc4 ⟨Nat.le_refl _⟩ Hx) (mem2 (by (repeat (first | with_reducible exact List.mem_cons_self | apply List.mem_cons_of_mem))) (by (repeat (first | with_reducible exact List.mem_cons_self | apply List.mem_cons_of_mem)))))
    | with_reducible refine wp_seq ?_
    | with_reducible refine sx_region ?_
    | with_reducible refine wp_block ?_
    | with_reducible refine wpList_nil ?_
    | with_reducible refine sx_then ?_
    | with_reducible refine sx_inb ?_
    | with_reducible refine wp_skip ?_
    | with_reducible refine wp_ret ?_
    | with_reducible refine wp_exit ?_
    | with_reducible refine sx_then_ret ?_
    | with_reducible refine sx_inb_ret ?_
    | with_reducible refine sx_then_exit ?_
    | with_reducible refine sx_inb_exit ?_
    | with_reducible refine sx_inb_other rfl ?_
    | with_reducible refine sx_if_t A rfl ?_
    | with_reducible refine sx_if_f A rfl ?_
    | ((with_reducible refine sx_at ?_); first
      | (refine sx_pure A tbOk rfl rfl rfl ?_; clear A; intro a A)
      | (refine sx_skip A rfl rfl ?_; clear A; intro a A)
      | ((with_reducible refine g_bin ?_); first | ((refine g_int A rfl ?_); first | (refine sx_cmp A rfl rfl rfl rfl ?_; clear A; intro a A) | (refine sx_arith A rfl rfl rfl rfl ?_; clear A; intro a A) | (refine sx_shl A rfl rfl rfl rfl ?_; clear A; intro a A) | (refine sx_shr A rfl rfl rfl rfl ?_; clear A; intro a A)) | ((refine g_str A rfl ?_); first | (refine sx_scmp A rfl rfl rfl rfl ?_; clear A; intro a A) | (refine sx_concat A rfl rfl rfl rfl ?_; clear A; intro a A)))
      | ((with_reducible refine g_load ?_); first | (refine sx_load_all H A tbOk rfl rfl rfl rfl rfl ?_; clear A; intro a A) | (refine sx_load H A tbOk rfl rfl rfl rfl ?_; clear A; intro a A))
      | ((with_reducible refine g_store ?_); refine sx_store H A tbOk rfl rfl rfl rfl ?_; clear H; intro w_ H)
      | ((with_reducible refine g_box ?_); refine sx_box H A rfl rfl rfl ?_; clear H A; intro b_ a w_ A H)
      | ((with_reducible refine g_alloc ?_); refine sx_alloc H A tbOk rfl rfl rfl ?_; clear H A; intro b_ a w_ A H)
      | ((with_reducible refine g_build ?_); refine sx_build A tbOk rfl rfl rfl rfl rfl rfl ?_; clear A; intro a A)
      | ((with_reducible refine g_builtin ?_); first | (refine sx_min A rfl rfl rfl rfl ?_; clear A; intro a A) | (refine sx_max A rfl rfl rfl rfl ?_; clear A; intro a A))
      | ((with_reducible refine g_slice ?_); first | (refine sx_sstr A tbOk rfl rfl rfl rfl rfl rfl ?_; clear A; intro a A) | (refine sx_cut H A tbOk rfl rfl rfl rfl rfl rfl rfl ?_; clear A H; intro A_ c_ a hc_ A H))
      | ((with_reducible refine g_index ?_); refine sx_sidx A tbOk rfl rfl rfl rfl rfl ?_; clear A; intro a A)
      | ((with_reducible refine g_idx ?_); first | (refine sx_idx H A tbOk rfl rfl rfl rfl rfl rfl ?_; clear A; intro a A) | (refine sx_oidx H A tbOk rfl rfl rfl rfl rfl rfl ?_; clear A; intro a A))
      | ((with_reducible refine g_conv ?_); refine sx_conv A tbOk rfl rfl rfl rfl rfl ?_; clear A; intro a A)
      )
    | ((with_reducible refine g_draw ?_); refine qx_region H (by kernel_rfl) (by kernel_rfl) ?_)
    | ((with_reducible refine qx_nil ?_); clear H; intro w_ F_ H)
    | ((with_reducible refine q_at ?_); first
      | (refine qx_pure A tbOk rfl rfl rfl ?_; clear A; intro a A)
      | (refine qx_skip A rfl rfl ?_; clear A; intro a A)
      | ((with_reducible refine qg_bin ?_); first | ((refine qg_int A rfl ?_); first | (refine qx_cmp A rfl rfl rfl rfl ?_; clear A; intro a A) | (refine qx_arith A rfl rfl rfl rfl ?_; clear A; intro a A)) | ((refine qg_str A rfl ?_); first | (refine qx_scmp A rfl rfl rfl rfl ?_; clear A; intro a A) | (refine qx_concat A rfl rfl rfl rfl ?_; clear A; intro a A)))
      | ((with_reducible refine qg_builtin ?_); first | (refine qx_min A rfl rfl rfl rfl ?_; clear A; intro a A) | (refine qx_max A rfl rfl rfl rfl ?_; clear A; intro a A))
      | ((with_reducible refine qg_slice ?_); refine qx_sstr A tbOk rfl rfl rfl rfl rfl rfl ?_; clear A; intro a A)
      | ((with_reducible refine qg_load ?_); refine qx_load A tbOk rfl rfl rfl rfl ?_; clear A; intro a A)
      | ((with_reducible refine qg_idx ?_); first | (refine qx_idx H A tbOk rfl rfl rfl rfl rfl rfl ?_; clear A; intro a A) | (refine qx_oidx H A tbOk rfl rfl rfl rfl rfl rfl ?_; clear A; intro a A)))
  )
theorem callP_cases {ss ss1 ss' : List ByteArray} {ws ws1 ws' : List Wr} {left left' e1 e : Int} (hr : callP ss ws left ss1 ws1 e1 = (ss', ws', left', e)) : (left = 0 ∧ ss' = ss ∧ ws' = ws ∧ left' = 0 ∧ e = 21) ∨ (left ≠ 0 ∧ rightB ss ws = false ∧ ss' = ss ∧ ws' = ws ∧ left' = left ∧ e = 1) ∨ (left ≠ 0 ∧ rightB ss ws = true ∧ e1 ≠ 0 ∧ ss' = ss ∧ ws' = ws ∧ left' = left ∧ e = e1) ∨
    (left < 0 ∧ rightB ss ws = true ∧ e1 = 0 ∧ ss' = ss1 ∧ ws' = ws1 ∧ left' = left ∧ e = 0) ∨ (0 < left ∧ rightB ss ws = true ∧ e1 = 0 ∧ ss' = ss1 ∧ ws' = ws1 ∧ left' = left - 1 ∧ e = 0) := by
  unfold callP at hr
  by_cases h1 : left = 0
  · rw [if_pos h1] at hr
    injection hr with q1 q2; injection q2 with q2 q3; injection q3 with q3 q4
    exact .inl ⟨h1, q1.symm, q2.symm, q3.symm.trans h1, q4.symm⟩
  rw [if_neg h1] at hr
  cases h2 : rightB ss ws
  · rw [if_pos h2] at hr
    injection hr with q1 q2; injection q2 with q2 q3; injection q3 with q3 q4
    exact .inr (.inl ⟨h1, rfl, q1.symm, q2.symm, q3.symm, q4.symm⟩)
  rw [if_neg (by rw [h2]; decide)] at hr
  by_cases h3 : e1 = 0
  · rw [if_neg (by simpa using h3)] at hr
    injection hr with q1 q2; injection q2 with q2 q3; injection q3 with q3 q4
    unfold dec1 at q3
    by_cases h4 : 0 < left
    · rw [if_pos h4] at q3
      exact .inr (.inr (.inr (.inr ⟨h4, rfl, h3, q1.symm, q2.symm, q3.symm, q4.symm⟩)))
    · rw [if_neg h4] at q3
      exact .inr (.inr (.inr (.inl ⟨by omega, rfl, h3, q1.symm, q2.symm, q3.symm, q4.symm⟩)))
  · rw [if_pos h3] at hr
    injection hr with q1 q2; injection q2 with q2 q3; injection q3 with q3 q4
    exact .inr (.inr (.inl ⟨h1, rfl, h3, q1.symm, q2.symm, q3.symm, q4.symm⟩))
theorem sl_disk_call (H : St M F0 w0 F B R w) {Bm Br : List Box} {A0 A1 : Option Addr} {c0 c1 : Nat} {ss ss1 ss' : List ByteArray} {ws ws1 ws' : List Wr} {left left' e1 e : Int} {f : FuncId} {cs : List Value} (hl : ss.length ≤ 1000000) (hl2 : ws.length ≤ 1000000) (hlf : left < 9223372036854775808) (hc : ∀ (args : Array Value) (w : World), (callFunc f args).run Tryd.prog w = .ok (.enter f args) w) (hdo : rightB ss ws = true → ∀ {M F0 F : Nat → Prop} {w0 w : World} {B Br : List Box} {R : List (World → Prop)} {K : Ending → World → Prop}, St M F0 w0 F B R w → Sel B (Bm ++ Br) → rdc Kd.string A0 ss ∈ R → rdc kWr A1 ws ∈ R → (∀ Fx w' A0' c0' A1' c1', Cap ss1.length c0' → Cap ws1.length c1' → St M F0 w0 Fx (Bm ++ Br) (rdc Kd.string A0' ss1 :: rdc kWr A1' ws1 :: R) w' → K (.returned (.tuple #[.agg #[.slice A0' ss1.length c0', .slice A1' ws1.length c1'], .int .i64 e1])) w') → Calls Tryd.prog f (.agg #[.slice A0 ss.length c0, .slice A1 ws.length c1] :: cs).toArray w K) (hB : Sel B (Bm ++ Br)) (hr : callP ss ws left ss1 ws1 e1 = (ss', ws', left', e)) (k : ∀ Fx w' A0' c0' A1' c1', Cap ss'.length c0' → Cap ws'.length c1' → St M F0 w0 Fx (Bm ++ Br) (rdc Kd.string A0' ss' :: rdc kWr A1' ws' :: R) w' → K (.returned (.tuple #[.agg #[.slice A0' ss'.length c0', .slice A1' ws'.length c1', .int .i64 left'], .int .i64 e])) w') (hm : rdc Kd.string A0 ss ∈ R := by (repeat (first | with_reducible exact List.mem_cons_self | apply List.mem_cons_of_mem))) (hm2 : rdc kWr A1 ws ∈ R := by (repeat (first | with_reducible exact List.mem_cons_self | apply List.mem_cons_of_mem))) (hc0 : Cap ss.length c0 := by with_reducible assumption) (hc1 : Cap ws.length c1 := by with_reducible assumption) : Calls Tryd.prog 57 #[.agg #[.slice A0 ss.length c0, .slice A1 ws.length c1, .int .i64 left], .func (.func f) #[] cs.toArray] w K := by
  refine St.fn H hB (R0 := [rdc Kd.string A0 ss, rdc kWr A1 ws]) (mem2 hm hm2) (fun H => ?_)
  refine sx_enter Tryd.func57 Tryd.ntmps57 rfl rfl (fun a A => ?_)
  have hcase := callP_cases hr
  clear hr
  rcases hcase with ⟨rfl, rfl, rfl, rfl, rfl⟩ | ⟨h1, h2, rfl, rfl, rfl, rfl⟩ | ⟨h1, h2, h3, rfl, rfl, rfl, rfl⟩ | ⟨h1, h2, rfl, rfl, rfl, rfl, rfl⟩ | ⟨h1, h2, rfl, rfl, rfl, rfl, rfl⟩
  all_goals repeat' (first
    | ((with_reducible refine g_dst 2 ?_); refine sx_box H A rfl rfl rfl ?_; clear H A; intro b2 a w_ A H)
    | ((with_reducible refine g_dst 4 ?_); refine sx_alloc H A tbOk rfl rfl rfl ?_; clear H A; intro b4 a w_ A H)
    | ((with_reducible refine g_dst 16 ?_); refine sx_call (f := 18) A rfl Tryd.call18 rfl rfl ?_; refine sl_disk_Right H (by omega) (by omega) h2 ?_; clear H; intro F_ w_ H; refine ⟨_, rfl, ?_⟩; clear A; intro a A)
    | ((with_reducible refine g_dst 23 ?_); refine sx_callv (f := f) A rfl rfl hc rfl rfl rfl ?_; refine hdo h2 H (Br := [_, _]) (sel_swap [_, _] Bm) (by (repeat (first | with_reducible exact List.mem_cons_self | apply List.mem_cons_of_mem))) (by (repeat (first | with_reducible exact List.mem_cons_self | apply List.mem_cons_of_mem))) ?_; clear H; intro F_ w_ A3 c3 A4 c4 hc3 hc4 H; refine ⟨_, rfl, ?_⟩; clear A; intro a A; replace H := H.sel (sel_swap Bm [_, _]); simp only [List.cons_append, List.nil_append] at H)
    | (refine sx_ret tbOk H A rfl ?_; exact H.retB (Bs := Bm) (ps := [_, _]) (fun Fx Hx => k Fx _ _ _ _ _ (by assumption) (by assumption) Hx) (by repeat (first | exact sel_refl _ | apply sel_skip)) (mem2 (a := rdc Kd.string _ _) (b := rdc kWr _ _) (by (repeat (first | with_reducible exact List.mem_cons_self | apply List.mem_cons_of_mem))) (by (repeat (first | with_reducible exact List.mem_cons_self | apply List.mem_cons_of_mem)))))
    | with_reducible refine wp_seq ?_
    | with_reducible refine sx_region ?_
    | with_reducible refine wp_block ?_
    | with_reducible refine wpList_nil ?_
    | with_reducible refine sx_then ?_
    | with_reducible refine sx_inb ?_
    | with_reducible refine wp_skip ?_
    | with_reducible refine wp_ret ?_
    | with_reducible refine wp_exit ?_
    | with_reducible refine sx_then_ret ?_
    | with_reducible refine sx_inb_ret ?_
    | with_reducible refine sx_then_exit ?_
    | with_reducible refine sx_inb_exit ?_
    | with_reducible refine sx_inb_other rfl ?_
    | with_reducible refine sx_if_t A rfl ?_
    | with_reducible refine sx_if_f A rfl ?_
    | ((with_reducible refine sx_at ?_); first
      | (refine sx_pure A tbOk rfl rfl rfl ?_; clear A; intro a A)
      | (refine sx_skip A rfl rfl ?_; clear A; intro a A)
      | ((with_reducible refine g_bin ?_); first | ((refine g_int A rfl ?_); first | (refine sx_cmp A rfl rfl rfl rfl ?_; clear A; intro a A) | (refine sx_arith A rfl rfl rfl rfl ?_; clear A; intro a A) | (refine sx_shl A rfl rfl rfl rfl ?_; clear A; intro a A) | (refine sx_shr A rfl rfl rfl rfl ?_; clear A; intro a A)) | ((refine g_str A rfl ?_); first | (refine sx_scmp A rfl rfl rfl rfl ?_; clear A; intro a A) | (refine sx_concat A rfl rfl rfl rfl ?_; clear A; intro a A)))
      | ((with_reducible refine g_load ?_); first | (refine sx_load_all H A tbOk rfl rfl rfl rfl rfl ?_; clear A; intro a A) | (refine sx_load H A tbOk rfl rfl rfl rfl ?_; clear A; intro a A))
      | ((with_reducible refine g_store ?_); refine sx_store H A tbOk rfl rfl rfl rfl ?_; clear H; intro w_ H)
      | ((with_reducible refine g_box ?_); refine sx_box H A rfl rfl rfl ?_; clear H A; intro b_ a w_ A H)
      | ((with_reducible refine g_alloc ?_); refine sx_alloc H A tbOk rfl rfl rfl ?_; clear H A; intro b_ a w_ A H)
      | ((with_reducible refine g_build ?_); refine sx_build A tbOk rfl rfl rfl rfl rfl rfl ?_; clear A; intro a A)
      | ((with_reducible refine g_builtin ?_); first | (refine sx_min A rfl rfl rfl rfl ?_; clear A; intro a A) | (refine sx_max A rfl rfl rfl rfl ?_; clear A; intro a A))
      | ((with_reducible refine g_slice ?_); first | (refine sx_sstr A tbOk rfl rfl rfl rfl rfl rfl ?_; clear A; intro a A) | (refine sx_cut H A tbOk rfl rfl rfl rfl rfl rfl rfl ?_; clear A H; intro A_ c_ a hc_ A H))
      | ((with_reducible refine g_index ?_); refine sx_sidx A tbOk rfl rfl rfl rfl rfl ?_; clear A; intro a A)
      | ((with_reducible refine g_idx ?_); first | (refine sx_idx H A tbOk rfl rfl rfl rfl rfl rfl ?_; clear A; intro a A) | (refine sx_oidx H A tbOk rfl rfl rfl rfl rfl rfl ?_; clear A; intro a A))
      | ((with_reducible refine g_conv ?_); refine sx_conv A tbOk rfl rfl rfl rfl rfl ?_; clear A; intro a A)
      )
    | ((with_reducible refine g_draw ?_); refine qx_region H (by kernel_rfl) (by kernel_rfl) ?_)
    | ((with_reducible refine qx_nil ?_); clear H; intro w_ F_ H)
    | ((with_reducible refine q_at ?_); first
      | (refine qx_pure A tbOk rfl rfl rfl ?_; clear A; intro a A)
      | (refine qx_skip A rfl rfl ?_; clear A; intro a A)
      | ((with_reducible refine qg_bin ?_); first | ((refine qg_int A rfl ?_); first | (refine qx_cmp A rfl rfl rfl rfl ?_; clear A; intro a A) | (refine qx_arith A rfl rfl rfl rfl ?_; clear A; intro a A)) | ((refine qg_str A rfl ?_); first | (refine qx_scmp A rfl rfl rfl rfl ?_; clear A; intro a A) | (refine qx_concat A rfl rfl rfl rfl ?_; clear A; intro a A)))
      | ((with_reducible refine qg_builtin ?_); first | (refine qx_min A rfl rfl rfl rfl ?_; clear A; intro a A) | (refine qx_max A rfl rfl rfl rfl ?_; clear A; intro a A))
      | ((with_reducible refine qg_slice ?_); refine qx_sstr A tbOk rfl rfl rfl rfl rfl rfl ?_; clear A; intro a A)
      | ((with_reducible refine qg_load ?_); refine qx_load A tbOk rfl rfl rfl rfl ?_; clear A; intro a A)
      | ((with_reducible refine qg_idx ?_); first | (refine qx_idx H A tbOk rfl rfl rfl rfl rfl rfl ?_; clear A; intro a A) | (refine qx_oidx H A tbOk rfl rfl rfl rfl rfl rfl ?_; clear A; intro a A)))
    )
theorem sl_disk_Write (H : St M F0 w0 F B R w) {A0 A1 : Option Addr} {c0 c1 : Nat} {ss ss1 ss' : List ByteArray} {ws ws1 ws' : List Wr} {left left' e1 e sec : Int} {bytes t : ByteArray} (hl : ss.length ≤ 1000000) (hl2 : ws.length ≤ 1000000) (hlf : left < 9223372036854775808) (hbs : bytes.size ≤ 4611686018427387904) (ht : trimS bytes = t) (hwr : wrDo ss ws sec t = (ss1, ws1, e1)) (hr : callP ss ws left ss1 ws1 e1 = (ss', ws', left', e)) (k : ∀ Fx w' A0' c0' A1' c1', Cap ss'.length c0' → Cap ws'.length c1' → St M F0 w0 Fx (B) (rdc Kd.string A0' ss' :: rdc kWr A1' ws' :: R) w' → K (.returned (.tuple #[.agg #[.slice A0' ss'.length c0', .slice A1' ws'.length c1', .int .i64 left'], .int .i64 e])) w') (hm : rdc Kd.string A0 ss ∈ R := by (repeat (first | with_reducible exact List.mem_cons_self | apply List.mem_cons_of_mem))) (hm2 : rdc kWr A1 ws ∈ R := by (repeat (first | with_reducible exact List.mem_cons_self | apply List.mem_cons_of_mem))) (hc0 : Cap ss.length c0 := by with_reducible assumption) (hc1 : Cap ws.length c1 := by with_reducible assumption) : Calls Tryd.prog 25 #[.agg #[.slice A0 ss.length c0, .slice A1 ws.length c1, .int .i64 left], .int .i64 sec, .string bytes] w K := by
  refine St.fn0 H (R0 := [rdc Kd.string A0 ss, rdc kWr A1 ws]) (mem2 hm hm2) (fun H => ?_)
  refine sx_enter Tryd.func25 Tryd.ntmps25 rfl rfl (fun a A => ?_)
  repeat' (first
    | ((with_reducible refine g_dst 4 ?_); refine sx_box H A rfl rfl rfl ?_; clear H A; intro b4 a w_ A H)
    | ((with_reducible refine g_dst 5 ?_); refine sx_box H A rfl rfl rfl ?_; clear H A; intro b5 a w_ A H)
    | ((with_reducible refine g_dst 9 ?_); refine sx_call (f := 56) A rfl Tryd.call56 rfl rfl ?_; refine sl_le_Trim H hbs ht ?_; clear H; intro F_ w_ H; refine ⟨_, rfl, ?_⟩; clear A; intro a A)
    | ((with_reducible refine g_dst 12 ?_); refine sx_call (f := 57) A rfl Tryd.call57 rfl rfl ?_; refine sl_disk_call (Bm := [.mk b4 3 [.int .i64 sec], .mk b5 9 [.string t]]) (Br := [_, _]) (f := 58) (cs := [_, _]) H hl hl2 hlf Tryd.call58 (fun _ _ _ _ _ _ _ _ _ _ H hB m1 m2 k => sl_disk_Write1 H hl hl2 hwr hB k m1 m2 hc0 hc1) (by (repeat (first | exact Sel.nil | (refine Sel.cons (by (repeat (first | exact Del.hd | apply Del.tl))) ?_)))) hr ?_; clear H; intro F_ w_ A3 c3 A4 c4 hc3 hc4 H; refine ⟨_, rfl, ?_⟩; clear A; intro a A; simp only [List.cons_append, List.nil_append] at H)
    | (refine sx_ret tbOk H A rfl ?_; exact H.retR (ps := [_, _]) (fun Fx Hx => k Fx _ _ _ _ _ hc3 hc4 Hx) (mem2 (a := rdc Kd.string _ _) (b := rdc kWr _ _) (by (repeat (first | with_reducible exact List.mem_cons_self | apply List.mem_cons_of_mem))) (by (repeat (first | with_reducible exact List.mem_cons_self | apply List.mem_cons_of_mem)))))
    | with_reducible refine wp_seq ?_
    | with_reducible refine sx_region ?_
    | with_reducible refine wp_block ?_
    | with_reducible refine wpList_nil ?_
    | with_reducible refine sx_then ?_
    | with_reducible refine sx_inb ?_
    | with_reducible refine wp_skip ?_
    | with_reducible refine wp_ret ?_
    | with_reducible refine wp_exit ?_
    | with_reducible refine sx_then_ret ?_
    | with_reducible refine sx_inb_ret ?_
    | with_reducible refine sx_then_exit ?_
    | with_reducible refine sx_inb_exit ?_
    | with_reducible refine sx_inb_other rfl ?_
    | with_reducible refine sx_if_t A rfl ?_
    | with_reducible refine sx_if_f A rfl ?_
    | ((with_reducible refine sx_at ?_); first
      | (refine sx_pure A tbOk rfl rfl rfl ?_; clear A; intro a A)
      | (refine sx_skip A rfl rfl ?_; clear A; intro a A)
      | ((with_reducible refine g_bin ?_); first | ((refine g_int A rfl ?_); first | (refine sx_cmp A rfl rfl rfl rfl ?_; clear A; intro a A) | (refine sx_arith A rfl rfl rfl rfl ?_; clear A; intro a A) | (refine sx_shl A rfl rfl rfl rfl ?_; clear A; intro a A) | (refine sx_shr A rfl rfl rfl rfl ?_; clear A; intro a A)) | ((refine g_str A rfl ?_); first | (refine sx_scmp A rfl rfl rfl rfl ?_; clear A; intro a A) | (refine sx_concat A rfl rfl rfl rfl ?_; clear A; intro a A)))
      | ((with_reducible refine g_load ?_); first | (refine sx_load_all H A tbOk rfl rfl rfl rfl rfl ?_; clear A; intro a A) | (refine sx_load H A tbOk rfl rfl rfl rfl ?_; clear A; intro a A))
      | ((with_reducible refine g_store ?_); refine sx_store H A tbOk rfl rfl rfl rfl ?_; clear H; intro w_ H)
      | ((with_reducible refine g_box ?_); refine sx_box H A rfl rfl rfl ?_; clear H A; intro b_ a w_ A H)
      | ((with_reducible refine g_alloc ?_); refine sx_alloc H A tbOk rfl rfl rfl ?_; clear H A; intro b_ a w_ A H)
      | ((with_reducible refine g_build ?_); refine sx_build A tbOk rfl rfl rfl rfl rfl rfl ?_; clear A; intro a A)
      | ((with_reducible refine g_builtin ?_); first | (refine sx_min A rfl rfl rfl rfl ?_; clear A; intro a A) | (refine sx_max A rfl rfl rfl rfl ?_; clear A; intro a A))
      | ((with_reducible refine g_slice ?_); first | (refine sx_sstr A tbOk rfl rfl rfl rfl rfl rfl ?_; clear A; intro a A) | (refine sx_cut H A tbOk rfl rfl rfl rfl rfl rfl rfl ?_; clear A H; intro A_ c_ a hc_ A H))
      | ((with_reducible refine g_index ?_); refine sx_sidx A tbOk rfl rfl rfl rfl rfl ?_; clear A; intro a A)
      | ((with_reducible refine g_idx ?_); first | (refine sx_idx H A tbOk rfl rfl rfl rfl rfl rfl ?_; clear A; intro a A) | (refine sx_oidx H A tbOk rfl rfl rfl rfl rfl rfl ?_; clear A; intro a A))
      | ((with_reducible refine g_conv ?_); refine sx_conv A tbOk rfl rfl rfl rfl rfl ?_; clear A; intro a A)
      )
    | ((with_reducible refine g_draw ?_); refine qx_region H (by kernel_rfl) (by kernel_rfl) ?_)
    | ((with_reducible refine qx_nil ?_); clear H; intro w_ F_ H)
    | ((with_reducible refine q_at ?_); first
      | (refine qx_pure A tbOk rfl rfl rfl ?_; clear A; intro a A)
      | (refine qx_skip A rfl rfl ?_; clear A; intro a A)
      | ((with_reducible refine qg_bin ?_); first | ((refine qg_int A rfl ?_); first | (refine qx_cmp A rfl rfl rfl rfl ?_; clear A; intro a A) | (refine qx_arith A rfl rfl rfl rfl ?_; clear A; intro a A)) | ((refine qg_str A rfl ?_); first | (refine qx_scmp A rfl rfl rfl rfl ?_; clear A; intro a A) | (refine qx_concat A rfl rfl rfl rfl ?_; clear A; intro a A)))
      | ((with_reducible refine qg_builtin ?_); first | (refine qx_min A rfl rfl rfl rfl ?_; clear A; intro a A) | (refine qx_max A rfl rfl rfl rfl ?_; clear A; intro a A))
      | ((with_reducible refine qg_slice ?_); refine qx_sstr A tbOk rfl rfl rfl rfl rfl rfl ?_; clear A; intro a A)
      | ((with_reducible refine qg_load ?_); refine qx_load A tbOk rfl rfl rfl rfl ?_; clear A; intro a A)
      | ((with_reducible refine qg_idx ?_); first | (refine qx_idx H A tbOk rfl rfl rfl rfl rfl rfl ?_; clear A; intro a A) | (refine qx_oidx H A tbOk rfl rfl rfl rfl rfl rfl ?_; clear A; intro a A)))
  )
theorem sl_disk_Flush (H : St M F0 w0 F B R w) {A0 A1 : Option Addr} {c0 c1 : Nat} {ss ss' : List ByteArray} {ws ws' : List Wr} {left left' e : Int} (hl : ss.length ≤ 1000000) (hl2 : ws.length ≤ 1000000) (hlf : left < 9223372036854775808) (hr : callP ss ws left (flDo ss ws) [] 0 = (ss', ws', left', e)) (k : ∀ Fx w' A0' c0' A1' c1', Cap ss'.length c0' → Cap ws'.length c1' → St M F0 w0 Fx (B) (rdc Kd.string A0' ss' :: rdc kWr A1' ws' :: R) w' → K (.returned (.tuple #[.agg #[.slice A0' ss'.length c0', .slice A1' ws'.length c1', .int .i64 left'], .int .i64 e])) w') (hm : rdc Kd.string A0 ss ∈ R := by (repeat (first | with_reducible exact List.mem_cons_self | apply List.mem_cons_of_mem))) (hm2 : rdc kWr A1 ws ∈ R := by (repeat (first | with_reducible exact List.mem_cons_self | apply List.mem_cons_of_mem))) (hc0 : Cap ss.length c0 := by with_reducible assumption) (hc1 : Cap ws.length c1 := by with_reducible assumption) : Calls Tryd.prog 31 #[.agg #[.slice A0 ss.length c0, .slice A1 ws.length c1, .int .i64 left]] w K := by
  refine St.fn0 H (R0 := [rdc Kd.string A0 ss, rdc kWr A1 ws]) (mem2 hm hm2) (fun H => ?_)
  refine sx_enter Tryd.func31 Tryd.ntmps31 rfl rfl (fun a A => ?_)
  repeat' (first
    | ((with_reducible refine g_dst 5 ?_); refine sx_call (f := 57) A rfl Tryd.call57 rfl rfl ?_; refine sl_disk_call (Bm := []) (Br := [_, _]) (f := 64) (cs := []) H hl hl2 hlf Tryd.call64 (fun hb _ _ _ _ _ _ _ _ _ H hB m1 m2 k => sl_disk_Flush1 (H.sel hB) hl hl2 hb rfl k m1 m2) (sel_refl _) hr ?_; clear H; intro F_ w_ A3 c3 A4 c4 hc3 hc4 H; refine ⟨_, rfl, ?_⟩; clear A; intro a A; simp only [List.nil_append] at H)
    | (refine sx_ret tbOk H A rfl ?_; exact H.retR (ps := [_, _]) (fun Fx Hx => k Fx _ _ _ _ _ hc3 hc4 Hx) (mem2 (a := rdc Kd.string _ _) (b := rdc kWr _ _) (by (repeat (first | with_reducible exact List.mem_cons_self | apply List.mem_cons_of_mem))) (by (repeat (first | with_reducible exact List.mem_cons_self | apply List.mem_cons_of_mem)))))
    | with_reducible refine wp_seq ?_
    | with_reducible refine sx_region ?_
    | with_reducible refine wp_block ?_
    | with_reducible refine wpList_nil ?_
    | with_reducible refine sx_then ?_
    | with_reducible refine sx_inb ?_
    | with_reducible refine wp_skip ?_
    | with_reducible refine wp_ret ?_
    | with_reducible refine wp_exit ?_
    | with_reducible refine sx_then_ret ?_
    | with_reducible refine sx_inb_ret ?_
    | with_reducible refine sx_then_exit ?_
    | with_reducible refine sx_inb_exit ?_
    | with_reducible refine sx_inb_other rfl ?_
    | with_reducible refine sx_if_t A rfl ?_
    | with_reducible refine sx_if_f A rfl ?_
    | ((with_reducible refine sx_at ?_); first
      | (refine sx_pure A tbOk rfl rfl rfl ?_; clear A; intro a A)
      | (refine sx_skip A rfl rfl ?_; clear A; intro a A)
      | ((with_reducible refine g_bin ?_); first | ((refine g_int A rfl ?_); first | (refine sx_cmp A rfl rfl rfl rfl ?_; clear A; intro a A) | (refine sx_arith A rfl rfl rfl rfl ?_; clear A; intro a A) | (refine sx_shl A rfl rfl rfl rfl ?_; clear A; intro a A) | (refine sx_shr A rfl rfl rfl rfl ?_; clear A; intro a A)) | ((refine g_str A rfl ?_); first | (refine sx_scmp A rfl rfl rfl rfl ?_; clear A; intro a A) | (refine sx_concat A rfl rfl rfl rfl ?_; clear A; intro a A)))
      | ((with_reducible refine g_load ?_); first | (refine sx_load_all H A tbOk rfl rfl rfl rfl rfl ?_; clear A; intro a A) | (refine sx_load H A tbOk rfl rfl rfl rfl ?_; clear A; intro a A))
      | ((with_reducible refine g_store ?_); refine sx_store H A tbOk rfl rfl rfl rfl ?_; clear H; intro w_ H)
      | ((with_reducible refine g_box ?_); refine sx_box H A rfl rfl rfl ?_; clear H A; intro b_ a w_ A H)
      | ((with_reducible refine g_alloc ?_); refine sx_alloc H A tbOk rfl rfl rfl ?_; clear H A; intro b_ a w_ A H)
      | ((with_reducible refine g_build ?_); refine sx_build A tbOk rfl rfl rfl rfl rfl rfl ?_; clear A; intro a A)
      | ((with_reducible refine g_builtin ?_); first | (refine sx_min A rfl rfl rfl rfl ?_; clear A; intro a A) | (refine sx_max A rfl rfl rfl rfl ?_; clear A; intro a A))
      | ((with_reducible refine g_slice ?_); first | (refine sx_sstr A tbOk rfl rfl rfl rfl rfl rfl ?_; clear A; intro a A) | (refine sx_cut H A tbOk rfl rfl rfl rfl rfl rfl rfl ?_; clear A H; intro A_ c_ a hc_ A H))
      | ((with_reducible refine g_index ?_); refine sx_sidx A tbOk rfl rfl rfl rfl rfl ?_; clear A; intro a A)
      | ((with_reducible refine g_idx ?_); first | (refine sx_idx H A tbOk rfl rfl rfl rfl rfl rfl ?_; clear A; intro a A) | (refine sx_oidx H A tbOk rfl rfl rfl rfl rfl rfl ?_; clear A; intro a A))
      | ((with_reducible refine g_conv ?_); refine sx_conv A tbOk rfl rfl rfl rfl rfl ?_; clear A; intro a A)
      )
    | ((with_reducible refine g_draw ?_); refine qx_region H (by kernel_rfl) (by kernel_rfl) ?_)
    | ((with_reducible refine qx_nil ?_); clear H; intro w_ F_ H)
    | ((with_reducible refine q_at ?_); first
      | (refine qx_pure A tbOk rfl rfl rfl ?_; clear A; intro a A)
      | (refine qx_skip A rfl rfl ?_; clear A; intro a A)
      | ((with_reducible refine qg_bin ?_); first | ((refine qg_int A rfl ?_); first | (refine qx_cmp A rfl rfl rfl rfl ?_; clear A; intro a A) | (refine qx_arith A rfl rfl rfl rfl ?_; clear A; intro a A)) | ((refine qg_str A rfl ?_); first | (refine qx_scmp A rfl rfl rfl rfl ?_; clear A; intro a A) | (refine qx_concat A rfl rfl rfl rfl ?_; clear A; intro a A)))
      | ((with_reducible refine qg_builtin ?_); first | (refine qx_min A rfl rfl rfl rfl ?_; clear A; intro a A) | (refine qx_max A rfl rfl rfl rfl ?_; clear A; intro a A))
      | ((with_reducible refine qg_slice ?_); refine qx_sstr A tbOk rfl rfl rfl rfl rfl rfl ?_; clear A; intro a A)
      | ((with_reducible refine qg_load ?_); refine qx_load A tbOk rfl rfl rfl rfl ?_; clear A; intro a A)
      | ((with_reducible refine qg_idx ?_); first | (refine qx_idx H A tbOk rfl rfl rfl rfl rfl rfl ?_; clear A; intro a A) | (refine qx_oidx H A tbOk rfl rfl rfl rfl rfl rfl ?_; clear A; intro a A)))
  )
end
end Go.Proofs.YtniplmjbligmlaaDoor.V

/-! Layer 3 of the program, walked: what is the same; new disks; the document's calls. -/
namespace Go.Proofs.YtniplmjbligmlaaDoor.V
open Go.RowKit Go.Proofs.YtniplmjbligmlaaDoorW.PrintLast
set_option linter.unusedVariables false
set_option linter.unusedSimpArgs false
theorem fixed_str {x : ByteArray} {i : TyI} (hr : i.kind.row = false) : fixedAt Kd.string x i 0 (.string x) := fun W c hf => by
  have h : c = [.string x] := hf
  subst h; unfold loadC; rw [hr]; rfl
theorem fixed_Wr {x : Wr} {i : TyI} (hr : i.kind.row = true) (hs : i.size = 2) : fixedAt kWr x i 0 (.agg #[.int .i64 x.sec, .string x.bytes]) := fun W c hf => by
  obtain rfl := kWr_open (fk_all hf)
  unfold loadC; rw [hr, hs]; rfl
section
variable {P : Program} {l : Array Oper} {rest : List Oper} {C : World → Prop} {Qa : Act → Prop} {n d : Nat} {D : List Deferred} {T : Tm} {a : Act} {tb : Tb} {ty : TypeId} {pos : String} {aft : Array Edge} {g : Option (Nat × Bool)}
theorem qx_neqW {l : List Oper} (A : Fr n D T a) (hT : TbOk P tb) (hw : wantedT T l g = some true) {t u : TypeId} {x y : Operand} {f1 f2 : Field} {i1 i2 : TyI} {kk k : IntKind} {m m' : Int} {s s' : ByteArray} {b : Bool} (hx : ev T x = some (.agg #[.int k m, .string s])) (hy : ev T y = some (.agg #[.int k m', .string s'])) (hd : Nat.blt d n = true)
    (hu0 : P.underlying t = some (.struct #[f1, f2])) (hn1 : (f1.name == "_") = false) (hn2 : (f2.name == "_") = false) (ho1 : f1.offset = 0) (ho2 : f2.offset = 1) (hp : P.stoodInHeld t = false) (hg : P.eqGuardType P.depth t = false)
    (hi1 : tb.lookup f1.type = some i1) (hk1 : i1.kind = .int kk) (hi2 : tb.lookup f2.type = some i2) (hk2 : i2.kind = .string) (K : ∀ a', Fr n D ((d, .bool b) :: T) a' → wpQuiet P l.toArray C Qa rest a') (hb : (!(m == m' && decide (s = s'))) = b) : wpQuiet P l.toArray C Qa (⟨some d, .binOp .neq t x y u, ty, pos, aft, g⟩ :: rest) a := by
  subst hb
  exact q_run A hw (fun w _ => bin_run A rfl hx hy (by simp [eqGuard, hg]) (run_neqW hT hu0 hn1 hn2 ho1 ho2 hp hi1 hk1 hi2 hk2 w)) (K _ (A.put (blt_lt hd) _))
end
theorem ext_of {α : Type} {l m : List α} (hlen : l.length = m.length) (h : ∀ j, j < l.length → l[j]? = m[j]?) : l = m := by
  apply List.ext_getElem?; intro j
  rcases Nat.lt_or_ge j l.length with h1 | h1
  · exact h j h1
  · rw [List.getElem?_eq_none h1, List.getElem?_eq_none (by omega)]
section
variable {M F0 F : Nat → Prop} {w0 w : World} {B : List Box} {R : List (World → Prop)} {K : Ending → World → Prop}
set_option maxRecDepth 100000
set_option maxHeartbeats 4000000
theorem sl_ref03_LikeWrites (H : St M F0 w0 F B R w) {A0 A1 : Option Addr} {c0 c1 : Nat} {l l' : List Wr} {b : Bool} (hl : l.length ≤ 1000000) (hr : b = true ↔ l = l') (k : ∀ Fx w', St M F0 w0 Fx B R w' → K (.returned (.bool b)) w') (hm : rdc kWr A0 l ∈ R := by (repeat (first | with_reducible exact List.mem_cons_self | apply List.mem_cons_of_mem))) (hm2 : rdc kWr A1 l' ∈ R := by (repeat (first | with_reducible exact List.mem_cons_self | apply List.mem_cons_of_mem))) : Calls Tryd.prog 55 #[.slice A0 l.length c0, .slice A1 l'.length c1] w K := by
  refine St.fn0 H (R0 := [rdc kWr A0 l, rdc kWr A1 l']) (mem2 hm hm2) (fun H => ?_)
  refine sx_enter Tryd.func55 Tryd.ntmps55 rfl rfl (fun a A => ?_)
  by_cases hlen : l.length = l'.length
  rotate_left
  · have hb : b = false := by cases b; rfl; exact absurd (congrArg List.length (hr.1 rfl)) hlen
    subst hb
    repeat' (first
    | (refine sx_ret tbOk H A rfl ?_; exact H.ret0 fun Fx Hx => k Fx _ Hx)
    | with_reducible refine wp_seq ?_
    | with_reducible refine sx_region ?_
    | with_reducible refine wp_block ?_
    | with_reducible refine wpList_nil ?_
    | with_reducible refine sx_then ?_
    | with_reducible refine sx_inb ?_
    | with_reducible refine wp_skip ?_
    | with_reducible refine wp_ret ?_
    | with_reducible refine wp_exit ?_
    | with_reducible refine sx_then_ret ?_
    | with_reducible refine sx_inb_ret ?_
    | with_reducible refine sx_then_exit ?_
    | with_reducible refine sx_inb_exit ?_
    | with_reducible refine sx_inb_other rfl ?_
    | with_reducible refine sx_if_t A rfl ?_
    | with_reducible refine sx_if_f A rfl ?_
    | ((with_reducible refine sx_at ?_); first
      | (refine sx_pure A tbOk rfl rfl rfl ?_; clear A; intro a A)
      | (refine sx_skip A rfl rfl ?_; clear A; intro a A)
      | ((with_reducible refine g_bin ?_); first | ((refine g_int A rfl ?_); first | (refine sx_cmp A rfl rfl rfl rfl ?_; clear A; intro a A) | (refine sx_arith A rfl rfl rfl rfl ?_; clear A; intro a A) | (refine sx_shl A rfl rfl rfl rfl ?_; clear A; intro a A) | (refine sx_shr A rfl rfl rfl rfl ?_; clear A; intro a A)) | ((refine g_str A rfl ?_); first | (refine sx_scmp A rfl rfl rfl rfl ?_; clear A; intro a A) | (refine sx_concat A rfl rfl rfl rfl ?_; clear A; intro a A)))
      | ((with_reducible refine g_load ?_); first | (refine sx_load_all H A tbOk rfl rfl rfl rfl rfl ?_; clear A; intro a A) | (refine sx_load H A tbOk rfl rfl rfl rfl ?_; clear A; intro a A))
      | ((with_reducible refine g_store ?_); refine sx_store H A tbOk rfl rfl rfl rfl ?_; clear H; intro w_ H)
      | ((with_reducible refine g_box ?_); refine sx_box H A rfl rfl rfl ?_; clear H A; intro b_ a w_ A H)
      | ((with_reducible refine g_alloc ?_); refine sx_alloc H A tbOk rfl rfl rfl ?_; clear H A; intro b_ a w_ A H)
      | ((with_reducible refine g_build ?_); refine sx_build A tbOk rfl rfl rfl rfl rfl rfl ?_; clear A; intro a A)
      | ((with_reducible refine g_builtin ?_); first | (refine sx_min A rfl rfl rfl rfl ?_; clear A; intro a A) | (refine sx_max A rfl rfl rfl rfl ?_; clear A; intro a A))
      | ((with_reducible refine g_slice ?_); first | (refine sx_sstr A tbOk rfl rfl rfl rfl rfl rfl ?_; clear A; intro a A) | (refine sx_cut H A tbOk rfl rfl rfl rfl rfl rfl rfl ?_; clear A H; intro A_ c_ a hc_ A H))
      | ((with_reducible refine g_index ?_); refine sx_sidx A tbOk rfl rfl rfl rfl rfl ?_; clear A; intro a A)
      | ((with_reducible refine g_idx ?_); first | (refine sx_idx H A tbOk rfl rfl rfl rfl rfl rfl ?_; clear A; intro a A) | (refine sx_oidx H A tbOk rfl rfl rfl rfl rfl rfl ?_; clear A; intro a A))
      | ((with_reducible refine g_conv ?_); refine sx_conv A tbOk rfl rfl rfl rfl rfl ?_; clear A; intro a A)
      )
    | ((with_reducible refine g_draw ?_); refine qx_region H (by kernel_rfl) (by kernel_rfl) ?_)
    | ((with_reducible refine qx_nil ?_); clear H; intro w_ F_ H)
    | ((with_reducible refine q_at ?_); first
      | (refine qx_pure A tbOk rfl rfl rfl ?_; clear A; intro a A)
      | (refine qx_skip A rfl rfl ?_; clear A; intro a A)
      | ((with_reducible refine qg_bin ?_); first | ((refine qg_int A rfl ?_); first | (refine qx_cmp A rfl rfl rfl rfl ?_; clear A; intro a A) | (refine qx_arith A rfl rfl rfl rfl ?_; clear A; intro a A)) | ((refine qg_str A rfl ?_); first | (refine qx_scmp A rfl rfl rfl rfl ?_; clear A; intro a A) | (refine qx_concat A rfl rfl rfl rfl ?_; clear A; intro a A)))
      | ((with_reducible refine qg_builtin ?_); first | (refine qx_min A rfl rfl rfl rfl ?_; clear A; intro a A) | (refine qx_max A rfl rfl rfl rfl ?_; clear A; intro a A))
      | ((with_reducible refine qg_slice ?_); refine qx_sstr A tbOk rfl rfl rfl rfl rfl rfl ?_; clear A; intro a A)
      | ((with_reducible refine qg_load ?_); refine qx_load A tbOk rfl rfl rfl rfl ?_; clear A; intro a A)
      | ((with_reducible refine qg_idx ?_); first | (refine qx_idx H A tbOk rfl rfl rfl rfl rfl rfl ?_; clear A; intro a A) | (refine qx_oidx H A tbOk rfl rfl rfl rfl rfl rfl ?_; clear A; intro a A)))
    )
  repeat' (first
    | with_reducible refine wp_seq ?_
    | with_reducible refine sx_region ?_
    | with_reducible refine wp_block ?_
    | with_reducible refine wpList_nil ?_
    | with_reducible refine sx_then ?_
    | with_reducible refine sx_inb ?_
    | with_reducible refine wp_skip ?_
    | with_reducible refine wp_ret ?_
    | with_reducible refine wp_exit ?_
    | with_reducible refine sx_then_ret ?_
    | with_reducible refine sx_inb_ret ?_
    | with_reducible refine sx_then_exit ?_
    | with_reducible refine sx_inb_exit ?_
    | with_reducible refine sx_inb_other rfl ?_
    | with_reducible refine sx_if_t A rfl ?_
    | with_reducible refine sx_if_f A rfl ?_
    | ((with_reducible refine sx_at ?_); first
      | (refine sx_pure A tbOk rfl rfl rfl ?_; clear A; intro a A)
      | (refine sx_skip A rfl rfl ?_; clear A; intro a A)
      | ((with_reducible refine g_bin ?_); first | ((refine g_int A rfl ?_); first | (refine sx_cmp A rfl rfl rfl rfl ?_; clear A; intro a A) | (refine sx_arith A rfl rfl rfl rfl ?_; clear A; intro a A) | (refine sx_shl A rfl rfl rfl rfl ?_; clear A; intro a A) | (refine sx_shr A rfl rfl rfl rfl ?_; clear A; intro a A)) | ((refine g_str A rfl ?_); first | (refine sx_scmp A rfl rfl rfl rfl ?_; clear A; intro a A) | (refine sx_concat A rfl rfl rfl rfl ?_; clear A; intro a A)))
      | ((with_reducible refine g_load ?_); first | (refine sx_load_all H A tbOk rfl rfl rfl rfl rfl ?_; clear A; intro a A) | (refine sx_load H A tbOk rfl rfl rfl rfl ?_; clear A; intro a A))
      | ((with_reducible refine g_store ?_); refine sx_store H A tbOk rfl rfl rfl rfl ?_; clear H; intro w_ H)
      | ((with_reducible refine g_box ?_); refine sx_box H A rfl rfl rfl ?_; clear H A; intro b_ a w_ A H)
      | ((with_reducible refine g_alloc ?_); refine sx_alloc H A tbOk rfl rfl rfl ?_; clear H A; intro b_ a w_ A H)
      | ((with_reducible refine g_build ?_); refine sx_build A tbOk rfl rfl rfl rfl rfl rfl ?_; clear A; intro a A)
      | ((with_reducible refine g_builtin ?_); first | (refine sx_min A rfl rfl rfl rfl ?_; clear A; intro a A) | (refine sx_max A rfl rfl rfl rfl ?_; clear A; intro a A))
      | ((with_reducible refine g_slice ?_); first | (refine sx_sstr A tbOk rfl rfl rfl rfl rfl rfl ?_; clear A; intro a A) | (refine sx_cut H A tbOk rfl rfl rfl rfl rfl rfl rfl ?_; clear A H; intro A_ c_ a hc_ A H))
      | ((with_reducible refine g_index ?_); refine sx_sidx A tbOk rfl rfl rfl rfl rfl ?_; clear A; intro a A)
      | ((with_reducible refine g_idx ?_); first | (refine sx_idx H A tbOk rfl rfl rfl rfl rfl rfl ?_; clear A; intro a A) | (refine sx_oidx H A tbOk rfl rfl rfl rfl rfl rfl ?_; clear A; intro a A))
      | ((with_reducible refine g_conv ?_); refine sx_conv A tbOk rfl rfl rfl rfl rfl ?_; clear A; intro a A)
      )
    | ((with_reducible refine g_draw ?_); refine qx_region H (by kernel_rfl) (by kernel_rfl) ?_)
    | ((with_reducible refine qx_nil ?_); clear H; intro w_ F_ H)
    | ((with_reducible refine q_at ?_); first
      | (refine qx_pure A tbOk rfl rfl rfl ?_; clear A; intro a A)
      | (refine qx_skip A rfl rfl ?_; clear A; intro a A)
      | ((with_reducible refine qg_bin ?_); first | ((refine qg_int A rfl ?_); first | (refine qx_cmp A rfl rfl rfl rfl ?_; clear A; intro a A) | (refine qx_arith A rfl rfl rfl rfl ?_; clear A; intro a A)) | ((refine qg_str A rfl ?_); first | (refine qx_scmp A rfl rfl rfl rfl ?_; clear A; intro a A) | (refine qx_concat A rfl rfl rfl rfl ?_; clear A; intro a A)))
      | ((with_reducible refine qg_builtin ?_); first | (refine qx_min A rfl rfl rfl rfl ?_; clear A; intro a A) | (refine qx_max A rfl rfl rfl rfl ?_; clear A; intro a A))
      | ((with_reducible refine qg_slice ?_); refine qx_sstr A tbOk rfl rfl rfl rfl rfl rfl ?_; clear A; intro a A)
      | ((with_reducible refine qg_load ?_); refine qx_load A tbOk rfl rfl rfl rfl ?_; clear A; intro a A)
      | ((with_reducible refine qg_idx ?_); first | (refine qx_idx H A tbOk rfl rfl rfl rfl rfl rfl ?_; clear A; intro a A) | (refine qx_oidx H A tbOk rfl rfl rfl rfl rfl rfl ?_; clear A; intro a A)))
  )
  refine sx_rounds (fun i : Nat => i ≤ l.length ∧ ∀ j, j < i → l[j]? = l'[j]?) (fun i => [(13, .int .i64 (i : Int)), (12, _), (0, _), (1, _)]) (fun i => []) (fun _ => [_, _]) (fun i => l.length - i) 0 H A.subs ⟨Nat.zero_le _, fun j h => absurd h (by omega)⟩ (fun i F a W hi H A => ?_)
  obtain ⟨hi, hok⟩ := hi
  rcases Nat.lt_or_ge i l.length with hlt | hge
  · obtain ⟨y, hy⟩ : ∃ y, l[i]? = some y := ⟨_, List.getElem?_eq_getElem hlt⟩
    obtain ⟨y', hy'⟩ : ∃ y, l'[i]? = some y := ⟨_, List.getElem?_eq_getElem (by omega)⟩
    have hlt' : i < l'.length := by omega
    by_cases hyy : y = y'
    · have hcmp : (!(y.sec == y'.sec && decide (y.bytes = y'.bytes))) = false := by simp [hyy]
      repeat' (first
    | ((with_reducible refine qg_dst 19 ?_); refine qx_eload (dk := kWr) A tbOk rfl rfl rfl rfl rfl ?_ (fixed_Wr rfl rfl) (xs := l); clear A; intro a A)
    | ((with_reducible refine qg_dst 23 ?_); refine qx_eload (dk := kWr) A tbOk rfl rfl rfl rfl rfl ?_ (fixed_Wr rfl rfl) (xs := l'); clear A; intro a A)
    | ((with_reducible refine qg_dst 24 ?_); refine qx_neqW A tbOk rfl rfl rfl rfl Tryd.underlying42 (by kernel_rfl) (by kernel_rfl) (by kernel_rfl) (by kernel_rfl) (by kernel_rfl) (by kernel_rfl) rfl rfl rfl rfl ?_ hcmp; clear A; intro a A)
    | with_reducible refine wp_seq ?_
    | with_reducible refine sx_region ?_
    | with_reducible refine wp_block ?_
    | with_reducible refine wpList_nil ?_
    | with_reducible refine sx_then ?_
    | with_reducible refine sx_inb ?_
    | with_reducible refine wp_skip ?_
    | with_reducible refine wp_ret ?_
    | with_reducible refine wp_exit ?_
    | with_reducible refine sx_then_ret ?_
    | with_reducible refine sx_inb_ret ?_
    | with_reducible refine sx_then_exit ?_
    | with_reducible refine sx_inb_exit ?_
    | with_reducible refine sx_inb_other rfl ?_
    | with_reducible refine sx_if_t A rfl ?_
    | with_reducible refine sx_if_f A rfl ?_
    | ((with_reducible refine sx_at ?_); first
      | (refine sx_pure A tbOk rfl rfl rfl ?_; clear A; intro a A)
      | (refine sx_skip A rfl rfl ?_; clear A; intro a A)
      | ((with_reducible refine g_bin ?_); first | ((refine g_int A rfl ?_); first | (refine sx_cmp A rfl rfl rfl rfl ?_; clear A; intro a A) | (refine sx_arith A rfl rfl rfl rfl ?_; clear A; intro a A) | (refine sx_shl A rfl rfl rfl rfl ?_; clear A; intro a A) | (refine sx_shr A rfl rfl rfl rfl ?_; clear A; intro a A)) | ((refine g_str A rfl ?_); first | (refine sx_scmp A rfl rfl rfl rfl ?_; clear A; intro a A) | (refine sx_concat A rfl rfl rfl rfl ?_; clear A; intro a A)))
      | ((with_reducible refine g_load ?_); first | (refine sx_load_all H A tbOk rfl rfl rfl rfl rfl ?_; clear A; intro a A) | (refine sx_load H A tbOk rfl rfl rfl rfl ?_; clear A; intro a A))
      | ((with_reducible refine g_store ?_); refine sx_store H A tbOk rfl rfl rfl rfl ?_; clear H; intro w_ H)
      | ((with_reducible refine g_box ?_); refine sx_box H A rfl rfl rfl ?_; clear H A; intro b_ a w_ A H)
      | ((with_reducible refine g_alloc ?_); refine sx_alloc H A tbOk rfl rfl rfl ?_; clear H A; intro b_ a w_ A H)
      | ((with_reducible refine g_build ?_); refine sx_build A tbOk rfl rfl rfl rfl rfl rfl ?_; clear A; intro a A)
      | ((with_reducible refine g_builtin ?_); first | (refine sx_min A rfl rfl rfl rfl ?_; clear A; intro a A) | (refine sx_max A rfl rfl rfl rfl ?_; clear A; intro a A))
      | ((with_reducible refine g_slice ?_); first | (refine sx_sstr A tbOk rfl rfl rfl rfl rfl rfl ?_; clear A; intro a A) | (refine sx_cut H A tbOk rfl rfl rfl rfl rfl rfl rfl ?_; clear A H; intro A_ c_ a hc_ A H))
      | ((with_reducible refine g_index ?_); refine sx_sidx A tbOk rfl rfl rfl rfl rfl ?_; clear A; intro a A)
      | ((with_reducible refine g_idx ?_); first | (refine sx_idx H A tbOk rfl rfl rfl rfl rfl rfl ?_; clear A; intro a A) | (refine sx_oidx H A tbOk rfl rfl rfl rfl rfl rfl ?_; clear A; intro a A))
      | ((with_reducible refine g_conv ?_); refine sx_conv A tbOk rfl rfl rfl rfl rfl ?_; clear A; intro a A)
      )
    | ((with_reducible refine g_draw ?_); refine qx_region H (by kernel_rfl) (by kernel_rfl) ?_)
    | ((with_reducible refine qx_nil ?_); clear H; intro w_ F_ H)
    | ((with_reducible refine q_at ?_); first
      | (refine qx_pure A tbOk rfl rfl rfl ?_; clear A; intro a A)
      | (refine qx_skip A rfl rfl ?_; clear A; intro a A)
      | ((with_reducible refine qg_bin ?_); first | ((refine qg_int A rfl ?_); first | (refine qx_cmp A rfl rfl rfl rfl ?_; clear A; intro a A) | (refine qx_arith A rfl rfl rfl rfl ?_; clear A; intro a A)) | ((refine qg_str A rfl ?_); first | (refine qx_scmp A rfl rfl rfl rfl ?_; clear A; intro a A) | (refine qx_concat A rfl rfl rfl rfl ?_; clear A; intro a A)))
      | ((with_reducible refine qg_builtin ?_); first | (refine qx_min A rfl rfl rfl rfl ?_; clear A; intro a A) | (refine qx_max A rfl rfl rfl rfl ?_; clear A; intro a A))
      | ((with_reducible refine qg_slice ?_); refine qx_sstr A tbOk rfl rfl rfl rfl rfl rfl ?_; clear A; intro a A)
      | ((with_reducible refine qg_load ?_); refine qx_load A tbOk rfl rfl rfl rfl ?_; clear A; intro a A)
      | ((with_reducible refine qg_idx ?_); first | (refine qx_idx H A tbOk rfl rfl rfl rfl rfl rfl ?_; clear A; intro a A) | (refine qx_oidx H A tbOk rfl rfl rfl rfl rfl rfl ?_; clear A; intro a A)))
      )
      exact ⟨i + 1, _, ⟨by omega, fun j hj => by rcases Nat.lt_or_ge j i with h | h; exact hok j h; rw [show j = i by omega, hy, hy', hyy]⟩, by omega, H.sel, A.subs⟩
    · have hb : b = false := by cases b; rfl; exact absurd (Option.some.inj ((hy.symm.trans (by rw [hr.1 rfl])).trans hy')) hyy
      subst hb
      have hcmp : (!(y.sec == y'.sec && decide (y.bytes = y'.bytes))) = true := by
        cases h : (y.sec == y'.sec && decide (y.bytes = y'.bytes))
        · rfl
        · simp only [Bool.and_eq_true, beq_iff_eq, decide_eq_true_eq] at h
          exact absurd (Wr.ext h.1 h.2) hyy
      repeat' (first
    | ((with_reducible refine qg_dst 19 ?_); refine qx_eload (dk := kWr) A tbOk rfl rfl rfl rfl rfl ?_ (fixed_Wr rfl rfl) (xs := l); clear A; intro a A)
    | ((with_reducible refine qg_dst 23 ?_); refine qx_eload (dk := kWr) A tbOk rfl rfl rfl rfl rfl ?_ (fixed_Wr rfl rfl) (xs := l'); clear A; intro a A)
    | ((with_reducible refine qg_dst 24 ?_); refine qx_neqW A tbOk rfl rfl rfl rfl Tryd.underlying42 (by kernel_rfl) (by kernel_rfl) (by kernel_rfl) (by kernel_rfl) (by kernel_rfl) (by kernel_rfl) rfl rfl rfl rfl ?_ hcmp; clear A; intro a A)
    | (refine sx_ret tbOk H A rfl ?_; exact H.ret0 fun Fx Hx => k Fx _ Hx)
    | with_reducible refine wp_seq ?_
    | with_reducible refine sx_region ?_
    | with_reducible refine wp_block ?_
    | with_reducible refine wpList_nil ?_
    | with_reducible refine sx_then ?_
    | with_reducible refine sx_inb ?_
    | with_reducible refine wp_skip ?_
    | with_reducible refine wp_ret ?_
    | with_reducible refine wp_exit ?_
    | with_reducible refine sx_then_ret ?_
    | with_reducible refine sx_inb_ret ?_
    | with_reducible refine sx_then_exit ?_
    | with_reducible refine sx_inb_exit ?_
    | with_reducible refine sx_inb_other rfl ?_
    | with_reducible refine sx_if_t A rfl ?_
    | with_reducible refine sx_if_f A rfl ?_
    | ((with_reducible refine sx_at ?_); first
      | (refine sx_pure A tbOk rfl rfl rfl ?_; clear A; intro a A)
      | (refine sx_skip A rfl rfl ?_; clear A; intro a A)
      | ((with_reducible refine g_bin ?_); first | ((refine g_int A rfl ?_); first | (refine sx_cmp A rfl rfl rfl rfl ?_; clear A; intro a A) | (refine sx_arith A rfl rfl rfl rfl ?_; clear A; intro a A) | (refine sx_shl A rfl rfl rfl rfl ?_; clear A; intro a A) | (refine sx_shr A rfl rfl rfl rfl ?_; clear A; intro a A)) | ((refine g_str A rfl ?_); first | (refine sx_scmp A rfl rfl rfl rfl ?_; clear A; intro a A) | (refine sx_concat A rfl rfl rfl rfl ?_; clear A; intro a A)))
      | ((with_reducible refine g_load ?_); first | (refine sx_load_all H A tbOk rfl rfl rfl rfl rfl ?_; clear A; intro a A) | (refine sx_load H A tbOk rfl rfl rfl rfl ?_; clear A; intro a A))
      | ((with_reducible refine g_store ?_); refine sx_store H A tbOk rfl rfl rfl rfl ?_; clear H; intro w_ H)
      | ((with_reducible refine g_box ?_); refine sx_box H A rfl rfl rfl ?_; clear H A; intro b_ a w_ A H)
      | ((with_reducible refine g_alloc ?_); refine sx_alloc H A tbOk rfl rfl rfl ?_; clear H A; intro b_ a w_ A H)
      | ((with_reducible refine g_build ?_); refine sx_build A tbOk rfl rfl rfl rfl rfl rfl ?_; clear A; intro a A)
      | ((with_reducible refine g_builtin ?_); first | (refine sx_min A rfl rfl rfl rfl ?_; clear A; intro a A) | (refine sx_max A rfl rfl rfl rfl ?_; clear A; intro a A))
      | ((with_reducible refine g_slice ?_); first | (refine sx_sstr A tbOk rfl rfl rfl rfl rfl rfl ?_; clear A; intro a A) | (refine sx_cut H A tbOk rfl rfl rfl rfl rfl rfl rfl ?_; clear A H; intro A_ c_ a hc_ A H))
      | ((with_reducible refine g_index ?_); refine sx_sidx A tbOk rfl rfl rfl rfl rfl ?_; clear A; intro a A)
      | ((with_reducible refine g_idx ?_); first | (refine sx_idx H A tbOk rfl rfl rfl rfl rfl rfl ?_; clear A; intro a A) | (refine sx_oidx H A tbOk rfl rfl rfl rfl rfl rfl ?_; clear A; intro a A))
      | ((with_reducible refine g_conv ?_); refine sx_conv A tbOk rfl rfl rfl rfl rfl ?_; clear A; intro a A)
      )
    | ((with_reducible refine g_draw ?_); refine qx_region H (by kernel_rfl) (by kernel_rfl) ?_)
    | ((with_reducible refine qx_nil ?_); clear H; intro w_ F_ H)
    | ((with_reducible refine q_at ?_); first
      | (refine qx_pure A tbOk rfl rfl rfl ?_; clear A; intro a A)
      | (refine qx_skip A rfl rfl ?_; clear A; intro a A)
      | ((with_reducible refine qg_bin ?_); first | ((refine qg_int A rfl ?_); first | (refine qx_cmp A rfl rfl rfl rfl ?_; clear A; intro a A) | (refine qx_arith A rfl rfl rfl rfl ?_; clear A; intro a A)) | ((refine qg_str A rfl ?_); first | (refine qx_scmp A rfl rfl rfl rfl ?_; clear A; intro a A) | (refine qx_concat A rfl rfl rfl rfl ?_; clear A; intro a A)))
      | ((with_reducible refine qg_builtin ?_); first | (refine qx_min A rfl rfl rfl rfl ?_; clear A; intro a A) | (refine qx_max A rfl rfl rfl rfl ?_; clear A; intro a A))
      | ((with_reducible refine qg_slice ?_); refine qx_sstr A tbOk rfl rfl rfl rfl rfl rfl ?_; clear A; intro a A)
      | ((with_reducible refine qg_load ?_); refine qx_load A tbOk rfl rfl rfl rfl ?_; clear A; intro a A)
      | ((with_reducible refine qg_idx ?_); first | (refine qx_idx H A tbOk rfl rfl rfl rfl rfl rfl ?_; clear A; intro a A) | (refine qx_oidx H A tbOk rfl rfl rfl rfl rfl rfl ?_; clear A; intro a A)))
      )
  · have hb : b = true := hr.2 (ext_of hlen (fun j hj => hok j (by omega)))
    subst hb
    repeat' (first
    | (refine sx_ret tbOk H A rfl ?_; exact H.ret0 fun Fx Hx => k Fx _ Hx)
    | with_reducible refine wp_seq ?_
    | with_reducible refine sx_region ?_
    | with_reducible refine wp_block ?_
    | with_reducible refine wpList_nil ?_
    | with_reducible refine sx_then ?_
    | with_reducible refine sx_inb ?_
    | with_reducible refine wp_skip ?_
    | with_reducible refine wp_ret ?_
    | with_reducible refine wp_exit ?_
    | with_reducible refine sx_then_ret ?_
    | with_reducible refine sx_inb_ret ?_
    | with_reducible refine sx_then_exit ?_
    | with_reducible refine sx_inb_exit ?_
    | with_reducible refine sx_inb_other rfl ?_
    | with_reducible refine sx_if_t A rfl ?_
    | with_reducible refine sx_if_f A rfl ?_
    | ((with_reducible refine sx_at ?_); first
      | (refine sx_pure A tbOk rfl rfl rfl ?_; clear A; intro a A)
      | (refine sx_skip A rfl rfl ?_; clear A; intro a A)
      | ((with_reducible refine g_bin ?_); first | ((refine g_int A rfl ?_); first | (refine sx_cmp A rfl rfl rfl rfl ?_; clear A; intro a A) | (refine sx_arith A rfl rfl rfl rfl ?_; clear A; intro a A) | (refine sx_shl A rfl rfl rfl rfl ?_; clear A; intro a A) | (refine sx_shr A rfl rfl rfl rfl ?_; clear A; intro a A)) | ((refine g_str A rfl ?_); first | (refine sx_scmp A rfl rfl rfl rfl ?_; clear A; intro a A) | (refine sx_concat A rfl rfl rfl rfl ?_; clear A; intro a A)))
      | ((with_reducible refine g_load ?_); first | (refine sx_load_all H A tbOk rfl rfl rfl rfl rfl ?_; clear A; intro a A) | (refine sx_load H A tbOk rfl rfl rfl rfl ?_; clear A; intro a A))
      | ((with_reducible refine g_store ?_); refine sx_store H A tbOk rfl rfl rfl rfl ?_; clear H; intro w_ H)
      | ((with_reducible refine g_box ?_); refine sx_box H A rfl rfl rfl ?_; clear H A; intro b_ a w_ A H)
      | ((with_reducible refine g_alloc ?_); refine sx_alloc H A tbOk rfl rfl rfl ?_; clear H A; intro b_ a w_ A H)
      | ((with_reducible refine g_build ?_); refine sx_build A tbOk rfl rfl rfl rfl rfl rfl ?_; clear A; intro a A)
      | ((with_reducible refine g_builtin ?_); first | (refine sx_min A rfl rfl rfl rfl ?_; clear A; intro a A) | (refine sx_max A rfl rfl rfl rfl ?_; clear A; intro a A))
      | ((with_reducible refine g_slice ?_); first | (refine sx_sstr A tbOk rfl rfl rfl rfl rfl rfl ?_; clear A; intro a A) | (refine sx_cut H A tbOk rfl rfl rfl rfl rfl rfl rfl ?_; clear A H; intro A_ c_ a hc_ A H))
      | ((with_reducible refine g_index ?_); refine sx_sidx A tbOk rfl rfl rfl rfl rfl ?_; clear A; intro a A)
      | ((with_reducible refine g_idx ?_); first | (refine sx_idx H A tbOk rfl rfl rfl rfl rfl rfl ?_; clear A; intro a A) | (refine sx_oidx H A tbOk rfl rfl rfl rfl rfl rfl ?_; clear A; intro a A))
      | ((with_reducible refine g_conv ?_); refine sx_conv A tbOk rfl rfl rfl rfl rfl ?_; clear A; intro a A)
      )
    | ((with_reducible refine g_draw ?_); refine qx_region H (by kernel_rfl) (by kernel_rfl) ?_)
    | ((with_reducible refine qx_nil ?_); clear H; intro w_ F_ H)
    | ((with_reducible refine q_at ?_); first
      | (refine qx_pure A tbOk rfl rfl rfl ?_; clear A; intro a A)
      | (refine qx_skip A rfl rfl ?_; clear A; intro a A)
      | ((with_reducible refine qg_bin ?_); first | ((refine qg_int A rfl ?_); first | (refine qx_cmp A rfl rfl rfl rfl ?_; clear A; intro a A) | (refine qx_arith A rfl rfl rfl rfl ?_; clear A; intro a A)) | ((refine qg_str A rfl ?_); first | (refine qx_scmp A rfl rfl rfl rfl ?_; clear A; intro a A) | (refine qx_concat A rfl rfl rfl rfl ?_; clear A; intro a A)))
      | ((with_reducible refine qg_builtin ?_); first | (refine qx_min A rfl rfl rfl rfl ?_; clear A; intro a A) | (refine qx_max A rfl rfl rfl rfl ?_; clear A; intro a A))
      | ((with_reducible refine qg_slice ?_); refine qx_sstr A tbOk rfl rfl rfl rfl rfl rfl ?_; clear A; intro a A)
      | ((with_reducible refine qg_load ?_); refine qx_load A tbOk rfl rfl rfl rfl ?_; clear A; intro a A)
      | ((with_reducible refine qg_idx ?_); first | (refine qx_idx H A tbOk rfl rfl rfl rfl rfl rfl ?_; clear A; intro a A) | (refine qx_oidx H A tbOk rfl rfl rfl rfl rfl rfl ?_; clear A; intro a A)))
    )
theorem sl_ref03_Like (H : St M F0 w0 F B R w) {A0 A1 A2 A3 : Option Addr} {c0 c1 c2 c3 : Nat} {l l' : List ByteArray} {v v' : List Wr} {b : Bool} (hl : l.length ≤ 1000000) (hl2 : v.length ≤ 1000000) (hr : b = true ↔ (l = l' ∧ v = v')) (k : ∀ Fx w', St M F0 w0 Fx B R w' → K (.returned (.bool b)) w') (hm : rdc Kd.string A0 l ∈ R := by (repeat (first | with_reducible exact List.mem_cons_self | apply List.mem_cons_of_mem))) (hm2 : rdc Kd.string A2 l' ∈ R := by (repeat (first | with_reducible exact List.mem_cons_self | apply List.mem_cons_of_mem))) (hm3 : rdc kWr A1 v ∈ R := by (repeat (first | with_reducible exact List.mem_cons_self | apply List.mem_cons_of_mem))) (hm4 : rdc kWr A3 v' ∈ R := by (repeat (first | with_reducible exact List.mem_cons_self | apply List.mem_cons_of_mem))) : Calls Tryd.prog 22 #[.agg #[.slice A0 l.length c0, .slice A1 v.length c1], .agg #[.slice A2 l'.length c2, .slice A3 v'.length c3]] w K := by
  refine St.fn0 H (R0 := [rdc Kd.string A0 l, rdc Kd.string A2 l', rdc kWr A1 v, rdc kWr A3 v']) (by intro p hp; simp only [List.mem_cons, List.not_mem_nil, or_false] at hp; rcases hp with rfl | rfl | rfl | rfl <;> assumption) (fun H => ?_)
  refine sx_enter Tryd.func22 Tryd.ntmps22 rfl rfl (fun a A => ?_)
  have hc : (b = false ∧ l.length ≠ l'.length) ∨ (b = false ∧ l.length = l'.length ∧ v.length ≠ v'.length) ∨ (l.length = l'.length ∧ v.length = v'.length) := by
    by_cases h1 : l.length = l'.length
    · by_cases h2 : v.length = v'.length
      · exact .inr (.inr ⟨h1, h2⟩)
      · exact .inr (.inl ⟨by cases b; rfl; exact absurd (congrArg List.length (hr.1 rfl).2) h2, h1, h2⟩)
    · exact .inl ⟨by cases b; rfl; exact absurd (congrArg List.length (hr.1 rfl).1) h1, h1⟩
  rcases hc with ⟨rfl, h1⟩ | ⟨rfl, h1, h2⟩ | ⟨hlen, hlen2⟩
  all_goals repeat' (first
    | (refine sx_ret tbOk H A rfl ?_; exact H.ret0 fun Fx Hx => k Fx _ Hx)
    | with_reducible refine wp_seq ?_
    | with_reducible refine sx_region ?_
    | with_reducible refine wp_block ?_
    | with_reducible refine wpList_nil ?_
    | with_reducible refine sx_then ?_
    | with_reducible refine sx_inb ?_
    | with_reducible refine wp_skip ?_
    | with_reducible refine wp_ret ?_
    | with_reducible refine wp_exit ?_
    | with_reducible refine sx_then_ret ?_
    | with_reducible refine sx_inb_ret ?_
    | with_reducible refine sx_then_exit ?_
    | with_reducible refine sx_inb_exit ?_
    | with_reducible refine sx_inb_other rfl ?_
    | with_reducible refine sx_if_t A rfl ?_
    | with_reducible refine sx_if_f A rfl ?_
    | ((with_reducible refine sx_at ?_); first
      | (refine sx_pure A tbOk rfl rfl rfl ?_; clear A; intro a A)
      | (refine sx_skip A rfl rfl ?_; clear A; intro a A)
      | ((with_reducible refine g_bin ?_); first | ((refine g_int A rfl ?_); first | (refine sx_cmp A rfl rfl rfl rfl ?_; clear A; intro a A) | (refine sx_arith A rfl rfl rfl rfl ?_; clear A; intro a A) | (refine sx_shl A rfl rfl rfl rfl ?_; clear A; intro a A) | (refine sx_shr A rfl rfl rfl rfl ?_; clear A; intro a A)) | ((refine g_str A rfl ?_); first | (refine sx_scmp A rfl rfl rfl rfl ?_; clear A; intro a A) | (refine sx_concat A rfl rfl rfl rfl ?_; clear A; intro a A)))
      | ((with_reducible refine g_load ?_); first | (refine sx_load_all H A tbOk rfl rfl rfl rfl rfl ?_; clear A; intro a A) | (refine sx_load H A tbOk rfl rfl rfl rfl ?_; clear A; intro a A))
      | ((with_reducible refine g_store ?_); refine sx_store H A tbOk rfl rfl rfl rfl ?_; clear H; intro w_ H)
      | ((with_reducible refine g_box ?_); refine sx_box H A rfl rfl rfl ?_; clear H A; intro b_ a w_ A H)
      | ((with_reducible refine g_alloc ?_); refine sx_alloc H A tbOk rfl rfl rfl ?_; clear H A; intro b_ a w_ A H)
      | ((with_reducible refine g_build ?_); refine sx_build A tbOk rfl rfl rfl rfl rfl rfl ?_; clear A; intro a A)
      | ((with_reducible refine g_builtin ?_); first | (refine sx_min A rfl rfl rfl rfl ?_; clear A; intro a A) | (refine sx_max A rfl rfl rfl rfl ?_; clear A; intro a A))
      | ((with_reducible refine g_slice ?_); first | (refine sx_sstr A tbOk rfl rfl rfl rfl rfl rfl ?_; clear A; intro a A) | (refine sx_cut H A tbOk rfl rfl rfl rfl rfl rfl rfl ?_; clear A H; intro A_ c_ a hc_ A H))
      | ((with_reducible refine g_index ?_); refine sx_sidx A tbOk rfl rfl rfl rfl rfl ?_; clear A; intro a A)
      | ((with_reducible refine g_idx ?_); first | (refine sx_idx H A tbOk rfl rfl rfl rfl rfl rfl ?_; clear A; intro a A) | (refine sx_oidx H A tbOk rfl rfl rfl rfl rfl rfl ?_; clear A; intro a A))
      | ((with_reducible refine g_conv ?_); refine sx_conv A tbOk rfl rfl rfl rfl rfl ?_; clear A; intro a A)
      )
    | ((with_reducible refine g_draw ?_); refine qx_region H (by kernel_rfl) (by kernel_rfl) ?_)
    | ((with_reducible refine qx_nil ?_); clear H; intro w_ F_ H)
    | ((with_reducible refine q_at ?_); first
      | (refine qx_pure A tbOk rfl rfl rfl ?_; clear A; intro a A)
      | (refine qx_skip A rfl rfl ?_; clear A; intro a A)
      | ((with_reducible refine qg_bin ?_); first | ((refine qg_int A rfl ?_); first | (refine qx_cmp A rfl rfl rfl rfl ?_; clear A; intro a A) | (refine qx_arith A rfl rfl rfl rfl ?_; clear A; intro a A)) | ((refine qg_str A rfl ?_); first | (refine qx_scmp A rfl rfl rfl rfl ?_; clear A; intro a A) | (refine qx_concat A rfl rfl rfl rfl ?_; clear A; intro a A)))
      | ((with_reducible refine qg_builtin ?_); first | (refine qx_min A rfl rfl rfl rfl ?_; clear A; intro a A) | (refine qx_max A rfl rfl rfl rfl ?_; clear A; intro a A))
      | ((with_reducible refine qg_slice ?_); refine qx_sstr A tbOk rfl rfl rfl rfl rfl rfl ?_; clear A; intro a A)
      | ((with_reducible refine qg_load ?_); refine qx_load A tbOk rfl rfl rfl rfl ?_; clear A; intro a A)
      | ((with_reducible refine qg_idx ?_); first | (refine qx_idx H A tbOk rfl rfl rfl rfl rfl rfl ?_; clear A; intro a A) | (refine qx_oidx H A tbOk rfl rfl rfl rfl rfl rfl ?_; clear A; intro a A)))
  )
  refine sx_rounds (fun i : Nat => i ≤ l.length ∧ ∀ j, j < i → l[j]? = l'[j]?) (fun i => [(25, .int .i64 (i : Int)), (24, _), (2, _), (3, _)]) (fun i => [_, _]) (fun _ => [_, _, _, _]) (fun i => l.length - i) 0 H A.subs ⟨Nat.zero_le _, fun j h => absurd h (by omega)⟩ (fun i F a W hi H A => ?_)
  obtain ⟨hi, hok⟩ := hi
  rcases Nat.lt_or_ge i l.length with hlt | hge
  · obtain ⟨y, hy⟩ : ∃ y, l[i]? = some y := ⟨_, List.getElem?_eq_getElem hlt⟩
    obtain ⟨y', hy'⟩ : ∃ y, l'[i]? = some y := ⟨_, List.getElem?_eq_getElem (by omega)⟩
    have hlt' : i < l'.length := by omega
    by_cases hyy : y = y'
    · repeat' (first
    | ((with_reducible refine qg_dst 32 ?_); refine qx_eload (dk := Kd.string) A tbOk rfl rfl rfl rfl rfl ?_ (fixed_str rfl) (xs := l); clear A; intro a A)
    | ((with_reducible refine qg_dst 37 ?_); refine qx_eload (dk := Kd.string) A tbOk rfl rfl rfl rfl rfl ?_ (fixed_str rfl) (xs := l'); clear A; intro a A)
    | with_reducible refine wp_seq ?_
    | with_reducible refine sx_region ?_
    | with_reducible refine wp_block ?_
    | with_reducible refine wpList_nil ?_
    | with_reducible refine sx_then ?_
    | with_reducible refine sx_inb ?_
    | with_reducible refine wp_skip ?_
    | with_reducible refine wp_ret ?_
    | with_reducible refine wp_exit ?_
    | with_reducible refine sx_then_ret ?_
    | with_reducible refine sx_inb_ret ?_
    | with_reducible refine sx_then_exit ?_
    | with_reducible refine sx_inb_exit ?_
    | with_reducible refine sx_inb_other rfl ?_
    | with_reducible refine sx_if_t A rfl ?_
    | with_reducible refine sx_if_f A rfl ?_
    | ((with_reducible refine sx_at ?_); first
      | (refine sx_pure A tbOk rfl rfl rfl ?_; clear A; intro a A)
      | (refine sx_skip A rfl rfl ?_; clear A; intro a A)
      | ((with_reducible refine g_bin ?_); first | ((refine g_int A rfl ?_); first | (refine sx_cmp A rfl rfl rfl rfl ?_; clear A; intro a A) | (refine sx_arith A rfl rfl rfl rfl ?_; clear A; intro a A) | (refine sx_shl A rfl rfl rfl rfl ?_; clear A; intro a A) | (refine sx_shr A rfl rfl rfl rfl ?_; clear A; intro a A)) | ((refine g_str A rfl ?_); first | (refine sx_scmp A rfl rfl rfl rfl ?_; clear A; intro a A) | (refine sx_concat A rfl rfl rfl rfl ?_; clear A; intro a A)))
      | ((with_reducible refine g_load ?_); first | (refine sx_load_all H A tbOk rfl rfl rfl rfl rfl ?_; clear A; intro a A) | (refine sx_load H A tbOk rfl rfl rfl rfl ?_; clear A; intro a A))
      | ((with_reducible refine g_store ?_); refine sx_store H A tbOk rfl rfl rfl rfl ?_; clear H; intro w_ H)
      | ((with_reducible refine g_box ?_); refine sx_box H A rfl rfl rfl ?_; clear H A; intro b_ a w_ A H)
      | ((with_reducible refine g_alloc ?_); refine sx_alloc H A tbOk rfl rfl rfl ?_; clear H A; intro b_ a w_ A H)
      | ((with_reducible refine g_build ?_); refine sx_build A tbOk rfl rfl rfl rfl rfl rfl ?_; clear A; intro a A)
      | ((with_reducible refine g_builtin ?_); first | (refine sx_min A rfl rfl rfl rfl ?_; clear A; intro a A) | (refine sx_max A rfl rfl rfl rfl ?_; clear A; intro a A))
      | ((with_reducible refine g_slice ?_); first | (refine sx_sstr A tbOk rfl rfl rfl rfl rfl rfl ?_; clear A; intro a A) | (refine sx_cut H A tbOk rfl rfl rfl rfl rfl rfl rfl ?_; clear A H; intro A_ c_ a hc_ A H))
      | ((with_reducible refine g_index ?_); refine sx_sidx A tbOk rfl rfl rfl rfl rfl ?_; clear A; intro a A)
      | ((with_reducible refine g_idx ?_); first | (refine sx_idx H A tbOk rfl rfl rfl rfl rfl rfl ?_; clear A; intro a A) | (refine sx_oidx H A tbOk rfl rfl rfl rfl rfl rfl ?_; clear A; intro a A))
      | ((with_reducible refine g_conv ?_); refine sx_conv A tbOk rfl rfl rfl rfl rfl ?_; clear A; intro a A)
      )
    | ((with_reducible refine g_draw ?_); refine qx_region H (by kernel_rfl) (by kernel_rfl) ?_)
    | ((with_reducible refine qx_nil ?_); clear H; intro w_ F_ H)
    | ((with_reducible refine q_at ?_); first
      | (refine qx_pure A tbOk rfl rfl rfl ?_; clear A; intro a A)
      | (refine qx_skip A rfl rfl ?_; clear A; intro a A)
      | ((with_reducible refine qg_bin ?_); first | ((refine qg_int A rfl ?_); first | (refine qx_cmp A rfl rfl rfl rfl ?_; clear A; intro a A) | (refine qx_arith A rfl rfl rfl rfl ?_; clear A; intro a A)) | ((refine qg_str A rfl ?_); first | (refine qx_scmp A rfl rfl rfl rfl ?_; clear A; intro a A) | (refine qx_concat A rfl rfl rfl rfl ?_; clear A; intro a A)))
      | ((with_reducible refine qg_builtin ?_); first | (refine qx_min A rfl rfl rfl rfl ?_; clear A; intro a A) | (refine qx_max A rfl rfl rfl rfl ?_; clear A; intro a A))
      | ((with_reducible refine qg_slice ?_); refine qx_sstr A tbOk rfl rfl rfl rfl rfl rfl ?_; clear A; intro a A)
      | ((with_reducible refine qg_load ?_); refine qx_load A tbOk rfl rfl rfl rfl ?_; clear A; intro a A)
      | ((with_reducible refine qg_idx ?_); first | (refine qx_idx H A tbOk rfl rfl rfl rfl rfl rfl ?_; clear A; intro a A) | (refine qx_oidx H A tbOk rfl rfl rfl rfl rfl rfl ?_; clear A; intro a A)))
      )
      exact ⟨i + 1, _, ⟨by omega, fun j hj => by rcases Nat.lt_or_ge j i with h | h; exact hok j h; rw [show j = i by omega, hy, hy', hyy]⟩, by omega, H.sel, A.subs⟩
    · have hb : b = false := by cases b; rfl; exact absurd (Option.some.inj ((hy.symm.trans (by rw [(hr.1 rfl).1])).trans hy')) hyy
      subst hb
      repeat' (first
    | ((with_reducible refine qg_dst 32 ?_); refine qx_eload (dk := Kd.string) A tbOk rfl rfl rfl rfl rfl ?_ (fixed_str rfl) (xs := l); clear A; intro a A)
    | ((with_reducible refine qg_dst 37 ?_); refine qx_eload (dk := Kd.string) A tbOk rfl rfl rfl rfl rfl ?_ (fixed_str rfl) (xs := l'); clear A; intro a A)
    | (refine sx_ret tbOk H A rfl ?_; exact H.ret0 fun Fx Hx => k Fx _ Hx)
    | with_reducible refine wp_seq ?_
    | with_reducible refine sx_region ?_
    | with_reducible refine wp_block ?_
    | with_reducible refine wpList_nil ?_
    | with_reducible refine sx_then ?_
    | with_reducible refine sx_inb ?_
    | with_reducible refine wp_skip ?_
    | with_reducible refine wp_ret ?_
    | with_reducible refine wp_exit ?_
    | with_reducible refine sx_then_ret ?_
    | with_reducible refine sx_inb_ret ?_
    | with_reducible refine sx_then_exit ?_
    | with_reducible refine sx_inb_exit ?_
    | with_reducible refine sx_inb_other rfl ?_
    | with_reducible refine sx_if_t A rfl ?_
    | with_reducible refine sx_if_f A rfl ?_
    | ((with_reducible refine sx_at ?_); first
      | (refine sx_pure A tbOk rfl rfl rfl ?_; clear A; intro a A)
      | (refine sx_skip A rfl rfl ?_; clear A; intro a A)
      | ((with_reducible refine g_bin ?_); first | ((refine g_int A rfl ?_); first | (refine sx_cmp A rfl rfl rfl rfl ?_; clear A; intro a A) | (refine sx_arith A rfl rfl rfl rfl ?_; clear A; intro a A) | (refine sx_shl A rfl rfl rfl rfl ?_; clear A; intro a A) | (refine sx_shr A rfl rfl rfl rfl ?_; clear A; intro a A)) | ((refine g_str A rfl ?_); first | (refine sx_scmp A rfl rfl rfl rfl ?_; clear A; intro a A) | (refine sx_concat A rfl rfl rfl rfl ?_; clear A; intro a A)))
      | ((with_reducible refine g_load ?_); first | (refine sx_load_all H A tbOk rfl rfl rfl rfl rfl ?_; clear A; intro a A) | (refine sx_load H A tbOk rfl rfl rfl rfl ?_; clear A; intro a A))
      | ((with_reducible refine g_store ?_); refine sx_store H A tbOk rfl rfl rfl rfl ?_; clear H; intro w_ H)
      | ((with_reducible refine g_box ?_); refine sx_box H A rfl rfl rfl ?_; clear H A; intro b_ a w_ A H)
      | ((with_reducible refine g_alloc ?_); refine sx_alloc H A tbOk rfl rfl rfl ?_; clear H A; intro b_ a w_ A H)
      | ((with_reducible refine g_build ?_); refine sx_build A tbOk rfl rfl rfl rfl rfl rfl ?_; clear A; intro a A)
      | ((with_reducible refine g_builtin ?_); first | (refine sx_min A rfl rfl rfl rfl ?_; clear A; intro a A) | (refine sx_max A rfl rfl rfl rfl ?_; clear A; intro a A))
      | ((with_reducible refine g_slice ?_); first | (refine sx_sstr A tbOk rfl rfl rfl rfl rfl rfl ?_; clear A; intro a A) | (refine sx_cut H A tbOk rfl rfl rfl rfl rfl rfl rfl ?_; clear A H; intro A_ c_ a hc_ A H))
      | ((with_reducible refine g_index ?_); refine sx_sidx A tbOk rfl rfl rfl rfl rfl ?_; clear A; intro a A)
      | ((with_reducible refine g_idx ?_); first | (refine sx_idx H A tbOk rfl rfl rfl rfl rfl rfl ?_; clear A; intro a A) | (refine sx_oidx H A tbOk rfl rfl rfl rfl rfl rfl ?_; clear A; intro a A))
      | ((with_reducible refine g_conv ?_); refine sx_conv A tbOk rfl rfl rfl rfl rfl ?_; clear A; intro a A)
      )
    | ((with_reducible refine g_draw ?_); refine qx_region H (by kernel_rfl) (by kernel_rfl) ?_)
    | ((with_reducible refine qx_nil ?_); clear H; intro w_ F_ H)
    | ((with_reducible refine q_at ?_); first
      | (refine qx_pure A tbOk rfl rfl rfl ?_; clear A; intro a A)
      | (refine qx_skip A rfl rfl ?_; clear A; intro a A)
      | ((with_reducible refine qg_bin ?_); first | ((refine qg_int A rfl ?_); first | (refine qx_cmp A rfl rfl rfl rfl ?_; clear A; intro a A) | (refine qx_arith A rfl rfl rfl rfl ?_; clear A; intro a A)) | ((refine qg_str A rfl ?_); first | (refine qx_scmp A rfl rfl rfl rfl ?_; clear A; intro a A) | (refine qx_concat A rfl rfl rfl rfl ?_; clear A; intro a A)))
      | ((with_reducible refine qg_builtin ?_); first | (refine qx_min A rfl rfl rfl rfl ?_; clear A; intro a A) | (refine qx_max A rfl rfl rfl rfl ?_; clear A; intro a A))
      | ((with_reducible refine qg_slice ?_); refine qx_sstr A tbOk rfl rfl rfl rfl rfl rfl ?_; clear A; intro a A)
      | ((with_reducible refine qg_load ?_); refine qx_load A tbOk rfl rfl rfl rfl ?_; clear A; intro a A)
      | ((with_reducible refine qg_idx ?_); first | (refine qx_idx H A tbOk rfl rfl rfl rfl rfl rfl ?_; clear A; intro a A) | (refine qx_oidx H A tbOk rfl rfl rfl rfl rfl rfl ?_; clear A; intro a A)))
      )
  · have hll := ext_of hlen (fun j hj => hok j (by omega))
    have hr2 : b = true ↔ v = v' := ⟨fun h => (hr.1 h).2, fun h => hr.2 ⟨hll, h⟩⟩
    repeat' (first
    | ((with_reducible refine g_call ?_); refine sx_call (f := 55) A rfl Tryd.call55 rfl rfl ?_; refine sl_ref03_LikeWrites H hl2 hr2 ?_; clear H; intro F_ w_ H; refine ⟨_, rfl, ?_⟩; clear A; intro a A)
    | (refine sx_ret tbOk H A rfl ?_; exact H.ret0 fun Fx Hx => k Fx _ Hx)
    | with_reducible refine wp_seq ?_
    | with_reducible refine sx_region ?_
    | with_reducible refine wp_block ?_
    | with_reducible refine wpList_nil ?_
    | with_reducible refine sx_then ?_
    | with_reducible refine sx_inb ?_
    | with_reducible refine wp_skip ?_
    | with_reducible refine wp_ret ?_
    | with_reducible refine wp_exit ?_
    | with_reducible refine sx_then_ret ?_
    | with_reducible refine sx_inb_ret ?_
    | with_reducible refine sx_then_exit ?_
    | with_reducible refine sx_inb_exit ?_
    | with_reducible refine sx_inb_other rfl ?_
    | with_reducible refine sx_if_t A rfl ?_
    | with_reducible refine sx_if_f A rfl ?_
    | ((with_reducible refine sx_at ?_); first
      | (refine sx_pure A tbOk rfl rfl rfl ?_; clear A; intro a A)
      | (refine sx_skip A rfl rfl ?_; clear A; intro a A)
      | ((with_reducible refine g_bin ?_); first | ((refine g_int A rfl ?_); first | (refine sx_cmp A rfl rfl rfl rfl ?_; clear A; intro a A) | (refine sx_arith A rfl rfl rfl rfl ?_; clear A; intro a A) | (refine sx_shl A rfl rfl rfl rfl ?_; clear A; intro a A) | (refine sx_shr A rfl rfl rfl rfl ?_; clear A; intro a A)) | ((refine g_str A rfl ?_); first | (refine sx_scmp A rfl rfl rfl rfl ?_; clear A; intro a A) | (refine sx_concat A rfl rfl rfl rfl ?_; clear A; intro a A)))
      | ((with_reducible refine g_load ?_); first | (refine sx_load_all H A tbOk rfl rfl rfl rfl rfl ?_; clear A; intro a A) | (refine sx_load H A tbOk rfl rfl rfl rfl ?_; clear A; intro a A))
      | ((with_reducible refine g_store ?_); refine sx_store H A tbOk rfl rfl rfl rfl ?_; clear H; intro w_ H)
      | ((with_reducible refine g_box ?_); refine sx_box H A rfl rfl rfl ?_; clear H A; intro b_ a w_ A H)
      | ((with_reducible refine g_alloc ?_); refine sx_alloc H A tbOk rfl rfl rfl ?_; clear H A; intro b_ a w_ A H)
      | ((with_reducible refine g_build ?_); refine sx_build A tbOk rfl rfl rfl rfl rfl rfl ?_; clear A; intro a A)
      | ((with_reducible refine g_builtin ?_); first | (refine sx_min A rfl rfl rfl rfl ?_; clear A; intro a A) | (refine sx_max A rfl rfl rfl rfl ?_; clear A; intro a A))
      | ((with_reducible refine g_slice ?_); first | (refine sx_sstr A tbOk rfl rfl rfl rfl rfl rfl ?_; clear A; intro a A) | (refine sx_cut H A tbOk rfl rfl rfl rfl rfl rfl rfl ?_; clear A H; intro A_ c_ a hc_ A H))
      | ((with_reducible refine g_index ?_); refine sx_sidx A tbOk rfl rfl rfl rfl rfl ?_; clear A; intro a A)
      | ((with_reducible refine g_idx ?_); first | (refine sx_idx H A tbOk rfl rfl rfl rfl rfl rfl ?_; clear A; intro a A) | (refine sx_oidx H A tbOk rfl rfl rfl rfl rfl rfl ?_; clear A; intro a A))
      | ((with_reducible refine g_conv ?_); refine sx_conv A tbOk rfl rfl rfl rfl rfl ?_; clear A; intro a A)
      )
    | ((with_reducible refine g_draw ?_); refine qx_region H (by kernel_rfl) (by kernel_rfl) ?_)
    | ((with_reducible refine qx_nil ?_); clear H; intro w_ F_ H)
    | ((with_reducible refine q_at ?_); first
      | (refine qx_pure A tbOk rfl rfl rfl ?_; clear A; intro a A)
      | (refine qx_skip A rfl rfl ?_; clear A; intro a A)
      | ((with_reducible refine qg_bin ?_); first | ((refine qg_int A rfl ?_); first | (refine qx_cmp A rfl rfl rfl rfl ?_; clear A; intro a A) | (refine qx_arith A rfl rfl rfl rfl ?_; clear A; intro a A)) | ((refine qg_str A rfl ?_); first | (refine qx_scmp A rfl rfl rfl rfl ?_; clear A; intro a A) | (refine qx_concat A rfl rfl rfl rfl ?_; clear A; intro a A)))
      | ((with_reducible refine qg_builtin ?_); first | (refine qx_min A rfl rfl rfl rfl ?_; clear A; intro a A) | (refine qx_max A rfl rfl rfl rfl ?_; clear A; intro a A))
      | ((with_reducible refine qg_slice ?_); refine qx_sstr A tbOk rfl rfl rfl rfl rfl rfl ?_; clear A; intro a A)
      | ((with_reducible refine qg_load ?_); refine qx_load A tbOk rfl rfl rfl rfl ?_; clear A; intro a A)
      | ((with_reducible refine qg_idx ?_); first | (refine qx_idx H A tbOk rfl rfl rfl rfl rfl rfl ?_; clear A; intro a A) | (refine qx_oidx H A tbOk rfl rfl rfl rfl rfl rfl ?_; clear A; intro a A)))
    )
theorem sl_ref03_LikePower (H : St M F0 w0 F B R w) {A0 A1 A2 A3 : Option Addr} {c0 c1 c2 c3 : Nat} {l l' : List ByteArray} {v v' : List Wr} {x x' : Int} {b : Bool} (hl : l.length ≤ 1000000) (hl2 : v.length ≤ 1000000) (hr : b = true ↔ (x = x' ∧ l = l' ∧ v = v')) (k : ∀ Fx w', St M F0 w0 Fx B R w' → K (.returned (.bool b)) w') (hm : rdc Kd.string A0 l ∈ R := by (repeat (first | with_reducible exact List.mem_cons_self | apply List.mem_cons_of_mem))) (hm2 : rdc Kd.string A2 l' ∈ R := by (repeat (first | with_reducible exact List.mem_cons_self | apply List.mem_cons_of_mem))) (hm3 : rdc kWr A1 v ∈ R := by (repeat (first | with_reducible exact List.mem_cons_self | apply List.mem_cons_of_mem))) (hm4 : rdc kWr A3 v' ∈ R := by (repeat (first | with_reducible exact List.mem_cons_self | apply List.mem_cons_of_mem))) : Calls Tryd.prog 33 #[.agg #[.slice A0 l.length c0, .slice A1 v.length c1, .int .i64 x], .agg #[.slice A2 l'.length c2, .slice A3 v'.length c3, .int .i64 x']] w K := by
  refine St.fn0 H (R0 := [rdc Kd.string A0 l, rdc Kd.string A2 l', rdc kWr A1 v, rdc kWr A3 v']) (by intro p hp; simp only [List.mem_cons, List.not_mem_nil, or_false] at hp; rcases hp with rfl | rfl | rfl | rfl <;> assumption) (fun H => ?_)
  refine sx_enter Tryd.func33 Tryd.ntmps33 rfl rfl (fun a A => ?_)
  by_cases h : x = x'
  · have hr2 : b = true ↔ (l = l' ∧ v = v') := ⟨fun g => (hr.1 g).2, fun g => hr.2 ⟨h, g⟩⟩
    repeat' (first
    | ((with_reducible refine g_call ?_); refine sx_call (f := 22) A rfl Tryd.call22 rfl rfl ?_; refine sl_ref03_Like H hl hl2 hr2 ?_; clear H; intro F_ w_ H; refine ⟨_, rfl, ?_⟩; clear A; intro a A)
    | (refine sx_ret tbOk H A rfl ?_; exact H.ret0 fun Fx Hx => k Fx _ Hx)
    | with_reducible refine wp_seq ?_
    | with_reducible refine sx_region ?_
    | with_reducible refine wp_block ?_
    | with_reducible refine wpList_nil ?_
    | with_reducible refine sx_then ?_
    | with_reducible refine sx_inb ?_
    | with_reducible refine wp_skip ?_
    | with_reducible refine wp_ret ?_
    | with_reducible refine wp_exit ?_
    | with_reducible refine sx_then_ret ?_
    | with_reducible refine sx_inb_ret ?_
    | with_reducible refine sx_then_exit ?_
    | with_reducible refine sx_inb_exit ?_
    | with_reducible refine sx_inb_other rfl ?_
    | with_reducible refine sx_if_t A rfl ?_
    | with_reducible refine sx_if_f A rfl ?_
    | ((with_reducible refine sx_at ?_); first
      | (refine sx_pure A tbOk rfl rfl rfl ?_; clear A; intro a A)
      | (refine sx_skip A rfl rfl ?_; clear A; intro a A)
      | ((with_reducible refine g_bin ?_); first | ((refine g_int A rfl ?_); first | (refine sx_cmp A rfl rfl rfl rfl ?_; clear A; intro a A) | (refine sx_arith A rfl rfl rfl rfl ?_; clear A; intro a A) | (refine sx_shl A rfl rfl rfl rfl ?_; clear A; intro a A) | (refine sx_shr A rfl rfl rfl rfl ?_; clear A; intro a A)) | ((refine g_str A rfl ?_); first | (refine sx_scmp A rfl rfl rfl rfl ?_; clear A; intro a A) | (refine sx_concat A rfl rfl rfl rfl ?_; clear A; intro a A)))
      | ((with_reducible refine g_load ?_); first | (refine sx_load_all H A tbOk rfl rfl rfl rfl rfl ?_; clear A; intro a A) | (refine sx_load H A tbOk rfl rfl rfl rfl ?_; clear A; intro a A))
      | ((with_reducible refine g_store ?_); refine sx_store H A tbOk rfl rfl rfl rfl ?_; clear H; intro w_ H)
      | ((with_reducible refine g_box ?_); refine sx_box H A rfl rfl rfl ?_; clear H A; intro b_ a w_ A H)
      | ((with_reducible refine g_alloc ?_); refine sx_alloc H A tbOk rfl rfl rfl ?_; clear H A; intro b_ a w_ A H)
      | ((with_reducible refine g_build ?_); refine sx_build A tbOk rfl rfl rfl rfl rfl rfl ?_; clear A; intro a A)
      | ((with_reducible refine g_builtin ?_); first | (refine sx_min A rfl rfl rfl rfl ?_; clear A; intro a A) | (refine sx_max A rfl rfl rfl rfl ?_; clear A; intro a A))
      | ((with_reducible refine g_slice ?_); first | (refine sx_sstr A tbOk rfl rfl rfl rfl rfl rfl ?_; clear A; intro a A) | (refine sx_cut H A tbOk rfl rfl rfl rfl rfl rfl rfl ?_; clear A H; intro A_ c_ a hc_ A H))
      | ((with_reducible refine g_index ?_); refine sx_sidx A tbOk rfl rfl rfl rfl rfl ?_; clear A; intro a A)
      | ((with_reducible refine g_idx ?_); first | (refine sx_idx H A tbOk rfl rfl rfl rfl rfl rfl ?_; clear A; intro a A) | (refine sx_oidx H A tbOk rfl rfl rfl rfl rfl rfl ?_; clear A; intro a A))
      | ((with_reducible refine g_conv ?_); refine sx_conv A tbOk rfl rfl rfl rfl rfl ?_; clear A; intro a A)
      )
    | ((with_reducible refine g_draw ?_); refine qx_region H (by kernel_rfl) (by kernel_rfl) ?_)
    | ((with_reducible refine qx_nil ?_); clear H; intro w_ F_ H)
    | ((with_reducible refine q_at ?_); first
      | (refine qx_pure A tbOk rfl rfl rfl ?_; clear A; intro a A)
      | (refine qx_skip A rfl rfl ?_; clear A; intro a A)
      | ((with_reducible refine qg_bin ?_); first | ((refine qg_int A rfl ?_); first | (refine qx_cmp A rfl rfl rfl rfl ?_; clear A; intro a A) | (refine qx_arith A rfl rfl rfl rfl ?_; clear A; intro a A)) | ((refine qg_str A rfl ?_); first | (refine qx_scmp A rfl rfl rfl rfl ?_; clear A; intro a A) | (refine qx_concat A rfl rfl rfl rfl ?_; clear A; intro a A)))
      | ((with_reducible refine qg_builtin ?_); first | (refine qx_min A rfl rfl rfl rfl ?_; clear A; intro a A) | (refine qx_max A rfl rfl rfl rfl ?_; clear A; intro a A))
      | ((with_reducible refine qg_slice ?_); refine qx_sstr A tbOk rfl rfl rfl rfl rfl rfl ?_; clear A; intro a A)
      | ((with_reducible refine qg_load ?_); refine qx_load A tbOk rfl rfl rfl rfl ?_; clear A; intro a A)
      | ((with_reducible refine qg_idx ?_); first | (refine qx_idx H A tbOk rfl rfl rfl rfl rfl rfl ?_; clear A; intro a A) | (refine qx_oidx H A tbOk rfl rfl rfl rfl rfl rfl ?_; clear A; intro a A)))
    )
  · have hb : b = false := by cases b; rfl; exact absurd (hr.1 rfl).1 h
    subst hb
    repeat' (first
    | (refine sx_ret tbOk H A rfl ?_; exact H.ret0 fun Fx Hx => k Fx _ Hx)
    | with_reducible refine wp_seq ?_
    | with_reducible refine sx_region ?_
    | with_reducible refine wp_block ?_
    | with_reducible refine wpList_nil ?_
    | with_reducible refine sx_then ?_
    | with_reducible refine sx_inb ?_
    | with_reducible refine wp_skip ?_
    | with_reducible refine wp_ret ?_
    | with_reducible refine wp_exit ?_
    | with_reducible refine sx_then_ret ?_
    | with_reducible refine sx_inb_ret ?_
    | with_reducible refine sx_then_exit ?_
    | with_reducible refine sx_inb_exit ?_
    | with_reducible refine sx_inb_other rfl ?_
    | with_reducible refine sx_if_t A rfl ?_
    | with_reducible refine sx_if_f A rfl ?_
    | ((with_reducible refine sx_at ?_); first
      | (refine sx_pure A tbOk rfl rfl rfl ?_; clear A; intro a A)
      | (refine sx_skip A rfl rfl ?_; clear A; intro a A)
      | ((with_reducible refine g_bin ?_); first | ((refine g_int A rfl ?_); first | (refine sx_cmp A rfl rfl rfl rfl ?_; clear A; intro a A) | (refine sx_arith A rfl rfl rfl rfl ?_; clear A; intro a A) | (refine sx_shl A rfl rfl rfl rfl ?_; clear A; intro a A) | (refine sx_shr A rfl rfl rfl rfl ?_; clear A; intro a A)) | ((refine g_str A rfl ?_); first | (refine sx_scmp A rfl rfl rfl rfl ?_; clear A; intro a A) | (refine sx_concat A rfl rfl rfl rfl ?_; clear A; intro a A)))
      | ((with_reducible refine g_load ?_); first | (refine sx_load_all H A tbOk rfl rfl rfl rfl rfl ?_; clear A; intro a A) | (refine sx_load H A tbOk rfl rfl rfl rfl ?_; clear A; intro a A))
      | ((with_reducible refine g_store ?_); refine sx_store H A tbOk rfl rfl rfl rfl ?_; clear H; intro w_ H)
      | ((with_reducible refine g_box ?_); refine sx_box H A rfl rfl rfl ?_; clear H A; intro b_ a w_ A H)
      | ((with_reducible refine g_alloc ?_); refine sx_alloc H A tbOk rfl rfl rfl ?_; clear H A; intro b_ a w_ A H)
      | ((with_reducible refine g_build ?_); refine sx_build A tbOk rfl rfl rfl rfl rfl rfl ?_; clear A; intro a A)
      | ((with_reducible refine g_builtin ?_); first | (refine sx_min A rfl rfl rfl rfl ?_; clear A; intro a A) | (refine sx_max A rfl rfl rfl rfl ?_; clear A; intro a A))
      | ((with_reducible refine g_slice ?_); first | (refine sx_sstr A tbOk rfl rfl rfl rfl rfl rfl ?_; clear A; intro a A) | (refine sx_cut H A tbOk rfl rfl rfl rfl rfl rfl rfl ?_; clear A H; intro A_ c_ a hc_ A H))
      | ((with_reducible refine g_index ?_); refine sx_sidx A tbOk rfl rfl rfl rfl rfl ?_; clear A; intro a A)
      | ((with_reducible refine g_idx ?_); first | (refine sx_idx H A tbOk rfl rfl rfl rfl rfl rfl ?_; clear A; intro a A) | (refine sx_oidx H A tbOk rfl rfl rfl rfl rfl rfl ?_; clear A; intro a A))
      | ((with_reducible refine g_conv ?_); refine sx_conv A tbOk rfl rfl rfl rfl rfl ?_; clear A; intro a A)
      )
    | ((with_reducible refine g_draw ?_); refine qx_region H (by kernel_rfl) (by kernel_rfl) ?_)
    | ((with_reducible refine qx_nil ?_); clear H; intro w_ F_ H)
    | ((with_reducible refine q_at ?_); first
      | (refine qx_pure A tbOk rfl rfl rfl ?_; clear A; intro a A)
      | (refine qx_skip A rfl rfl ?_; clear A; intro a A)
      | ((with_reducible refine qg_bin ?_); first | ((refine qg_int A rfl ?_); first | (refine qx_cmp A rfl rfl rfl rfl ?_; clear A; intro a A) | (refine qx_arith A rfl rfl rfl rfl ?_; clear A; intro a A)) | ((refine qg_str A rfl ?_); first | (refine qx_scmp A rfl rfl rfl rfl ?_; clear A; intro a A) | (refine qx_concat A rfl rfl rfl rfl ?_; clear A; intro a A)))
      | ((with_reducible refine qg_builtin ?_); first | (refine qx_min A rfl rfl rfl rfl ?_; clear A; intro a A) | (refine qx_max A rfl rfl rfl rfl ?_; clear A; intro a A))
      | ((with_reducible refine qg_slice ?_); refine qx_sstr A tbOk rfl rfl rfl rfl rfl rfl ?_; clear A; intro a A)
      | ((with_reducible refine qg_load ?_); refine qx_load A tbOk rfl rfl rfl rfl ?_; clear A; intro a A)
      | ((with_reducible refine qg_idx ?_); first | (refine qx_idx H A tbOk rfl rfl rfl rfl rfl rfl ?_; clear A; intro a A) | (refine qx_oidx H A tbOk rfl rfl rfl rfl rfl rfl ?_; clear A; intro a A)))
    )
end
end Go.Proofs.YtniplmjbligmlaaDoor.V
