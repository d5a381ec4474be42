/- slices.Backward over writes: the row from its end on, for every loop body that keeps what lay below n₀. -/
import Derived.Test.YtniplmjbligmlaaDoorDiskPlain
import Derived.RangeFuncNested
import Derived.RangeFuncBound
import Derived.RangeFuncCalls
import Derived.RangeFuncLeaves
import Derived.RangeFuncBox
import Derived.Shelf.Abstract
import Derived.WalkKit
import Derived.OwnWalkIn
import Derived.TacticsInMore
import Derived.LoopNIn
import Derived.LoopIn
namespace Go.Proofs.YtniplmjbligmlaaDoor.Q
open Go.RowKit Go.Shelf Go.Proofs.YtniplmjbligmlaaDoorW.PrintWords Go.Proofs.YtniplmjbligmlaaDoorW.PrintLast Go.Proofs.YtniplmjbligmlaaDoorW.PrintMore Go.Proofs.YtniplmjbligmlaaDoor.Base
set_option linter.unusedVariables false
attribute [local go_sem] Oper.semAt_some
/-- what round k brings -/
def backF (l : List S42) (k : Nat) : Int × S42 := ((l.length : Int) - 1 - k, rd_T42 l ((l.length : Int) - 1 - k))
def upto {α : Type} (f : Nat → α) (k : Nat) : List α := (List.range k).map f
theorem upto_succ {α : Type} (f : Nat → α) (k : Nat) : upto f (k + 1) = upto f k ++ [f k] := by simp [upto, List.range_succ]
theorem upto_length {α : Type} (f : Nat → α) (k : Nat) : (upto f k).length = k := by simp [upto]
def encB (x : Int × S42) : Array Value := #[.int .i64 x.1, .agg #[.int .i64 x.2.f0, .string x.2.f1]]

set_option maxRecDepth 100000 in
set_option maxHeartbeats 4000000 in
theorem back1_in (F : Fence) (n : Nat) (hf : F.fn 71) (hro : F.round = none) (hn : 1 ≤ n) (l Bs n₀ : Nat) (A : Option Addr) (c : Nat) (xs : List S42) (w0 : World) (hC : Kd.C k42 w0 A xs.length xs) (hw0 : w0.heap.size ≤ n₀) (hBn : Bs < n₀)
    (J Jx : List (Int × S42) → World → Prop)
    (hY : ∀ pre x W, J pre W → pre.length < xs.length → YieldAt F (n - 1) Tryd.prog l (encB x) W fun e W' =>
      (e = .returned (.bool true) ∧ J (pre ++ [x]) W' ∧ Below n₀ W W') ∨ (e = .returned (.bool false) ∧ Jx (pre ++ [x]) W'))
    (W : World) (hW : Below w0.heap.size w0 W) (hBs : W.cell? ⟨Bs, 0, none⟩ = some (.slice A xs.length c)) (h0 : J [] W) :
    CallsIn F n Tryd.prog 71 #[.func (.yield l) #[] #[], .pointer (some ⟨Bs, 0, none⟩)] W fun e W' => (∃ v, e = .returned v) ∧
      ((∃ ys, ys = upto (backF xs) xs.length ∧ J ys W') ∨ (∃ pre, (∃ k, k ≤ xs.length ∧ pre = upto (backF xs) k) ∧ Jx pre W')) := by
  have hmax : xs.length ≤ 9223372036854775807 := hC.2.1
  have hwr : wrap64 ((xs.length : Int) - 1) = (xs.length : Int) - 1 := wrap64_id (by omega) (by omega)
  have HC := Aside0.mk hC
  have HW := Aside0.mk hW
  clear hC hW
  refine callsIn_of_wp Tryd.func71 rfl hf ?_ hro
  simp only [Tryd.ntmps71, List.size_toArray, List.length_cons, List.length_nil, Nat.reduceAdd, Nat.reduceSub, Array.replicate_succ, Array.replicate_zero, List.push_toArray, List.append_toArray, List.nil_append, List.cons_append]
  gi_wp2
  gi_loopw [3] (fun i wr => ∃ k : Nat, k ≤ xs.length ∧ i = .int .i64 ((xs.length : Int) - 1 - k) ∧ J (upto (backF xs) k) wr ∧ Aside0 (Below n₀ W wr))
    (fun i _ => (intOf i + 1).toNat)
  case atStart => exact ⟨0, Nat.zero_le _, by simp, h0, ⟨Below.refl _ _⟩⟩
  case round =>
    obtain ⟨k, hk, rfl, hJs, hnx⟩ := hrel
    have hBs' : wr.cell? ⟨Bs, 0, none⟩ = some (.slice A xs.length c) := (hnx.out.cell (p := ⟨Bs, 0, none⟩) hBn).trans hBs
    by_cases hlt : k < xs.length
    · obtain ⟨i, hi⟩ : ∃ i : Int, (xs.length : Int) - 1 - k = i := ⟨_, rfl⟩
      have hi0 : 0 ≤ i := by omega
      have hi1 : i < (xs.length : Int) := by omega
      obtain ⟨ad, hA, hx0, hx1⟩ := at_T42 (Kd.C_below HC.out (HW.out.trans (hnx.out.mono hw0))) i hi0 hi1
      subst hA
      obtain ⟨fn, tmps, assign, body, hy, hR⟩ := hY _ (backF xs k) wr hJs (by rw [upto_length]; exact hlt)
      have hbf : backF xs k = (i, rd_T42 xs i) := by unfold backF; rw [hi]
      rw [hbf] at hy
      obtain ⟨x, hx⟩ : ∃ x, rd_T42 xs i = x := ⟨_, rfl⟩
      rw [hx] at hx0 hx1 hy
      unfold encB at hy
      dsimp only at hy
      have hww : wrap64 (i - 1) = i - 1 := wrap64_id (by omega) (by omega)
      have HI := Aside0.mk hi
      rw [hi]
      clear hi
      gi_wp2
      refine hR.mono ?_
      rintro e W3 (⟨rfl, hJ3, hk3⟩ | ⟨rfl, hJx3⟩)
      · gi_wp2
        go_roundw
        case rel => exact ⟨k + 1, by omega, by rw [← HI.out]; congr 1; omega, by rw [upto_succ]; exact hJ3, ⟨hnx.out.trans hk3⟩⟩
        case measure => simp only [intOf]; omega
      · gi_wp2
        refine bodyPost_ret (results_none rfl _ _ _) rfl ?_
        exact ⟨⟨_, rfl⟩, .inr ⟨_, ⟨k + 1, by omega, (upto_succ _ _).symm⟩, hJx3⟩⟩
    · obtain rfl : k = xs.length := by omega
      have he : (xs.length : Int) - 1 - (xs.length : Nat) = -1 := by omega
      rw [he]
      gi_wp2
      go_end0
      exact ⟨⟨_, rfl⟩, .inl ⟨_, rfl, hJs⟩⟩

set_option maxHeartbeats 1000000 in
theorem back_in (F : Fence) (n : Nat) (hf : F.fn 53) (hro : F.round = none) (a : Option Addr) (len cap : Nat) (w : World) :
    CallsIn F n Tryd.prog 53 #[.slice a len cap] w fun e w' => e = .returned (.func (.func 71) #[] #[.pointer (some ⟨w.heap.size, 0, none⟩)]) ∧ w' = w.alloc (.cells #[.slice a len cap] 23) := by
  refine callsIn_of_wp Tryd.func53 rfl hf ?_ hro
  simp only [Tryd.ntmps53, List.size_toArray, List.length_cons, List.length_nil, Nat.reduceAdd, Nat.reduceSub, Array.replicate_succ, Array.replicate_zero, List.push_toArray, List.append_toArray, List.nil_append, List.cons_append]
  gi_wp2
  go_ret
  exact ⟨rfl, rfl⟩

theorem back_stops (F : Fence) (n : Nat) (hf : F.fn 71) (hro : F.round = none) (hn : 1 ≤ n) (Bs n₀ : Nat) (A : Option Addr) (c : Nat) (xs : List S42) (w0 : World) (hC : Kd.C k42 w0 A xs.length xs) (w : World) (hw : Below w0.heap.size w0 w) (hw0 : w0.heap.size ≤ n₀) (hn₀ : n₀ ≤ w.heap.size) (hBn : Bs < n₀)
    (hBs : w.cell? ⟨Bs, 0, none⟩ = some (.slice A xs.length c)) :
    SeqStopsK F n Tryd.prog 71 #[.pointer (some ⟨Bs, 0, none⟩)] encB (Below n₀) (fun ys => ys = upto (backF xs) xs.length) (fun pre => ∃ k, k ≤ xs.length ∧ pre = upto (backF xs) k) xs.length w := fun l J Jx W hW _ _ hY h0 =>
  back1_in F n hf hro hn l Bs n₀ A c xs w0 hC hw0 hBn J Jx hY W (hw.trans (hW.mono hw.size)) ((hW.cell (p := ⟨Bs, 0, none⟩) (show Bs < w.heap.size by omega)).trans hBs) h0
end Go.Proofs.YtniplmjbligmlaaDoor.Q
