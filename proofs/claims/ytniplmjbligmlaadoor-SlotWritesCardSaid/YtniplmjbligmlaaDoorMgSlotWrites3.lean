/- SlotWrites holds: the Go law answers true for every input, and leaves its arguments alone; no condition but that the listed tables of the library stand as the program's text lays them. -/
import Derived.Test.YtniplmjbligmlaaDoorMgSlotWrites2
import Derived.Test.YtniplmjbligmlaaDoorCards
import Derived.Test.YtniplmjbligmlaaDoorTie
import Derived.Test.YtniplmjbligmlaaDoorWMore
import Derived.Test.YtniplmjbligmlaaDoorMgSlotWrites0
import Derived.WalkKit
import Derived.ProofKit
import Derived.OpenShut
import Derived.ShutString
import Derived.ChangeOld
import Derived.Below
import Derived.SizedLaws
import Derived.LaidMore
import Derived.Lay
import Derived.SevenTiedAt
import Derived.Stop.Joined
/-! Layer 4: heads, read, by the program and by the reference. -/
namespace Go.Proofs.YtniplmjbligmlaaDoor.V
open Go.RowKit Go.Proofs.YtniplmjbligmlaaDoorW.PrintLast
set_option linter.unusedVariables false
set_option linter.unusedSimpArgs false
def readT (l : List UInt8) (n : Nat) : List Int := (List.range n).map fun i => ((partN l (9 + 2 * i) 2 : Nat) : Int)
theorem readT_len (l : List UInt8) (n : Nat) : (readT l n).length = n := by simp [readT]
theorem readT_succ (l : List UInt8) (n : Nat) : readT l n ++ [((partN l (9 + 2 * n) 2 : Nat) : Int)] = readT l (n + 1) := by simp [readT, List.range_succ]
def rdHead (s : ByteArray) : Int × Int × List Int × Int :=
  if headB (partN (L s) 1 6) (partN (L s) 7 1) (readT (L s) (min (partN (L s) 8 1) 40)) = true ∧ layS (headL (partN (L s) 1 6) (partN (L s) 7 1) (readT (L s) (min (partN (L s) 8 1) 40))) = s then (partN (L s) 1 6, partN (L s) 7 1, readT (L s) (min (partN (L s) 8 1) 40), 0) else (0, 0, [], 4)
section
variable {M F0 F : Nat → Prop} {w0 w : World} {B : List Box} {R : List (World → Prop)} {K : Ending → World → Prop}
theorem vstartB {P : Program} {l : List Oper} {a : Act} {Q : Exit → Act → World → Prop} (H : St M F0 w0 F B R w) {id n : Nat} (Bs : List Box) (ds : List Nat) (lb : Array Bool) (hm : P.follows .mixedOrders = true) (hn : l.toArray.size = n) (hl : Array.replicate n false = lb)
    (h : ∀ w', St M F0 w0 F B R w' → wpAnyLast P .any l.toArray Q (Cls M F0 w0 Bs R) ds n lb a w') : (Code.region id l.toArray true).wp P Q a w := vstart H (Cls M F0 w0 Bs R) ds lb hm hn hl h
set_option maxRecDepth 100000
set_option maxHeartbeats 4000000
theorem sl_slot_ReadHead (H : St M F0 w0 F B R w) {s : ByteArray} {n p e : Int} {l : List Int} (h : s.size ≤ 100000) (hr : rdHead s = (n, p, l, e)) (k : ∀ Fx w' A' c', Cap l.length c' → St M F0 w0 Fx B (rdc (Kd.int .i64) A' l :: R) w' → K (.returned (.tuple #[.agg #[.int .i64 n, .int .i64 p, .slice A' l.length c'], .int .i64 e])) w') : Calls Tryd.prog 44 #[.string s] w K := by
  refine St.fn0 H (R0 := []) no_mem (fun H => ?_)
  refine sx_enter Tryd.func44 Tryd.ntmps44 rfl rfl (fun a A => ?_)
  unfold rdHead at hr
  obtain ⟨r0, h0⟩ : ∃ r, partN (L s) 0 1 = r := ⟨_, rfl⟩
  obtain ⟨r1, h1⟩ : ∃ r, partN (L s) 1 6 = r := ⟨_, rfl⟩
  obtain ⟨r2, h2⟩ : ∃ r, partN (L s) 7 1 = r := ⟨_, rfl⟩
  obtain ⟨r3, h3⟩ : ∃ r, partN (L s) 8 1 = r := ⟨_, rfl⟩
  obtain ⟨m, hm⟩ : ∃ m, min r3 40 = m := ⟨_, rfl⟩
  obtain ⟨ts, hts⟩ : ∃ ts, readT (L s) m = ts := ⟨_, rfl⟩
  have htl : ts.length = m := by rw [← hts, readT_len]
  rw [h1, h2, h3, hm, hts] at hr
  have hmz : min (r3 : Int) 40 = (m : Int) := by omega
  have hm40 : m ≤ 40 := by omega
  repeat' (first
    | ((with_reducible refine g_dst 13 ?_); refine sx_callv (f := 68) A rfl rfl Tryd.call68 rfl rfl rfl ?_; refine sl_slot_next (size := 1) (at_ := 0) (z := 0) (z' := 1) H (by omega) (by omega) (by omega) (by omega) rfl rfl rfl h0 ?_; clear H; intro F_ w_ H; refine ⟨_, rfl, ?_⟩; clear A; intro a A)
    | ((with_reducible refine g_dst 15 ?_); refine sx_callv (f := 68) A rfl rfl Tryd.call68 rfl rfl rfl ?_; refine sl_slot_next (size := 6) (at_ := 1) (z := 1) (z' := 7) H (by omega) (by omega) (by omega) (by omega) rfl rfl rfl h1 ?_; clear H; intro F_ w_ H; refine ⟨_, rfl, ?_⟩; clear A; intro a A)
    | ((with_reducible refine g_dst 18 ?_); refine sx_callv (f := 68) A rfl rfl Tryd.call68 rfl rfl rfl ?_; refine sl_slot_next (size := 1) (at_ := 7) (z := 7) (z' := 8) H (by omega) (by omega) (by omega) (by omega) rfl rfl rfl h2 ?_; clear H; intro F_ w_ H; refine ⟨_, rfl, ?_⟩; clear A; intro a A)
    | ((with_reducible refine g_dst 21 ?_); refine sx_callv (f := 68) A rfl rfl Tryd.call68 rfl rfl rfl ?_; refine sl_slot_next (size := 1) (at_ := 8) (z := 8) (z' := ((9 + 2 * 0 : Nat) : Int)) H (by omega) (by omega) (by omega) (by omega) rfl rfl rfl h3 ?_; clear H; intro F_ w_ H; refine ⟨_, rfl, ?_⟩; clear A; intro a A)
    | with_reducible refine wp_seq ?_
    | with_reducible refine sx_region ?_
    | with_reducible refine wp_block ?_
    | with_reducible refine wpList_nil ?_
    | with_reducible refine sx_then ?_
    | with_reducible refine sx_inb ?_
    | with_reducible refine wp_skip ?_
    | with_reducible refine wp_ret ?_
    | with_reducible refine wp_exit ?_
    | with_reducible refine sx_then_ret ?_
    | with_reducible refine sx_inb_ret ?_
    | with_reducible refine sx_then_exit ?_
    | with_reducible refine sx_inb_exit ?_
    | with_reducible refine sx_inb_other rfl ?_
    | with_reducible refine sx_if_t A rfl ?_
    | with_reducible refine sx_if_f A rfl ?_
    | ((with_reducible refine sx_at ?_); first
      | (refine sx_pure A tbOk rfl rfl rfl ?_; clear A; intro a A)
      | (refine sx_skip A rfl rfl ?_; clear A; intro a A)
      | ((with_reducible refine g_bin ?_); first | ((refine g_int A rfl ?_); first | (refine sx_cmp A rfl rfl rfl rfl ?_; clear A; intro a A) | (refine sx_arith A rfl rfl rfl rfl ?_; clear A; intro a A) | (refine sx_shl A rfl rfl rfl rfl ?_; clear A; intro a A) | (refine sx_shr A rfl rfl rfl rfl ?_; clear A; intro a A)) | ((refine g_str A rfl ?_); first | (refine sx_scmp A rfl rfl rfl rfl ?_; clear A; intro a A) | (refine sx_concat A rfl rfl rfl rfl ?_; clear A; intro a A)))
      | ((with_reducible refine g_load ?_); first | (refine sx_load_all H A tbOk rfl rfl rfl rfl rfl ?_; clear A; intro a A) | (refine sx_load H A tbOk rfl rfl rfl rfl ?_; clear A; intro a A))
      | ((with_reducible refine g_store ?_); refine sx_store H A tbOk rfl rfl rfl rfl ?_; clear H; intro w_ H)
      | ((with_reducible refine g_box ?_); refine sx_box H A rfl rfl rfl ?_; clear H A; intro b_ a w_ A H)
      | ((with_reducible refine g_alloc ?_); refine sx_alloc H A tbOk rfl rfl rfl ?_; clear H A; intro b_ a w_ A H)
      | ((with_reducible refine g_build ?_); refine sx_build A tbOk rfl rfl rfl rfl rfl rfl ?_; clear A; intro a A)
      | ((with_reducible refine g_builtin ?_); first | (refine sx_min A rfl rfl rfl rfl ?_; clear A; intro a A) | (refine sx_max A rfl rfl rfl rfl ?_; clear A; intro a A))
      | ((with_reducible refine g_slice ?_); first | (refine sx_sstr A tbOk rfl rfl rfl rfl rfl rfl ?_; clear A; intro a A) | (refine sx_cut H A tbOk rfl rfl rfl rfl rfl rfl rfl ?_; clear A H; intro A_ c_ a hc_ A H))
      | ((with_reducible refine g_index ?_); refine sx_sidx A tbOk rfl rfl rfl rfl rfl ?_; clear A; intro a A)
      | ((with_reducible refine g_idx ?_); first | (refine sx_idx H A tbOk rfl rfl rfl rfl rfl rfl ?_; clear A; intro a A) | (refine sx_oidx H A tbOk rfl rfl rfl rfl rfl rfl ?_; clear A; intro a A))
      | ((with_reducible refine g_conv ?_); refine sx_conv A tbOk rfl rfl rfl rfl rfl ?_; clear A; intro a A)
      )
    | ((with_reducible refine g_draw ?_); refine qx_region H (by kernel_rfl) (by kernel_rfl) ?_)
    | ((with_reducible refine qx_nil ?_); clear H; intro w_ F_ H)
    | ((with_reducible refine q_at ?_); first
      | (refine qx_pure A tbOk rfl rfl rfl ?_; clear A; intro a A)
      | (refine qx_skip A rfl rfl ?_; clear A; intro a A)
      | ((with_reducible refine qg_bin ?_); first | ((refine qg_int A rfl ?_); first | (refine qx_cmp A rfl rfl rfl rfl ?_; clear A; intro a A) | (refine qx_arith A rfl rfl rfl rfl ?_; clear A; intro a A)) | ((refine qg_str A rfl ?_); first | (refine qx_scmp A rfl rfl rfl rfl ?_; clear A; intro a A) | (refine qx_concat A rfl rfl rfl rfl ?_; clear A; intro a A)))
      | ((with_reducible refine qg_builtin ?_); first | (refine qx_min A rfl rfl rfl rfl ?_; clear A; intro a A) | (refine qx_max A rfl rfl rfl rfl ?_; clear A; intro a A))
      | ((with_reducible refine qg_slice ?_); refine qx_sstr A tbOk rfl rfl rfl rfl rfl rfl ?_; clear A; intro a A)
      | ((with_reducible refine qg_load ?_); refine qx_load A tbOk rfl rfl rfl rfl ?_; clear A; intro a A)
      | ((with_reducible refine qg_idx ?_); first | (refine qx_idx H A tbOk rfl rfl rfl rfl rfl rfl ?_; clear A; intro a A) | (refine qx_oidx H A tbOk rfl rfl rfl rfl rfl rfl ?_; clear A; intro a A)))
    )
  have Hn := H.nilrow (Kd.int .i64) 3
  clear H
  refine sx_rounds (ι := Nat × Option Addr × Nat) (fun x => x.1 ≤ m) (fun x => [(23, .int .i64 (x.1 : Int)), (22, _), (4, _), (5, _), (2, _), (0, _), (3, _)]) (fun x => [.row (Kd.int .i64) _ x.2.1 x.2.2 (readT (L s) x.1), .mk _ _ [.string s, .int .i64 ((9 + 2 * x.1 : Nat) : Int)], .mk _ _ [.int .i64 (r1 : Int), .int .i64 (r2 : Int), .slice x.2.1 x.1 x.2.2], _]) (fun _ => []) (fun x => m - x.1) (0, none, 0) Hn A.subs (Nat.zero_le _) (fun x F a W hi H A => ?_)
  obtain ⟨i, Ai, ci⟩ := x
  dsimp only at hi H A
  have hln := readT_len (L s) i
  rcases Nat.lt_or_ge i m with hlt | hge
  · obtain ⟨ri, hri⟩ : ∃ r, partN (L s) (9 + 2 * i) 2 = r := ⟨_, rfl⟩
    have hsu := readT_succ (L s) i
    rw [hri] at hsu
    have hln2 := readT_len (L s) (i + 1)
    repeat' (first
    | ((with_reducible refine g_draw ?_); refine vstartB H [.mk b_ 52 [.int .i64 (r1 : Int), .int .i64 (r2 : Int), .slice Ai i ci]] [7] #[false, false, false, false, false, false, false, false] (by kernel_rfl) rfl rfl (fun w_ H => ?_))
    | with_reducible refine wp_seq ?_
    | with_reducible refine sx_region ?_
    | with_reducible refine wp_block ?_
    | with_reducible refine wpList_nil ?_
    | with_reducible refine sx_then ?_
    | with_reducible refine sx_inb ?_
    | with_reducible refine wp_skip ?_
    | with_reducible refine wp_ret ?_
    | with_reducible refine wp_exit ?_
    | with_reducible refine sx_then_ret ?_
    | with_reducible refine sx_inb_ret ?_
    | with_reducible refine sx_then_exit ?_
    | with_reducible refine sx_inb_exit ?_
    | with_reducible refine sx_inb_other rfl ?_
    | with_reducible refine sx_if_t A rfl ?_
    | with_reducible refine sx_if_f A rfl ?_
    | ((with_reducible refine sx_at ?_); first
      | (refine sx_pure A tbOk rfl rfl rfl ?_; clear A; intro a A)
      | (refine sx_skip A rfl rfl ?_; clear A; intro a A)
      | ((with_reducible refine g_bin ?_); first | ((refine g_int A rfl ?_); first | (refine sx_cmp A rfl rfl rfl rfl ?_; clear A; intro a A) | (refine sx_arith A rfl rfl rfl rfl ?_; clear A; intro a A) | (refine sx_shl A rfl rfl rfl rfl ?_; clear A; intro a A) | (refine sx_shr A rfl rfl rfl rfl ?_; clear A; intro a A)) | ((refine g_str A rfl ?_); first | (refine sx_scmp A rfl rfl rfl rfl ?_; clear A; intro a A) | (refine sx_concat A rfl rfl rfl rfl ?_; clear A; intro a A)))
      | ((with_reducible refine g_load ?_); first | (refine sx_load_all H A tbOk rfl rfl rfl rfl rfl ?_; clear A; intro a A) | (refine sx_load H A tbOk rfl rfl rfl rfl ?_; clear A; intro a A))
      | ((with_reducible refine g_store ?_); refine sx_store H A tbOk rfl rfl rfl rfl ?_; clear H; intro w_ H)
      | ((with_reducible refine g_box ?_); refine sx_box H A rfl rfl rfl ?_; clear H A; intro b_ a w_ A H)
      | ((with_reducible refine g_alloc ?_); refine sx_alloc H A tbOk rfl rfl rfl ?_; clear H A; intro b_ a w_ A H)
      | ((with_reducible refine g_build ?_); refine sx_build A tbOk rfl rfl rfl rfl rfl rfl ?_; clear A; intro a A)
      | ((with_reducible refine g_builtin ?_); first | (refine sx_min A rfl rfl rfl rfl ?_; clear A; intro a A) | (refine sx_max A rfl rfl rfl rfl ?_; clear A; intro a A))
      | ((with_reducible refine g_slice ?_); first | (refine sx_sstr A tbOk rfl rfl rfl rfl rfl rfl ?_; clear A; intro a A) | (refine sx_cut H A tbOk rfl rfl rfl rfl rfl rfl rfl ?_; clear A H; intro A_ c_ a hc_ A H))
      | ((with_reducible refine g_index ?_); refine sx_sidx A tbOk rfl rfl rfl rfl rfl ?_; clear A; intro a A)
      | ((with_reducible refine g_idx ?_); first | (refine sx_idx H A tbOk rfl rfl rfl rfl rfl rfl ?_; clear A; intro a A) | (refine sx_oidx H A tbOk rfl rfl rfl rfl rfl rfl ?_; clear A; intro a A))
      | ((with_reducible refine g_conv ?_); refine sx_conv A tbOk rfl rfl rfl rfl rfl ?_; clear A; intro a A)
      )
    | ((with_reducible refine g_draw ?_); refine qx_region H (by kernel_rfl) (by kernel_rfl) ?_)
    | ((with_reducible refine qx_nil ?_); clear H; intro w_ F_ H)
    | ((with_reducible refine q_at ?_); first
      | (refine qx_pure A tbOk rfl rfl rfl ?_; clear A; intro a A)
      | (refine qx_skip A rfl rfl ?_; clear A; intro a A)
      | ((with_reducible refine qg_bin ?_); first | ((refine qg_int A rfl ?_); first | (refine qx_cmp A rfl rfl rfl rfl ?_; clear A; intro a A) | (refine qx_arith A rfl rfl rfl rfl ?_; clear A; intro a A)) | ((refine qg_str A rfl ?_); first | (refine qx_scmp A rfl rfl rfl rfl ?_; clear A; intro a A) | (refine qx_concat A rfl rfl rfl rfl ?_; clear A; intro a A)))
      | ((with_reducible refine qg_builtin ?_); first | (refine qx_min A rfl rfl rfl rfl ?_; clear A; intro a A) | (refine qx_max A rfl rfl rfl rfl ?_; clear A; intro a A))
      | ((with_reducible refine qg_slice ?_); refine qx_sstr A tbOk rfl rfl rfl rfl rfl rfl ?_; clear A; intro a A)
      | ((with_reducible refine qg_load ?_); refine qx_load A tbOk rfl rfl rfl rfl ?_; clear A; intro a A)
      | ((with_reducible refine qg_idx ?_); first | (refine qx_idx H A tbOk rfl rfl rfl rfl rfl rfl ?_; clear A; intro a A) | (refine qx_oidx H A tbOk rfl rfl rfl rfl rfl rfl ?_; clear A; intro a A)))
    )
    refine vp A tbOk 0 #[true, false, false, false, false, false, false, false] rfl (by kernel_rfl) (fun _ _ _ _ h => h) rfl rfl rfl rfl ?_; clear A; intro a A
    refine vload H.sel A tbOk 1 #[true, true, false, false, false, false, false, false] rfl (by kernel_rfl) (fun _ _ _ _ h => h) rfl rfl rfl rfl ?_; clear A; intro a A
    refine vp A tbOk 2 #[true, true, true, false, false, false, false, false] rfl (by kernel_rfl) (fun _ _ _ _ h => h) rfl rfl rfl rfl ?_; clear A; intro a A
    refine vone #[true, true, true, true, false, false, false, false] (i := 3) rfl (by kernel_rfl) ?_
    refine sx_callv (f := 68) A rfl rfl Tryd.call68 rfl rfl rfl ?_; refine sl_slot_next (size := 2) (at_ := 9 + 2 * i) (z := ((9 + 2 * i : Nat) : Int)) (z' := ((9 + 2 * (i + 1) : Nat) : Int)) H (by omega) (by omega) (by omega) (by omega) rfl rfl (by omega) hri ?_; clear H; intro F_ w_ H; refine ⟨_, rfl, ?_⟩; clear A; intro a A
    refine wpList_nil ?_
    refine ⟨fun hn => ⟨_, H.sel⟩, ?_⟩
    refine vone #[true, true, true, true, true, false, false, false] (i := 4) rfl (by kernel_rfl) ?_
    refine sx_lit (dk := Kd.int .i64) (ys := [_]) H A tbOk rfl rfl rfl rfl rfl rfl (.cons (mk_scalar _) .nil) ?_; clear H A; intro b2 a w_ A H
    refine wpList_nil ?_
    refine ⟨fun hn => ⟨_, H.sel⟩, ?_⟩
    refine vone #[true, true, true, true, true, true, false, false] (i := 5) rfl (by kernel_rfl) ?_
    refine sx_appendL (dk := Kd.int .i64) H A tbOk rfl rfl rfl rfl rfl rfl rfl rfl rfl ?_ (hn := hln.symm) (hb := by rw [hln]; simp only [List.length_cons, List.length_nil]; omega) (h63 := by rw [hln]; simp only [List.length_cons, List.length_nil]; omega); clear A H; intro A1 c1 a w_ A H; rw [hsu] at H A; rw [hln2] at A
    refine wpList_nil ?_
    refine ⟨fun hn => ⟨_, H.sel⟩, ?_⟩
    refine vp A tbOk 6 #[true, true, true, true, true, true, true, false] rfl (by kernel_rfl) (fun _ _ _ _ h => h) rfl rfl rfl rfl ?_; clear A; intro a A
    refine vone #[true, true, true, true, true, true, true, true] (i := 7) rfl (by kernel_rfl) ?_
    refine sx_store H A tbOk rfl rfl rfl rfl ?_; clear H; intro w_ H
    refine wpList_nil ?_
    refine ⟨fun hn => absurd (by decide) hn, ?_⟩
    refine vdone (by kernel_rfl) ?_
    repeat' (first
    | with_reducible refine wp_seq ?_
    | with_reducible refine sx_region ?_
    | with_reducible refine wp_block ?_
    | with_reducible refine wpList_nil ?_
    | with_reducible refine sx_then ?_
    | with_reducible refine sx_inb ?_
    | with_reducible refine wp_skip ?_
    | with_reducible refine wp_ret ?_
    | with_reducible refine wp_exit ?_
    | with_reducible refine sx_then_ret ?_
    | with_reducible refine sx_inb_ret ?_
    | with_reducible refine sx_then_exit ?_
    | with_reducible refine sx_inb_exit ?_
    | with_reducible refine sx_inb_other rfl ?_
    | with_reducible refine sx_if_t A rfl ?_
    | with_reducible refine sx_if_f A rfl ?_
    | ((with_reducible refine sx_at ?_); first
      | (refine sx_pure A tbOk rfl rfl rfl ?_; clear A; intro a A)
      | (refine sx_skip A rfl rfl ?_; clear A; intro a A)
      | ((with_reducible refine g_bin ?_); first | ((refine g_int A rfl ?_); first | (refine sx_cmp A rfl rfl rfl rfl ?_; clear A; intro a A) | (refine sx_arith A rfl rfl rfl rfl ?_; clear A; intro a A) | (refine sx_shl A rfl rfl rfl rfl ?_; clear A; intro a A) | (refine sx_shr A rfl rfl rfl rfl ?_; clear A; intro a A)) | ((refine g_str A rfl ?_); first | (refine sx_scmp A rfl rfl rfl rfl ?_; clear A; intro a A) | (refine sx_concat A rfl rfl rfl rfl ?_; clear A; intro a A)))
      | ((with_reducible refine g_load ?_); first | (refine sx_load_all H A tbOk rfl rfl rfl rfl rfl ?_; clear A; intro a A) | (refine sx_load H A tbOk rfl rfl rfl rfl ?_; clear A; intro a A))
      | ((with_reducible refine g_store ?_); refine sx_store H A tbOk rfl rfl rfl rfl ?_; clear H; intro w_ H)
      | ((with_reducible refine g_box ?_); refine sx_box H A rfl rfl rfl ?_; clear H A; intro b_ a w_ A H)
      | ((with_reducible refine g_alloc ?_); refine sx_alloc H A tbOk rfl rfl rfl ?_; clear H A; intro b_ a w_ A H)
      | ((with_reducible refine g_build ?_); refine sx_build A tbOk rfl rfl rfl rfl rfl rfl ?_; clear A; intro a A)
      | ((with_reducible refine g_builtin ?_); first | (refine sx_min A rfl rfl rfl rfl ?_; clear A; intro a A) | (refine sx_max A rfl rfl rfl rfl ?_; clear A; intro a A))
      | ((with_reducible refine g_slice ?_); first | (refine sx_sstr A tbOk rfl rfl rfl rfl rfl rfl ?_; clear A; intro a A) | (refine sx_cut H A tbOk rfl rfl rfl rfl rfl rfl rfl ?_; clear A H; intro A_ c_ a hc_ A H))
      | ((with_reducible refine g_index ?_); refine sx_sidx A tbOk rfl rfl rfl rfl rfl ?_; clear A; intro a A)
      | ((with_reducible refine g_idx ?_); first | (refine sx_idx H A tbOk rfl rfl rfl rfl rfl rfl ?_; clear A; intro a A) | (refine sx_oidx H A tbOk rfl rfl rfl rfl rfl rfl ?_; clear A; intro a A))
      | ((with_reducible refine g_conv ?_); refine sx_conv A tbOk rfl rfl rfl rfl rfl ?_; clear A; intro a A)
      )
    | ((with_reducible refine g_draw ?_); refine qx_region H (by kernel_rfl) (by kernel_rfl) ?_)
    | ((with_reducible refine qx_nil ?_); clear H; intro w_ F_ H)
    | ((with_reducible refine q_at ?_); first
      | (refine qx_pure A tbOk rfl rfl rfl ?_; clear A; intro a A)
      | (refine qx_skip A rfl rfl ?_; clear A; intro a A)
      | ((with_reducible refine qg_bin ?_); first | ((refine qg_int A rfl ?_); first | (refine qx_cmp A rfl rfl rfl rfl ?_; clear A; intro a A) | (refine qx_arith A rfl rfl rfl rfl ?_; clear A; intro a A)) | ((refine qg_str A rfl ?_); first | (refine qx_scmp A rfl rfl rfl rfl ?_; clear A; intro a A) | (refine qx_concat A rfl rfl rfl rfl ?_; clear A; intro a A)))
      | ((with_reducible refine qg_builtin ?_); first | (refine qx_min A rfl rfl rfl rfl ?_; clear A; intro a A) | (refine qx_max A rfl rfl rfl rfl ?_; clear A; intro a A))
      | ((with_reducible refine qg_slice ?_); refine qx_sstr A tbOk rfl rfl rfl rfl rfl rfl ?_; clear A; intro a A)
      | ((with_reducible refine qg_load ?_); refine qx_load A tbOk rfl rfl rfl rfl ?_; clear A; intro a A)
      | ((with_reducible refine qg_idx ?_); first | (refine qx_idx H A tbOk rfl rfl rfl rfl rfl rfl ?_; clear A; intro a A) | (refine qx_oidx H A tbOk rfl rfl rfl rfl rfl rfl ?_; clear A; intro a A)))
    )
    exact ⟨(i + 1, A1, c1), _, by (show i + 1 ≤ m); omega, by (show m - (i + 1) < m - i); omega, H.sel, A.subs⟩
  · obtain rfl : i = ts.length := by omega
    have hts2 : readT (L s) ts.length = ts := by rw [htl]; exact hts
    rw [hts2] at H
    obtain ⟨hcp, F2, _, H2⟩ := H.freeze_row Del.hd
    clear H
    have H := H2
    clear H2
    have hq : ∃ q y, (if headB r1 r2 ts then (layS (headL r1 r2 ts), (0 : Int)) else (⟨#[]⟩, 1)) = (q, y) ∧ ((y = 0 ∧ q = s ∧ n = r1 ∧ p = r2 ∧ l = ts ∧ e = 0) ∨ (y = 0 ∧ q ≠ s ∧ n = 0 ∧ p = 0 ∧ l = [] ∧ e = 4) ∨ (y = 1 ∧ n = 0 ∧ p = 0 ∧ l = [] ∧ e = 4)) := by
      cases hE : headB r1 r2 ts
      · rw [hE] at hr
        simp only [Bool.false_eq_true, false_and, if_false] at hr
        injection hr with q1 q2; injection q2 with q2 q3; injection q3 with q3 q4
        exact ⟨_, _, rfl, .inr (.inr ⟨rfl, q1.symm, q2.symm, q3.symm, q4.symm⟩)⟩
      · rw [hE] at hr
        refine ⟨_, _, rfl, ?_⟩
        by_cases hs : layS (headL r1 r2 ts) = s
        · rw [if_pos ⟨rfl, hs⟩] at hr
          injection hr with q1 q2; injection q2 with q2 q3; injection q3 with q3 q4
          exact .inl ⟨rfl, hs, q1.symm, q2.symm, q3.symm, q4.symm⟩
        · rw [if_neg (fun h => hs h.2)] at hr
          injection hr with q1 q2; injection q2 with q2 q3; injection q3 with q3 q4
          exact .inr (.inl ⟨rfl, hs, q1.symm, q2.symm, q3.symm, q4.symm⟩)
    obtain ⟨q, y, hS, hq⟩ := hq
    clear hr
    rcases hq with ⟨rfl, rfl, rfl, rfl, rfl, rfl⟩ | ⟨rfl, hne, rfl, rfl, rfl, rfl⟩ | ⟨rfl, rfl, rfl, rfl, rfl⟩
    all_goals repeat' (first
    | ((with_reducible refine g_call ?_); refine sx_call (f := 27) A rfl Tryd.call27 rfl rfl ?_; refine sl_slot_Head H (by omega) hS ?_; clear H; intro F_ w_ H; refine ⟨_, rfl, ?_⟩; clear A; intro a A)
    | (refine sx_ret tbOk H A rfl ?_; first | exact H.retR (ps := [_]) fun Fx Hx => k Fx _ _ _ (by assumption) Hx | exact (H.fact (fun W _ => rdc_nil (Kd.int .i64) none W)).retR (ps := [_]) fun Fx Hx => k Fx _ _ _ ⟨Nat.le_refl _⟩ Hx)
    | with_reducible refine wp_seq ?_
    | with_reducible refine sx_region ?_
    | with_reducible refine wp_block ?_
    | with_reducible refine wpList_nil ?_
    | with_reducible refine sx_then ?_
    | with_reducible refine sx_inb ?_
    | with_reducible refine wp_skip ?_
    | with_reducible refine wp_ret ?_
    | with_reducible refine wp_exit ?_
    | with_reducible refine sx_then_ret ?_
    | with_reducible refine sx_inb_ret ?_
    | with_reducible refine sx_then_exit ?_
    | with_reducible refine sx_inb_exit ?_
    | with_reducible refine sx_inb_other rfl ?_
    | with_reducible refine sx_if_t A rfl ?_
    | with_reducible refine sx_if_f A rfl ?_
    | ((with_reducible refine sx_at ?_); first
      | (refine sx_pure A tbOk rfl rfl rfl ?_; clear A; intro a A)
      | (refine sx_skip A rfl rfl ?_; clear A; intro a A)
      | ((with_reducible refine g_bin ?_); first | ((refine g_int A rfl ?_); first | (refine sx_cmp A rfl rfl rfl rfl ?_; clear A; intro a A) | (refine sx_arith A rfl rfl rfl rfl ?_; clear A; intro a A) | (refine sx_shl A rfl rfl rfl rfl ?_; clear A; intro a A) | (refine sx_shr A rfl rfl rfl rfl ?_; clear A; intro a A)) | ((refine g_str A rfl ?_); first | (refine sx_scmp A rfl rfl rfl rfl ?_; clear A; intro a A) | (refine sx_concat A rfl rfl rfl rfl ?_; clear A; intro a A)))
      | ((with_reducible refine g_load ?_); first | (refine sx_load_all H A tbOk rfl rfl rfl rfl rfl ?_; clear A; intro a A) | (refine sx_load H A tbOk rfl rfl rfl rfl ?_; clear A; intro a A))
      | ((with_reducible refine g_store ?_); refine sx_store H A tbOk rfl rfl rfl rfl ?_; clear H; intro w_ H)
      | ((with_reducible refine g_box ?_); refine sx_box H A rfl rfl rfl ?_; clear H A; intro b_ a w_ A H)
      | ((with_reducible refine g_alloc ?_); refine sx_alloc H A tbOk rfl rfl rfl ?_; clear H A; intro b_ a w_ A H)
      | ((with_reducible refine g_build ?_); refine sx_build A tbOk rfl rfl rfl rfl rfl rfl ?_; clear A; intro a A)
      | ((with_reducible refine g_builtin ?_); first | (refine sx_min A rfl rfl rfl rfl ?_; clear A; intro a A) | (refine sx_max A rfl rfl rfl rfl ?_; clear A; intro a A))
      | ((with_reducible refine g_slice ?_); first | (refine sx_sstr A tbOk rfl rfl rfl rfl rfl rfl ?_; clear A; intro a A) | (refine sx_cut H A tbOk rfl rfl rfl rfl rfl rfl rfl ?_; clear A H; intro A_ c_ a hc_ A H))
      | ((with_reducible refine g_index ?_); refine sx_sidx A tbOk rfl rfl rfl rfl rfl ?_; clear A; intro a A)
      | ((with_reducible refine g_idx ?_); first | (refine sx_idx H A tbOk rfl rfl rfl rfl rfl rfl ?_; clear A; intro a A) | (refine sx_oidx H A tbOk rfl rfl rfl rfl rfl rfl ?_; clear A; intro a A))
      | ((with_reducible refine g_conv ?_); refine sx_conv A tbOk rfl rfl rfl rfl rfl ?_; clear A; intro a A)
      )
    | ((with_reducible refine g_draw ?_); refine qx_region H (by kernel_rfl) (by kernel_rfl) ?_)
    | ((with_reducible refine qx_nil ?_); clear H; intro w_ F_ H)
    | ((with_reducible refine q_at ?_); first
      | (refine qx_pure A tbOk rfl rfl rfl ?_; clear A; intro a A)
      | (refine qx_skip A rfl rfl ?_; clear A; intro a A)
      | ((with_reducible refine qg_bin ?_); first | ((refine qg_int A rfl ?_); first | (refine qx_cmp A rfl rfl rfl rfl ?_; clear A; intro a A) | (refine qx_arith A rfl rfl rfl rfl ?_; clear A; intro a A)) | ((refine qg_str A rfl ?_); first | (refine qx_scmp A rfl rfl rfl rfl ?_; clear A; intro a A) | (refine qx_concat A rfl rfl rfl rfl ?_; clear A; intro a A)))
      | ((with_reducible refine qg_builtin ?_); first | (refine qx_min A rfl rfl rfl rfl ?_; clear A; intro a A) | (refine qx_max A rfl rfl rfl rfl ?_; clear A; intro a A))
      | ((with_reducible refine qg_slice ?_); refine qx_sstr A tbOk rfl rfl rfl rfl rfl rfl ?_; clear A; intro a A)
      | ((with_reducible refine qg_load ?_); refine qx_load A tbOk rfl rfl rfl rfl ?_; clear A; intro a A)
      | ((with_reducible refine qg_idx ?_); first | (refine qx_idx H A tbOk rfl rfl rfl rfl rfl rfl ?_; clear A; intro a A) | (refine qx_oidx H A tbOk rfl rfl rfl rfl rfl rfl ?_; clear A; intro a A)))
    )
theorem sl_ref04_ReadHead (H : St M F0 w0 F B R w) {s : ByteArray} {n p e : Int} {l : List Int} (h : s.size ≤ 100000) (hr : rdHead s = (n, p, l, e)) (k : ∀ Fx w' A' c', Cap l.length c' → St M F0 w0 Fx B (rdc (Kd.int .i64) A' l :: R) w' → K (.returned (.tuple #[.agg #[.int .i64 n, .int .i64 p, .slice A' l.length c'], .int .i64 e])) w') : Calls Tryd.prog 45 #[.string s] w K := by
  refine St.fn0 H (R0 := []) no_mem (fun H => ?_)
  refine sx_enter Tryd.func45 Tryd.ntmps45 rfl rfl (fun a A => ?_)
  unfold rdHead at hr
  obtain ⟨r1, h1⟩ : ∃ r, partN (L s) 1 6 = r := ⟨_, rfl⟩
  obtain ⟨r2, h2⟩ : ∃ r, partN (L s) 7 1 = r := ⟨_, rfl⟩
  obtain ⟨r3, h3⟩ : ∃ r, partN (L s) 8 1 = r := ⟨_, rfl⟩
  obtain ⟨m, hm⟩ : ∃ m, min r3 40 = m := ⟨_, rfl⟩
  obtain ⟨ts, hts⟩ : ∃ ts, readT (L s) m = ts := ⟨_, rfl⟩
  have htl : ts.length = m := by rw [← hts, readT_len]
  rw [h1, h2, h3, hm, hts] at hr
  have hm40 : m ≤ 40 := by omega
  repeat' (first
    | ((with_reducible refine g_dst 8 ?_); refine sx_call (f := 69) A rfl Tryd.call69 rfl rfl ?_; refine sl_ref04_part (at_ := 1) (size := 6) H (by omega) (by omega) (by omega) rfl rfl h1 ?_; clear H; intro F_ w_ H; refine ⟨_, rfl, ?_⟩; clear A; intro a A)
    | ((with_reducible refine g_dst 10 ?_); refine sx_call (f := 69) A rfl Tryd.call69 rfl rfl ?_; refine sl_ref04_part (at_ := 7) (size := 1) H (by omega) (by omega) (by omega) rfl rfl h2 ?_; clear H; intro F_ w_ H; refine ⟨_, rfl, ?_⟩; clear A; intro a A)
    | ((with_reducible refine g_dst 13 ?_); refine sx_call (f := 69) A rfl Tryd.call69 rfl rfl ?_; refine sl_ref04_part (at_ := 8) (size := 1) H (by omega) (by omega) (by omega) rfl rfl h3 ?_; clear H; intro F_ w_ H; refine ⟨_, rfl, ?_⟩; clear A; intro a A)
    | with_reducible refine wp_seq ?_
    | with_reducible refine sx_region ?_
    | with_reducible refine wp_block ?_
    | with_reducible refine wpList_nil ?_
    | with_reducible refine sx_then ?_
    | with_reducible refine sx_inb ?_
    | with_reducible refine wp_skip ?_
    | with_reducible refine wp_ret ?_
    | with_reducible refine wp_exit ?_
    | with_reducible refine sx_then_ret ?_
    | with_reducible refine sx_inb_ret ?_
    | with_reducible refine sx_then_exit ?_
    | with_reducible refine sx_inb_exit ?_
    | with_reducible refine sx_inb_other rfl ?_
    | with_reducible refine sx_if_t A rfl ?_
    | with_reducible refine sx_if_f A rfl ?_
    | ((with_reducible refine sx_at ?_); first
      | (refine sx_pure A tbOk rfl rfl rfl ?_; clear A; intro a A)
      | (refine sx_skip A rfl rfl ?_; clear A; intro a A)
      | ((with_reducible refine g_bin ?_); first | ((refine g_int A rfl ?_); first | (refine sx_cmp A rfl rfl rfl rfl ?_; clear A; intro a A) | (refine sx_arith A rfl rfl rfl rfl ?_; clear A; intro a A) | (refine sx_shl A rfl rfl rfl rfl ?_; clear A; intro a A) | (refine sx_shr A rfl rfl rfl rfl ?_; clear A; intro a A)) | ((refine g_str A rfl ?_); first | (refine sx_scmp A rfl rfl rfl rfl ?_; clear A; intro a A) | (refine sx_concat A rfl rfl rfl rfl ?_; clear A; intro a A)))
      | ((with_reducible refine g_load ?_); first | (refine sx_load_all H A tbOk rfl rfl rfl rfl rfl ?_; clear A; intro a A) | (refine sx_load H A tbOk rfl rfl rfl rfl ?_; clear A; intro a A))
      | ((with_reducible refine g_store ?_); refine sx_store H A tbOk rfl rfl rfl rfl ?_; clear H; intro w_ H)
      | ((with_reducible refine g_box ?_); refine sx_box H A rfl rfl rfl ?_; clear H A; intro b_ a w_ A H)
      | ((with_reducible refine g_alloc ?_); refine sx_alloc H A tbOk rfl rfl rfl ?_; clear H A; intro b_ a w_ A H)
      | ((with_reducible refine g_build ?_); refine sx_build A tbOk rfl rfl rfl rfl rfl rfl ?_; clear A; intro a A)
      | ((with_reducible refine g_builtin ?_); first | (refine sx_min A rfl rfl rfl rfl ?_; clear A; intro a A) | (refine sx_max A rfl rfl rfl rfl ?_; clear A; intro a A))
      | ((with_reducible refine g_slice ?_); first | (refine sx_sstr A tbOk rfl rfl rfl rfl rfl rfl ?_; clear A; intro a A) | (refine sx_cut H A tbOk rfl rfl rfl rfl rfl rfl rfl ?_; clear A H; intro A_ c_ a hc_ A H))
      | ((with_reducible refine g_index ?_); refine sx_sidx A tbOk rfl rfl rfl rfl rfl ?_; clear A; intro a A)
      | ((with_reducible refine g_idx ?_); first | (refine sx_idx H A tbOk rfl rfl rfl rfl rfl rfl ?_; clear A; intro a A) | (refine sx_oidx H A tbOk rfl rfl rfl rfl rfl rfl ?_; clear A; intro a A))
      | ((with_reducible refine g_conv ?_); refine sx_conv A tbOk rfl rfl rfl rfl rfl ?_; clear A; intro a A)
      )
    | ((with_reducible refine g_draw ?_); refine qx_region H (by kernel_rfl) (by kernel_rfl) ?_)
    | ((with_reducible refine qx_nil ?_); clear H; intro w_ F_ H)
    | ((with_reducible refine q_at ?_); first
      | (refine qx_pure A tbOk rfl rfl rfl ?_; clear A; intro a A)
      | (refine qx_skip A rfl rfl ?_; clear A; intro a A)
      | ((with_reducible refine qg_bin ?_); first | ((refine qg_int A rfl ?_); first | (refine qx_cmp A rfl rfl rfl rfl ?_; clear A; intro a A) | (refine qx_arith A rfl rfl rfl rfl ?_; clear A; intro a A)) | ((refine qg_str A rfl ?_); first | (refine qx_scmp A rfl rfl rfl rfl ?_; clear A; intro a A) | (refine qx_concat A rfl rfl rfl rfl ?_; clear A; intro a A)))
      | ((with_reducible refine qg_builtin ?_); first | (refine qx_min A rfl rfl rfl rfl ?_; clear A; intro a A) | (refine qx_max A rfl rfl rfl rfl ?_; clear A; intro a A))
      | ((with_reducible refine qg_slice ?_); refine qx_sstr A tbOk rfl rfl rfl rfl rfl rfl ?_; clear A; intro a A)
      | ((with_reducible refine qg_load ?_); refine qx_load A tbOk rfl rfl rfl rfl ?_; clear A; intro a A)
      | ((with_reducible refine qg_idx ?_); first | (refine qx_idx H A tbOk rfl rfl rfl rfl rfl rfl ?_; clear A; intro a A) | (refine qx_oidx H A tbOk rfl rfl rfl rfl rfl rfl ?_; clear A; intro a A)))
    )
  have Hn := H.nilrow (Kd.int .i64) 3
  clear H
  refine sx_rounds (ι := Nat × Option Addr × Nat) (fun x => x.1 ≤ m) (fun x => [(6, .int .i64 (x.1 : Int)), (5, _), (4, _), (2, _), (0, _), (3, _)]) (fun x => [.row (Kd.int .i64) _ x.2.1 x.2.2 (readT (L s) x.1), .mk _ _ [.int .i64 (r1 : Int), .int .i64 (r2 : Int), .slice x.2.1 x.1 x.2.2], _]) (fun _ => []) (fun x => m - x.1) (0, none, 0) Hn A.subs (Nat.zero_le _) (fun x F a W hi H A => ?_)
  obtain ⟨i, Ai, ci⟩ := x
  dsimp only at hi H A
  have hln := readT_len (L s) i
  rcases Nat.lt_or_ge i m with hlt | hge
  · obtain ⟨ri, hri⟩ : ∃ r, partN (L s) (9 + 2 * i) 2 = r := ⟨_, rfl⟩
    have hsu := readT_succ (L s) i
    rw [hri] at hsu
    have hln2 := readT_len (L s) (i + 1)
    have hl1 : i < r3 := by omega
    have hl2 : i < 40 := by omega
    repeat' (first
    | ((with_reducible refine g_draw ?_); refine vstartB H [.mk b_ 52 [.int .i64 (r1 : Int), .int .i64 (r2 : Int), .slice Ai i ci]] [10] #[false, false, false, false, false, false, false, false, false, false, false] (by kernel_rfl) rfl rfl (fun w_ H => ?_); refine vp A tbOk 0 #[true, false, false, false, false, false, false, false, false, false, false] rfl (by kernel_rfl) (fun _ _ _ _ h => h) rfl rfl rfl rfl ?_; clear A; intro a A; refine vload H.sel A tbOk 1 #[true, true, false, false, false, false, false, false, false, false, false] rfl (by kernel_rfl) (fun _ _ _ _ h => h) rfl rfl rfl rfl ?_; clear A; intro a A; refine vp A tbOk 2 #[true, true, true, false, false, false, false, false, false, false, false] rfl (by kernel_rfl) (fun _ _ _ _ h => h) rfl rfl rfl rfl ?_; clear A; intro a A; refine vp A tbOk 3 #[true, true, true, true, false, false, false, false, false, false, false] rfl (by kernel_rfl) (fun _ _ _ _ h => h) rfl rfl rfl rfl ?_; clear A; intro a A; refine vone #[true, true, true, true, true, false, false, false, false, false, false] (i := 4) rfl (by kernel_rfl) ?_; refine sx_arith A rfl rfl rfl rfl ?_; clear A; intro a A; refine wpList_nil ?_; refine ⟨fun hn => ⟨_, H.sel⟩, ?_⟩; refine vone #[true, true, true, true, true, true, false, false, false, false, false] (i := 5) rfl (by kernel_rfl) ?_; refine sx_arith A rfl rfl rfl rfl ?_; clear A; intro a A; refine wpList_nil ?_; refine ⟨fun hn => ⟨_, H.sel⟩, ?_⟩; refine vone #[true, true, true, true, true, true, true, false, false, false, false] (i := 6) rfl (by kernel_rfl) ?_; refine sx_call (f := 69) A rfl Tryd.call69 rfl rfl ?_; refine sl_ref04_part (at_ := 9 + 2 * i) (size := 2) H (by omega) (by omega) (by omega) (by omega) rfl hri ?_; clear H; intro F_ w_ H; refine ⟨_, rfl, ?_⟩; clear A; intro a A; refine wpList_nil ?_; refine ⟨fun hn => ⟨_, H.sel⟩, ?_⟩; refine vone #[true, true, true, true, true, true, true, true, false, false, false] (i := 7) rfl (by kernel_rfl) ?_; refine sx_lit (dk := Kd.int .i64) (ys := [_]) H A tbOk rfl rfl rfl rfl rfl rfl (.cons (mk_scalar _) .nil) ?_; clear H A; intro b2 a w_ A H; refine wpList_nil ?_; refine ⟨fun hn => ⟨_, H.sel⟩, ?_⟩; refine vone #[true, true, true, true, true, true, true, true, true, false, false] (i := 8) rfl (by kernel_rfl) ?_; refine sx_appendL (dk := Kd.int .i64) H A tbOk rfl rfl rfl rfl rfl rfl rfl rfl rfl ?_ (hn := hln.symm) (hb := by rw [hln]; simp only [List.length_cons, List.length_nil]; omega) (h63 := by rw [hln]; simp only [List.length_cons, List.length_nil]; omega); clear A H; intro A1 c1 a w_ A H; rw [hsu] at H A; rw [hln2] at A; refine wpList_nil ?_; refine ⟨fun hn => ⟨_, H.sel⟩, ?_⟩; refine vp A tbOk 9 #[true, true, true, true, true, true, true, true, true, true, false] rfl (by kernel_rfl) (fun _ _ _ _ h => h) rfl rfl rfl rfl ?_; clear A; intro a A; refine vone #[true, true, true, true, true, true, true, true, true, true, true] (i := 10) rfl (by kernel_rfl) ?_; refine sx_store H A tbOk rfl rfl rfl rfl ?_; clear H; intro w_ H; refine wpList_nil ?_; refine ⟨fun hn => absurd (by decide) hn, ?_⟩; refine vdone (by kernel_rfl) ?_)
    | with_reducible refine wp_seq ?_
    | with_reducible refine sx_region ?_
    | with_reducible refine wp_block ?_
    | with_reducible refine wpList_nil ?_
    | with_reducible refine sx_then ?_
    | with_reducible refine sx_inb ?_
    | with_reducible refine wp_skip ?_
    | with_reducible refine wp_ret ?_
    | with_reducible refine wp_exit ?_
    | with_reducible refine sx_then_ret ?_
    | with_reducible refine sx_inb_ret ?_
    | with_reducible refine sx_then_exit ?_
    | with_reducible refine sx_inb_exit ?_
    | with_reducible refine sx_inb_other rfl ?_
    | with_reducible refine sx_if_t A rfl ?_
    | with_reducible refine sx_if_f A rfl ?_
    | ((with_reducible refine sx_at ?_); first
      | (refine sx_pure A tbOk rfl rfl rfl ?_; clear A; intro a A)
      | (refine sx_skip A rfl rfl ?_; clear A; intro a A)
      | ((with_reducible refine g_bin ?_); first | ((refine g_int A rfl ?_); first | (refine sx_cmp A rfl rfl rfl rfl ?_; clear A; intro a A) | (refine sx_arith A rfl rfl rfl rfl ?_; clear A; intro a A) | (refine sx_shl A rfl rfl rfl rfl ?_; clear A; intro a A) | (refine sx_shr A rfl rfl rfl rfl ?_; clear A; intro a A)) | ((refine g_str A rfl ?_); first | (refine sx_scmp A rfl rfl rfl rfl ?_; clear A; intro a A) | (refine sx_concat A rfl rfl rfl rfl ?_; clear A; intro a A)))
      | ((with_reducible refine g_load ?_); first | (refine sx_load_all H A tbOk rfl rfl rfl rfl rfl ?_; clear A; intro a A) | (refine sx_load H A tbOk rfl rfl rfl rfl ?_; clear A; intro a A))
      | ((with_reducible refine g_store ?_); refine sx_store H A tbOk rfl rfl rfl rfl ?_; clear H; intro w_ H)
      | ((with_reducible refine g_box ?_); refine sx_box H A rfl rfl rfl ?_; clear H A; intro b_ a w_ A H)
      | ((with_reducible refine g_alloc ?_); refine sx_alloc H A tbOk rfl rfl rfl ?_; clear H A; intro b_ a w_ A H)
      | ((with_reducible refine g_build ?_); refine sx_build A tbOk rfl rfl rfl rfl rfl rfl ?_; clear A; intro a A)
      | ((with_reducible refine g_builtin ?_); first | (refine sx_min A rfl rfl rfl rfl ?_; clear A; intro a A) | (refine sx_max A rfl rfl rfl rfl ?_; clear A; intro a A))
      | ((with_reducible refine g_slice ?_); first | (refine sx_sstr A tbOk rfl rfl rfl rfl rfl rfl ?_; clear A; intro a A) | (refine sx_cut H A tbOk rfl rfl rfl rfl rfl rfl rfl ?_; clear A H; intro A_ c_ a hc_ A H))
      | ((with_reducible refine g_index ?_); refine sx_sidx A tbOk rfl rfl rfl rfl rfl ?_; clear A; intro a A)
      | ((with_reducible refine g_idx ?_); first | (refine sx_idx H A tbOk rfl rfl rfl rfl rfl rfl ?_; clear A; intro a A) | (refine sx_oidx H A tbOk rfl rfl rfl rfl rfl rfl ?_; clear A; intro a A))
      | ((with_reducible refine g_conv ?_); refine sx_conv A tbOk rfl rfl rfl rfl rfl ?_; clear A; intro a A)
      )
    | ((with_reducible refine g_draw ?_); refine qx_region H (by kernel_rfl) (by kernel_rfl) ?_)
    | ((with_reducible refine qx_nil ?_); clear H; intro w_ F_ H)
    | ((with_reducible refine q_at ?_); first
      | (refine qx_pure A tbOk rfl rfl rfl ?_; clear A; intro a A)
      | (refine qx_skip A rfl rfl ?_; clear A; intro a A)
      | ((with_reducible refine qg_bin ?_); first | ((refine qg_int A rfl ?_); first | (refine qx_cmp A rfl rfl rfl rfl ?_; clear A; intro a A) | (refine qx_arith A rfl rfl rfl rfl ?_; clear A; intro a A)) | ((refine qg_str A rfl ?_); first | (refine qx_scmp A rfl rfl rfl rfl ?_; clear A; intro a A) | (refine qx_concat A rfl rfl rfl rfl ?_; clear A; intro a A)))
      | ((with_reducible refine qg_builtin ?_); first | (refine qx_min A rfl rfl rfl rfl ?_; clear A; intro a A) | (refine qx_max A rfl rfl rfl rfl ?_; clear A; intro a A))
      | ((with_reducible refine qg_slice ?_); refine qx_sstr A tbOk rfl rfl rfl rfl rfl rfl ?_; clear A; intro a A)
      | ((with_reducible refine qg_load ?_); refine qx_load A tbOk rfl rfl rfl rfl ?_; clear A; intro a A)
      | ((with_reducible refine qg_idx ?_); first | (refine qx_idx H A tbOk rfl rfl rfl rfl rfl rfl ?_; clear A; intro a A) | (refine qx_oidx H A tbOk rfl rfl rfl rfl rfl rfl ?_; clear A; intro a A)))
    )
    exact ⟨(i + 1, A1, c1), _, by (show i + 1 ≤ m); omega, by (show m - (i + 1) < m - i); omega, H.sel, A.subs⟩
  · obtain rfl : i = ts.length := by omega
    have hts2 : readT (L s) ts.length = ts := by rw [htl]; exact hts
    rw [hts2] at H
    obtain ⟨hcp, F2, _, H2⟩ := H.freeze_row Del.hd
    clear H
    have H := H2
    clear H2
    have hq : (headB r1 r2 ts = false ∧ n = 0 ∧ p = 0 ∧ l = [] ∧ e = 4) ∨ (headB r1 r2 ts = true ∧ ∃ q, layS (headL r1 r2 ts) = q ∧ ((q = s ∧ n = r1 ∧ p = r2 ∧ l = ts ∧ e = 0) ∨ (q ≠ s ∧ n = 0 ∧ p = 0 ∧ l = [] ∧ e = 4))) := by
      cases hE : headB r1 r2 ts
      · rw [hE] at hr
        simp only [Bool.false_eq_true, false_and, if_false] at hr
        injection hr with q1 q2; injection q2 with q2 q3; injection q3 with q3 q4
        exact .inl ⟨rfl, q1.symm, q2.symm, q3.symm, q4.symm⟩
      · rw [hE] at hr
        refine .inr ⟨rfl, _, rfl, ?_⟩
        by_cases hs : layS (headL r1 r2 ts) = s
        · rw [if_pos ⟨rfl, hs⟩] at hr
          injection hr with q1 q2; injection q2 with q2 q3; injection q3 with q3 q4
          exact .inl ⟨hs, q1.symm, q2.symm, q3.symm, q4.symm⟩
        · rw [if_neg (fun h => hs h.2)] at hr
          injection hr with q1 q2; injection q2 with q2 q3; injection q3 with q3 q4
          exact .inr ⟨hs, q1.symm, q2.symm, q3.symm, q4.symm⟩
    clear hr
    have hg : (ts.length : Int) < r3 → ¬ ((ts.length : Int) < 40) := by omega
    have hc : (ts.length < r3 ∧ 40 ≤ ts.length) ∨ r3 ≤ ts.length := by omega
    clear hg
    rcases hc with ⟨g1, g2⟩ | g1 <;> rcases hq with ⟨hE, rfl, rfl, rfl, rfl⟩ | ⟨hE, q, hS, ⟨rfl, rfl, rfl, rfl, rfl⟩ | ⟨hne, rfl, rfl, rfl, rfl⟩⟩
    all_goals repeat' (first
    | ((with_reducible refine g_dst 34 ?_); refine sx_call (f := 39) A rfl Tryd.call39 rfl rfl ?_; refine sl_ref04_IsHead H (by omega) hE ?_; clear H; intro F_ w_ H; refine ⟨_, rfl, ?_⟩; clear A; intro a A)
    | ((with_reducible refine g_dst 38 ?_); refine sx_call (f := 40) A rfl Tryd.call40 rfl rfl ?_; refine sl_ref04_Head H hE hS ?_; clear H; intro F_ w_ H; refine ⟨_, rfl, ?_⟩; clear A; intro a A)
    | (refine sx_ret tbOk H A rfl ?_; first | exact H.retR (ps := [_]) fun Fx Hx => k Fx _ _ _ (by assumption) Hx | exact (H.fact (fun W _ => rdc_nil (Kd.int .i64) none W)).retR (ps := [_]) fun Fx Hx => k Fx _ _ _ ⟨Nat.le_refl _⟩ Hx)
    | with_reducible refine wp_seq ?_
    | with_reducible refine sx_region ?_
    | with_reducible refine wp_block ?_
    | with_reducible refine wpList_nil ?_
    | with_reducible refine sx_then ?_
    | with_reducible refine sx_inb ?_
    | with_reducible refine wp_skip ?_
    | with_reducible refine wp_ret ?_
    | with_reducible refine wp_exit ?_
    | with_reducible refine sx_then_ret ?_
    | with_reducible refine sx_inb_ret ?_
    | with_reducible refine sx_then_exit ?_
    | with_reducible refine sx_inb_exit ?_
    | with_reducible refine sx_inb_other rfl ?_
    | with_reducible refine sx_if_t A rfl ?_
    | with_reducible refine sx_if_f A rfl ?_
    | ((with_reducible refine sx_at ?_); first
      | (refine sx_pure A tbOk rfl rfl rfl ?_; clear A; intro a A)
      | (refine sx_skip A rfl rfl ?_; clear A; intro a A)
      | ((with_reducible refine g_bin ?_); first | ((refine g_int A rfl ?_); first | (refine sx_cmp A rfl rfl rfl rfl ?_; clear A; intro a A) | (refine sx_arith A rfl rfl rfl rfl ?_; clear A; intro a A) | (refine sx_shl A rfl rfl rfl rfl ?_; clear A; intro a A) | (refine sx_shr A rfl rfl rfl rfl ?_; clear A; intro a A)) | ((refine g_str A rfl ?_); first | (refine sx_scmp A rfl rfl rfl rfl ?_; clear A; intro a A) | (refine sx_concat A rfl rfl rfl rfl ?_; clear A; intro a A)))
      | ((with_reducible refine g_load ?_); first | (refine sx_load_all H A tbOk rfl rfl rfl rfl rfl ?_; clear A; intro a A) | (refine sx_load H A tbOk rfl rfl rfl rfl ?_; clear A; intro a A))
      | ((with_reducible refine g_store ?_); refine sx_store H A tbOk rfl rfl rfl rfl ?_; clear H; intro w_ H)
      | ((with_reducible refine g_box ?_); refine sx_box H A rfl rfl rfl ?_; clear H A; intro b_ a w_ A H)
      | ((with_reducible refine g_alloc ?_); refine sx_alloc H A tbOk rfl rfl rfl ?_; clear H A; intro b_ a w_ A H)
      | ((with_reducible refine g_build ?_); refine sx_build A tbOk rfl rfl rfl rfl rfl rfl ?_; clear A; intro a A)
      | ((with_reducible refine g_builtin ?_); first | (refine sx_min A rfl rfl rfl rfl ?_; clear A; intro a A) | (refine sx_max A rfl rfl rfl rfl ?_; clear A; intro a A))
      | ((with_reducible refine g_slice ?_); first | (refine sx_sstr A tbOk rfl rfl rfl rfl rfl rfl ?_; clear A; intro a A) | (refine sx_cut H A tbOk rfl rfl rfl rfl rfl rfl rfl ?_; clear A H; intro A_ c_ a hc_ A H))
      | ((with_reducible refine g_index ?_); refine sx_sidx A tbOk rfl rfl rfl rfl rfl ?_; clear A; intro a A)
      | ((with_reducible refine g_idx ?_); first | (refine sx_idx H A tbOk rfl rfl rfl rfl rfl rfl ?_; clear A; intro a A) | (refine sx_oidx H A tbOk rfl rfl rfl rfl rfl rfl ?_; clear A; intro a A))
      | ((with_reducible refine g_conv ?_); refine sx_conv A tbOk rfl rfl rfl rfl rfl ?_; clear A; intro a A)
      )
    | ((with_reducible refine g_draw ?_); refine qx_region H (by kernel_rfl) (by kernel_rfl) ?_)
    | ((with_reducible refine qx_nil ?_); clear H; intro w_ F_ H)
    | ((with_reducible refine q_at ?_); first
      | (refine qx_pure A tbOk rfl rfl rfl ?_; clear A; intro a A)
      | (refine qx_skip A rfl rfl ?_; clear A; intro a A)
      | ((with_reducible refine qg_bin ?_); first | ((refine qg_int A rfl ?_); first | (refine qx_cmp A rfl rfl rfl rfl ?_; clear A; intro a A) | (refine qx_arith A rfl rfl rfl rfl ?_; clear A; intro a A)) | ((refine qg_str A rfl ?_); first | (refine qx_scmp A rfl rfl rfl rfl ?_; clear A; intro a A) | (refine qx_concat A rfl rfl rfl rfl ?_; clear A; intro a A)))
      | ((with_reducible refine qg_builtin ?_); first | (refine qx_min A rfl rfl rfl rfl ?_; clear A; intro a A) | (refine qx_max A rfl rfl rfl rfl ?_; clear A; intro a A))
      | ((with_reducible refine qg_slice ?_); refine qx_sstr A tbOk rfl rfl rfl rfl rfl rfl ?_; clear A; intro a A)
      | ((with_reducible refine qg_load ?_); refine qx_load A tbOk rfl rfl rfl rfl ?_; clear A; intro a A)
      | ((with_reducible refine qg_idx ?_); first | (refine qx_idx H A tbOk rfl rfl rfl rfl rfl rfl ?_; clear A; intro a A) | (refine qx_oidx H A tbOk rfl rfl rfl rfl rfl rfl ?_; clear A; intro a A)))
    )
end
end Go.Proofs.YtniplmjbligmlaaDoor.V

/-! Layer 4: alive. -/
namespace Go.Proofs.YtniplmjbligmlaaDoor.V
open Go.RowKit
set_option linter.unusedVariables false
set_option linter.unusedSimpArgs false
theorem rd31 : rdCommit (layS (commitL 3 1)) = (3, 1, 0) := by decide +kernel
section
variable {M F0 F : Nat → Prop} {w0 w : World} {B : List Box} {R : List (World → Prop)} {K : Ending → World → Prop}
set_option maxRecDepth 100000
set_option maxHeartbeats 4000000
theorem sl_law04_alive (H : St M F0 w0 F B R w) (k : ∀ Fx w', St M F0 w0 Fx B R w' → K (.returned (.bool true)) w') : Calls Tryd.prog 30 #[] w K := by
  refine St.fn0 H (R0 := []) no_mem (fun H => ?_)
  refine sx_enter Tryd.func30 Tryd.ntmps30 rfl rfl (fun a A => ?_)
  have hr := rd31
  have hz := layS_size (commitL 3 1)
  have hl : (commitL 3 1).length = 8 := rfl
  obtain ⟨S, hSd⟩ : ∃ S, layS (commitL 3 1) = S := ⟨_, rfl⟩
  have hS : (if isEpoch 3 && isPlace 1 then (layS (commitL 3 1), (0 : Int)) else (⟨#[]⟩, 1)) = (S, 0) := by rw [hSd]; rfl
  rw [hSd] at hr hz
  clear hSd
  repeat' (first
    | ((with_reducible refine g_dst 7 ?_); refine sx_call (f := 29) A rfl Tryd.call29 rfl rfl ?_; refine sl_slot_Commit H hS ?_; clear H; intro F_ w_ H; refine ⟨_, rfl, ?_⟩; clear A; intro a A)
    | ((with_reducible refine g_dst 12 ?_); refine sx_call (f := 46) A rfl Tryd.call46 rfl rfl ?_; refine sl_slot_ReadCommit H (by omega) hr ?_; clear H; intro F_ w_ H; refine ⟨_, rfl, ?_⟩; clear A; intro a A)
    | (refine sx_ret tbOk H A rfl ?_; exact H.ret0 fun Fx Hx => k Fx _ Hx)
    | with_reducible refine wp_seq ?_
    | with_reducible refine sx_region ?_
    | with_reducible refine wp_block ?_
    | with_reducible refine wpList_nil ?_
    | with_reducible refine sx_then ?_
    | with_reducible refine sx_inb ?_
    | with_reducible refine wp_skip ?_
    | with_reducible refine wp_ret ?_
    | with_reducible refine wp_exit ?_
    | with_reducible refine sx_then_ret ?_
    | with_reducible refine sx_inb_ret ?_
    | with_reducible refine sx_then_exit ?_
    | with_reducible refine sx_inb_exit ?_
    | with_reducible refine sx_inb_other rfl ?_
    | with_reducible refine sx_if_t A rfl ?_
    | with_reducible refine sx_if_f A rfl ?_
    | ((with_reducible refine sx_at ?_); first
      | (refine sx_pure A tbOk rfl rfl rfl ?_; clear A; intro a A)
      | (refine sx_skip A rfl rfl ?_; clear A; intro a A)
      | ((with_reducible refine g_bin ?_); first | ((refine g_int A rfl ?_); first | (refine sx_cmp A rfl rfl rfl rfl ?_; clear A; intro a A) | (refine sx_arith A rfl rfl rfl rfl ?_; clear A; intro a A) | (refine sx_shl A rfl rfl rfl rfl ?_; clear A; intro a A) | (refine sx_shr A rfl rfl rfl rfl ?_; clear A; intro a A)) | ((refine g_str A rfl ?_); first | (refine sx_scmp A rfl rfl rfl rfl ?_; clear A; intro a A) | (refine sx_concat A rfl rfl rfl rfl ?_; clear A; intro a A)))
      | ((with_reducible refine g_load ?_); first | (refine sx_load_all H A tbOk rfl rfl rfl rfl rfl ?_; clear A; intro a A) | (refine sx_load H A tbOk rfl rfl rfl rfl ?_; clear A; intro a A))
      | ((with_reducible refine g_store ?_); refine sx_store H A tbOk rfl rfl rfl rfl ?_; clear H; intro w_ H)
      | ((with_reducible refine g_box ?_); refine sx_box H A rfl rfl rfl ?_; clear H A; intro b_ a w_ A H)
      | ((with_reducible refine g_alloc ?_); refine sx_alloc H A tbOk rfl rfl rfl ?_; clear H A; intro b_ a w_ A H)
      | ((with_reducible refine g_build ?_); refine sx_build A tbOk rfl rfl rfl rfl rfl rfl ?_; clear A; intro a A)
      | ((with_reducible refine g_builtin ?_); first | (refine sx_min A rfl rfl rfl rfl ?_; clear A; intro a A) | (refine sx_max A rfl rfl rfl rfl ?_; clear A; intro a A))
      | ((with_reducible refine g_slice ?_); first | (refine sx_sstr A tbOk rfl rfl rfl rfl rfl rfl ?_; clear A; intro a A) | (refine sx_cut H A tbOk rfl rfl rfl rfl rfl rfl rfl ?_; clear A H; intro A_ c_ a hc_ A H))
      | ((with_reducible refine g_index ?_); refine sx_sidx A tbOk rfl rfl rfl rfl rfl ?_; clear A; intro a A)
      | ((with_reducible refine g_idx ?_); first | (refine sx_idx H A tbOk rfl rfl rfl rfl rfl rfl ?_; clear A; intro a A) | (refine sx_oidx H A tbOk rfl rfl rfl rfl rfl rfl ?_; clear A; intro a A))
      | ((with_reducible refine g_conv ?_); refine sx_conv A tbOk rfl rfl rfl rfl rfl ?_; clear A; intro a A)
      )
    | ((with_reducible refine g_draw ?_); refine qx_region H (by kernel_rfl) (by kernel_rfl) ?_)
    | ((with_reducible refine qx_nil ?_); clear H; intro w_ F_ H)
    | ((with_reducible refine q_at ?_); first
      | (refine qx_pure A tbOk rfl rfl rfl ?_; clear A; intro a A)
      | (refine qx_skip A rfl rfl ?_; clear A; intro a A)
      | ((with_reducible refine qg_bin ?_); first | ((refine qg_int A rfl ?_); first | (refine qx_cmp A rfl rfl rfl rfl ?_; clear A; intro a A) | (refine qx_arith A rfl rfl rfl rfl ?_; clear A; intro a A)) | ((refine qg_str A rfl ?_); first | (refine qx_scmp A rfl rfl rfl rfl ?_; clear A; intro a A) | (refine qx_concat A rfl rfl rfl rfl ?_; clear A; intro a A)))
      | ((with_reducible refine qg_builtin ?_); first | (refine qx_min A rfl rfl rfl rfl ?_; clear A; intro a A) | (refine qx_max A rfl rfl rfl rfl ?_; clear A; intro a A))
      | ((with_reducible refine qg_slice ?_); refine qx_sstr A tbOk rfl rfl rfl rfl rfl rfl ?_; clear A; intro a A)
      | ((with_reducible refine qg_load ?_); refine qx_load A tbOk rfl rfl rfl rfl ?_; clear A; intro a A)
      | ((with_reducible refine qg_idx ?_); first | (refine qx_idx H A tbOk rfl rfl rfl rfl rfl rfl ?_; clear A; intro a A) | (refine qx_oidx H A tbOk rfl rfl rfl rfl rfl rfl ?_; clear A; intro a A)))
    )
end
end Go.Proofs.YtniplmjbligmlaaDoor.V

/-! The statement SlotWrites, walked. -/
namespace Go.Proofs.YtniplmjbligmlaaDoor.V
open Go.RowKit
set_option linter.unusedVariables false
set_option linter.unusedSimpArgs false
section
set_option maxRecDepth 100000
set_option maxHeartbeats 4000000
theorem law_SlotWrites (w : World) {A0 : Option Addr} {c0 : Nat} {e q he hq : Int} {l : List Int} (hl : l.length < 9223372036854775808) (hc : Cap l.length c0) (hm : rdc (Kd.int .i64) A0 l w) : Calls Tryd.prog 11 #[.int .i64 e, .int .i64 q, .agg #[.int .i64 he, .int .i64 hq, .slice A0 l.length c0]] w fun e w' => e = .returned (.bool true) ∧ Below w.heap.size w w' := by
  have H := (St.start w (fun k => k < w.heap.size) (fun _ h => h)).fact (rdc_all hm)
  refine sx_enter Tryd.func11 Tryd.ntmps11 rfl rfl (fun a A => ?_)
  have hl6 : (l.take 60).length ≤ 60 := by rw [List.length_take]; omega
  have h1 : ∃ s1 e1, (if isEpoch e then (layS (superL e), (0 : Int)) else (⟨#[]⟩, 1)) = (s1, e1) ∧ ((isEpoch e = true ∧ e1 = 0 ∧ layS (superL e) = s1) ∨ (isEpoch e = false ∧ e1 = 1 ∧ s1 = ⟨#[]⟩)) := by
    cases hE : isEpoch e
    · exact ⟨_, _, rfl, .inr ⟨rfl, rfl, rfl⟩⟩
    · exact ⟨_, _, rfl, .inl ⟨rfl, rfl, rfl⟩⟩
  have h2 : ∃ s2 e2, (if isEpoch e && isPlace q then (layS (commitL e q), (0 : Int)) else (⟨#[]⟩, 1)) = (s2, e2) ∧ ((isEpoch e = true ∧ isPlace q = true ∧ e2 = 0 ∧ layS (commitL e q) = s2) ∨ (isEpoch e = true ∧ isPlace q = false ∧ e2 = 1 ∧ s2 = ⟨#[]⟩) ∨ (isEpoch e = false ∧ e2 = 1 ∧ s2 = ⟨#[]⟩)) := by
    cases hE : isEpoch e
    · exact ⟨_, _, rfl, .inr (.inr ⟨rfl, rfl, rfl⟩)⟩
    · cases hP : isPlace q
      · exact ⟨_, _, rfl, .inr (.inl ⟨rfl, rfl, rfl, rfl⟩)⟩
      · exact ⟨_, _, rfl, .inl ⟨rfl, rfl, rfl, rfl⟩⟩
  have h3 : ∃ s3 e3, (if headB he hq (l.take 60) then (layS (headL he hq (l.take 60)), (0 : Int)) else (⟨#[]⟩, 1)) = (s3, e3) ∧ ((headB he hq (l.take 60) = true ∧ e3 = 0 ∧ layS (headL he hq (l.take 60)) = s3) ∨ (headB he hq (l.take 60) = false ∧ e3 = 1 ∧ s3 = ⟨#[]⟩)) := by
    cases hB : headB he hq (l.take 60)
    · exact ⟨_, _, rfl, .inr ⟨rfl, rfl, rfl⟩⟩
    · exact ⟨_, _, rfl, .inl ⟨rfl, rfl, rfl⟩⟩
  obtain ⟨s1, e1, hS1, h1⟩ := h1
  obtain ⟨s2, e2, hS2, h2⟩ := h2
  obtain ⟨s3, e3, hS3, h3⟩ := h3
  rcases h1 with ⟨hE, rfl, g1⟩ | ⟨hE, rfl, rfl⟩ <;> rcases h2 with ⟨hE2, hP, rfl, g2⟩ | ⟨hE2, hP, rfl, rfl⟩ | ⟨hE2, rfl, rfl⟩ <;> (try (exfalso; rw [hE] at hE2; cases hE2; done)) <;> clear hE2 <;> rcases h3 with ⟨hB, rfl, g3⟩ | ⟨hB, rfl, rfl⟩
  all_goals repeat' (first
    | ((with_reducible refine g_call ?_); first
      | ((with_reducible refine g_dst 15 ?_); refine sx_call (f := 26) A rfl Tryd.call26 rfl rfl ?_; refine sl_law04_few H hl ?_; clear H; intro F_ w_ A1 c1 hc1 H; refine ⟨_, rfl, ?_⟩; clear A; intro a A)
      | ((with_reducible refine g_dst 19 ?_); refine sx_call (f := 34) A rfl Tryd.call34 rfl rfl ?_; refine sl_slot_Super H hS1 ?_; clear H; intro F_ w_ H; refine ⟨_, rfl, ?_⟩; clear A; intro a A)
      | ((with_reducible refine g_dst 25 ?_); refine sx_call (f := 29) A rfl Tryd.call29 rfl rfl ?_; refine sl_slot_Commit H hS2 ?_; clear H; intro F_ w_ H; refine ⟨_, rfl, ?_⟩; clear A; intro a A)
      | ((with_reducible refine g_dst 30 ?_); refine sx_call (f := 27) A rfl Tryd.call27 rfl rfl ?_; refine sl_slot_Head H (by omega) hS3 ?_; clear H; intro F_ w_ H; refine ⟨_, rfl, ?_⟩; clear A; intro a A)
      | ((with_reducible refine g_dst 44 ?_); refine sx_call (f := 36) A rfl Tryd.call36 rfl rfl ?_; refine sl_ref04_Super H hE g1 ?_; clear H; intro F_ w_ H; refine ⟨_, rfl, ?_⟩; clear A; intro a A)
      | ((with_reducible refine g_dst 76 ?_); refine sx_call (f := 38) A rfl Tryd.call38 rfl rfl ?_; refine sl_ref04_Commit H hE hP g2 ?_; clear H; intro F_ w_ H; refine ⟨_, rfl, ?_⟩; clear A; intro a A)
      | ((with_reducible refine g_dst 112 ?_); refine sx_call (f := 40) A rfl Tryd.call40 rfl rfl ?_; refine sl_ref04_Head H hB g3 ?_; clear H; intro F_ w_ H; refine ⟨_, rfl, ?_⟩; clear A; intro a A)
      | ((with_reducible refine g_dst 93 ?_); refine sx_call (f := 39) A rfl Tryd.call39 rfl rfl ?_; refine sl_ref04_IsHead H (by omega) hB ?_; clear H; intro F_ w_ H; refine ⟨_, rfl, ?_⟩; clear A; intro a A)
      | ((with_reducible refine g_dst 34 ?_); refine sx_call (f := 35) A rfl Tryd.call35 rfl rfl ?_; refine sl_ref04_IsEpoch H hE ?_; clear H; intro F_ w_ H; refine ⟨_, rfl, ?_⟩; clear A; intro a A)
      | ((with_reducible refine g_dst 61 ?_); refine sx_call (f := 35) A rfl Tryd.call35 rfl rfl ?_; refine sl_ref04_IsEpoch H hE ?_; clear H; intro F_ w_ H; refine ⟨_, rfl, ?_⟩; clear A; intro a A)
      | ((with_reducible refine g_dst 64 ?_); refine sx_call (f := 37) A rfl Tryd.call37 rfl rfl ?_; refine sl_ref04_IsPlace H hP ?_; clear H; intro F_ w_ H; refine ⟨_, rfl, ?_⟩; clear A; intro a A)
      | (refine sx_call (f := 30) (xs := []) (vs := []) A rfl Tryd.call30 rfl rfl ?_; refine sl_law04_alive H ?_; clear H; intro F_ w_ H; refine ⟨_, rfl, ?_⟩; clear A; intro a A))
    | (refine sx_ret tbOk H A rfl ?_; exact ⟨rfl, H.below⟩)
    | ((with_reducible refine g_dst 37 ?_); refine sx_bne A tbOk rfl rfl rfl rfl rfl rfl ?_; clear A; intro a A)
    | ((with_reducible refine g_dst 69 ?_); refine sx_bne A tbOk rfl rfl rfl rfl rfl rfl ?_; clear A; intro a A)
    | with_reducible refine wp_seq ?_
    | with_reducible refine sx_region ?_
    | with_reducible refine wp_block ?_
    | with_reducible refine wpList_nil ?_
    | with_reducible refine sx_then ?_
    | with_reducible refine sx_inb ?_
    | with_reducible refine wp_skip ?_
    | with_reducible refine wp_ret ?_
    | with_reducible refine wp_exit ?_
    | with_reducible refine sx_then_ret ?_
    | with_reducible refine sx_inb_ret ?_
    | with_reducible refine sx_then_exit ?_
    | with_reducible refine sx_inb_exit ?_
    | with_reducible refine sx_inb_other rfl ?_
    | with_reducible refine sx_if_t A rfl ?_
    | with_reducible refine sx_if_f A rfl ?_
    | ((with_reducible refine sx_at ?_); first
      | (refine sx_pure A tbOk rfl rfl rfl ?_; clear A; intro a A)
      | (refine sx_skip A rfl rfl ?_; clear A; intro a A)
      | ((with_reducible refine g_bin ?_); first | ((refine g_int A rfl ?_); first | (refine sx_cmp A rfl rfl rfl rfl ?_; clear A; intro a A) | (refine sx_arith A rfl rfl rfl rfl ?_; clear A; intro a A) | (refine sx_shl A rfl rfl rfl rfl ?_; clear A; intro a A) | (refine sx_shr A rfl rfl rfl rfl ?_; clear A; intro a A)) | ((refine g_str A rfl ?_); first | (refine sx_scmp A rfl rfl rfl rfl ?_; clear A; intro a A) | (refine sx_concat A rfl rfl rfl rfl ?_; clear A; intro a A)))
      | ((with_reducible refine g_load ?_); first | (refine sx_load_all H A tbOk rfl rfl rfl rfl rfl ?_; clear A; intro a A) | (refine sx_load H A tbOk rfl rfl rfl rfl ?_; clear A; intro a A))
      | ((with_reducible refine g_store ?_); refine sx_store H A tbOk rfl rfl rfl rfl ?_; clear H; intro w_ H)
      | ((with_reducible refine g_box ?_); refine sx_box H A rfl rfl rfl ?_; clear H A; intro b_ a w_ A H)
      | ((with_reducible refine g_alloc ?_); refine sx_alloc H A tbOk rfl rfl rfl ?_; clear H A; intro b_ a w_ A H)
      | ((with_reducible refine g_build ?_); refine sx_build A tbOk rfl rfl rfl rfl rfl rfl ?_; clear A; intro a A)
      | ((with_reducible refine g_builtin ?_); first | (refine sx_min A rfl rfl rfl rfl ?_; clear A; intro a A) | (refine sx_max A rfl rfl rfl rfl ?_; clear A; intro a A))
      | ((with_reducible refine g_slice ?_); first | (refine sx_sstr A tbOk rfl rfl rfl rfl rfl rfl ?_; clear A; intro a A) | (refine sx_cut H A tbOk rfl rfl rfl rfl rfl rfl rfl ?_; clear A H; intro A_ c_ a hc_ A H))
      | ((with_reducible refine g_index ?_); refine sx_sidx A tbOk rfl rfl rfl rfl rfl ?_; clear A; intro a A)
      | ((with_reducible refine g_idx ?_); first | (refine sx_idx H A tbOk rfl rfl rfl rfl rfl rfl ?_; clear A; intro a A) | (refine sx_oidx H A tbOk rfl rfl rfl rfl rfl rfl ?_; clear A; intro a A))
      | ((with_reducible refine g_conv ?_); refine sx_conv A tbOk rfl rfl rfl rfl rfl ?_; clear A; intro a A)
      )
    | ((with_reducible refine g_draw ?_); refine qx_region H (by kernel_rfl) (by kernel_rfl) ?_)
    | ((with_reducible refine qx_nil ?_); clear H; intro w_ F_ H)
    | ((with_reducible refine q_at ?_); first
      | (refine qx_pure A tbOk rfl rfl rfl ?_; clear A; intro a A)
      | (refine qx_skip A rfl rfl ?_; clear A; intro a A)
      | ((with_reducible refine qg_bin ?_); first | ((refine qg_int A rfl ?_); first | (refine qx_cmp A rfl rfl rfl rfl ?_; clear A; intro a A) | (refine qx_arith A rfl rfl rfl rfl ?_; clear A; intro a A)) | ((refine qg_str A rfl ?_); first | (refine qx_scmp A rfl rfl rfl rfl ?_; clear A; intro a A) | (refine qx_concat A rfl rfl rfl rfl ?_; clear A; intro a A)))
      | ((with_reducible refine qg_builtin ?_); first | (refine qx_min A rfl rfl rfl rfl ?_; clear A; intro a A) | (refine qx_max A rfl rfl rfl rfl ?_; clear A; intro a A))
      | ((with_reducible refine qg_slice ?_); refine qx_sstr A tbOk rfl rfl rfl rfl rfl rfl ?_; clear A; intro a A)
      | ((with_reducible refine qg_load ?_); refine qx_load A tbOk rfl rfl rfl rfl ?_; clear A; intro a A)
      | ((with_reducible refine qg_idx ?_); first | (refine qx_idx H A tbOk rfl rfl rfl rfl rfl rfl ?_; clear A; intro a A) | (refine qx_oidx H A tbOk rfl rfl rfl rfl rfl rfl ?_; clear A; intro a A)))
    )
end
end Go.Proofs.YtniplmjbligmlaaDoor.V

/-! SlotWrites holds: the Go law answers true for every input, and leaves its arguments alone; no condition but that the listed tables of the library stand as the program's text lays them. -/
namespace Go.Proofs.YtniplmjbligmlaaDoor.slotWrites
open Go.ChangeShapes Go.WideShapes Go.ChangeAt Go.RowKit Go.Proofs.YtniplmjbligmlaaDoorW.PrintWords Go.Proofs.YtniplmjbligmlaaDoor.V
set_option linter.unusedVariables false
theorem own : ownKnob Tryd.prog.godebug = none := by kernel_rfl
theorem laidOut : laidOutB Tryd.prog = true := by kernel_rfl
set_option maxRecDepth 100000 in
theorem lifted (os : Os) (started : os.Started) (H : Type) (enc : TypeId × Value → H) :
    ReturnsInHanded {} Tryd.checked os 11 .any (fun w args => (Rows.slotWritesSpec.pre enc Tryd.prog Tryd.f11 Rows.slotWritesRow.domain false w args ∧ laidMetH Tryd.prog Rows.slotWritesRow.laid w) ∧ sizedMet enc Tryd.prog Tryd.f11 (OpenSpec.ofChange Rows.slotWritesSpec) false w args) (Rows.slotWritesSpec.post enc Tryd.prog Tryd.f11 false true false false) := by
  refine returnsInHanded_of_change_and (C := Tryd.checked) (X := fun w _ => laidMetH Tryd.prog Rows.slotWritesRow.laid w) (fun _ _ _ hh h => h.of_heap hh) own started (by kernel_rfl) Tryd.func11
    (ChangeSpec.witness_shaped (enc := enc) (C := Tryd.checked) (os := os) (X := fun w _ => laidMetH Tryd.prog Rows.slotWritesRow.laid w) false (World.laidAll Tryd.prog os Rows.slotWritesRow.laid) #[.int .i64 0, .int .i64 0, .agg #[.int .i64 0, .int .i64 0, .slice none 0 0]] 8 (World.laidAll_os _ _ _)
      (World.shaped_of_ZipB (by kernel_rfl) (by kernel_rfl)) (by kernel_rfl) (by kernel_rfl) (by kernel_rfl)
      (by rw [MakeChecks.laidMetH_plain _ _ _ (by kernel_rfl)]; exact laidMet_laidAll _ (by kernel_rfl) (by kernel_rfl))) ?_
  intro W base args ds gs before hval0 hW hcnd hsz0 _ _
  have hsz : (DataW.weightsEach Tryd.prog (Tryd.f11.params.toList ++ Rows.slotWritesSpec.plain.varTypes Tryd.prog) (ds ++ gs)).all (· ≤ reachBytes) = true := hsz0
  have hval : ∀ (j : Nat) t v, Tryd.f11.params[j]? = some t → args[j]? = some v → Value.okWide Tryd.prog W .any base t v := hval0
  have hW' := hW
  obtain ⟨p, q, hA0, hV, rfl, hfz, hnd⟩ := hW
  have hA : DataW.TrodAll enc Tryd.prog W 0 (fun _ => true) true Tryd.f11.params.toList args.toList ds p := hA0
  rw [Tryd.params11] at hA hval hsz
  obtain ⟨v0, vs0, d0, ds0, p0, q0, hargs, rfl, rfl, h0, r0⟩ := trodAll_cons hA
  obtain ⟨v1, vs1, d1, ds1, p1, q1, rfl, rfl, rfl, h1, r1⟩ := trodAll_cons r0
  obtain ⟨v2, vs2, d2, ds2, p2, q2, rfl, rfl, rfl, h2, r2⟩ := trodAll_cons r1
  obtain ⟨rfl, rfl, rfl⟩ := trodAll_nil r2
  obtain rfl : args = #[v0, v1, v2] := by cases args; simp_all
  obtain ⟨rfl, rfl⟩ := trodVars_none hV
  have k0 := h0
  have lt0 : ∀ x ∈ p0, x.block < W.heap.size := by obtain ⟨m, hm⟩ := k0; exact DataW.trod_lt m _ _ _ hm
  have ok0 : Value.okWide Tryd.prog W .any base 3 v0 := hval 0 3 v0 rfl rfl
  obtain ⟨fuel0, hf0⟩ := h0
  obtain ⟨x0, K0, Z0⟩ := (opens_int Tryd.underlying3) H enc W 0 _ true fuel0 _ _ _ hf0 (weights_of_each hsz (j := 0) (t := 3) rfl rfl)
  obtain ⟨y0, rfl⟩ := okWide_int Tryd.underlying3 ok0
  obtain rfl := int_open K0
  have k1 := h1
  have lt1 : ∀ x ∈ p1, x.block < W.heap.size := by obtain ⟨m, hm⟩ := k1; exact DataW.trod_lt m _ _ _ hm
  have ok1 : Value.okWide Tryd.prog W .any base 3 v1 := hval 1 3 v1 rfl rfl
  obtain ⟨fuel1, hf1⟩ := h1
  obtain ⟨x1, K1, Z1⟩ := (opens_int Tryd.underlying3) H enc W 0 _ true fuel1 _ _ _ hf1 (weights_of_each hsz (j := 1) (t := 3) rfl rfl)
  obtain ⟨y1, rfl⟩ := okWide_int Tryd.underlying3 ok1
  obtain rfl := int_open K1
  have k2 := h2
  have lt2 : ∀ x ∈ p2, x.block < W.heap.size := by obtain ⟨m, hm⟩ := k2; exact DataW.trod_lt m _ _ _ hm
  have ok2 : Value.okWide Tryd.prog W .any base 52 v2 := hval 2 52 v2 rfl rfl
  obtain ⟨fuel2, hf2⟩ := h2
  obtain ⟨x2, K2, Z2⟩ := (show Opens Tryd.prog 52 kHd _ from opens_iso (f := fun x : Hd => (x.epoch, x.seq, x.targets)) (fun a => (⟨a.1, a.2.1, a.2.2⟩ : Hd)) (fun a => rfl) (opens_struct Tryd.underlying52 (by kernel_rfl) (opensF_cons (by kernel_rfl) (by kernel_rfl) (opens_int (P := Tryd.prog) (k := .i64) Tryd.underlying3) (opensF_cons (by kernel_rfl) (by kernel_rfl) (opens_int (P := Tryd.prog) (k := .i64) Tryd.underlying3) (opensF_one (by kernel_rfl) (opens_slice Tryd.underlying50 (by kernel_rfl) 8 (by kernel_rfl) (opens_int (P := Tryd.prog) (k := .i64) Tryd.underlying3))))))) H enc W 0 _ true fuel2 _ _ _ hf2 (weights_of_each hsz (j := 2) (t := 52) rfl rfl)
  obtain ⟨cs2, rfl⟩ := aggOf_okWide Tryd.underlying52 ok2
  obtain ⟨A2, c2, e2, l2, g2⟩ := kHd_open (fk_all K2)
  obtain rfl : cs2 = #[.int .i64 x2.epoch, .int .i64 x2.seq, .slice A2 x2.targets.length c2] := agg_open e2
  clear hA0 hval0 hsz0 hsz
  refine (Go.Proofs.YtniplmjbligmlaaDoor.V.law_SlotWrites W  (by have hz : x2.targets.length * 8 ≤ 140737488351232 := Z2.2.2.1; omega) l2 g2.now).mono fun e W' ⟨he, bel⟩ => ?_
  subst he
  exact ⟨_, rfl, _, _, _, [], _, [], hW', trodAll_mk1 (shut_bool Tryd.underlying4 _), (trodAll_cons_mk (Below.trod laidOut (by kernel_rfl) (of_decide_eq_true (by kernel_rfl)) k0 bel lt0) (trodAll_cons_mk (Below.trod laidOut (by kernel_rfl) (of_decide_eq_true (by kernel_rfl)) k1 bel lt1) (trodAll_cons_mk (Below.trod laidOut (by kernel_rfl) (of_decide_eq_true (by kernel_rfl)) k2 bel lt2) trodAll_mk0))), rfl, bel.frame _, fun h => by cases h⟩
theorem over : Rows.slotWritesRow.holds Tryd.pinned (OpenSpec.ofChange Rows.slotWritesSpec) :=
  OpenClaim.holds_of_wide 11 Tryd.f11 rfl rfl rfl rfl rfl rfl rfl ⟨rfl, rfl, rfl, rfl, rfl⟩ rfl rfl rfl rfl rfl (by kernel_rfl) Tryd.func11 (by kernel_rfl)
    (of_decide_eq_true (by kernel_rfl)) (by unfold Func.isWrapper; first | (rw [if_pos (by decide +kernel)]; kernel_rfl) | (rw [if_neg (by decide +kernel)]; exact ⟨rfl, rfl⟩))
    (fun os started H enc _ => lifted os started H enc)
theorem proved : Rows.SlotWritesSaid := over
theorem card : Rows.SlotWritesCardSaid :=
  Claim7.holds_tied_plain_at .later [] [.data, .pinned] true (true, "ec22d909a53f874bd568267daaecff0bbd6a3d22c2ad4d19e5d712a5b89fc2b2") false proved (fun _ h => by cases h) (by kernel_rfl) (fun _ h => by cases h) slotWrites_row_tie rfl ⟨rfl, rfl⟩ (by kernel_rfl) rfl
    (fun f fn hf hfn => by
      obtain rfl : f = 11 := Option.some.inj ((show Tryd.prog.funcNamed "doorward/doorwardlaw04.SlotWrites" = some 11 by kernel_rfl).symm.trans hf) |>.symm
      obtain rfl : fn = Tryd.f11 := (Option.some.inj (Tryd.func11.symm.trans hfn)).symm
      exact ⟨by kernel_rfl, fun j t ht => by
        rw [Tryd.params11] at ht
        have hm : t ∈ [3, 3, 52] := by simpa using Array.mem_of_getElem? ht
        have hall : ([3, 3, 52].all fun u => !Tryd.prog.wantsStandIn u) = true := by kernel_rfl
        exact (show Tryd.prog.wantsStandIn t = false by simpa using List.all_eq_true.1 hall t hm)⟩)
    (by kernel_rfl)
end Go.Proofs.YtniplmjbligmlaaDoor.slotWrites
namespace Go.Proofs.YtniplmjbligmlaaDoor
theorem slotWrites_holds : Rows.SlotWritesCardSaid := slotWrites.card
#print axioms slotWrites_holds
end Go.Proofs.YtniplmjbligmlaaDoor
