/- SlotBack holds: the Go law answers true for every input, and leaves its arguments alone; no condition but that the listed tables of the library stand as the program's text lays them. -/
import Derived.Test.YtniplmjbligmlaaDoorMgSlotBack2
import Derived.Test.YtniplmjbligmlaaDoorMgSlotBack0
import Derived.Test.YtniplmjbligmlaaDoorCards
import Derived.Test.YtniplmjbligmlaaDoorTie
import Derived.Test.YtniplmjbligmlaaDoorWMore
import Derived.WalkKit
import Derived.ProofKit
import Derived.OpenShut
import Derived.ShutString
import Derived.ChangeOld
import Derived.Below
import Derived.SizedLaws
import Derived.LaidMore
import Derived.Lay
import Derived.SevenTiedAt
import Derived.Stop.Joined
/-! Layer 4: heads, read, by the program and by the reference. -/
namespace Go.Proofs.YtniplmjbligmlaaDoor.V
open Go.RowKit Go.Proofs.YtniplmjbligmlaaDoorW.PrintLast
set_option linter.unusedVariables false
set_option linter.unusedSimpArgs false
def readT (l : List UInt8) (n : Nat) : List Int := (List.range n).map fun i => ((partN l (9 + 2 * i) 2 : Nat) : Int)
theorem readT_len (l : List UInt8) (n : Nat) : (readT l n).length = n := by simp [readT]
theorem readT_succ (l : List UInt8) (n : Nat) : readT l n ++ [((partN l (9 + 2 * n) 2 : Nat) : Int)] = readT l (n + 1) := by simp [readT, List.range_succ]
def rdHead (s : ByteArray) : Int × Int × List Int × Int :=
  if headB (partN (L s) 1 6) (partN (L s) 7 1) (readT (L s) (min (partN (L s) 8 1) 40)) = true ∧ layS (headL (partN (L s) 1 6) (partN (L s) 7 1) (readT (L s) (min (partN (L s) 8 1) 40))) = s then (partN (L s) 1 6, partN (L s) 7 1, readT (L s) (min (partN (L s) 8 1) 40), 0) else (0, 0, [], 4)
section
variable {M F0 F : Nat → Prop} {w0 w : World} {B : List Box} {R : List (World → Prop)} {K : Ending → World → Prop}
theorem vstartB {P : Program} {l : List Oper} {a : Act} {Q : Exit → Act → World → Prop} (H : St M F0 w0 F B R w) {id n : Nat} (Bs : List Box) (ds : List Nat) (lb : Array Bool) (hm : P.follows .mixedOrders = true) (hn : l.toArray.size = n) (hl : Array.replicate n false = lb)
    (h : ∀ w', St M F0 w0 F B R w' → wpAnyLast P .any l.toArray Q (Cls M F0 w0 Bs R) ds n lb a w') : (Code.region id l.toArray true).wp P Q a w := vstart H (Cls M F0 w0 Bs R) ds lb hm hn hl h
set_option maxRecDepth 100000
set_option maxHeartbeats 4000000
theorem sl_slot_ReadHead (H : St M F0 w0 F B R w) {s : ByteArray} {n p e : Int} {l : List Int} (h : s.size ≤ 100000) (hr : rdHead s = (n, p, l, e)) (k : ∀ Fx w' A' c', Cap l.length c' → St M F0 w0 Fx B (rdc (Kd.int .i64) A' l :: R) w' → K (.returned (.tuple #[.agg #[.int .i64 n, .int .i64 p, .slice A' l.length c'], .int .i64 e])) w') : Calls Tryd.prog 44 #[.string s] w K := by
  refine St.fn0 H (R0 := []) no_mem (fun H => ?_)
  refine sx_enter Tryd.func44 Tryd.ntmps44 rfl rfl (fun a A => ?_)
  unfold rdHead at hr
  obtain ⟨r0, h0⟩ : ∃ r, partN (L s) 0 1 = r := ⟨_, rfl⟩
  obtain ⟨r1, h1⟩ : ∃ r, partN (L s) 1 6 = r := ⟨_, rfl⟩
  obtain ⟨r2, h2⟩ : ∃ r, partN (L s) 7 1 = r := ⟨_, rfl⟩
  obtain ⟨r3, h3⟩ : ∃ r, partN (L s) 8 1 = r := ⟨_, rfl⟩
  obtain ⟨m, hm⟩ : ∃ m, min r3 40 = m := ⟨_, rfl⟩
  obtain ⟨ts, hts⟩ : ∃ ts, readT (L s) m = ts := ⟨_, rfl⟩
  have htl : ts.length = m := by rw [← hts, readT_len]
  rw [h1, h2, h3, hm, hts] at hr
  have hmz : min (r3 : Int) 40 = (m : Int) := by omega
  have hm40 : m ≤ 40 := by omega
  repeat' (first
    | ((with_reducible refine g_dst 13 ?_); refine sx_callv (f := 68) A rfl rfl Tryd.call68 rfl rfl rfl ?_; refine sl_slot_next (size := 1) (at_ := 0) (z := 0) (z' := 1) H (by omega) (by omega) (by omega) (by omega) rfl rfl rfl h0 ?_; clear H; intro F_ w_ H; refine ⟨_, rfl, ?_⟩; clear A; intro a A)
    | ((with_reducible refine g_dst 15 ?_); refine sx_callv (f := 68) A rfl rfl Tryd.call68 rfl rfl rfl ?_; refine sl_slot_next (size := 6) (at_ := 1) (z := 1) (z' := 7) H (by omega) (by omega) (by omega) (by omega) rfl rfl rfl h1 ?_; clear H; intro F_ w_ H; refine ⟨_, rfl, ?_⟩; clear A; intro a A)
    | ((with_reducible refine g_dst 18 ?_); refine sx_callv (f := 68) A rfl rfl Tryd.call68 rfl rfl rfl ?_; refine sl_slot_next (size := 1) (at_ := 7) (z := 7) (z' := 8) H (by omega) (by omega) (by omega) (by omega) rfl rfl rfl h2 ?_; clear H; intro F_ w_ H; refine ⟨_, rfl, ?_⟩; clear A; intro a A)
    | ((with_reducible refine g_dst 21 ?_); refine sx_callv (f := 68) A rfl rfl Tryd.call68 rfl rfl rfl ?_; refine sl_slot_next (size := 1) (at_ := 8) (z := 8) (z' := ((9 + 2 * 0 : Nat) : Int)) H (by omega) (by omega) (by omega) (by omega) rfl rfl rfl h3 ?_; clear H; intro F_ w_ H; refine ⟨_, rfl, ?_⟩; clear A; intro a A)
    | with_reducible refine wp_seq ?_
    | with_reducible refine sx_region ?_
    | with_reducible refine wp_block ?_
    | with_reducible refine wpList_nil ?_
    | with_reducible refine sx_then ?_
    | with_reducible refine sx_inb ?_
    | with_reducible refine wp_skip ?_
    | with_reducible refine wp_ret ?_
    | with_reducible refine wp_exit ?_
    | with_reducible refine sx_then_ret ?_
    | with_reducible refine sx_inb_ret ?_
    | with_reducible refine sx_then_exit ?_
    | with_reducible refine sx_inb_exit ?_
    | with_reducible refine sx_inb_other rfl ?_
    | with_reducible refine sx_if_t A rfl ?_
    | with_reducible refine sx_if_f A rfl ?_
    | ((with_reducible refine sx_at ?_); first
      | (refine sx_pure A tbOk rfl rfl rfl ?_; clear A; intro a A)
      | (refine sx_skip A rfl rfl ?_; clear A; intro a A)
      | ((with_reducible refine g_bin ?_); first | ((refine g_int A rfl ?_); first | (refine sx_cmp A rfl rfl rfl rfl ?_; clear A; intro a A) | (refine sx_arith A rfl rfl rfl rfl ?_; clear A; intro a A) | (refine sx_shl A rfl rfl rfl rfl ?_; clear A; intro a A) | (refine sx_shr A rfl rfl rfl rfl ?_; clear A; intro a A)) | ((refine g_str A rfl ?_); first | (refine sx_scmp A rfl rfl rfl rfl ?_; clear A; intro a A) | (refine sx_concat A rfl rfl rfl rfl ?_; clear A; intro a A)))
      | ((with_reducible refine g_load ?_); first | (refine sx_load_all H A tbOk rfl rfl rfl rfl rfl ?_; clear A; intro a A) | (refine sx_load H A tbOk rfl rfl rfl rfl ?_; clear A; intro a A))
      | ((with_reducible refine g_store ?_); refine sx_store H A tbOk rfl rfl rfl rfl ?_; clear H; intro w_ H)
      | ((with_reducible refine g_box ?_); refine sx_box H A rfl rfl rfl ?_; clear H A; intro b_ a w_ A H)
      | ((with_reducible refine g_alloc ?_); refine sx_alloc H A tbOk rfl rfl rfl ?_; clear H A; intro b_ a w_ A H)
      | ((with_reducible refine g_build ?_); refine sx_build A tbOk rfl rfl rfl rfl rfl rfl ?_; clear A; intro a A)
      | ((with_reducible refine g_builtin ?_); first | (refine sx_min A rfl rfl rfl rfl ?_; clear A; intro a A) | (refine sx_max A rfl rfl rfl rfl ?_; clear A; intro a A))
      | ((with_reducible refine g_slice ?_); first | (refine sx_sstr A tbOk rfl rfl rfl rfl rfl rfl ?_; clear A; intro a A) | (refine sx_cut H A tbOk rfl rfl rfl rfl rfl rfl rfl ?_; clear A H; intro A_ c_ a hc_ A H))
      | ((with_reducible refine g_index ?_); refine sx_sidx A tbOk rfl rfl rfl rfl rfl ?_; clear A; intro a A)
      | ((with_reducible refine g_idx ?_); first | (refine sx_idx H A tbOk rfl rfl rfl rfl rfl rfl ?_; clear A; intro a A) | (refine sx_oidx H A tbOk rfl rfl rfl rfl rfl rfl ?_; clear A; intro a A))
      | ((with_reducible refine g_conv ?_); refine sx_conv A tbOk rfl rfl rfl rfl rfl ?_; clear A; intro a A)
      )
    | ((with_reducible refine g_draw ?_); refine qx_region H (by kernel_rfl) (by kernel_rfl) ?_)
    | ((with_reducible refine qx_nil ?_); clear H; intro w_ F_ H)
    | ((with_reducible refine q_at ?_); first
      | (refine qx_pure A tbOk rfl rfl rfl ?_; clear A; intro a A)
      | (refine qx_skip A rfl rfl ?_; clear A; intro a A)
      | ((with_reducible refine qg_bin ?_); first | ((refine qg_int A rfl ?_); first | (refine qx_cmp A rfl rfl rfl rfl ?_; clear A; intro a A) | (refine qx_arith A rfl rfl rfl rfl ?_; clear A; intro a A)) | ((refine qg_str A rfl ?_); first | (refine qx_scmp A rfl rfl rfl rfl ?_; clear A; intro a A) | (refine qx_concat A rfl rfl rfl rfl ?_; clear A; intro a A)))
      | ((with_reducible refine qg_builtin ?_); first | (refine qx_min A rfl rfl rfl rfl ?_; clear A; intro a A) | (refine qx_max A rfl rfl rfl rfl ?_; clear A; intro a A))
      | ((with_reducible refine qg_slice ?_); refine qx_sstr A tbOk rfl rfl rfl rfl rfl rfl ?_; clear A; intro a A)
      | ((with_reducible refine qg_load ?_); refine qx_load A tbOk rfl rfl rfl rfl ?_; clear A; intro a A)
      | ((with_reducible refine qg_idx ?_); first | (refine qx_idx H A tbOk rfl rfl rfl rfl rfl rfl ?_; clear A; intro a A) | (refine qx_oidx H A tbOk rfl rfl rfl rfl rfl rfl ?_; clear A; intro a A)))
    )
  have Hn := H.nilrow (Kd.int .i64) 3
  clear H
  refine sx_rounds (ι := Nat × Option Addr × Nat) (fun x => x.1 ≤ m) (fun x => [(23, .int .i64 (x.1 : Int)), (22, _), (4, _), (5, _), (2, _), (0, _), (3, _)]) (fun x => [.row (Kd.int .i64) _ x.2.1 x.2.2 (readT (L s) x.1), .mk _ _ [.string s, .int .i64 ((9 + 2 * x.1 : Nat) : Int)], .mk _ _ [.int .i64 (r1 : Int), .int .i64 (r2 : Int), .slice x.2.1 x.1 x.2.2], _]) (fun _ => []) (fun x => m - x.1) (0, none, 0) Hn A.subs (Nat.zero_le _) (fun x F a W hi H A => ?_)
  obtain ⟨i, Ai, ci⟩ := x
  dsimp only at hi H A
  have hln := readT_len (L s) i
  rcases Nat.lt_or_ge i m with hlt | hge
  · obtain ⟨ri, hri⟩ : ∃ r, partN (L s) (9 + 2 * i) 2 = r := ⟨_, rfl⟩
    have hsu := readT_succ (L s) i
    rw [hri] at hsu
    have hln2 := readT_len (L s) (i + 1)
    repeat' (first
    | ((with_reducible refine g_draw ?_); refine vstartB H [.mk b_ 52 [.int .i64 (r1 : Int), .int .i64 (r2 : Int), .slice Ai i ci]] [7] #[false, false, false, false, false, false, false, false] (by kernel_rfl) rfl rfl (fun w_ H => ?_))
    | with_reducible refine wp_seq ?_
    | with_reducible refine sx_region ?_
    | with_reducible refine wp_block ?_
    | with_reducible refine wpList_nil ?_
    | with_reducible refine sx_then ?_
    | with_reducible refine sx_inb ?_
    | with_reducible refine wp_skip ?_
    | with_reducible refine wp_ret ?_
    | with_reducible refine wp_exit ?_
    | with_reducible refine sx_then_ret ?_
    | with_reducible refine sx_inb_ret ?_
    | with_reducible refine sx_then_exit ?_
    | with_reducible refine sx_inb_exit ?_
    | with_reducible refine sx_inb_other rfl ?_
    | with_reducible refine sx_if_t A rfl ?_
    | with_reducible refine sx_if_f A rfl ?_
    | ((with_reducible refine sx_at ?_); first
      | (refine sx_pure A tbOk rfl rfl rfl ?_; clear A; intro a A)
      | (refine sx_skip A rfl rfl ?_; clear A; intro a A)
      | ((with_reducible refine g_bin ?_); first | ((refine g_int A rfl ?_); first | (refine sx_cmp A rfl rfl rfl rfl ?_; clear A; intro a A) | (refine sx_arith A rfl rfl rfl rfl ?_; clear A; intro a A) | (refine sx_shl A rfl rfl rfl rfl ?_; clear A; intro a A) | (refine sx_shr A rfl rfl rfl rfl ?_; clear A; intro a A)) | ((refine g_str A rfl ?_); first | (refine sx_scmp A rfl rfl rfl rfl ?_; clear A; intro a A) | (refine sx_concat A rfl rfl rfl rfl ?_; clear A; intro a A)))
      | ((with_reducible refine g_load ?_); first | (refine sx_load_all H A tbOk rfl rfl rfl rfl rfl ?_; clear A; intro a A) | (refine sx_load H A tbOk rfl rfl rfl rfl ?_; clear A; intro a A))
      | ((with_reducible refine g_store ?_); refine sx_store H A tbOk rfl rfl rfl rfl ?_; clear H; intro w_ H)
      | ((with_reducible refine g_box ?_); refine sx_box H A rfl rfl rfl ?_; clear H A; intro b_ a w_ A H)
      | ((with_reducible refine g_alloc ?_); refine sx_alloc H A tbOk rfl rfl rfl ?_; clear H A; intro b_ a w_ A H)
      | ((with_reducible refine g_build ?_); refine sx_build A tbOk rfl rfl rfl rfl rfl rfl ?_; clear A; intro a A)
      | ((with_reducible refine g_builtin ?_); first | (refine sx_min A rfl rfl rfl rfl ?_; clear A; intro a A) | (refine sx_max A rfl rfl rfl rfl ?_; clear A; intro a A))
      | ((with_reducible refine g_slice ?_); first | (refine sx_sstr A tbOk rfl rfl rfl rfl rfl rfl ?_; clear A; intro a A) | (refine sx_cut H A tbOk rfl rfl rfl rfl rfl rfl rfl ?_; clear A H; intro A_ c_ a hc_ A H))
      | ((with_reducible refine g_index ?_); refine sx_sidx A tbOk rfl rfl rfl rfl rfl ?_; clear A; intro a A)
      | ((with_reducible refine g_idx ?_); first | (refine sx_idx H A tbOk rfl rfl rfl rfl rfl rfl ?_; clear A; intro a A) | (refine sx_oidx H A tbOk rfl rfl rfl rfl rfl rfl ?_; clear A; intro a A))
      | ((with_reducible refine g_conv ?_); refine sx_conv A tbOk rfl rfl rfl rfl rfl ?_; clear A; intro a A)
      )
    | ((with_reducible refine g_draw ?_); refine qx_region H (by kernel_rfl) (by kernel_rfl) ?_)
    | ((with_reducible refine qx_nil ?_); clear H; intro w_ F_ H)
    | ((with_reducible refine q_at ?_); first
      | (refine qx_pure A tbOk rfl rfl rfl ?_; clear A; intro a A)
      | (refine qx_skip A rfl rfl ?_; clear A; intro a A)
      | ((with_reducible refine qg_bin ?_); first | ((refine qg_int A rfl ?_); first | (refine qx_cmp A rfl rfl rfl rfl ?_; clear A; intro a A) | (refine qx_arith A rfl rfl rfl rfl ?_; clear A; intro a A)) | ((refine qg_str A rfl ?_); first | (refine qx_scmp A rfl rfl rfl rfl ?_; clear A; intro a A) | (refine qx_concat A rfl rfl rfl rfl ?_; clear A; intro a A)))
      | ((with_reducible refine qg_builtin ?_); first | (refine qx_min A rfl rfl rfl rfl ?_; clear A; intro a A) | (refine qx_max A rfl rfl rfl rfl ?_; clear A; intro a A))
      | ((with_reducible refine qg_slice ?_); refine qx_sstr A tbOk rfl rfl rfl rfl rfl rfl ?_; clear A; intro a A)
      | ((with_reducible refine qg_load ?_); refine qx_load A tbOk rfl rfl rfl rfl ?_; clear A; intro a A)
      | ((with_reducible refine qg_idx ?_); first | (refine qx_idx H A tbOk rfl rfl rfl rfl rfl rfl ?_; clear A; intro a A) | (refine qx_oidx H A tbOk rfl rfl rfl rfl rfl rfl ?_; clear A; intro a A)))
    )
    refine vp A tbOk 0 #[true, false, false, false, false, false, false, false] rfl (by kernel_rfl) (fun _ _ _ _ h => h) rfl rfl rfl rfl ?_; clear A; intro a A
    refine vload H.sel A tbOk 1 #[true, true, false, false, false, false, false, false] rfl (by kernel_rfl) (fun _ _ _ _ h => h) rfl rfl rfl rfl ?_; clear A; intro a A
    refine vp A tbOk 2 #[true, true, true, false, false, false, false, false] rfl (by kernel_rfl) (fun _ _ _ _ h => h) rfl rfl rfl rfl ?_; clear A; intro a A
    refine vone #[true, true, true, true, false, false, false, false] (i := 3) rfl (by kernel_rfl) ?_
    refine sx_callv (f := 68) A rfl rfl Tryd.call68 rfl rfl rfl ?_; refine sl_slot_next (size := 2) (at_ := 9 + 2 * i) (z := ((9 + 2 * i : Nat) : Int)) (z' := ((9 + 2 * (i + 1) : Nat) : Int)) H (by omega) (by omega) (by omega) (by omega) rfl rfl (by omega) hri ?_; clear H; intro F_ w_ H; refine ⟨_, rfl, ?_⟩; clear A; intro a A
    refine wpList_nil ?_
    refine ⟨fun hn => ⟨_, H.sel⟩, ?_⟩
    refine vone #[true, true, true, true, true, false, false, false] (i := 4) rfl (by kernel_rfl) ?_
    refine sx_lit (dk := Kd.int .i64) (ys := [_]) H A tbOk rfl rfl rfl rfl rfl rfl (.cons (mk_scalar _) .nil) ?_; clear H A; intro b2 a w_ A H
    refine wpList_nil ?_
    refine ⟨fun hn => ⟨_, H.sel⟩, ?_⟩
    refine vone #[true, true, true, true, true, true, false, false] (i := 5) rfl (by kernel_rfl) ?_
    refine sx_appendL (dk := Kd.int .i64) H A tbOk rfl rfl rfl rfl rfl rfl rfl rfl rfl ?_ (hn := hln.symm) (hb := by rw [hln]; simp only [List.length_cons, List.length_nil]; omega) (h63 := by rw [hln]; simp only [List.length_cons, List.length_nil]; omega); clear A H; intro A1 c1 a w_ A H; rw [hsu] at H A; rw [hln2] at A
    refine wpList_nil ?_
    refine ⟨fun hn => ⟨_, H.sel⟩, ?_⟩
    refine vp A tbOk 6 #[true, true, true, true, true, true, true, false] rfl (by kernel_rfl) (fun _ _ _ _ h => h) rfl rfl rfl rfl ?_; clear A; intro a A
    refine vone #[true, true, true, true, true, true, true, true] (i := 7) rfl (by kernel_rfl) ?_
    refine sx_store H A tbOk rfl rfl rfl rfl ?_; clear H; intro w_ H
    refine wpList_nil ?_
    refine ⟨fun hn => absurd (by decide) hn, ?_⟩
    refine vdone (by kernel_rfl) ?_
    repeat' (first
    | with_reducible refine wp_seq ?_
    | with_reducible refine sx_region ?_
    | with_reducible refine wp_block ?_
    | with_reducible refine wpList_nil ?_
    | with_reducible refine sx_then ?_
    | with_reducible refine sx_inb ?_
    | with_reducible refine wp_skip ?_
    | with_reducible refine wp_ret ?_
    | with_reducible refine wp_exit ?_
    | with_reducible refine sx_then_ret ?_
    | with_reducible refine sx_inb_ret ?_
    | with_reducible refine sx_then_exit ?_
    | with_reducible refine sx_inb_exit ?_
    | with_reducible refine sx_inb_other rfl ?_
    | with_reducible refine sx_if_t A rfl ?_
    | with_reducible refine sx_if_f A rfl ?_
    | ((with_reducible refine sx_at ?_); first
      | (refine sx_pure A tbOk rfl rfl rfl ?_; clear A; intro a A)
      | (refine sx_skip A rfl rfl ?_; clear A; intro a A)
      | ((with_reducible refine g_bin ?_); first | ((refine g_int A rfl ?_); first | (refine sx_cmp A rfl rfl rfl rfl ?_; clear A; intro a A) | (refine sx_arith A rfl rfl rfl rfl ?_; clear A; intro a A) | (refine sx_shl A rfl rfl rfl rfl ?_; clear A; intro a A) | (refine sx_shr A rfl rfl rfl rfl ?_; clear A; intro a A)) | ((refine g_str A rfl ?_); first | (refine sx_scmp A rfl rfl rfl rfl ?_; clear A; intro a A) | (refine sx_concat A rfl rfl rfl rfl ?_; clear A; intro a A)))
      | ((with_reducible refine g_load ?_); first | (refine sx_load_all H A tbOk rfl rfl rfl rfl rfl ?_; clear A; intro a A) | (refine sx_load H A tbOk rfl rfl rfl rfl ?_; clear A; intro a A))
      | ((with_reducible refine g_store ?_); refine sx_store H A tbOk rfl rfl rfl rfl ?_; clear H; intro w_ H)
      | ((with_reducible refine g_box ?_); refine sx_box H A rfl rfl rfl ?_; clear H A; intro b_ a w_ A H)
      | ((with_reducible refine g_alloc ?_); refine sx_alloc H A tbOk rfl rfl rfl ?_; clear H A; intro b_ a w_ A H)
      | ((with_reducible refine g_build ?_); refine sx_build A tbOk rfl rfl rfl rfl rfl rfl ?_; clear A; intro a A)
      | ((with_reducible refine g_builtin ?_); first | (refine sx_min A rfl rfl rfl rfl ?_; clear A; intro a A) | (refine sx_max A rfl rfl rfl rfl ?_; clear A; intro a A))
      | ((with_reducible refine g_slice ?_); first | (refine sx_sstr A tbOk rfl rfl rfl rfl rfl rfl ?_; clear A; intro a A) | (refine sx_cut H A tbOk rfl rfl rfl rfl rfl rfl rfl ?_; clear A H; intro A_ c_ a hc_ A H))
      | ((with_reducible refine g_index ?_); refine sx_sidx A tbOk rfl rfl rfl rfl rfl ?_; clear A; intro a A)
      | ((with_reducible refine g_idx ?_); first | (refine sx_idx H A tbOk rfl rfl rfl rfl rfl rfl ?_; clear A; intro a A) | (refine sx_oidx H A tbOk rfl rfl rfl rfl rfl rfl ?_; clear A; intro a A))
      | ((with_reducible refine g_conv ?_); refine sx_conv A tbOk rfl rfl rfl rfl rfl ?_; clear A; intro a A)
      )
    | ((with_reducible refine g_draw ?_); refine qx_region H (by kernel_rfl) (by kernel_rfl) ?_)
    | ((with_reducible refine qx_nil ?_); clear H; intro w_ F_ H)
    | ((with_reducible refine q_at ?_); first
      | (refine qx_pure A tbOk rfl rfl rfl ?_; clear A; intro a A)
      | (refine qx_skip A rfl rfl ?_; clear A; intro a A)
      | ((with_reducible refine qg_bin ?_); first | ((refine qg_int A rfl ?_); first | (refine qx_cmp A rfl rfl rfl rfl ?_; clear A; intro a A) | (refine qx_arith A rfl rfl rfl rfl ?_; clear A; intro a A)) | ((refine qg_str A rfl ?_); first | (refine qx_scmp A rfl rfl rfl rfl ?_; clear A; intro a A) | (refine qx_concat A rfl rfl rfl rfl ?_; clear A; intro a A)))
      | ((with_reducible refine qg_builtin ?_); first | (refine qx_min A rfl rfl rfl rfl ?_; clear A; intro a A) | (refine qx_max A rfl rfl rfl rfl ?_; clear A; intro a A))
      | ((with_reducible refine qg_slice ?_); refine qx_sstr A tbOk rfl rfl rfl rfl rfl rfl ?_; clear A; intro a A)
      | ((with_reducible refine qg_load ?_); refine qx_load A tbOk rfl rfl rfl rfl ?_; clear A; intro a A)
      | ((with_reducible refine qg_idx ?_); first | (refine qx_idx H A tbOk rfl rfl rfl rfl rfl rfl ?_; clear A; intro a A) | (refine qx_oidx H A tbOk rfl rfl rfl rfl rfl rfl ?_; clear A; intro a A)))
    )
    exact ⟨(i + 1, A1, c1), _, by (show i + 1 ≤ m); omega, by (show m - (i + 1) < m - i); omega, H.sel, A.subs⟩
  · obtain rfl : i = ts.length := by omega
    have hts2 : readT (L s) ts.length = ts := by rw [htl]; exact hts
    rw [hts2] at H
    obtain ⟨hcp, F2, _, H2⟩ := H.freeze_row Del.hd
    clear H
    have H := H2
    clear H2
    have hq : ∃ q y, (if headB r1 r2 ts then (layS (headL r1 r2 ts), (0 : Int)) else (⟨#[]⟩, 1)) = (q, y) ∧ ((y = 0 ∧ q = s ∧ n = r1 ∧ p = r2 ∧ l = ts ∧ e = 0) ∨ (y = 0 ∧ q ≠ s ∧ n = 0 ∧ p = 0 ∧ l = [] ∧ e = 4) ∨ (y = 1 ∧ n = 0 ∧ p = 0 ∧ l = [] ∧ e = 4)) := by
      cases hE : headB r1 r2 ts
      · rw [hE] at hr
        simp only [Bool.false_eq_true, false_and, if_false] at hr
        injection hr with q1 q2; injection q2 with q2 q3; injection q3 with q3 q4
        exact ⟨_, _, rfl, .inr (.inr ⟨rfl, q1.symm, q2.symm, q3.symm, q4.symm⟩)⟩
      · rw [hE] at hr
        refine ⟨_, _, rfl, ?_⟩
        by_cases hs : layS (headL r1 r2 ts) = s
        · rw [if_pos ⟨rfl, hs⟩] at hr
          injection hr with q1 q2; injection q2 with q2 q3; injection q3 with q3 q4
          exact .inl ⟨rfl, hs, q1.symm, q2.symm, q3.symm, q4.symm⟩
        · rw [if_neg (fun h => hs h.2)] at hr
          injection hr with q1 q2; injection q2 with q2 q3; injection q3 with q3 q4
          exact .inr (.inl ⟨rfl, hs, q1.symm, q2.symm, q3.symm, q4.symm⟩)
    obtain ⟨q, y, hS, hq⟩ := hq
    clear hr
    rcases hq with ⟨rfl, rfl, rfl, rfl, rfl, rfl⟩ | ⟨rfl, hne, rfl, rfl, rfl, rfl⟩ | ⟨rfl, rfl, rfl, rfl, rfl⟩
    all_goals repeat' (first
    | ((with_reducible refine g_call ?_); refine sx_call (f := 27) A rfl Tryd.call27 rfl rfl ?_; refine sl_slot_Head H (by omega) hS ?_; clear H; intro F_ w_ H; refine ⟨_, rfl, ?_⟩; clear A; intro a A)
    | (refine sx_ret tbOk H A rfl ?_; first | exact H.retR (ps := [_]) fun Fx Hx => k Fx _ _ _ (by assumption) Hx | exact (H.fact (fun W _ => rdc_nil (Kd.int .i64) none W)).retR (ps := [_]) fun Fx Hx => k Fx _ _ _ ⟨Nat.le_refl _⟩ Hx)
    | with_reducible refine wp_seq ?_
    | with_reducible refine sx_region ?_
    | with_reducible refine wp_block ?_
    | with_reducible refine wpList_nil ?_
    | with_reducible refine sx_then ?_
    | with_reducible refine sx_inb ?_
    | with_reducible refine wp_skip ?_
    | with_reducible refine wp_ret ?_
    | with_reducible refine wp_exit ?_
    | with_reducible refine sx_then_ret ?_
    | with_reducible refine sx_inb_ret ?_
    | with_reducible refine sx_then_exit ?_
    | with_reducible refine sx_inb_exit ?_
    | with_reducible refine sx_inb_other rfl ?_
    | with_reducible refine sx_if_t A rfl ?_
    | with_reducible refine sx_if_f A rfl ?_
    | ((with_reducible refine sx_at ?_); first
      | (refine sx_pure A tbOk rfl rfl rfl ?_; clear A; intro a A)
      | (refine sx_skip A rfl rfl ?_; clear A; intro a A)
      | ((with_reducible refine g_bin ?_); first | ((refine g_int A rfl ?_); first | (refine sx_cmp A rfl rfl rfl rfl ?_; clear A; intro a A) | (refine sx_arith A rfl rfl rfl rfl ?_; clear A; intro a A) | (refine sx_shl A rfl rfl rfl rfl ?_; clear A; intro a A) | (refine sx_shr A rfl rfl rfl rfl ?_; clear A; intro a A)) | ((refine g_str A rfl ?_); first | (refine sx_scmp A rfl rfl rfl rfl ?_; clear A; intro a A) | (refine sx_concat A rfl rfl rfl rfl ?_; clear A; intro a A)))
      | ((with_reducible refine g_load ?_); first | (refine sx_load_all H A tbOk rfl rfl rfl rfl rfl ?_; clear A; intro a A) | (refine sx_load H A tbOk rfl rfl rfl rfl ?_; clear A; intro a A))
      | ((with_reducible refine g_store ?_); refine sx_store H A tbOk rfl rfl rfl rfl ?_; clear H; intro w_ H)
      | ((with_reducible refine g_box ?_); refine sx_box H A rfl rfl rfl ?_; clear H A; intro b_ a w_ A H)
      | ((with_reducible refine g_alloc ?_); refine sx_alloc H A tbOk rfl rfl rfl ?_; clear H A; intro b_ a w_ A H)
      | ((with_reducible refine g_build ?_); refine sx_build A tbOk rfl rfl rfl rfl rfl rfl ?_; clear A; intro a A)
      | ((with_reducible refine g_builtin ?_); first | (refine sx_min A rfl rfl rfl rfl ?_; clear A; intro a A) | (refine sx_max A rfl rfl rfl rfl ?_; clear A; intro a A))
      | ((with_reducible refine g_slice ?_); first | (refine sx_sstr A tbOk rfl rfl rfl rfl rfl rfl ?_; clear A; intro a A) | (refine sx_cut H A tbOk rfl rfl rfl rfl rfl rfl rfl ?_; clear A H; intro A_ c_ a hc_ A H))
      | ((with_reducible refine g_index ?_); refine sx_sidx A tbOk rfl rfl rfl rfl rfl ?_; clear A; intro a A)
      | ((with_reducible refine g_idx ?_); first | (refine sx_idx H A tbOk rfl rfl rfl rfl rfl rfl ?_; clear A; intro a A) | (refine sx_oidx H A tbOk rfl rfl rfl rfl rfl rfl ?_; clear A; intro a A))
      | ((with_reducible refine g_conv ?_); refine sx_conv A tbOk rfl rfl rfl rfl rfl ?_; clear A; intro a A)
      )
    | ((with_reducible refine g_draw ?_); refine qx_region H (by kernel_rfl) (by kernel_rfl) ?_)
    | ((with_reducible refine qx_nil ?_); clear H; intro w_ F_ H)
    | ((with_reducible refine q_at ?_); first
      | (refine qx_pure A tbOk rfl rfl rfl ?_; clear A; intro a A)
      | (refine qx_skip A rfl rfl ?_; clear A; intro a A)
      | ((with_reducible refine qg_bin ?_); first | ((refine qg_int A rfl ?_); first | (refine qx_cmp A rfl rfl rfl rfl ?_; clear A; intro a A) | (refine qx_arith A rfl rfl rfl rfl ?_; clear A; intro a A)) | ((refine qg_str A rfl ?_); first | (refine qx_scmp A rfl rfl rfl rfl ?_; clear A; intro a A) | (refine qx_concat A rfl rfl rfl rfl ?_; clear A; intro a A)))
      | ((with_reducible refine qg_builtin ?_); first | (refine qx_min A rfl rfl rfl rfl ?_; clear A; intro a A) | (refine qx_max A rfl rfl rfl rfl ?_; clear A; intro a A))
      | ((with_reducible refine qg_slice ?_); refine qx_sstr A tbOk rfl rfl rfl rfl rfl rfl ?_; clear A; intro a A)
      | ((with_reducible refine qg_load ?_); refine qx_load A tbOk rfl rfl rfl rfl ?_; clear A; intro a A)
      | ((with_reducible refine qg_idx ?_); first | (refine qx_idx H A tbOk rfl rfl rfl rfl rfl rfl ?_; clear A; intro a A) | (refine qx_oidx H A tbOk rfl rfl rfl rfl rfl rfl ?_; clear A; intro a A)))
    )
theorem sl_ref04_ReadHead (H : St M F0 w0 F B R w) {s : ByteArray} {n p e : Int} {l : List Int} (h : s.size ≤ 100000) (hr : rdHead s = (n, p, l, e)) (k : ∀ Fx w' A' c', Cap l.length c' → St M F0 w0 Fx B (rdc (Kd.int .i64) A' l :: R) w' → K (.returned (.tuple #[.agg #[.int .i64 n, .int .i64 p, .slice A' l.length c'], .int .i64 e])) w') : Calls Tryd.prog 45 #[.string s] w K := by
  refine St.fn0 H (R0 := []) no_mem (fun H => ?_)
  refine sx_enter Tryd.func45 Tryd.ntmps45 rfl rfl (fun a A => ?_)
  unfold rdHead at hr
  obtain ⟨r1, h1⟩ : ∃ r, partN (L s) 1 6 = r := ⟨_, rfl⟩
  obtain ⟨r2, h2⟩ : ∃ r, partN (L s) 7 1 = r := ⟨_, rfl⟩
  obtain ⟨r3, h3⟩ : ∃ r, partN (L s) 8 1 = r := ⟨_, rfl⟩
  obtain ⟨m, hm⟩ : ∃ m, min r3 40 = m := ⟨_, rfl⟩
  obtain ⟨ts, hts⟩ : ∃ ts, readT (L s) m = ts := ⟨_, rfl⟩
  have htl : ts.length = m := by rw [← hts, readT_len]
  rw [h1, h2, h3, hm, hts] at hr
  have hm40 : m ≤ 40 := by omega
  repeat' (first
    | ((with_reducible refine g_dst 8 ?_); refine sx_call (f := 69) A rfl Tryd.call69 rfl rfl ?_; refine sl_ref04_part (at_ := 1) (size := 6) H (by omega) (by omega) (by omega) rfl rfl h1 ?_; clear H; intro F_ w_ H; refine ⟨_, rfl, ?_⟩; clear A; intro a A)
    | ((with_reducible refine g_dst 10 ?_); refine sx_call (f := 69) A rfl Tryd.call69 rfl rfl ?_; refine sl_ref04_part (at_ := 7) (size := 1) H (by omega) (by omega) (by omega) rfl rfl h2 ?_; clear H; intro F_ w_ H; refine ⟨_, rfl, ?_⟩; clear A; intro a A)
    | ((with_reducible refine g_dst 13 ?_); refine sx_call (f := 69) A rfl Tryd.call69 rfl rfl ?_; refine sl_ref04_part (at_ := 8) (size := 1) H (by omega) (by omega) (by omega) rfl rfl h3 ?_; clear H; intro F_ w_ H; refine ⟨_, rfl, ?_⟩; clear A; intro a A)
    | with_reducible refine wp_seq ?_
    | with_reducible refine sx_region ?_
    | with_reducible refine wp_block ?_
    | with_reducible refine wpList_nil ?_
    | with_reducible refine sx_then ?_
    | with_reducible refine sx_inb ?_
    | with_reducible refine wp_skip ?_
    | with_reducible refine wp_ret ?_
    | with_reducible refine wp_exit ?_
    | with_reducible refine sx_then_ret ?_
    | with_reducible refine sx_inb_ret ?_
    | with_reducible refine sx_then_exit ?_
    | with_reducible refine sx_inb_exit ?_
    | with_reducible refine sx_inb_other rfl ?_
    | with_reducible refine sx_if_t A rfl ?_
    | with_reducible refine sx_if_f A rfl ?_
    | ((with_reducible refine sx_at ?_); first
      | (refine sx_pure A tbOk rfl rfl rfl ?_; clear A; intro a A)
      | (refine sx_skip A rfl rfl ?_; clear A; intro a A)
      | ((with_reducible refine g_bin ?_); first | ((refine g_int A rfl ?_); first | (refine sx_cmp A rfl rfl rfl rfl ?_; clear A; intro a A) | (refine sx_arith A rfl rfl rfl rfl ?_; clear A; intro a A) | (refine sx_shl A rfl rfl rfl rfl ?_; clear A; intro a A) | (refine sx_shr A rfl rfl rfl rfl ?_; clear A; intro a A)) | ((refine g_str A rfl ?_); first | (refine sx_scmp A rfl rfl rfl rfl ?_; clear A; intro a A) | (refine sx_concat A rfl rfl rfl rfl ?_; clear A; intro a A)))
      | ((with_reducible refine g_load ?_); first | (refine sx_load_all H A tbOk rfl rfl rfl rfl rfl ?_; clear A; intro a A) | (refine sx_load H A tbOk rfl rfl rfl rfl ?_; clear A; intro a A))
      | ((with_reducible refine g_store ?_); refine sx_store H A tbOk rfl rfl rfl rfl ?_; clear H; intro w_ H)
      | ((with_reducible refine g_box ?_); refine sx_box H A rfl rfl rfl ?_; clear H A; intro b_ a w_ A H)
      | ((with_reducible refine g_alloc ?_); refine sx_alloc H A tbOk rfl rfl rfl ?_; clear H A; intro b_ a w_ A H)
      | ((with_reducible refine g_build ?_); refine sx_build A tbOk rfl rfl rfl rfl rfl rfl ?_; clear A; intro a A)
      | ((with_reducible refine g_builtin ?_); first | (refine sx_min A rfl rfl rfl rfl ?_; clear A; intro a A) | (refine sx_max A rfl rfl rfl rfl ?_; clear A; intro a A))
      | ((with_reducible refine g_slice ?_); first | (refine sx_sstr A tbOk rfl rfl rfl rfl rfl rfl ?_; clear A; intro a A) | (refine sx_cut H A tbOk rfl rfl rfl rfl rfl rfl rfl ?_; clear A H; intro A_ c_ a hc_ A H))
      | ((with_reducible refine g_index ?_); refine sx_sidx A tbOk rfl rfl rfl rfl rfl ?_; clear A; intro a A)
      | ((with_reducible refine g_idx ?_); first | (refine sx_idx H A tbOk rfl rfl rfl rfl rfl rfl ?_; clear A; intro a A) | (refine sx_oidx H A tbOk rfl rfl rfl rfl rfl rfl ?_; clear A; intro a A))
      | ((with_reducible refine g_conv ?_); refine sx_conv A tbOk rfl rfl rfl rfl rfl ?_; clear A; intro a A)
      )
    | ((with_reducible refine g_draw ?_); refine qx_region H (by kernel_rfl) (by kernel_rfl) ?_)
    | ((with_reducible refine qx_nil ?_); clear H; intro w_ F_ H)
    | ((with_reducible refine q_at ?_); first
      | (refine qx_pure A tbOk rfl rfl rfl ?_; clear A; intro a A)
      | (refine qx_skip A rfl rfl ?_; clear A; intro a A)
      | ((with_reducible refine qg_bin ?_); first | ((refine qg_int A rfl ?_); first | (refine qx_cmp A rfl rfl rfl rfl ?_; clear A; intro a A) | (refine qx_arith A rfl rfl rfl rfl ?_; clear A; intro a A)) | ((refine qg_str A rfl ?_); first | (refine qx_scmp A rfl rfl rfl rfl ?_; clear A; intro a A) | (refine qx_concat A rfl rfl rfl rfl ?_; clear A; intro a A)))
      | ((with_reducible refine qg_builtin ?_); first | (refine qx_min A rfl rfl rfl rfl ?_; clear A; intro a A) | (refine qx_max A rfl rfl rfl rfl ?_; clear A; intro a A))
      | ((with_reducible refine qg_slice ?_); refine qx_sstr A tbOk rfl rfl rfl rfl rfl rfl ?_; clear A; intro a A)
      | ((with_reducible refine qg_load ?_); refine qx_load A tbOk rfl rfl rfl rfl ?_; clear A; intro a A)
      | ((with_reducible refine qg_idx ?_); first | (refine qx_idx H A tbOk rfl rfl rfl rfl rfl rfl ?_; clear A; intro a A) | (refine qx_oidx H A tbOk rfl rfl rfl rfl rfl rfl ?_; clear A; intro a A)))
    )
  have Hn := H.nilrow (Kd.int .i64) 3
  clear H
  refine sx_rounds (ι := Nat × Option Addr × Nat) (fun x => x.1 ≤ m) (fun x => [(6, .int .i64 (x.1 : Int)), (5, _), (4, _), (2, _), (0, _), (3, _)]) (fun x => [.row (Kd.int .i64) _ x.2.1 x.2.2 (readT (L s) x.1), .mk _ _ [.int .i64 (r1 : Int), .int .i64 (r2 : Int), .slice x.2.1 x.1 x.2.2], _]) (fun _ => []) (fun x => m - x.1) (0, none, 0) Hn A.subs (Nat.zero_le _) (fun x F a W hi H A => ?_)
  obtain ⟨i, Ai, ci⟩ := x
  dsimp only at hi H A
  have hln := readT_len (L s) i
  rcases Nat.lt_or_ge i m with hlt | hge
  · obtain ⟨ri, hri⟩ : ∃ r, partN (L s) (9 + 2 * i) 2 = r := ⟨_, rfl⟩
    have hsu := readT_succ (L s) i
    rw [hri] at hsu
    have hln2 := readT_len (L s) (i + 1)
    have hl1 : i < r3 := by omega
    have hl2 : i < 40 := by omega
    repeat' (first
    | ((with_reducible refine g_draw ?_); refine vstartB H [.mk b_ 52 [.int .i64 (r1 : Int), .int .i64 (r2 : Int), .slice Ai i ci]] [10] #[false, false, false, false, false, false, false, false, false, false, false] (by kernel_rfl) rfl rfl (fun w_ H => ?_); refine vp A tbOk 0 #[true, false, false, false, false, false, false, false, false, false, false] rfl (by kernel_rfl) (fun _ _ _ _ h => h) rfl rfl rfl rfl ?_; clear A; intro a A; refine vload H.sel A tbOk 1 #[true, true, false, false, false, false, false, false, false, false, false] rfl (by kernel_rfl) (fun _ _ _ _ h => h) rfl rfl rfl rfl ?_; clear A; intro a A; refine vp A tbOk 2 #[true, true, true, false, false, false, false, false, false, false, false] rfl (by kernel_rfl) (fun _ _ _ _ h => h) rfl rfl rfl rfl ?_; clear A; intro a A; refine vp A tbOk 3 #[true, true, true, true, false, false, false, false, false, false, false] rfl (by kernel_rfl) (fun _ _ _ _ h => h) rfl rfl rfl rfl ?_; clear A; intro a A; refine vone #[true, true, true, true, true, false, false, false, false, false, false] (i := 4) rfl (by kernel_rfl) ?_; refine sx_arith A rfl rfl rfl rfl ?_; clear A; intro a A; refine wpList_nil ?_; refine ⟨fun hn => ⟨_, H.sel⟩, ?_⟩; refine vone #[true, true, true, true, true, true, false, false, false, false, false] (i := 5) rfl (by kernel_rfl) ?_; refine sx_arith A rfl rfl rfl rfl ?_; clear A; intro a A; refine wpList_nil ?_; refine ⟨fun hn => ⟨_, H.sel⟩, ?_⟩; refine vone #[true, true, true, true, true, true, true, false, false, false, false] (i := 6) rfl (by kernel_rfl) ?_; refine sx_call (f := 69) A rfl Tryd.call69 rfl rfl ?_; refine sl_ref04_part (at_ := 9 + 2 * i) (size := 2) H (by omega) (by omega) (by omega) (by omega) rfl hri ?_; clear H; intro F_ w_ H; refine ⟨_, rfl, ?_⟩; clear A; intro a A; refine wpList_nil ?_; refine ⟨fun hn => ⟨_, H.sel⟩, ?_⟩; refine vone #[true, true, true, true, true, true, true, true, false, false, false] (i := 7) rfl (by kernel_rfl) ?_; refine sx_lit (dk := Kd.int .i64) (ys := [_]) H A tbOk rfl rfl rfl rfl rfl rfl (.cons (mk_scalar _) .nil) ?_; clear H A; intro b2 a w_ A H; refine wpList_nil ?_; refine ⟨fun hn => ⟨_, H.sel⟩, ?_⟩; refine vone #[true, true, true, true, true, true, true, true, true, false, false] (i := 8) rfl (by kernel_rfl) ?_; refine sx_appendL (dk := Kd.int .i64) H A tbOk rfl rfl rfl rfl rfl rfl rfl rfl rfl ?_ (hn := hln.symm) (hb := by rw [hln]; simp only [List.length_cons, List.length_nil]; omega) (h63 := by rw [hln]; simp only [List.length_cons, List.length_nil]; omega); clear A H; intro A1 c1 a w_ A H; rw [hsu] at H A; rw [hln2] at A; refine wpList_nil ?_; refine ⟨fun hn => ⟨_, H.sel⟩, ?_⟩; refine vp A tbOk 9 #[true, true, true, true, true, true, true, true, true, true, false] rfl (by kernel_rfl) (fun _ _ _ _ h => h) rfl rfl rfl rfl ?_; clear A; intro a A; refine vone #[true, true, true, true, true, true, true, true, true, true, true] (i := 10) rfl (by kernel_rfl) ?_; refine sx_store H A tbOk rfl rfl rfl rfl ?_; clear H; intro w_ H; refine wpList_nil ?_; refine ⟨fun hn => absurd (by decide) hn, ?_⟩; refine vdone (by kernel_rfl) ?_)
    | with_reducible refine wp_seq ?_
    | with_reducible refine sx_region ?_
    | with_reducible refine wp_block ?_
    | with_reducible refine wpList_nil ?_
    | with_reducible refine sx_then ?_
    | with_reducible refine sx_inb ?_
    | with_reducible refine wp_skip ?_
    | with_reducible refine wp_ret ?_
    | with_reducible refine wp_exit ?_
    | with_reducible refine sx_then_ret ?_
    | with_reducible refine sx_inb_ret ?_
    | with_reducible refine sx_then_exit ?_
    | with_reducible refine sx_inb_exit ?_
    | with_reducible refine sx_inb_other rfl ?_
    | with_reducible refine sx_if_t A rfl ?_
    | with_reducible refine sx_if_f A rfl ?_
    | ((with_reducible refine sx_at ?_); first
      | (refine sx_pure A tbOk rfl rfl rfl ?_; clear A; intro a A)
      | (refine sx_skip A rfl rfl ?_; clear A; intro a A)
      | ((with_reducible refine g_bin ?_); first | ((refine g_int A rfl ?_); first | (refine sx_cmp A rfl rfl rfl rfl ?_; clear A; intro a A) | (refine sx_arith A rfl rfl rfl rfl ?_; clear A; intro a A) | (refine sx_shl A rfl rfl rfl rfl ?_; clear A; intro a A) | (refine sx_shr A rfl rfl rfl rfl ?_; clear A; intro a A)) | ((refine g_str A rfl ?_); first | (refine sx_scmp A rfl rfl rfl rfl ?_; clear A; intro a A) | (refine sx_concat A rfl rfl rfl rfl ?_; clear A; intro a A)))
      | ((with_reducible refine g_load ?_); first | (refine sx_load_all H A tbOk rfl rfl rfl rfl rfl ?_; clear A; intro a A) | (refine sx_load H A tbOk rfl rfl rfl rfl ?_; clear A; intro a A))
      | ((with_reducible refine g_store ?_); refine sx_store H A tbOk rfl rfl rfl rfl ?_; clear H; intro w_ H)
      | ((with_reducible refine g_box ?_); refine sx_box H A rfl rfl rfl ?_; clear H A; intro b_ a w_ A H)
      | ((with_reducible refine g_alloc ?_); refine sx_alloc H A tbOk rfl rfl rfl ?_; clear H A; intro b_ a w_ A H)
      | ((with_reducible refine g_build ?_); refine sx_build A tbOk rfl rfl rfl rfl rfl rfl ?_; clear A; intro a A)
      | ((with_reducible refine g_builtin ?_); first | (refine sx_min A rfl rfl rfl rfl ?_; clear A; intro a A) | (refine sx_max A rfl rfl rfl rfl ?_; clear A; intro a A))
      | ((with_reducible refine g_slice ?_); first | (refine sx_sstr A tbOk rfl rfl rfl rfl rfl rfl ?_; clear A; intro a A) | (refine sx_cut H A tbOk rfl rfl rfl rfl rfl rfl rfl ?_; clear A H; intro A_ c_ a hc_ A H))
      | ((with_reducible refine g_index ?_); refine sx_sidx A tbOk rfl rfl rfl rfl rfl ?_; clear A; intro a A)
      | ((with_reducible refine g_idx ?_); first | (refine sx_idx H A tbOk rfl rfl rfl rfl rfl rfl ?_; clear A; intro a A) | (refine sx_oidx H A tbOk rfl rfl rfl rfl rfl rfl ?_; clear A; intro a A))
      | ((with_reducible refine g_conv ?_); refine sx_conv A tbOk rfl rfl rfl rfl rfl ?_; clear A; intro a A)
      )
    | ((with_reducible refine g_draw ?_); refine qx_region H (by kernel_rfl) (by kernel_rfl) ?_)
    | ((with_reducible refine qx_nil ?_); clear H; intro w_ F_ H)
    | ((with_reducible refine q_at ?_); first
      | (refine qx_pure A tbOk rfl rfl rfl ?_; clear A; intro a A)
      | (refine qx_skip A rfl rfl ?_; clear A; intro a A)
      | ((with_reducible refine qg_bin ?_); first | ((refine qg_int A rfl ?_); first | (refine qx_cmp A rfl rfl rfl rfl ?_; clear A; intro a A) | (refine qx_arith A rfl rfl rfl rfl ?_; clear A; intro a A)) | ((refine qg_str A rfl ?_); first | (refine qx_scmp A rfl rfl rfl rfl ?_; clear A; intro a A) | (refine qx_concat A rfl rfl rfl rfl ?_; clear A; intro a A)))
      | ((with_reducible refine qg_builtin ?_); first | (refine qx_min A rfl rfl rfl rfl ?_; clear A; intro a A) | (refine qx_max A rfl rfl rfl rfl ?_; clear A; intro a A))
      | ((with_reducible refine qg_slice ?_); refine qx_sstr A tbOk rfl rfl rfl rfl rfl rfl ?_; clear A; intro a A)
      | ((with_reducible refine qg_load ?_); refine qx_load A tbOk rfl rfl rfl rfl ?_; clear A; intro a A)
      | ((with_reducible refine qg_idx ?_); first | (refine qx_idx H A tbOk rfl rfl rfl rfl rfl rfl ?_; clear A; intro a A) | (refine qx_oidx H A tbOk rfl rfl rfl rfl rfl rfl ?_; clear A; intro a A)))
    )
    exact ⟨(i + 1, A1, c1), _, by (show i + 1 ≤ m); omega, by (show m - (i + 1) < m - i); omega, H.sel, A.subs⟩
  · obtain rfl : i = ts.length := by omega
    have hts2 : readT (L s) ts.length = ts := by rw [htl]; exact hts
    rw [hts2] at H
    obtain ⟨hcp, F2, _, H2⟩ := H.freeze_row Del.hd
    clear H
    have H := H2
    clear H2
    have hq : (headB r1 r2 ts = false ∧ n = 0 ∧ p = 0 ∧ l = [] ∧ e = 4) ∨ (headB r1 r2 ts = true ∧ ∃ q, layS (headL r1 r2 ts) = q ∧ ((q = s ∧ n = r1 ∧ p = r2 ∧ l = ts ∧ e = 0) ∨ (q ≠ s ∧ n = 0 ∧ p = 0 ∧ l = [] ∧ e = 4))) := by
      cases hE : headB r1 r2 ts
      · rw [hE] at hr
        simp only [Bool.false_eq_true, false_and, if_false] at hr
        injection hr with q1 q2; injection q2 with q2 q3; injection q3 with q3 q4
        exact .inl ⟨rfl, q1.symm, q2.symm, q3.symm, q4.symm⟩
      · rw [hE] at hr
        refine .inr ⟨rfl, _, rfl, ?_⟩
        by_cases hs : layS (headL r1 r2 ts) = s
        · rw [if_pos ⟨rfl, hs⟩] at hr
          injection hr with q1 q2; injection q2 with q2 q3; injection q3 with q3 q4
          exact .inl ⟨hs, q1.symm, q2.symm, q3.symm, q4.symm⟩
        · rw [if_neg (fun h => hs h.2)] at hr
          injection hr with q1 q2; injection q2 with q2 q3; injection q3 with q3 q4
          exact .inr ⟨hs, q1.symm, q2.symm, q3.symm, q4.symm⟩
    clear hr
    have hg : (ts.length : Int) < r3 → ¬ ((ts.length : Int) < 40) := by omega
    have hc : (ts.length < r3 ∧ 40 ≤ ts.length) ∨ r3 ≤ ts.length := by omega
    clear hg
    rcases hc with ⟨g1, g2⟩ | g1 <;> rcases hq with ⟨hE, rfl, rfl, rfl, rfl⟩ | ⟨hE, q, hS, ⟨rfl, rfl, rfl, rfl, rfl⟩ | ⟨hne, rfl, rfl, rfl, rfl⟩⟩
    all_goals repeat' (first
    | ((with_reducible refine g_dst 34 ?_); refine sx_call (f := 39) A rfl Tryd.call39 rfl rfl ?_; refine sl_ref04_IsHead H (by omega) hE ?_; clear H; intro F_ w_ H; refine ⟨_, rfl, ?_⟩; clear A; intro a A)
    | ((with_reducible refine g_dst 38 ?_); refine sx_call (f := 40) A rfl Tryd.call40 rfl rfl ?_; refine sl_ref04_Head H hE hS ?_; clear H; intro F_ w_ H; refine ⟨_, rfl, ?_⟩; clear A; intro a A)
    | (refine sx_ret tbOk H A rfl ?_; first | exact H.retR (ps := [_]) fun Fx Hx => k Fx _ _ _ (by assumption) Hx | exact (H.fact (fun W _ => rdc_nil (Kd.int .i64) none W)).retR (ps := [_]) fun Fx Hx => k Fx _ _ _ ⟨Nat.le_refl _⟩ Hx)
    | with_reducible refine wp_seq ?_
    | with_reducible refine sx_region ?_
    | with_reducible refine wp_block ?_
    | with_reducible refine wpList_nil ?_
    | with_reducible refine sx_then ?_
    | with_reducible refine sx_inb ?_
    | with_reducible refine wp_skip ?_
    | with_reducible refine wp_ret ?_
    | with_reducible refine wp_exit ?_
    | with_reducible refine sx_then_ret ?_
    | with_reducible refine sx_inb_ret ?_
    | with_reducible refine sx_then_exit ?_
    | with_reducible refine sx_inb_exit ?_
    | with_reducible refine sx_inb_other rfl ?_
    | with_reducible refine sx_if_t A rfl ?_
    | with_reducible refine sx_if_f A rfl ?_
    | ((with_reducible refine sx_at ?_); first
      | (refine sx_pure A tbOk rfl rfl rfl ?_; clear A; intro a A)
      | (refine sx_skip A rfl rfl ?_; clear A; intro a A)
      | ((with_reducible refine g_bin ?_); first | ((refine g_int A rfl ?_); first | (refine sx_cmp A rfl rfl rfl rfl ?_; clear A; intro a A) | (refine sx_arith A rfl rfl rfl rfl ?_; clear A; intro a A) | (refine sx_shl A rfl rfl rfl rfl ?_; clear A; intro a A) | (refine sx_shr A rfl rfl rfl rfl ?_; clear A; intro a A)) | ((refine g_str A rfl ?_); first | (refine sx_scmp A rfl rfl rfl rfl ?_; clear A; intro a A) | (refine sx_concat A rfl rfl rfl rfl ?_; clear A; intro a A)))
      | ((with_reducible refine g_load ?_); first | (refine sx_load_all H A tbOk rfl rfl rfl rfl rfl ?_; clear A; intro a A) | (refine sx_load H A tbOk rfl rfl rfl rfl ?_; clear A; intro a A))
      | ((with_reducible refine g_store ?_); refine sx_store H A tbOk rfl rfl rfl rfl ?_; clear H; intro w_ H)
      | ((with_reducible refine g_box ?_); refine sx_box H A rfl rfl rfl ?_; clear H A; intro b_ a w_ A H)
      | ((with_reducible refine g_alloc ?_); refine sx_alloc H A tbOk rfl rfl rfl ?_; clear H A; intro b_ a w_ A H)
      | ((with_reducible refine g_build ?_); refine sx_build A tbOk rfl rfl rfl rfl rfl rfl ?_; clear A; intro a A)
      | ((with_reducible refine g_builtin ?_); first | (refine sx_min A rfl rfl rfl rfl ?_; clear A; intro a A) | (refine sx_max A rfl rfl rfl rfl ?_; clear A; intro a A))
      | ((with_reducible refine g_slice ?_); first | (refine sx_sstr A tbOk rfl rfl rfl rfl rfl rfl ?_; clear A; intro a A) | (refine sx_cut H A tbOk rfl rfl rfl rfl rfl rfl rfl ?_; clear A H; intro A_ c_ a hc_ A H))
      | ((with_reducible refine g_index ?_); refine sx_sidx A tbOk rfl rfl rfl rfl rfl ?_; clear A; intro a A)
      | ((with_reducible refine g_idx ?_); first | (refine sx_idx H A tbOk rfl rfl rfl rfl rfl rfl ?_; clear A; intro a A) | (refine sx_oidx H A tbOk rfl rfl rfl rfl rfl rfl ?_; clear A; intro a A))
      | ((with_reducible refine g_conv ?_); refine sx_conv A tbOk rfl rfl rfl rfl rfl ?_; clear A; intro a A)
      )
    | ((with_reducible refine g_draw ?_); refine qx_region H (by kernel_rfl) (by kernel_rfl) ?_)
    | ((with_reducible refine qx_nil ?_); clear H; intro w_ F_ H)
    | ((with_reducible refine q_at ?_); first
      | (refine qx_pure A tbOk rfl rfl rfl ?_; clear A; intro a A)
      | (refine qx_skip A rfl rfl ?_; clear A; intro a A)
      | ((with_reducible refine qg_bin ?_); first | ((refine qg_int A rfl ?_); first | (refine qx_cmp A rfl rfl rfl rfl ?_; clear A; intro a A) | (refine qx_arith A rfl rfl rfl rfl ?_; clear A; intro a A)) | ((refine qg_str A rfl ?_); first | (refine qx_scmp A rfl rfl rfl rfl ?_; clear A; intro a A) | (refine qx_concat A rfl rfl rfl rfl ?_; clear A; intro a A)))
      | ((with_reducible refine qg_builtin ?_); first | (refine qx_min A rfl rfl rfl rfl ?_; clear A; intro a A) | (refine qx_max A rfl rfl rfl rfl ?_; clear A; intro a A))
      | ((with_reducible refine qg_slice ?_); refine qx_sstr A tbOk rfl rfl rfl rfl rfl rfl ?_; clear A; intro a A)
      | ((with_reducible refine qg_load ?_); refine qx_load A tbOk rfl rfl rfl rfl ?_; clear A; intro a A)
      | ((with_reducible refine qg_idx ?_); first | (refine qx_idx H A tbOk rfl rfl rfl rfl rfl rfl ?_; clear A; intro a A) | (refine qx_oidx H A tbOk rfl rfl rfl rfl rfl rfl ?_; clear A; intro a A)))
    )
end
end Go.Proofs.YtniplmjbligmlaaDoor.V

/-! Layer 4: alive. -/
namespace Go.Proofs.YtniplmjbligmlaaDoor.V
open Go.RowKit
set_option linter.unusedVariables false
set_option linter.unusedSimpArgs false
theorem rd31 : rdCommit (layS (commitL 3 1)) = (3, 1, 0) := by decide +kernel
section
variable {M F0 F : Nat → Prop} {w0 w : World} {B : List Box} {R : List (World → Prop)} {K : Ending → World → Prop}
set_option maxRecDepth 100000
set_option maxHeartbeats 4000000
theorem sl_law04_alive (H : St M F0 w0 F B R w) (k : ∀ Fx w', St M F0 w0 Fx B R w' → K (.returned (.bool true)) w') : Calls Tryd.prog 30 #[] w K := by
  refine St.fn0 H (R0 := []) no_mem (fun H => ?_)
  refine sx_enter Tryd.func30 Tryd.ntmps30 rfl rfl (fun a A => ?_)
  have hr := rd31
  have hz := layS_size (commitL 3 1)
  have hl : (commitL 3 1).length = 8 := rfl
  obtain ⟨S, hSd⟩ : ∃ S, layS (commitL 3 1) = S := ⟨_, rfl⟩
  have hS : (if isEpoch 3 && isPlace 1 then (layS (commitL 3 1), (0 : Int)) else (⟨#[]⟩, 1)) = (S, 0) := by rw [hSd]; rfl
  rw [hSd] at hr hz
  clear hSd
  repeat' (first
    | ((with_reducible refine g_dst 7 ?_); refine sx_call (f := 29) A rfl Tryd.call29 rfl rfl ?_; refine sl_slot_Commit H hS ?_; clear H; intro F_ w_ H; refine ⟨_, rfl, ?_⟩; clear A; intro a A)
    | ((with_reducible refine g_dst 12 ?_); refine sx_call (f := 46) A rfl Tryd.call46 rfl rfl ?_; refine sl_slot_ReadCommit H (by omega) hr ?_; clear H; intro F_ w_ H; refine ⟨_, rfl, ?_⟩; clear A; intro a A)
    | (refine sx_ret tbOk H A rfl ?_; exact H.ret0 fun Fx Hx => k Fx _ Hx)
    | with_reducible refine wp_seq ?_
    | with_reducible refine sx_region ?_
    | with_reducible refine wp_block ?_
    | with_reducible refine wpList_nil ?_
    | with_reducible refine sx_then ?_
    | with_reducible refine sx_inb ?_
    | with_reducible refine wp_skip ?_
    | with_reducible refine wp_ret ?_
    | with_reducible refine wp_exit ?_
    | with_reducible refine sx_then_ret ?_
    | with_reducible refine sx_inb_ret ?_
    | with_reducible refine sx_then_exit ?_
    | with_reducible refine sx_inb_exit ?_
    | with_reducible refine sx_inb_other rfl ?_
    | with_reducible refine sx_if_t A rfl ?_
    | with_reducible refine sx_if_f A rfl ?_
    | ((with_reducible refine sx_at ?_); first
      | (refine sx_pure A tbOk rfl rfl rfl ?_; clear A; intro a A)
      | (refine sx_skip A rfl rfl ?_; clear A; intro a A)
      | ((with_reducible refine g_bin ?_); first | ((refine g_int A rfl ?_); first | (refine sx_cmp A rfl rfl rfl rfl ?_; clear A; intro a A) | (refine sx_arith A rfl rfl rfl rfl ?_; clear A; intro a A) | (refine sx_shl A rfl rfl rfl rfl ?_; clear A; intro a A) | (refine sx_shr A rfl rfl rfl rfl ?_; clear A; intro a A)) | ((refine g_str A rfl ?_); first | (refine sx_scmp A rfl rfl rfl rfl ?_; clear A; intro a A) | (refine sx_concat A rfl rfl rfl rfl ?_; clear A; intro a A)))
      | ((with_reducible refine g_load ?_); first | (refine sx_load_all H A tbOk rfl rfl rfl rfl rfl ?_; clear A; intro a A) | (refine sx_load H A tbOk rfl rfl rfl rfl ?_; clear A; intro a A))
      | ((with_reducible refine g_store ?_); refine sx_store H A tbOk rfl rfl rfl rfl ?_; clear H; intro w_ H)
      | ((with_reducible refine g_box ?_); refine sx_box H A rfl rfl rfl ?_; clear H A; intro b_ a w_ A H)
      | ((with_reducible refine g_alloc ?_); refine sx_alloc H A tbOk rfl rfl rfl ?_; clear H A; intro b_ a w_ A H)
      | ((with_reducible refine g_build ?_); refine sx_build A tbOk rfl rfl rfl rfl rfl rfl ?_; clear A; intro a A)
      | ((with_reducible refine g_builtin ?_); first | (refine sx_min A rfl rfl rfl rfl ?_; clear A; intro a A) | (refine sx_max A rfl rfl rfl rfl ?_; clear A; intro a A))
      | ((with_reducible refine g_slice ?_); first | (refine sx_sstr A tbOk rfl rfl rfl rfl rfl rfl ?_; clear A; intro a A) | (refine sx_cut H A tbOk rfl rfl rfl rfl rfl rfl rfl ?_; clear A H; intro A_ c_ a hc_ A H))
      | ((with_reducible refine g_index ?_); refine sx_sidx A tbOk rfl rfl rfl rfl rfl ?_; clear A; intro a A)
      | ((with_reducible refine g_idx ?_); first | (refine sx_idx H A tbOk rfl rfl rfl rfl rfl rfl ?_; clear A; intro a A) | (refine sx_oidx H A tbOk rfl rfl rfl rfl rfl rfl ?_; clear A; intro a A))
      | ((with_reducible refine g_conv ?_); refine sx_conv A tbOk rfl rfl rfl rfl rfl ?_; clear A; intro a A)
      )
    | ((with_reducible refine g_draw ?_); refine qx_region H (by kernel_rfl) (by kernel_rfl) ?_)
    | ((with_reducible refine qx_nil ?_); clear H; intro w_ F_ H)
    | ((with_reducible refine q_at ?_); first
      | (refine qx_pure A tbOk rfl rfl rfl ?_; clear A; intro a A)
      | (refine qx_skip A rfl rfl ?_; clear A; intro a A)
      | ((with_reducible refine qg_bin ?_); first | ((refine qg_int A rfl ?_); first | (refine qx_cmp A rfl rfl rfl rfl ?_; clear A; intro a A) | (refine qx_arith A rfl rfl rfl rfl ?_; clear A; intro a A)) | ((refine qg_str A rfl ?_); first | (refine qx_scmp A rfl rfl rfl rfl ?_; clear A; intro a A) | (refine qx_concat A rfl rfl rfl rfl ?_; clear A; intro a A)))
      | ((with_reducible refine qg_builtin ?_); first | (refine qx_min A rfl rfl rfl rfl ?_; clear A; intro a A) | (refine qx_max A rfl rfl rfl rfl ?_; clear A; intro a A))
      | ((with_reducible refine qg_slice ?_); refine qx_sstr A tbOk rfl rfl rfl rfl rfl rfl ?_; clear A; intro a A)
      | ((with_reducible refine qg_load ?_); refine qx_load A tbOk rfl rfl rfl rfl ?_; clear A; intro a A)
      | ((with_reducible refine qg_idx ?_); first | (refine qx_idx H A tbOk rfl rfl rfl rfl rfl rfl ?_; clear A; intro a A) | (refine qx_oidx H A tbOk rfl rfl rfl rfl rfl rfl ?_; clear A; intro a A)))
    )
end
end Go.Proofs.YtniplmjbligmlaaDoor.V

/-! Layer 4 in plain words: what is laid is read again. -/
namespace Go.Proofs.YtniplmjbligmlaaDoor.V
open Go.RowKit
set_option linter.unusedVariables false
set_option linter.unusedSimpArgs false
theorem partN_congr {l m : List UInt8} (h : ∀ i, l.getD i 0 = m.getD i 0) : ∀ s a, partN l a s = partN m a s := by
  intro s
  induction s with
  | zero => intro a; simp [partN, getL]
  | succ s ih => intro a; rw [part_step, part_step, ih, h]
theorem getD_zeros (l : List UInt8) (n i : Nat) : (l ++ List.replicate n 0).getD i 0 = l.getD i 0 := by
  rw [List.getD_eq_getElem?_getD, List.getD_eq_getElem?_getD]
  rcases Nat.lt_or_ge i l.length with h | h
  · rw [List.getElem?_append_left h]
  · rw [List.getElem?_append_right h, List.getElem?_eq_none h, List.getElem?_replicate]
    split <;> rfl
theorem partN_trim (l : List UInt8) (a s : Nat) : partN (trimL l) a s = partN l a s := by
  refine partN_congr (fun i => ?_) s a
  have h := (trimL_split l).1
  conv => rhs; rw [h]
  rw [getD_zeros]
theorem L_layS (l : List UInt8) : L (layS l) = trimL (sealL l) := by unfold layS trimS; rw [L_B, L_B]
theorem partN_mid (p m q : List UInt8) (a s : Nat) (ha : a = p.length) (hs : s = m.length) : partN (p ++ (m ++ q)) a s = getL m := by
  subst ha; subst hs
  unfold partN
  rw [List.drop_left, List.take_left]
theorem partN_lay (p m q : List UInt8) (a s : Nat) (ha : a = p.length) (hs : s = m.length) : partN (L (layS (p ++ (m ++ q)))) a s = getL m := by
  rw [L_layS, partN_trim]
  unfold sealL
  rw [List.append_assoc, List.append_assoc]
  exact partN_mid p m _ a s ha hs
theorem getL_num {n : Int} {s : Nat} (h0 : 0 ≤ n) (h : n.toNat < 256 ^ s) : ((getL (putL n.toNat s) : Nat) : Int) = n := by
  rw [getL_putL, Nat.mod_eq_of_lt h]; omega
theorem rdSuper_lay {e : Int} (hE : isEpoch e = true) : rdSuper (layS (superL e)) = (e, 0) := by
  obtain ⟨e1, e2⟩ := isEpoch_t hE
  have h : ((partN (L (layS (superL e))) 1 6 : Nat) : Int) = e := by
    have := partN_lay [1] (putL e.toNat 6) [] 1 6 rfl (putL_length _ _).symm
    rw [List.append_nil] at this
    rw [show superL e = [1] ++ putL e.toNat 6 from rfl, this]
    exact getL_num (by omega) (by omega)
  unfold rdSuper
  rw [h, if_pos ⟨hE, rfl⟩]
theorem rdCommit_lay {e q : Int} (hE : isEpoch e = true) (hP : isPlace q = true) : rdCommit (layS (commitL e q)) = (e, q, 0) := by
  obtain ⟨e1, e2⟩ := isEpoch_t hE
  obtain ⟨p1, p2⟩ := isPlace_t hP
  have h : ((partN (L (layS (commitL e q))) 1 6 : Nat) : Int) = e := by
    rw [show commitL e q = [3] ++ (putL e.toNat 6 ++ putL q.toNat 1) from rfl, partN_lay [3] _ _ 1 6 rfl (putL_length _ _).symm]
    exact getL_num (by omega) (by omega)
  have h2 : ((partN (L (layS (commitL e q))) 7 1 : Nat) : Int) = q := by
    have := partN_lay ([3] ++ putL e.toNat 6) (putL q.toNat 1) [] 7 1 (by simp [putL_length]) (putL_length _ _).symm
    rw [List.append_nil, List.append_assoc] at this
    rw [show commitL e q = [3] ++ (putL e.toNat 6 ++ putL q.toNat 1) from rfl, this]
    exact getL_num (by omega) (by omega)
  unfold rdCommit
  rw [h, h2, if_pos ⟨by rw [hE, hP]; rfl, rfl⟩]
theorem targL_split (l : List Int) (i : Nat) (y : Int) (h : l[i]? = some y) : targL l = targL (l.take i) ++ (putL y.toNat 2 ++ targL (l.drop (i + 1))) := by
  obtain ⟨g1, g2⟩ := List.getElem?_eq_some_iff.1 h
  have : l = l.take i ++ y :: l.drop (i + 1) := by rw [← g2, ← List.drop_eq_getElem_cons g1, List.take_append_drop]
  conv => lhs; rw [this]
  simp [targL]
theorem rdHead_lay {e q : Int} {l : List Int} (hB : headB e q l = true) : rdHead (layS (headL e q l)) = (e, q, l, 0) := by
  have hB2 := hB
  unfold headB at hB2
  simp only [Bool.and_eq_true, decide_eq_true_eq] at hB2
  obtain ⟨⟨⟨⟨hE, hP⟩, n1⟩, n2⟩, hG⟩ := hB2
  obtain ⟨e1, e2⟩ := isEpoch_t hE
  obtain ⟨p1, p2⟩ := isPlace_t hP
  have hd : headL e q l = [2] ++ (putL e.toNat 6 ++ (putL q.toNat 1 ++ (putL l.length 1 ++ targL l))) := by simp [headL]
  have h : ((partN (L (layS (headL e q l))) 1 6 : Nat) : Int) = e := by
    rw [hd, partN_lay [2] _ _ 1 6 rfl (putL_length _ _).symm]
    exact getL_num (by omega) (by omega)
  have h2 : ((partN (L (layS (headL e q l))) 7 1 : Nat) : Int) = q := by
    have := partN_lay ([2] ++ putL e.toNat 6) (putL q.toNat 1) (putL l.length 1 ++ targL l) 7 1 (by simp [putL_length]) (putL_length _ _).symm
    rw [List.append_assoc] at this
    rw [hd, this]
    exact getL_num (by omega) (by omega)
  have h3 : partN (L (layS (headL e q l))) 8 1 = l.length := by
    have := partN_lay ([2] ++ (putL e.toNat 6 ++ putL q.toNat 1)) (putL l.length 1) (targL l) 8 1 (by simp [putL_length]) (putL_length _ _).symm
    rw [List.append_assoc, List.append_assoc] at this
    rw [hd, this, getL_putL]
    exact Nat.mod_eq_of_lt (by omega)
  have h4 : readT (L (layS (headL e q l))) l.length = l := by
    apply List.ext_getElem?
    intro i
    rcases Nat.lt_or_ge i l.length with hi | hi
    · obtain ⟨y, hy⟩ : ∃ y, l[i]? = some y := ⟨_, List.getElem?_eq_getElem hi⟩
      have hok := goodT_at hG i hi
      rw [okAt_at hy] at hok
      simp only [Bool.and_eq_true, decide_eq_true_eq] at hok
      have := partN_lay ([2] ++ (putL e.toNat 6 ++ (putL q.toNat 1 ++ (putL l.length 1 ++ targL (l.take i))))) (putL y.toNat 2) (targL (l.drop (i + 1))) (9 + 2 * i) 2 (by simp [putL_length, targL_len]; omega) (putL_length _ _).symm
      simp only [List.append_assoc] at this
      rw [hy]
      simp only [readT, List.getElem?_map, List.getElem?_range hi, Option.map_some]
      rw [hd, targL_split l i y hy, this]
      exact congrArg some (getL_num (by omega) (by omega))
    · rw [List.getElem?_eq_none hi, List.getElem?_eq_none (by rw [readT_len]; exact hi)]
  have h5 : min l.length 40 = l.length := by omega
  unfold rdHead
  rw [h3, h5, h4, h, h2, if_pos ⟨hB, rfl⟩]
theorem headL_inj {e q e' q' : Int} {l l' : List Int} (h1 : headB e q l = true) (h2 : headB e' q' l' = true) (h : layS (headL e q l) = layS (headL e' q' l')) : e = e' ∧ q = q' ∧ l = l' := by
  have k1 := rdHead_lay h1
  rw [h, rdHead_lay h2] at k1
  injection k1 with a1 a2; injection a2 with a2 a3; injection a3 with a3 _
  exact ⟨a1.symm, a2.symm, a3.symm⟩
theorem commitL_inj {e q e' q' : Int} (h1 : isEpoch e = true) (p1 : isPlace q = true) (h2 : isEpoch e' = true) (p2 : isPlace q' = true) (h : layS (commitL e q) = layS (commitL e' q')) : e = e' ∧ q = q' := by
  have k1 := rdCommit_lay h1 p1
  rw [h, rdCommit_lay h2 p2] at k1
  injection k1 with a1 a2; injection a2 with a2 _
  exact ⟨a1.symm, a2.symm⟩
theorem part_kind (b : UInt8) (l : List UInt8) : partN (L (layS (b :: l))) 0 1 = b.toNat := by
  have := partN_lay [] [b] l 0 1 rfl rfl
  simpa [getL] using this
theorem headL_size {e q : Int} {l : List Int} (h : l.length ≤ 40) : (layS (headL e q l)).size ≤ 93 := by
  have h1 := layS_size (headL e q l)
  have h2 : (headL e q l).length = 9 + 2 * l.length := by simp [headL, putL_length, targL_len]; omega
  omega
theorem rdSuper_ok {s : ByteArray} {n : Int} (h : rdSuper s = (n, 0)) : isEpoch n = true ∧ layS (superL n) = s := by
  unfold rdSuper at h
  split at h
  · rename_i g; injection h with h _; subst h; exact g
  · injection h with _ h; cases h
theorem rdCommit_ok {s : ByteArray} {n p : Int} (h : rdCommit s = (n, p, 0)) : isEpoch n = true ∧ isPlace p = true ∧ layS (commitL n p) = s := by
  unfold rdCommit at h
  split at h
  · rename_i g; injection h with h h'; injection h' with h' _; subst h; subst h'
    exact ⟨(Bool.and_eq_true_iff.1 g.1).1, (Bool.and_eq_true_iff.1 g.1).2, g.2⟩
  · injection h with _ h; injection h with _ h; cases h
theorem rdHead_ok {s : ByteArray} {n p : Int} {l : List Int} (h : rdHead s = (n, p, l, 0)) : headB n p l = true ∧ layS (headL n p l) = s := by
  unfold rdHead at h
  split at h
  · rename_i g; injection h with h h'; injection h' with h' h''; injection h'' with h'' _; subst h; subst h'; subst h''
    exact g
  · injection h with _ h; injection h with _ h; injection h with _ h; cases h
end Go.Proofs.YtniplmjbligmlaaDoor.V

/-! Further rules of regions that draw their order and store. -/
namespace Go.Proofs.YtniplmjbligmlaaDoor.V
open Go.RowKit Go.Proofs.YtniplmjbligmlaaDoorW.PrintLast
set_option linter.unusedVariables false
set_option linter.unusedSimpArgs false
section
variable {P : Program} {l : List Oper} {a : Act} {Q : Exit → Act → World → Prop} {w : World} {S : World → Prop} {ds : List Nat} {fuel : Nat} {lb : Array Bool} {n d : Nat} {D : List Deferred} {T : Tm} {tb : Tb}
variable {ty : TypeId} {pos : String} {aft : Array Edge} {g : Option (Nat × Bool)}
theorem vmin (A : Fr n D T a) (i : Nat) (lb' : Array Bool) {x y : Operand} {ts : Array TypeId} {k : IntKind} {m m' z : Int} (hi : l.toArray[i]? = some ⟨some d, .call ⟨.builtin .min, #[x, y], ts⟩, ty, pos, aft, g⟩) (hc : anyB .any l.toArray lb lb' i = true) (hQ : ∀ c a v w, Q (.panic c) (a.put (some d) v) w → Q (.panic c) a w) (hw : wantedT T l g = some true)
    (hx : ev T x = some (.int k m)) (hy : ev T y = some (.int k m')) (hd : Nat.blt d n = true) (K : ∀ a', Fr n D ((d, .int k z) :: T) a' → wpAnyLast P .any l.toArray Q S ds fuel lb' a' w)
    (hz : min m m' = z := by first | assumption | ((with_reducible refine min_l ?_); omega) | ((with_reducible refine min_r ?_); omega) | exact rfl) : wpAnyLast P .any l.toArray Q S ds (fuel + 1) lb a w := by
  have e : (if m' < m then m' else m) = z := by rw [← hz]; split <;> omega
  exact pure_ (v := .int k z) lb' hi rfl hc (fun c a w hq => hQ c _ _ w hq) (.inl ⟨wanted_of (o := ⟨some d, .call ⟨.builtin .min, #[x, y], ts⟩, ty, pos, aft, g⟩) A hw, fun w => by
    unfold execOp
    simp [resolve, invoke, builtin, Builtin.min_, A.ev hx, A.ev hy, Builtin.min2, e]⟩) rfl (K _ (A.put (blt_lt hd) _))
theorem vsstr (A : Fr n D T a) (hT : TbOk P tb) (i : Nat) (lb' : Array Bool) {t : TypeId} {x : Operand} {lo hi : Option Operand} {s s' : ByteArray} {i0 j0 : Int} {sz by_ : Nat} {zs : List Value} (hio : l.toArray[i]? = some ⟨some d, .slice t x lo hi none, ty, pos, aft, g⟩) (hc : anyB .any l.toArray lb lb' i = true) (hQ : ∀ c a v w, Q (.panic c) (a.put (some d) v) w → Q (.panic c) a w) (hw : wantedT T l g = some true)
    (ht : tb.lookup t = some ⟨.string, sz, by_, zs⟩) (hx : ev T x = some (.string s)) (hlo : bnd T 0 lo = some i0) (hhi : bnd T s.size hi = some j0) (hd : Nat.blt d n = true) (K : ∀ a', Fr n D ((d, .string s') :: T) a' → wpAnyLast P .any l.toArray Q S ds fuel lb' a' w)
    (h0 : 0 ≤ i0 := by omega) (h1 : i0 ≤ j0 := by omega) (h2 : j0 ≤ s.size := by omega) (hs' : s.extract i0.toNat j0.toNat = s' := by first | assumption | exact rfl) : wpAnyLast P .any l.toArray Q S ds (fuel + 1) lb a w := by
  subst hs'
  exact pure_ (v := .string (s.extract i0.toNat j0.toNat)) lb' hio rfl hc (fun c a w hq => hQ c _ _ w hq) (.inl ⟨wanted_of (o := ⟨some d, .slice t x lo hi none, ty, pos, aft, g⟩) A hw, fun w => by
    obtain ⟨dd, hdd, _, hk⟩ := (hT _ _ ht).run_und w
    cases dd <;> simp only [tk] at hk <;> try cases hk
    have hb := run_bounds (P := P) (w := w) A false s.size s.size hlo hhi h0 h1 h2 (Nat.le_refl _)
    unfold execOp
    simp [Instr.sliceAt, Instr.slice, hdd, A.ev hx, hb]⟩) rfl (K _ (A.put (blt_lt hd) _))
end
end Go.Proofs.YtniplmjbligmlaaDoor.V

/-! The statement SlotBack, walked. -/
namespace Go.Proofs.YtniplmjbligmlaaDoor.V
open Go.RowKit Go.Proofs.YtniplmjbligmlaaDoorW.PrintLast
set_option linter.unusedVariables false
set_option linter.unusedSimpArgs false
theorem rdSuper_end {s : ByteArray} {n e : Int} (h : rdSuper s = (n, e)) : e = 0 ∨ e = 4 := by
  unfold rdSuper at h; split at h <;> injection h with _ h <;> omega
theorem rdCommit_end {s : ByteArray} {n p e : Int} (h : rdCommit s = (n, p, e)) : e = 0 ∨ e = 4 := by
  unfold rdCommit at h; split at h <;> injection h with _ h <;> injection h with _ h <;> omega
theorem rdHead_end {s : ByteArray} {n p e : Int} {l : List Int} (h : rdHead s = (n, p, l, e)) : e = 0 ∨ e = 4 := by
  unfold rdHead at h; split at h <;> injection h with _ h <;> injection h with _ h <;> injection h with _ h <;> omega
theorem one_kind {t : ByteArray} {n1 e1 n2 p2 e2 n3 p3 e3 : Int} {l2 : List Int} (h1 : rdSuper t = (n1, e1)) (h2 : rdHead t = (n2, p2, l2, e2)) (h3 : rdCommit t = (n3, p3, e3)) :
    ∃ s4 y4 s5 y5 s6 y6, (if isEpoch n1 then (layS (superL n1), (0 : Int)) else (⟨#[]⟩, 1)) = (s4, y4) ∧ (if headB n2 p2 l2 then (layS (headL n2 p2 l2), (0 : Int)) else (⟨#[]⟩, 1)) = (s5, y5) ∧ (if isEpoch n3 && isPlace p3 then (layS (commitL n3 p3), (0 : Int)) else (⟨#[]⟩, 1)) = (s6, y6) ∧
      ((e1 = 4 ∧ e2 = 4 ∧ e3 = 4) ∨ (e1 = 0 ∧ e2 = 4 ∧ e3 = 4 ∧ s4 = t ∧ y4 = 0) ∨ (e1 = 4 ∧ e2 = 0 ∧ e3 = 4 ∧ s5 = t ∧ y5 = 0) ∨ (e1 = 4 ∧ e2 = 4 ∧ e3 = 0 ∧ s6 = t ∧ y6 = 0)) := by
  have k1 : e1 = 0 → partN (L t) 0 1 = 1 := by
    rintro rfl
    rw [← (rdSuper_ok h1).2]; exact part_kind 1 _
  have k2 : e2 = 0 → partN (L t) 0 1 = 2 := by
    rintro rfl
    rw [← (rdHead_ok h2).2]; exact part_kind 2 _
  have k3 : e3 = 0 → partN (L t) 0 1 = 3 := by
    rintro rfl
    rw [← (rdCommit_ok h3).2.2]; exact part_kind 3 _
  rcases rdSuper_end h1 with rfl | rfl <;> rcases rdHead_end h2 with rfl | rfl <;> rcases rdCommit_end h3 with rfl | rfl
  · have := k1 rfl; have := k2 rfl; omega
  · have := k1 rfl; have := k2 rfl; omega
  · have := k1 rfl; have := k3 rfl; omega
  · obtain ⟨g1, g2⟩ := rdSuper_ok h1
    exact ⟨_, _, _, _, _, _, if_pos g1, rfl, rfl, .inr (.inl ⟨rfl, rfl, rfl, g2, rfl⟩)⟩
  · have := k2 rfl; have := k3 rfl; omega
  · obtain ⟨g1, g2⟩ := rdHead_ok h2
    exact ⟨_, _, _, _, _, _, rfl, if_pos g1, rfl, .inr (.inr (.inl ⟨rfl, rfl, rfl, g2, rfl⟩))⟩
  · obtain ⟨g1, g1', g2⟩ := rdCommit_ok h3
    exact ⟨_, _, _, _, _, _, rfl, rfl, if_pos (by rw [g1, g1']; rfl), .inr (.inr (.inr ⟨rfl, rfl, rfl, g2, rfl⟩))⟩
  · exact ⟨_, _, _, _, _, _, rfl, rfl, rfl, .inl ⟨rfl, rfl, rfl⟩⟩
section
set_option maxRecDepth 100000
set_option maxHeartbeats 4000000
theorem law_SlotBack (w : World) (s : ByteArray) {A0 : Option Addr} {c0 : Nat} {e q : Int} {l : List Int} (hl : l.length < 9223372036854775808) (hc : Cap l.length c0) (hm : rdc (Kd.int .i64) A0 l w) (h63 : s.size < 9223372036854775808) : Calls Tryd.prog 14 #[.agg #[.int .i64 e, .int .i64 q, .slice A0 l.length c0], .string s] w fun e w' => e = .returned (.bool true) ∧ Below w.heap.size w w' := by
  have H := (St.start w (fun k => k < w.heap.size) (fun _ h => h)).fact (rdc_all hm)
  refine sx_enter Tryd.func14 Tryd.ntmps14 rfl rfl (fun a A => ?_)
  obtain ⟨z, hz⟩ : ∃ z : Int, min (s.size : Int) 700 = z := ⟨_, rfl⟩
  obtain ⟨t, ht⟩ : ∃ t, s.extract (0 : Int).toNat z.toNat = t := ⟨_, rfl⟩
  have hts : t.size ≤ 700 := by rw [← ht, ByteArray.size_extract]; omega
  repeat' (first
    | ((with_reducible refine g_draw ?_); refine vstartB H [.mk b_ 52 [.int .i64 e, .int .i64 q, .slice A0 l.length c0]] [7] #[false, false, false, false, false, false, false, false, false] (by kernel_rfl) rfl rfl (fun w_ H => ?_))
    | with_reducible refine wp_seq ?_
    | with_reducible refine sx_region ?_
    | with_reducible refine wp_block ?_
    | with_reducible refine wpList_nil ?_
    | with_reducible refine sx_then ?_
    | with_reducible refine sx_inb ?_
    | with_reducible refine wp_skip ?_
    | with_reducible refine wp_ret ?_
    | with_reducible refine wp_exit ?_
    | with_reducible refine sx_then_ret ?_
    | with_reducible refine sx_inb_ret ?_
    | with_reducible refine sx_then_exit ?_
    | with_reducible refine sx_inb_exit ?_
    | with_reducible refine sx_inb_other rfl ?_
    | with_reducible refine sx_if_t A rfl ?_
    | with_reducible refine sx_if_f A rfl ?_
    | ((with_reducible refine sx_at ?_); first
      | (refine sx_pure A tbOk rfl rfl rfl ?_; clear A; intro a A)
      | (refine sx_skip A rfl rfl ?_; clear A; intro a A)
      | ((with_reducible refine g_bin ?_); first | ((refine g_int A rfl ?_); first | (refine sx_cmp A rfl rfl rfl rfl ?_; clear A; intro a A) | (refine sx_arith A rfl rfl rfl rfl ?_; clear A; intro a A) | (refine sx_shl A rfl rfl rfl rfl ?_; clear A; intro a A) | (refine sx_shr A rfl rfl rfl rfl ?_; clear A; intro a A)) | ((refine g_str A rfl ?_); first | (refine sx_scmp A rfl rfl rfl rfl ?_; clear A; intro a A) | (refine sx_concat A rfl rfl rfl rfl ?_; clear A; intro a A)))
      | ((with_reducible refine g_load ?_); first | (refine sx_load_all H A tbOk rfl rfl rfl rfl rfl ?_; clear A; intro a A) | (refine sx_load H A tbOk rfl rfl rfl rfl ?_; clear A; intro a A))
      | ((with_reducible refine g_store ?_); refine sx_store H A tbOk rfl rfl rfl rfl ?_; clear H; intro w_ H)
      | ((with_reducible refine g_box ?_); refine sx_box H A rfl rfl rfl ?_; clear H A; intro b_ a w_ A H)
      | ((with_reducible refine g_alloc ?_); refine sx_alloc H A tbOk rfl rfl rfl ?_; clear H A; intro b_ a w_ A H)
      | ((with_reducible refine g_build ?_); refine sx_build A tbOk rfl rfl rfl rfl rfl rfl ?_; clear A; intro a A)
      | ((with_reducible refine g_builtin ?_); first | (refine sx_min A rfl rfl rfl rfl ?_; clear A; intro a A) | (refine sx_max A rfl rfl rfl rfl ?_; clear A; intro a A))
      | ((with_reducible refine g_slice ?_); first | (refine sx_sstr A tbOk rfl rfl rfl rfl rfl rfl ?_; clear A; intro a A) | (refine sx_cut H A tbOk rfl rfl rfl rfl rfl rfl rfl ?_; clear A H; intro A_ c_ a hc_ A H))
      | ((with_reducible refine g_index ?_); refine sx_sidx A tbOk rfl rfl rfl rfl rfl ?_; clear A; intro a A)
      | ((with_reducible refine g_idx ?_); first | (refine sx_idx H A tbOk rfl rfl rfl rfl rfl rfl ?_; clear A; intro a A) | (refine sx_oidx H A tbOk rfl rfl rfl rfl rfl rfl ?_; clear A; intro a A))
      | ((with_reducible refine g_conv ?_); refine sx_conv A tbOk rfl rfl rfl rfl rfl ?_; clear A; intro a A)
      )
    | ((with_reducible refine g_draw ?_); refine qx_region H (by kernel_rfl) (by kernel_rfl) ?_)
    | ((with_reducible refine qx_nil ?_); clear H; intro w_ F_ H)
    | ((with_reducible refine q_at ?_); first
      | (refine qx_pure A tbOk rfl rfl rfl ?_; clear A; intro a A)
      | (refine qx_skip A rfl rfl ?_; clear A; intro a A)
      | ((with_reducible refine qg_bin ?_); first | ((refine qg_int A rfl ?_); first | (refine qx_cmp A rfl rfl rfl rfl ?_; clear A; intro a A) | (refine qx_arith A rfl rfl rfl rfl ?_; clear A; intro a A)) | ((refine qg_str A rfl ?_); first | (refine qx_scmp A rfl rfl rfl rfl ?_; clear A; intro a A) | (refine qx_concat A rfl rfl rfl rfl ?_; clear A; intro a A)))
      | ((with_reducible refine qg_builtin ?_); first | (refine qx_min A rfl rfl rfl rfl ?_; clear A; intro a A) | (refine qx_max A rfl rfl rfl rfl ?_; clear A; intro a A))
      | ((with_reducible refine qg_slice ?_); refine qx_sstr A tbOk rfl rfl rfl rfl rfl rfl ?_; clear A; intro a A)
      | ((with_reducible refine qg_load ?_); refine qx_load A tbOk rfl rfl rfl rfl ?_; clear A; intro a A)
      | ((with_reducible refine qg_idx ?_); first | (refine qx_idx H A tbOk rfl rfl rfl rfl rfl rfl ?_; clear A; intro a A) | (refine qx_oidx H A tbOk rfl rfl rfl rfl rfl rfl ?_; clear A; intro a A)))
    )
  refine vload H.sel A tbOk 0 #[true, false, false, false, false, false, false, false, false] rfl (by kernel_rfl) (fun _ _ _ _ h => h) rfl rfl rfl rfl ?_; clear A; intro a A
  refine vp A tbOk 2 #[true, false, true, false, false, false, false, false, false] rfl (by kernel_rfl) (fun _ _ _ _ h => h) rfl rfl rfl rfl ?_; clear A; intro a A
  refine vp A tbOk 3 #[true, false, true, true, false, false, false, false, false] rfl (by kernel_rfl) (fun _ _ _ _ h => h) rfl rfl rfl rfl ?_; clear A; intro a A
  refine vp A tbOk 4 #[true, false, true, true, true, false, false, false, false] rfl (by kernel_rfl) (fun _ _ _ _ h => h) rfl rfl rfl rfl ?_; clear A; intro a A
  refine vmin A 5 #[true, false, true, true, true, true, false, false, false] rfl (by kernel_rfl) (fun _ _ _ _ h => h) rfl rfl rfl rfl ?_; clear A; intro a A
  refine vsstr A tbOk 6 #[true, false, true, true, true, true, true, false, false] rfl (by kernel_rfl) (fun _ _ _ _ h => h) rfl rfl rfl rfl rfl rfl ?_; clear A; intro a A
  refine vone #[true, true, true, true, true, true, true, false, false] (i := 1) rfl (by kernel_rfl) ?_; refine sx_call (f := 26) A rfl Tryd.call26 rfl rfl ?_; refine sl_law04_few H hl ?_; clear H; intro F_ w_ A1 c1 hc1 H; refine ⟨_, rfl, ?_⟩; clear A; intro a A; refine wpList_nil ?_; refine ⟨fun hn => ⟨_, (H.only (by intro p hp; repeat (first | exact hp | apply List.mem_cons_of_mem))).sel⟩, ?_⟩
  refine vone #[true, true, true, true, true, true, true, true, false] (i := 7) rfl (by kernel_rfl) ?_; refine sx_store H A tbOk rfl rfl rfl rfl ?_; clear H; intro w_ H; refine wpList_nil ?_; refine ⟨fun hn => absurd (by decide) hn, ?_⟩
  refine vp A tbOk 8 #[true, true, true, true, true, true, true, true, true] rfl (by kernel_rfl) (fun _ _ _ _ h => h) rfl rfl rfl rfl ?_; clear A; intro a A
  refine vdone (by kernel_rfl) ?_
  have hz1 : (l.take 60).length ≤ 60 := by rw [List.length_take]; omega
  generalize l.take 60 = l1 at *
  obtain ⟨⟨n1, e1⟩, h1⟩ : ∃ r, rdSuper t = r := ⟨_, rfl⟩
  obtain ⟨⟨n2, p2, l2, e2⟩, h2⟩ : ∃ r, rdHead t = r := ⟨_, rfl⟩
  obtain ⟨⟨n3, p3, e3⟩, h3⟩ : ∃ r, rdCommit t = r := ⟨_, rfl⟩
  obtain ⟨s4, y4, s5, y5, s6, y6, g4, g5, g6, hK⟩ := one_kind h1 h2 h3
  have hl2 : l2.length ≤ 1000000 := by
    unfold rdHead at h2; split at h2
    · injection h2 with _ q; injection q with _ q; injection q with q _; rw [← q, readT_len]; omega
    · injection h2 with _ q; injection q with _ q; injection q with q _; rw [← q]; simp
  have hA : ∃ s1 y1, (if headB e q l1 then (layS (headL e q l1), (0 : Int)) else (⟨#[]⟩, 1)) = (s1, y1) ∧ (y1 = 1 ∨ (y1 = 0 ∧ rdHead s1 = (e, q, l1, 0) ∧ s1.size ≤ 93)) := by
    cases hb : headB e q l1
    · exact ⟨_, _, rfl, .inl rfl⟩
    · refine ⟨_, _, rfl, .inr ⟨rfl, rdHead_lay hb, headL_size ?_⟩⟩
      unfold headB at hb
      simp only [Bool.and_eq_true, decide_eq_true_eq] at hb
      omega
  obtain ⟨s1, y1, g1, hA⟩ := hA
  rcases hA with rfl | ⟨rfl, hr1, hs1⟩ <;> rcases hK with ⟨rfl, rfl, rfl⟩ | ⟨rfl, rfl, rfl, rfl, rfl⟩ | ⟨rfl, rfl, rfl, rfl, rfl⟩ | ⟨rfl, rfl, rfl, rfl, rfl⟩
  all_goals repeat' (first
    | ((with_reducible refine g_call ?_); first
      | ((with_reducible refine g_dst 32 ?_); refine sx_call (f := 27) A rfl Tryd.call27 rfl rfl ?_; refine sl_slot_Head H (by omega) g1 ?_; clear H; intro F_ w_ H; refine ⟨_, rfl, ?_⟩; clear A; intro a A)
      | ((with_reducible refine g_dst 39 ?_); refine sx_call (f := 44) A rfl Tryd.call44 rfl rfl ?_; refine sl_slot_ReadHead H (by omega) hr1 ?_; clear H; intro F_ w_ A3 c3 hc3 H; refine ⟨_, rfl, ?_⟩; clear A; intro a A)
      | ((with_reducible refine g_dst 47 ?_); refine sx_call (f := 28) A rfl Tryd.call28 rfl rfl ?_; refine sl_ref04_LikeHead (b := true) H (by omega) rfl (by simp) ?_; clear H; intro F_ w_ H; refine ⟨_, rfl, ?_⟩; clear A; intro a A)
      | ((with_reducible refine g_dst 57 ?_); refine sx_call (f := 42) A rfl Tryd.call42 rfl rfl ?_; refine sl_slot_ReadSuper H (by omega) h1 ?_; clear H; intro F_ w_ H; refine ⟨_, rfl, ?_⟩; clear A; intro a A)
      | ((with_reducible refine g_dst 66 ?_); refine sx_call (f := 34) A rfl Tryd.call34 rfl rfl ?_; refine sl_slot_Super H g4 ?_; clear H; intro F_ w_ H; refine ⟨_, rfl, ?_⟩; clear A; intro a A)
      | ((with_reducible refine g_dst 78 ?_); refine sx_call (f := 44) A rfl Tryd.call44 rfl rfl ?_; refine sl_slot_ReadHead H (by omega) h2 ?_; clear H; intro F_ w_ A4 c4 hc4 H; refine ⟨_, rfl, ?_⟩; clear A; intro a A)
      | ((with_reducible refine g_dst 87 ?_); refine sx_call (f := 27) A rfl Tryd.call27 rfl rfl ?_; refine sl_slot_Head H (by omega) g5 ?_; clear H; intro F_ w_ H; refine ⟨_, rfl, ?_⟩; clear A; intro a A)
      | ((with_reducible refine g_dst 99 ?_); refine sx_call (f := 46) A rfl Tryd.call46 rfl rfl ?_; refine sl_slot_ReadCommit H (by omega) h3 ?_; clear H; intro F_ w_ H; refine ⟨_, rfl, ?_⟩; clear A; intro a A)
      | ((with_reducible refine g_dst 110 ?_); refine sx_call (f := 29) A rfl Tryd.call29 rfl rfl ?_; refine sl_slot_Commit H g6 ?_; clear H; intro F_ w_ H; refine ⟨_, rfl, ?_⟩; clear A; intro a A)
      | (refine sx_call (f := 30) (xs := []) (vs := []) A rfl Tryd.call30 rfl rfl ?_; refine sl_law04_alive H ?_; clear H; intro F_ w_ H; refine ⟨_, rfl, ?_⟩; clear A; intro a A))
    | (refine sx_ret tbOk H A rfl ?_; exact ⟨rfl, H.below⟩)
    | with_reducible refine wp_seq ?_
    | with_reducible refine sx_region ?_
    | with_reducible refine wp_block ?_
    | with_reducible refine wpList_nil ?_
    | with_reducible refine sx_then ?_
    | with_reducible refine sx_inb ?_
    | with_reducible refine wp_skip ?_
    | with_reducible refine wp_ret ?_
    | with_reducible refine wp_exit ?_
    | with_reducible refine sx_then_ret ?_
    | with_reducible refine sx_inb_ret ?_
    | with_reducible refine sx_then_exit ?_
    | with_reducible refine sx_inb_exit ?_
    | with_reducible refine sx_inb_other rfl ?_
    | with_reducible refine sx_if_t A rfl ?_
    | with_reducible refine sx_if_f A rfl ?_
    | ((with_reducible refine sx_at ?_); first
      | (refine sx_pure A tbOk rfl rfl rfl ?_; clear A; intro a A)
      | (refine sx_skip A rfl rfl ?_; clear A; intro a A)
      | ((with_reducible refine g_bin ?_); first | ((refine g_int A rfl ?_); first | (refine sx_cmp A rfl rfl rfl rfl ?_; clear A; intro a A) | (refine sx_arith A rfl rfl rfl rfl ?_; clear A; intro a A) | (refine sx_shl A rfl rfl rfl rfl ?_; clear A; intro a A) | (refine sx_shr A rfl rfl rfl rfl ?_; clear A; intro a A)) | ((refine g_str A rfl ?_); first | (refine sx_scmp A rfl rfl rfl rfl ?_; clear A; intro a A) | (refine sx_concat A rfl rfl rfl rfl ?_; clear A; intro a A)))
      | ((with_reducible refine g_load ?_); first | (refine sx_load_all H A tbOk rfl rfl rfl rfl rfl ?_; clear A; intro a A) | (refine sx_load H A tbOk rfl rfl rfl rfl ?_; clear A; intro a A))
      | ((with_reducible refine g_store ?_); refine sx_store H A tbOk rfl rfl rfl rfl ?_; clear H; intro w_ H)
      | ((with_reducible refine g_box ?_); refine sx_box H A rfl rfl rfl ?_; clear H A; intro b_ a w_ A H)
      | ((with_reducible refine g_alloc ?_); refine sx_alloc H A tbOk rfl rfl rfl ?_; clear H A; intro b_ a w_ A H)
      | ((with_reducible refine g_build ?_); refine sx_build A tbOk rfl rfl rfl rfl rfl rfl ?_; clear A; intro a A)
      | ((with_reducible refine g_builtin ?_); first | (refine sx_min A rfl rfl rfl rfl ?_; clear A; intro a A) | (refine sx_max A rfl rfl rfl rfl ?_; clear A; intro a A))
      | ((with_reducible refine g_slice ?_); first | (refine sx_sstr A tbOk rfl rfl rfl rfl rfl rfl ?_; clear A; intro a A) | (refine sx_cut H A tbOk rfl rfl rfl rfl rfl rfl rfl ?_; clear A H; intro A_ c_ a hc_ A H))
      | ((with_reducible refine g_index ?_); refine sx_sidx A tbOk rfl rfl rfl rfl rfl ?_; clear A; intro a A)
      | ((with_reducible refine g_idx ?_); first | (refine sx_idx H A tbOk rfl rfl rfl rfl rfl rfl ?_; clear A; intro a A) | (refine sx_oidx H A tbOk rfl rfl rfl rfl rfl rfl ?_; clear A; intro a A))
      | ((with_reducible refine g_conv ?_); refine sx_conv A tbOk rfl rfl rfl rfl rfl ?_; clear A; intro a A)
      )
    | ((with_reducible refine g_draw ?_); refine qx_region H (by kernel_rfl) (by kernel_rfl) ?_)
    | ((with_reducible refine qx_nil ?_); clear H; intro w_ F_ H)
    | ((with_reducible refine q_at ?_); first
      | (refine qx_pure A tbOk rfl rfl rfl ?_; clear A; intro a A)
      | (refine qx_skip A rfl rfl ?_; clear A; intro a A)
      | ((with_reducible refine qg_bin ?_); first | ((refine qg_int A rfl ?_); first | (refine qx_cmp A rfl rfl rfl rfl ?_; clear A; intro a A) | (refine qx_arith A rfl rfl rfl rfl ?_; clear A; intro a A)) | ((refine qg_str A rfl ?_); first | (refine qx_scmp A rfl rfl rfl rfl ?_; clear A; intro a A) | (refine qx_concat A rfl rfl rfl rfl ?_; clear A; intro a A)))
      | ((with_reducible refine qg_builtin ?_); first | (refine qx_min A rfl rfl rfl rfl ?_; clear A; intro a A) | (refine qx_max A rfl rfl rfl rfl ?_; clear A; intro a A))
      | ((with_reducible refine qg_slice ?_); refine qx_sstr A tbOk rfl rfl rfl rfl rfl rfl ?_; clear A; intro a A)
      | ((with_reducible refine qg_load ?_); refine qx_load A tbOk rfl rfl rfl rfl ?_; clear A; intro a A)
      | ((with_reducible refine qg_idx ?_); first | (refine qx_idx H A tbOk rfl rfl rfl rfl rfl rfl ?_; clear A; intro a A) | (refine qx_oidx H A tbOk rfl rfl rfl rfl rfl rfl ?_; clear A; intro a A)))
    )
end
end Go.Proofs.YtniplmjbligmlaaDoor.V

/-! SlotBack holds: the Go law answers true for every input, and leaves its arguments alone; no condition but that the listed tables of the library stand as the program's text lays them. -/
namespace Go.Proofs.YtniplmjbligmlaaDoor.slotBack
open Go.ChangeShapes Go.WideShapes Go.ChangeAt Go.RowKit Go.Proofs.YtniplmjbligmlaaDoorW.PrintWords Go.Proofs.YtniplmjbligmlaaDoor.V
set_option linter.unusedVariables false
theorem own : ownKnob Tryd.prog.godebug = none := by kernel_rfl
theorem laidOut : laidOutB Tryd.prog = true := by kernel_rfl
set_option maxRecDepth 100000 in
theorem lifted (os : Os) (started : os.Started) (H : Type) (enc : TypeId × Value → H) :
    ReturnsInHanded {} Tryd.checked os 14 .any (fun w args => (Rows.slotBackSpec.pre enc Tryd.prog Tryd.f14 Rows.slotBackRow.domain false w args ∧ laidMetH Tryd.prog Rows.slotBackRow.laid w) ∧ sizedMet enc Tryd.prog Tryd.f14 (OpenSpec.ofChange Rows.slotBackSpec) false w args) (Rows.slotBackSpec.post enc Tryd.prog Tryd.f14 false true false false) := by
  refine returnsInHanded_of_change_and (C := Tryd.checked) (X := fun w _ => laidMetH Tryd.prog Rows.slotBackRow.laid w) (fun _ _ _ hh h => h.of_heap hh) own started (by kernel_rfl) Tryd.func14
    (ChangeSpec.witness_shaped (enc := enc) (C := Tryd.checked) (os := os) (X := fun w _ => laidMetH Tryd.prog Rows.slotBackRow.laid w) false (World.laidAll Tryd.prog os Rows.slotBackRow.laid) #[.agg #[.int .i64 0, .int .i64 0, .slice none 0 0], .string ByteArray.empty] 8 (World.laidAll_os _ _ _)
      (World.shaped_of_ZipB (by kernel_rfl) (by kernel_rfl)) (by kernel_rfl) (by kernel_rfl) (by kernel_rfl)
      (by rw [MakeChecks.laidMetH_plain _ _ _ (by kernel_rfl)]; exact laidMet_laidAll _ (by kernel_rfl) (by kernel_rfl))) ?_
  intro W base args ds gs before hval0 hW hcnd hsz0 _ _
  have hsz : (DataW.weightsEach Tryd.prog (Tryd.f14.params.toList ++ Rows.slotBackSpec.plain.varTypes Tryd.prog) (ds ++ gs)).all (· ≤ reachBytes) = true := hsz0
  have hval : ∀ (j : Nat) t v, Tryd.f14.params[j]? = some t → args[j]? = some v → Value.okWide Tryd.prog W .any base t v := hval0
  have hW' := hW
  obtain ⟨p, q, hA0, hV, rfl, hfz, hnd⟩ := hW
  have hA : DataW.TrodAll enc Tryd.prog W 0 (fun _ => true) true Tryd.f14.params.toList args.toList ds p := hA0
  rw [Tryd.params14] at hA hval hsz
  obtain ⟨v0, vs0, d0, ds0, p0, q0, hargs, rfl, rfl, h0, r0⟩ := trodAll_cons hA
  obtain ⟨v1, vs1, d1, ds1, p1, q1, rfl, rfl, rfl, h1, r1⟩ := trodAll_cons r0
  obtain ⟨rfl, rfl, rfl⟩ := trodAll_nil r1
  obtain rfl : args = #[v0, v1] := by cases args; simp_all
  obtain ⟨rfl, rfl⟩ := trodVars_none hV
  have k0 := h0
  have lt0 : ∀ x ∈ p0, x.block < W.heap.size := by obtain ⟨m, hm⟩ := k0; exact DataW.trod_lt m _ _ _ hm
  have ok0 : Value.okWide Tryd.prog W .any base 52 v0 := hval 0 52 v0 rfl rfl
  obtain ⟨fuel0, hf0⟩ := h0
  obtain ⟨x0, K0, Z0⟩ := (show Opens Tryd.prog 52 kHd _ from opens_iso (f := fun x : Hd => (x.epoch, x.seq, x.targets)) (fun a => (⟨a.1, a.2.1, a.2.2⟩ : Hd)) (fun a => rfl) (opens_struct Tryd.underlying52 (by kernel_rfl) (opensF_cons (by kernel_rfl) (by kernel_rfl) (opens_int (P := Tryd.prog) (k := .i64) Tryd.underlying3) (opensF_cons (by kernel_rfl) (by kernel_rfl) (opens_int (P := Tryd.prog) (k := .i64) Tryd.underlying3) (opensF_one (by kernel_rfl) (opens_slice Tryd.underlying50 (by kernel_rfl) 8 (by kernel_rfl) (opens_int (P := Tryd.prog) (k := .i64) Tryd.underlying3))))))) H enc W 0 _ true fuel0 _ _ _ hf0 (weights_of_each hsz (j := 0) (t := 52) rfl rfl)
  obtain ⟨cs0, rfl⟩ := aggOf_okWide Tryd.underlying52 ok0
  obtain ⟨A0, c0, e0, l0, g0⟩ := kHd_open (fk_all K0)
  obtain rfl : cs0 = #[.int .i64 x0.epoch, .int .i64 x0.seq, .slice A0 x0.targets.length c0] := agg_open e0
  have k1 := h1
  have lt1 : ∀ x ∈ p1, x.block < W.heap.size := by obtain ⟨m, hm⟩ := k1; exact DataW.trod_lt m _ _ _ hm
  have ok1 : Value.okWide Tryd.prog W .any base 9 v1 := hval 1 9 v1 rfl rfl
  obtain ⟨fuel1, hf1⟩ := h1
  obtain ⟨x1, K1, Z1⟩ := (opens_string Tryd.underlying9) H enc W 0 _ true fuel1 _ _ _ hf1 (weights_of_each hsz (j := 1) (t := 9) rfl rfl)
  obtain ⟨y1, rfl⟩ := okWide_string Tryd.underlying9 ok1
  obtain rfl := string_open K1
  clear hA0 hval0 hsz0 hsz
  refine (Go.Proofs.YtniplmjbligmlaaDoor.V.law_SlotBack W x1 (by have hz : x0.targets.length * 8 ≤ 140737488351232 := Z0.2.2.1; omega) l0 g0.now (Nat.lt_of_le_of_lt Z1 (by decide))).mono fun e W' ⟨he, bel⟩ => ?_
  subst he
  exact ⟨_, rfl, _, _, _, [], _, [], hW', trodAll_mk1 (shut_bool Tryd.underlying4 _), (trodAll_cons_mk (Below.trod laidOut (by kernel_rfl) (of_decide_eq_true (by kernel_rfl)) k0 bel lt0) (trodAll_cons_mk (Below.trod laidOut (by kernel_rfl) (of_decide_eq_true (by kernel_rfl)) k1 bel lt1) trodAll_mk0)), rfl, bel.frame _, fun h => by cases h⟩
theorem over : Rows.slotBackRow.holds Tryd.pinned (OpenSpec.ofChange Rows.slotBackSpec) :=
  OpenClaim.holds_of_wide 14 Tryd.f14 rfl rfl rfl rfl rfl rfl rfl ⟨rfl, rfl, rfl, rfl, rfl⟩ rfl rfl rfl rfl rfl (by kernel_rfl) Tryd.func14 (by kernel_rfl)
    (of_decide_eq_true (by kernel_rfl)) (by unfold Func.isWrapper; first | (rw [if_pos (by decide +kernel)]; kernel_rfl) | (rw [if_neg (by decide +kernel)]; exact ⟨rfl, rfl⟩))
    (fun os started H enc _ => lifted os started H enc)
theorem proved : Rows.SlotBackSaid := over
theorem card : Rows.SlotBackCardSaid :=
  Claim7.holds_tied_plain_at .later [] [.data, .pinned] true (true, "ec22d909a53f874bd568267daaecff0bbd6a3d22c2ad4d19e5d712a5b89fc2b2") false proved (fun _ h => by cases h) (by kernel_rfl) (fun _ h => by cases h) slotBack_row_tie rfl ⟨rfl, rfl⟩ (by kernel_rfl) rfl
    (fun f fn hf hfn => by
      obtain rfl : f = 14 := Option.some.inj ((show Tryd.prog.funcNamed "doorward/doorwardlaw04.SlotBack" = some 14 by kernel_rfl).symm.trans hf) |>.symm
      obtain rfl : fn = Tryd.f14 := (Option.some.inj (Tryd.func14.symm.trans hfn)).symm
      exact ⟨by kernel_rfl, fun j t ht => by
        rw [Tryd.params14] at ht
        have hm : t ∈ [52, 9] := by simpa using Array.mem_of_getElem? ht
        have hall : ([52, 9].all fun u => !Tryd.prog.wantsStandIn u) = true := by kernel_rfl
        exact (show Tryd.prog.wantsStandIn t = false by simpa using List.all_eq_true.1 hall t hm)⟩)
    (by kernel_rfl)
end Go.Proofs.YtniplmjbligmlaaDoor.slotBack
namespace Go.Proofs.YtniplmjbligmlaaDoor
theorem slotBack_holds : Rows.SlotBackCardSaid := slotBack.card
#print axioms slotBack_holds
end Go.Proofs.YtniplmjbligmlaaDoor
