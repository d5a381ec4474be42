/- DiskCalls holds: the Go law answers true for every input, and leaves its arguments alone; no condition but that the listed tables of the library stand as the program's text lays them. -/
import Derived.Test.YtniplmjbligmlaaDoorMgDiskCalls2
import Derived.Test.YtniplmjbligmlaaDoorCards
import Derived.Test.YtniplmjbligmlaaDoorTie
import Derived.Test.YtniplmjbligmlaaDoorMgDiskCalls0
import Derived.Below
import Derived.Deep.Draws
import Derived.Deep.AppendLies
import Derived.Maps.AppendAt
import Derived.OwnWalk
import Derived.Laws.BytesArg
import Derived.Laws.MakeOwn
import Derived.Laws.OwnMore
import Derived.Deep.OwnRows
import Derived.Tactics
import Derived.Lib.ConvBytes
import Derived.Laws.Slices
import Derived.WalkKit
import Derived.KernelRfl
import Derived.RowKit3
import Derived.Deep.LoopGhost
import Derived.Deep.QuietTactic
import Derived.BigQuiet
import Derived.WideLaws
import Derived.Deep.DeepCutAuto
import Derived.Deep.CutBlock
import Derived.Deep.RegionHeld3
import Derived.Laws.Rows
import Derived.Lib.AppendStr
import Derived.ArgAppend
import Derived.Laws.IdiomCopy
import Derived.RowKit
import Derived.ProofKit
import Derived.OpenShut
import Derived.ShutString
import Derived.ChangeOld
import Derived.SizedLaws
import Derived.LaidMore
import Derived.Lay
import Derived.SevenTiedAt
import Derived.Stop.Joined
/-! Layer 3 of the program, walked: new disks; the document's calls; disks of few sectors. -/
namespace Go.Proofs.YtniplmjbligmlaaDoor.V
open Go.RowKit Go.Proofs.YtniplmjbligmlaaDoorW.PrintLast
set_option linter.unusedVariables false
set_option linter.unusedSimpArgs false
theorem has_f {n : Nat} {x : Int} (h : hasB n x = false) (h0 : 0 ≤ x) : (n : Int) ≤ x := by
  rcases has_cases h with ⟨_, h⟩ | ⟨_, _, h⟩ | ⟨h, _⟩
  · omega
  · exact h
  · cases h
theorem has_t {n : Nat} {x : Int} (h : hasB n x = true) : x < (n : Int) := by
  rcases has_cases h with ⟨h, _⟩ | ⟨h, _⟩ | ⟨_, _, h⟩
  · cases h
  · cases h
  · exact h
theorem wrDo_cases {ss ss1 : List ByteArray} {ws ws1 : List Wr} {sec e1 : Int} {bytes : ByteArray} (hr : wrDo ss ws sec bytes = (ss1, ws1, e1)) : (hasB ss.length sec = false ∧ ss1 = ss ∧ ws1 = ws ∧ e1 = 20) ∨ (hasB ss.length sec = true ∧ 512 < bytes.size ∧ ss1 = ss ∧ ws1 = ws ∧ e1 = 2) ∨ (hasB ss.length sec = true ∧ bytes.size ≤ 512 ∧ ss1 = ss ∧ ws1 = ws ++ [⟨sec, bytes⟩] ∧ e1 = 0) := by
  unfold wrDo at hr
  cases h1 : hasB ss.length sec
  · rw [h1, if_pos rfl] at hr
    injection hr with q1 q2; injection q2 with q2 q3
    exact .inl ⟨rfl, q1.symm, q2.symm, q3.symm⟩
  · rw [h1, if_neg (by decide)] at hr
    split at hr
    · rename_i h2
      injection hr with q1 q2; injection q2 with q2 q3
      exact .inr (.inl ⟨rfl, h2, q1.symm, q2.symm, q3.symm⟩)
    · rename_i h2
      injection hr with q1 q2; injection q2 with q2 q3
      exact .inr (.inr ⟨rfl, by omega, q1.symm, q2.symm, q3.symm⟩)
section
variable {M F0 F : Nat → Prop} {w0 w : World} {B : List Box} {R : List (World → Prop)} {K : Ending → World → Prop}
set_option maxRecDepth 100000
set_option maxHeartbeats 4000000
theorem sl_disk_New (H : St M F0 w0 F B R w) {n e : Int} {r : List ByteArray} (hr : (if 1 ≤ n ∧ n ≤ 256 then (List.replicate n.toNat (⟨#[]⟩ : ByteArray), (0 : Int)) else ([], 1)) = (r, e)) (k : ∀ Fx w' A' c', Cap r.length c' → St M F0 w0 Fx B (rdc Kd.string A' r :: R) w' → K (.returned (.tuple #[.agg #[.slice A' r.length c', .slice none 0 0], .int .i64 e])) w') : Calls Tryd.prog 16 #[.int .i64 n] w K := by
  refine St.fn0 H (R0 := []) no_mem (fun H => ?_)
  refine sx_enter Tryd.func16 Tryd.ntmps16 rfl rfl (fun a A => ?_)
  by_cases h1 : 1 ≤ n <;> by_cases h2 : n ≤ 256
  rotate_left
  all_goals (simp only [h1, h2, and_self, and_true, true_and, and_false, false_and, if_true, if_false] at hr; injection hr with q1 q2; subst q1; subst q2)
  rotate_right
  · repeat' (first
    | ((with_reducible refine g_make ?_); refine sx_make (dk := Kd.string) H A tbOk rfl rfl rfl rfl rfl rfl (⟨#[]⟩ : ByteArray) (fun _ => rfl) rfl ?_ (m' := n.toNat); clear H A; intro br a w_ A H)
    | (refine sx_ret tbOk H A rfl ?_; obtain ⟨hcp, F2, _, H2⟩ := H.freeze_row (dk := Kd.string) (by (repeat (first | with_reducible exact Del.hd | apply Del.tl))); exact H2.retR (ps := [_]) (fun Fx Hx => k Fx _ _ _ hcp Hx))
    | with_reducible refine wp_seq ?_
    | with_reducible refine sx_region ?_
    | with_reducible refine wp_block ?_
    | with_reducible refine wpList_nil ?_
    | with_reducible refine sx_then ?_
    | with_reducible refine sx_inb ?_
    | with_reducible refine wp_skip ?_
    | with_reducible refine wp_ret ?_
    | with_reducible refine wp_exit ?_
    | with_reducible refine sx_then_ret ?_
    | with_reducible refine sx_inb_ret ?_
    | with_reducible refine sx_then_exit ?_
    | with_reducible refine sx_inb_exit ?_
    | with_reducible refine sx_inb_other rfl ?_
    | with_reducible refine sx_if_t A rfl ?_
    | with_reducible refine sx_if_f A rfl ?_
    | ((with_reducible refine sx_at ?_); first
      | (refine sx_pure A tbOk rfl rfl rfl ?_; clear A; intro a A)
      | (refine sx_skip A rfl rfl ?_; clear A; intro a A)
      | ((with_reducible refine g_bin ?_); first | ((refine g_int A rfl ?_); first | (refine sx_cmp A rfl rfl rfl rfl ?_; clear A; intro a A) | (refine sx_arith A rfl rfl rfl rfl ?_; clear A; intro a A) | (refine sx_shl A rfl rfl rfl rfl ?_; clear A; intro a A) | (refine sx_shr A rfl rfl rfl rfl ?_; clear A; intro a A)) | ((refine g_str A rfl ?_); first | (refine sx_scmp A rfl rfl rfl rfl ?_; clear A; intro a A) | (refine sx_concat A rfl rfl rfl rfl ?_; clear A; intro a A)))
      | ((with_reducible refine g_load ?_); first | (refine sx_load_all H A tbOk rfl rfl rfl rfl rfl ?_; clear A; intro a A) | (refine sx_load H A tbOk rfl rfl rfl rfl ?_; clear A; intro a A))
      | ((with_reducible refine g_store ?_); refine sx_store H A tbOk rfl rfl rfl rfl ?_; clear H; intro w_ H)
      | ((with_reducible refine g_box ?_); refine sx_box H A rfl rfl rfl ?_; clear H A; intro b_ a w_ A H)
      | ((with_reducible refine g_alloc ?_); refine sx_alloc H A tbOk rfl rfl rfl ?_; clear H A; intro b_ a w_ A H)
      | ((with_reducible refine g_build ?_); refine sx_build A tbOk rfl rfl rfl rfl rfl rfl ?_; clear A; intro a A)
      | ((with_reducible refine g_builtin ?_); first | (refine sx_min A rfl rfl rfl rfl ?_; clear A; intro a A) | (refine sx_max A rfl rfl rfl rfl ?_; clear A; intro a A))
      | ((with_reducible refine g_slice ?_); first | (refine sx_sstr A tbOk rfl rfl rfl rfl rfl rfl ?_; clear A; intro a A) | (refine sx_cut H A tbOk rfl rfl rfl rfl rfl rfl rfl ?_; clear A H; intro A_ c_ a hc_ A H))
      | ((with_reducible refine g_index ?_); refine sx_sidx A tbOk rfl rfl rfl rfl rfl ?_; clear A; intro a A)
      | ((with_reducible refine g_idx ?_); first | (refine sx_idx H A tbOk rfl rfl rfl rfl rfl rfl ?_; clear A; intro a A) | (refine sx_oidx H A tbOk rfl rfl rfl rfl rfl rfl ?_; clear A; intro a A))
      | ((with_reducible refine g_conv ?_); refine sx_conv A tbOk rfl rfl rfl rfl rfl ?_; clear A; intro a A)
      )
    | ((with_reducible refine g_draw ?_); refine qx_region H (by kernel_rfl) (by kernel_rfl) ?_)
    | ((with_reducible refine qx_nil ?_); clear H; intro w_ F_ H)
    | ((with_reducible refine q_at ?_); first
      | (refine qx_pure A tbOk rfl rfl rfl ?_; clear A; intro a A)
      | (refine qx_skip A rfl rfl ?_; clear A; intro a A)
      | ((with_reducible refine qg_bin ?_); first | ((refine qg_int A rfl ?_); first | (refine qx_cmp A rfl rfl rfl rfl ?_; clear A; intro a A) | (refine qx_arith A rfl rfl rfl rfl ?_; clear A; intro a A)) | ((refine qg_str A rfl ?_); first | (refine qx_scmp A rfl rfl rfl rfl ?_; clear A; intro a A) | (refine qx_concat A rfl rfl rfl rfl ?_; clear A; intro a A)))
      | ((with_reducible refine qg_builtin ?_); first | (refine qx_min A rfl rfl rfl rfl ?_; clear A; intro a A) | (refine qx_max A rfl rfl rfl rfl ?_; clear A; intro a A))
      | ((with_reducible refine qg_slice ?_); refine qx_sstr A tbOk rfl rfl rfl rfl rfl rfl ?_; clear A; intro a A)
      | ((with_reducible refine qg_load ?_); refine qx_load A tbOk rfl rfl rfl rfl ?_; clear A; intro a A)
      | ((with_reducible refine qg_idx ?_); first | (refine qx_idx H A tbOk rfl rfl rfl rfl rfl rfl ?_; clear A; intro a A) | (refine qx_oidx H A tbOk rfl rfl rfl rfl rfl rfl ?_; clear A; intro a A)))
    )
  all_goals repeat' (first
    | (refine sx_ret tbOk H A rfl ?_; exact (H.fact (fun W _ => rdc_nil Kd.string none W)).retR (ps := [_]) fun Fx Hx => k Fx _ none 0 ⟨Nat.le_refl _⟩ Hx)
    | with_reducible refine wp_seq ?_
    | with_reducible refine sx_region ?_
    | with_reducible refine wp_block ?_
    | with_reducible refine wpList_nil ?_
    | with_reducible refine sx_then ?_
    | with_reducible refine sx_inb ?_
    | with_reducible refine wp_skip ?_
    | with_reducible refine wp_ret ?_
    | with_reducible refine wp_exit ?_
    | with_reducible refine sx_then_ret ?_
    | with_reducible refine sx_inb_ret ?_
    | with_reducible refine sx_then_exit ?_
    | with_reducible refine sx_inb_exit ?_
    | with_reducible refine sx_inb_other rfl ?_
    | with_reducible refine sx_if_t A rfl ?_
    | with_reducible refine sx_if_f A rfl ?_
    | ((with_reducible refine sx_at ?_); first
      | (refine sx_pure A tbOk rfl rfl rfl ?_; clear A; intro a A)
      | (refine sx_skip A rfl rfl ?_; clear A; intro a A)
      | ((with_reducible refine g_bin ?_); first | ((refine g_int A rfl ?_); first | (refine sx_cmp A rfl rfl rfl rfl ?_; clear A; intro a A) | (refine sx_arith A rfl rfl rfl rfl ?_; clear A; intro a A) | (refine sx_shl A rfl rfl rfl rfl ?_; clear A; intro a A) | (refine sx_shr A rfl rfl rfl rfl ?_; clear A; intro a A)) | ((refine g_str A rfl ?_); first | (refine sx_scmp A rfl rfl rfl rfl ?_; clear A; intro a A) | (refine sx_concat A rfl rfl rfl rfl ?_; clear A; intro a A)))
      | ((with_reducible refine g_load ?_); first | (refine sx_load_all H A tbOk rfl rfl rfl rfl rfl ?_; clear A; intro a A) | (refine sx_load H A tbOk rfl rfl rfl rfl ?_; clear A; intro a A))
      | ((with_reducible refine g_store ?_); refine sx_store H A tbOk rfl rfl rfl rfl ?_; clear H; intro w_ H)
      | ((with_reducible refine g_box ?_); refine sx_box H A rfl rfl rfl ?_; clear H A; intro b_ a w_ A H)
      | ((with_reducible refine g_alloc ?_); refine sx_alloc H A tbOk rfl rfl rfl ?_; clear H A; intro b_ a w_ A H)
      | ((with_reducible refine g_build ?_); refine sx_build A tbOk rfl rfl rfl rfl rfl rfl ?_; clear A; intro a A)
      | ((with_reducible refine g_builtin ?_); first | (refine sx_min A rfl rfl rfl rfl ?_; clear A; intro a A) | (refine sx_max A rfl rfl rfl rfl ?_; clear A; intro a A))
      | ((with_reducible refine g_slice ?_); first | (refine sx_sstr A tbOk rfl rfl rfl rfl rfl rfl ?_; clear A; intro a A) | (refine sx_cut H A tbOk rfl rfl rfl rfl rfl rfl rfl ?_; clear A H; intro A_ c_ a hc_ A H))
      | ((with_reducible refine g_index ?_); refine sx_sidx A tbOk rfl rfl rfl rfl rfl ?_; clear A; intro a A)
      | ((with_reducible refine g_idx ?_); first | (refine sx_idx H A tbOk rfl rfl rfl rfl rfl rfl ?_; clear A; intro a A) | (refine sx_oidx H A tbOk rfl rfl rfl rfl rfl rfl ?_; clear A; intro a A))
      | ((with_reducible refine g_conv ?_); refine sx_conv A tbOk rfl rfl rfl rfl rfl ?_; clear A; intro a A)
      )
    | ((with_reducible refine g_draw ?_); refine qx_region H (by kernel_rfl) (by kernel_rfl) ?_)
    | ((with_reducible refine qx_nil ?_); clear H; intro w_ F_ H)
    | ((with_reducible refine q_at ?_); first
      | (refine qx_pure A tbOk rfl rfl rfl ?_; clear A; intro a A)
      | (refine qx_skip A rfl rfl ?_; clear A; intro a A)
      | ((with_reducible refine qg_bin ?_); first | ((refine qg_int A rfl ?_); first | (refine qx_cmp A rfl rfl rfl rfl ?_; clear A; intro a A) | (refine qx_arith A rfl rfl rfl rfl ?_; clear A; intro a A)) | ((refine qg_str A rfl ?_); first | (refine qx_scmp A rfl rfl rfl rfl ?_; clear A; intro a A) | (refine qx_concat A rfl rfl rfl rfl ?_; clear A; intro a A)))
      | ((with_reducible refine qg_builtin ?_); first | (refine qx_min A rfl rfl rfl rfl ?_; clear A; intro a A) | (refine qx_max A rfl rfl rfl rfl ?_; clear A; intro a A))
      | ((with_reducible refine qg_slice ?_); refine qx_sstr A tbOk rfl rfl rfl rfl rfl rfl ?_; clear A; intro a A)
      | ((with_reducible refine qg_load ?_); refine qx_load A tbOk rfl rfl rfl rfl ?_; clear A; intro a A)
      | ((with_reducible refine qg_idx ?_); first | (refine qx_idx H A tbOk rfl rfl rfl rfl rfl rfl ?_; clear A; intro a A) | (refine qx_oidx H A tbOk rfl rfl rfl rfl rfl rfl ?_; clear A; intro a A)))
    )
theorem sl_law03_alive (H : St M F0 w0 F B R w) (k : ∀ Fx w', St M F0 w0 Fx B R w' → K (.returned (.bool true)) w') : Calls Tryd.prog 17 #[] w K := by
  refine St.fn0 H (R0 := []) no_mem (fun H => ?_)
  refine sx_enter Tryd.func17 Tryd.ntmps17 rfl rfl (fun a A => ?_)
  obtain ⟨r, h1, h2, h3⟩ : ∃ r, (if (1 : Int) ≤ 3 ∧ (3 : Int) ≤ 256 then (List.replicate (3 : Int).toNat (⟨#[]⟩ : ByteArray), (0 : Int)) else ([], 1)) = (r, 0) ∧ rightB r [] = true ∧ r.length = 3 := ⟨_, if_pos ⟨by decide, by decide⟩, by decide +kernel, rfl⟩
  repeat' (first
    | ((with_reducible refine g_dst 4 ?_); refine sx_call (f := 16) A rfl Tryd.call16 rfl rfl ?_; refine sl_disk_New H h1 ?_; clear H; intro F_ w_ A3 c3 hc3 H; replace H := H.fact (fun W _ => rdc_nil kWr none W); refine ⟨_, rfl, ?_⟩; clear A; intro a A)
    | ((with_reducible refine g_dst 11 ?_); refine sx_call (f := 18) A rfl Tryd.call18 rfl rfl ?_; refine sl_disk_Right (ws := []) H (by omega) (by decide) h2 ?_; clear H; intro F_ w_ H; refine ⟨_, rfl, ?_⟩; clear A; intro a A)
    | (refine sx_ret tbOk H A rfl ?_; exact H.ret0 fun Fx Hx => k Fx _ Hx)
    | with_reducible refine wp_seq ?_
    | with_reducible refine sx_region ?_
    | with_reducible refine wp_block ?_
    | with_reducible refine wpList_nil ?_
    | with_reducible refine sx_then ?_
    | with_reducible refine sx_inb ?_
    | with_reducible refine wp_skip ?_
    | with_reducible refine wp_ret ?_
    | with_reducible refine wp_exit ?_
    | with_reducible refine sx_then_ret ?_
    | with_reducible refine sx_inb_ret ?_
    | with_reducible refine sx_then_exit ?_
    | with_reducible refine sx_inb_exit ?_
    | with_reducible refine sx_inb_other rfl ?_
    | with_reducible refine sx_if_t A rfl ?_
    | with_reducible refine sx_if_f A rfl ?_
    | ((with_reducible refine sx_at ?_); first
      | (refine sx_pure A tbOk rfl rfl rfl ?_; clear A; intro a A)
      | (refine sx_skip A rfl rfl ?_; clear A; intro a A)
      | ((with_reducible refine g_bin ?_); first | ((refine g_int A rfl ?_); first | (refine sx_cmp A rfl rfl rfl rfl ?_; clear A; intro a A) | (refine sx_arith A rfl rfl rfl rfl ?_; clear A; intro a A) | (refine sx_shl A rfl rfl rfl rfl ?_; clear A; intro a A) | (refine sx_shr A rfl rfl rfl rfl ?_; clear A; intro a A)) | ((refine g_str A rfl ?_); first | (refine sx_scmp A rfl rfl rfl rfl ?_; clear A; intro a A) | (refine sx_concat A rfl rfl rfl rfl ?_; clear A; intro a A)))
      | ((with_reducible refine g_load ?_); first | (refine sx_load_all H A tbOk rfl rfl rfl rfl rfl ?_; clear A; intro a A) | (refine sx_load H A tbOk rfl rfl rfl rfl ?_; clear A; intro a A))
      | ((with_reducible refine g_store ?_); refine sx_store H A tbOk rfl rfl rfl rfl ?_; clear H; intro w_ H)
      | ((with_reducible refine g_box ?_); refine sx_box H A rfl rfl rfl ?_; clear H A; intro b_ a w_ A H)
      | ((with_reducible refine g_alloc ?_); refine sx_alloc H A tbOk rfl rfl rfl ?_; clear H A; intro b_ a w_ A H)
      | ((with_reducible refine g_build ?_); refine sx_build A tbOk rfl rfl rfl rfl rfl rfl ?_; clear A; intro a A)
      | ((with_reducible refine g_builtin ?_); first | (refine sx_min A rfl rfl rfl rfl ?_; clear A; intro a A) | (refine sx_max A rfl rfl rfl rfl ?_; clear A; intro a A))
      | ((with_reducible refine g_slice ?_); first | (refine sx_sstr A tbOk rfl rfl rfl rfl rfl rfl ?_; clear A; intro a A) | (refine sx_cut H A tbOk rfl rfl rfl rfl rfl rfl rfl ?_; clear A H; intro A_ c_ a hc_ A H))
      | ((with_reducible refine g_index ?_); refine sx_sidx A tbOk rfl rfl rfl rfl rfl ?_; clear A; intro a A)
      | ((with_reducible refine g_idx ?_); first | (refine sx_idx H A tbOk rfl rfl rfl rfl rfl rfl ?_; clear A; intro a A) | (refine sx_oidx H A tbOk rfl rfl rfl rfl rfl rfl ?_; clear A; intro a A))
      | ((with_reducible refine g_conv ?_); refine sx_conv A tbOk rfl rfl rfl rfl rfl ?_; clear A; intro a A)
      )
    | ((with_reducible refine g_draw ?_); refine qx_region H (by kernel_rfl) (by kernel_rfl) ?_)
    | ((with_reducible refine qx_nil ?_); clear H; intro w_ F_ H)
    | ((with_reducible refine q_at ?_); first
      | (refine qx_pure A tbOk rfl rfl rfl ?_; clear A; intro a A)
      | (refine qx_skip A rfl rfl ?_; clear A; intro a A)
      | ((with_reducible refine qg_bin ?_); first | ((refine qg_int A rfl ?_); first | (refine qx_cmp A rfl rfl rfl rfl ?_; clear A; intro a A) | (refine qx_arith A rfl rfl rfl rfl ?_; clear A; intro a A)) | ((refine qg_str A rfl ?_); first | (refine qx_scmp A rfl rfl rfl rfl ?_; clear A; intro a A) | (refine qx_concat A rfl rfl rfl rfl ?_; clear A; intro a A)))
      | ((with_reducible refine qg_builtin ?_); first | (refine qx_min A rfl rfl rfl rfl ?_; clear A; intro a A) | (refine qx_max A rfl rfl rfl rfl ?_; clear A; intro a A))
      | ((with_reducible refine qg_slice ?_); refine qx_sstr A tbOk rfl rfl rfl rfl rfl rfl ?_; clear A; intro a A)
      | ((with_reducible refine qg_load ?_); refine qx_load A tbOk rfl rfl rfl rfl ?_; clear A; intro a A)
      | ((with_reducible refine qg_idx ?_); first | (refine qx_idx H A tbOk rfl rfl rfl rfl rfl rfl ?_; clear A; intro a A) | (refine qx_oidx H A tbOk rfl rfl rfl rfl rfl rfl ?_; clear A; intro a A)))
    )
theorem sl_ref03_DoF (H : St M F0 w0 F B R w) {A0 A1 : Option Addr} {c0 c1 : Nat} {ss ss' : List ByteArray} {ws ws' : List Wr} {left left' e sec : Int} {bytes : ByteArray} (hl : ss.length ≤ 1000000) (hl2 : ws.length ≤ 1000000) (hlf : left < 9223372036854775808) (hsec : sec < 0) (hr : callP ss ws left (flDo ss ws) [] 0 = (ss', ws', left', e)) (k : ∀ Fx w' A0' c0' A1' c1', Cap ss'.length c0' → Cap ws'.length c1' → St M F0 w0 Fx (B) (rdc Kd.string A0' ss' :: rdc kWr A1' ws' :: R) w' → K (.returned (.tuple #[.agg #[.slice A0' ss'.length c0', .slice A1' ws'.length c1', .int .i64 left'], .int .i64 e])) w') (hm : rdc Kd.string A0 ss ∈ R := by (repeat (first | with_reducible exact List.mem_cons_self | apply List.mem_cons_of_mem))) (hm2 : rdc kWr A1 ws ∈ R := by (repeat (first | with_reducible exact List.mem_cons_self | apply List.mem_cons_of_mem))) (hc0 : Cap ss.length c0 := by with_reducible assumption) (hc1 : Cap ws.length c1 := by with_reducible assumption) : Calls Tryd.prog 32 #[.agg #[.slice A0 ss.length c0, .slice A1 ws.length c1, .int .i64 left], .agg #[.int .i64 sec, .string bytes]] w K := by
  refine St.fn0 H (R0 := [rdc Kd.string A0 ss, rdc kWr A1 ws]) (mem2 hm hm2) (fun H => ?_)
  refine sx_enter Tryd.func32 Tryd.ntmps32 rfl rfl (fun a A => ?_)
  have hcase := callP_cases hr
  clear hr
  have hfl : crashN (fun i => true || ([] : List Bool).getD i false) ss ws ws.length = flDo ss ws := crashN_congr _ _ _ (fun _ _ => rfl)
  rcases hcase with ⟨rfl, rfl, rfl, rfl, rfl⟩ | ⟨h1, h2, rfl, rfl, rfl, rfl⟩ | ⟨h1, h2, h3, rfl, rfl, rfl, rfl⟩ | ⟨h1, h2, h3, rfl, rfl, rfl, rfl⟩ | ⟨h1, h2, h3, rfl, rfl, rfl, rfl⟩
  rotate_left 3
  all_goals try (exact absurd rfl h3)
  all_goals repeat' (first
    | ((with_reducible refine g_dst 14 ?_); refine sx_call (f := 19) A rfl Tryd.call19 rfl rfl ?_; refine sl_ref03_Right H (by omega) (by omega) h2 ?_; clear H; intro F_ w_ H; refine ⟨_, rfl, ?_⟩; clear A; intro a A)
    | ((with_reducible refine g_dst 32 ?_); replace H := H.fact (fun W _ => rdc_nil Kd.bool none W); refine sx_call (f := 23) A rfl Tryd.call23 rfl rfl ?_; refine sl_ref03_Crash (keep := []) H hl hl2 (fun x hx => ((right_sec h2).2.2 x hx).1) hfl ?_; clear H; intro F_ w_ A3 c3 hc3 H; replace H := H.fact (fun W _ => rdc_nil kWr none W); have hc4 : Cap ([] : List Wr).length 0 := ⟨Nat.le_refl _⟩; refine ⟨_, rfl, ?_⟩; clear A; intro a A)
    | (refine sx_ret tbOk H A rfl ?_; exact H.retR (ps := [_, _]) (fun Fx Hx => k Fx _ _ _ _ _ (by assumption) (by assumption) Hx) (mem2 (a := rdc Kd.string _ _) (b := rdc kWr _ _) (by (repeat (first | with_reducible exact List.mem_cons_self | apply List.mem_cons_of_mem))) (by (repeat (first | with_reducible exact List.mem_cons_self | apply List.mem_cons_of_mem)))))
    | with_reducible refine wp_seq ?_
    | with_reducible refine sx_region ?_
    | with_reducible refine wp_block ?_
    | with_reducible refine wpList_nil ?_
    | with_reducible refine sx_then ?_
    | with_reducible refine sx_inb ?_
    | with_reducible refine wp_skip ?_
    | with_reducible refine wp_ret ?_
    | with_reducible refine wp_exit ?_
    | with_reducible refine sx_then_ret ?_
    | with_reducible refine sx_inb_ret ?_
    | with_reducible refine sx_then_exit ?_
    | with_reducible refine sx_inb_exit ?_
    | with_reducible refine sx_inb_other rfl ?_
    | with_reducible refine sx_if_t A rfl ?_
    | with_reducible refine sx_if_f A rfl ?_
    | ((with_reducible refine sx_at ?_); first
      | (refine sx_pure A tbOk rfl rfl rfl ?_; clear A; intro a A)
      | (refine sx_skip A rfl rfl ?_; clear A; intro a A)
      | ((with_reducible refine g_bin ?_); first | ((refine g_int A rfl ?_); first | (refine sx_cmp A rfl rfl rfl rfl ?_; clear A; intro a A) | (refine sx_arith A rfl rfl rfl rfl ?_; clear A; intro a A) | (refine sx_shl A rfl rfl rfl rfl ?_; clear A; intro a A) | (refine sx_shr A rfl rfl rfl rfl ?_; clear A; intro a A)) | ((refine g_str A rfl ?_); first | (refine sx_scmp A rfl rfl rfl rfl ?_; clear A; intro a A) | (refine sx_concat A rfl rfl rfl rfl ?_; clear A; intro a A)))
      | ((with_reducible refine g_load ?_); first | (refine sx_load_all H A tbOk rfl rfl rfl rfl rfl ?_; clear A; intro a A) | (refine sx_load H A tbOk rfl rfl rfl rfl ?_; clear A; intro a A))
      | ((with_reducible refine g_store ?_); refine sx_store H A tbOk rfl rfl rfl rfl ?_; clear H; intro w_ H)
      | ((with_reducible refine g_box ?_); refine sx_box H A rfl rfl rfl ?_; clear H A; intro b_ a w_ A H)
      | ((with_reducible refine g_alloc ?_); refine sx_alloc H A tbOk rfl rfl rfl ?_; clear H A; intro b_ a w_ A H)
      | ((with_reducible refine g_build ?_); refine sx_build A tbOk rfl rfl rfl rfl rfl rfl ?_; clear A; intro a A)
      | ((with_reducible refine g_builtin ?_); first | (refine sx_min A rfl rfl rfl rfl ?_; clear A; intro a A) | (refine sx_max A rfl rfl rfl rfl ?_; clear A; intro a A))
      | ((with_reducible refine g_slice ?_); first | (refine sx_sstr A tbOk rfl rfl rfl rfl rfl rfl ?_; clear A; intro a A) | (refine sx_cut H A tbOk rfl rfl rfl rfl rfl rfl rfl ?_; clear A H; intro A_ c_ a hc_ A H))
      | ((with_reducible refine g_index ?_); refine sx_sidx A tbOk rfl rfl rfl rfl rfl ?_; clear A; intro a A)
      | ((with_reducible refine g_idx ?_); first | (refine sx_idx H A tbOk rfl rfl rfl rfl rfl rfl ?_; clear A; intro a A) | (refine sx_oidx H A tbOk rfl rfl rfl rfl rfl rfl ?_; clear A; intro a A))
      | ((with_reducible refine g_conv ?_); refine sx_conv A tbOk rfl rfl rfl rfl rfl ?_; clear A; intro a A)
      )
    | ((with_reducible refine g_draw ?_); refine qx_region H (by kernel_rfl) (by kernel_rfl) ?_)
    | ((with_reducible refine qx_nil ?_); clear H; intro w_ F_ H)
    | ((with_reducible refine q_at ?_); first
      | (refine qx_pure A tbOk rfl rfl rfl ?_; clear A; intro a A)
      | (refine qx_skip A rfl rfl ?_; clear A; intro a A)
      | ((with_reducible refine qg_bin ?_); first | ((refine qg_int A rfl ?_); first | (refine qx_cmp A rfl rfl rfl rfl ?_; clear A; intro a A) | (refine qx_arith A rfl rfl rfl rfl ?_; clear A; intro a A)) | ((refine qg_str A rfl ?_); first | (refine qx_scmp A rfl rfl rfl rfl ?_; clear A; intro a A) | (refine qx_concat A rfl rfl rfl rfl ?_; clear A; intro a A)))
      | ((with_reducible refine qg_builtin ?_); first | (refine qx_min A rfl rfl rfl rfl ?_; clear A; intro a A) | (refine qx_max A rfl rfl rfl rfl ?_; clear A; intro a A))
      | ((with_reducible refine qg_slice ?_); refine qx_sstr A tbOk rfl rfl rfl rfl rfl rfl ?_; clear A; intro a A)
      | ((with_reducible refine qg_load ?_); refine qx_load A tbOk rfl rfl rfl rfl ?_; clear A; intro a A)
      | ((with_reducible refine qg_idx ?_); first | (refine qx_idx H A tbOk rfl rfl rfl rfl rfl rfl ?_; clear A; intro a A) | (refine qx_oidx H A tbOk rfl rfl rfl rfl rfl rfl ?_; clear A; intro a A)))
    )
theorem sl_ref03_DoW (H : St M F0 w0 F B R w) {A0 A1 : Option Addr} {c0 c1 : Nat} {ss ss1 ss' : List ByteArray} {ws ws1 ws' : List Wr} {left left' e1 e sec : Int} {bytes t : ByteArray} (hl : ss.length ≤ 1000000) (hl2 : ws.length ≤ 1000000) (hlf : left < 9223372036854775808) (hbs : bytes.size ≤ 4611686018427387904) (hsec : 0 ≤ sec) (ht : trimS bytes = t) (hwr : wrDo ss ws sec t = (ss1, ws1, e1)) (hr : callP ss ws left ss1 ws1 e1 = (ss', ws', left', e)) (k : ∀ Fx w' A0' c0' A1' c1', Cap ss'.length c0' → Cap ws'.length c1' → St M F0 w0 Fx (B) (rdc Kd.string A0' ss' :: rdc kWr A1' ws' :: R) w' → K (.returned (.tuple #[.agg #[.slice A0' ss'.length c0', .slice A1' ws'.length c1', .int .i64 left'], .int .i64 e])) w') (hm : rdc Kd.string A0 ss ∈ R := by (repeat (first | with_reducible exact List.mem_cons_self | apply List.mem_cons_of_mem))) (hm2 : rdc kWr A1 ws ∈ R := by (repeat (first | with_reducible exact List.mem_cons_self | apply List.mem_cons_of_mem))) (hc0 : Cap ss.length c0 := by with_reducible assumption) (hc1 : Cap ws.length c1 := by with_reducible assumption) : Calls Tryd.prog 32 #[.agg #[.slice A0 ss.length c0, .slice A1 ws.length c1, .int .i64 left], .agg #[.int .i64 sec, .string bytes]] w K := by
  refine St.fn0 H (R0 := [rdc Kd.string A0 ss, rdc kWr A1 ws]) (mem2 hm hm2) (fun H => ?_)
  refine sx_enter Tryd.func32 Tryd.ntmps32 rfl rfl (fun a A => ?_)
  have hcase := callP_cases hr
  clear hr
  have hw := wrDo_cases hwr
  clear hwr
  rcases hcase with ⟨rfl, rfl, rfl, rfl, rfl⟩ | ⟨h1, h2, rfl, rfl, rfl, rfl⟩ | ⟨h1, h2, h3, rfl, rfl, rfl, rfl⟩ | ⟨h1, h2, h3, rfl, rfl, rfl, rfl⟩ | ⟨h1, h2, h3, rfl, rfl, rfl, rfl⟩
  rotate_left 2
  · rcases hw with ⟨g1, rfl, rfl, rfl⟩ | ⟨g1, g2, rfl, rfl, rfl⟩ | ⟨g1, g2, rfl, rfl, rfl⟩
    rotate_right
    · exact absurd rfl h3
    all_goals (first | have g3 := has_f g1 hsec | have g3 := has_t g1)
    all_goals clear g1
    all_goals (rcases Int.lt_or_gt_of_ne h1 with hq | hq)
    all_goals repeat' (first
    | ((with_reducible refine g_dst 14 ?_); refine sx_call (f := 19) A rfl Tryd.call19 rfl rfl ?_; refine sl_ref03_Right H (by omega) (by omega) h2 ?_; clear H; intro F_ w_ H; refine ⟨_, rfl, ?_⟩; clear A; intro a A)
    | ((with_reducible refine g_dst 37 ?_); refine sx_call (f := 41) A rfl Tryd.call41 rfl rfl ?_; refine sl_ref01_Trim H hbs ht ?_; clear H; intro F_ w_ H; refine ⟨_, rfl, ?_⟩; clear A; intro a A)
    | ((with_reducible refine g_dst 61 ?_); replace H := H.nilrow kWr 42; refine sx_append (dk := kWr) (zs := ws) (ys := []) H A tbOk rfl rfl rfl rfl rfl rfl rfl rfl rfl ?_; clear A H; intro A3 c3 a w_ A H; rw [List.nil_append] at H A)
    | ((with_reducible refine g_lit ?_); refine sx_lit (dk := kWr) (ys := [⟨_, _⟩]) H A tbOk rfl rfl rfl rfl rfl rfl (.cons (kWr_mk _) .nil) ?_; clear H A; intro b7 a w_ A H)
    | ((with_reducible refine g_dst 72 ?_); refine sx_appendL (dk := kWr) (ys := ws) (zs := [_]) H A tbOk rfl rfl rfl rfl rfl rfl rfl rfl rfl ?_; clear A H; intro A4 c4 a w_ A H)
    | (refine sx_ret tbOk H A rfl ?_; exact H.retR (ps := [_, _]) (fun Fx Hx => k Fx _ _ _ _ _ hc0 hc1 Hx) (mem2 (a := rdc Kd.string _ _) (b := rdc kWr _ _) (by (repeat (first | with_reducible exact List.mem_cons_self | apply List.mem_cons_of_mem))) (by (repeat (first | with_reducible exact List.mem_cons_self | apply List.mem_cons_of_mem)))))
    | with_reducible refine wp_seq ?_
    | with_reducible refine sx_region ?_
    | with_reducible refine wp_block ?_
    | with_reducible refine wpList_nil ?_
    | with_reducible refine sx_then ?_
    | with_reducible refine sx_inb ?_
    | with_reducible refine wp_skip ?_
    | with_reducible refine wp_ret ?_
    | with_reducible refine wp_exit ?_
    | with_reducible refine sx_then_ret ?_
    | with_reducible refine sx_inb_ret ?_
    | with_reducible refine sx_then_exit ?_
    | with_reducible refine sx_inb_exit ?_
    | with_reducible refine sx_inb_other rfl ?_
    | with_reducible refine sx_if_t A rfl ?_
    | with_reducible refine sx_if_f A rfl ?_
    | ((with_reducible refine sx_at ?_); first
      | (refine sx_pure A tbOk rfl rfl rfl ?_; clear A; intro a A)
      | (refine sx_skip A rfl rfl ?_; clear A; intro a A)
      | ((with_reducible refine g_bin ?_); first | ((refine g_int A rfl ?_); first | (refine sx_cmp A rfl rfl rfl rfl ?_; clear A; intro a A) | (refine sx_arith A rfl rfl rfl rfl ?_; clear A; intro a A) | (refine sx_shl A rfl rfl rfl rfl ?_; clear A; intro a A) | (refine sx_shr A rfl rfl rfl rfl ?_; clear A; intro a A)) | ((refine g_str A rfl ?_); first | (refine sx_scmp A rfl rfl rfl rfl ?_; clear A; intro a A) | (refine sx_concat A rfl rfl rfl rfl ?_; clear A; intro a A)))
      | ((with_reducible refine g_load ?_); first | (refine sx_load_all H A tbOk rfl rfl rfl rfl rfl ?_; clear A; intro a A) | (refine sx_load H A tbOk rfl rfl rfl rfl ?_; clear A; intro a A))
      | ((with_reducible refine g_store ?_); refine sx_store H A tbOk rfl rfl rfl rfl ?_; clear H; intro w_ H)
      | ((with_reducible refine g_box ?_); refine sx_box H A rfl rfl rfl ?_; clear H A; intro b_ a w_ A H)
      | ((with_reducible refine g_alloc ?_); refine sx_alloc H A tbOk rfl rfl rfl ?_; clear H A; intro b_ a w_ A H)
      | ((with_reducible refine g_build ?_); refine sx_build A tbOk rfl rfl rfl rfl rfl rfl ?_; clear A; intro a A)
      | ((with_reducible refine g_builtin ?_); first | (refine sx_min A rfl rfl rfl rfl ?_; clear A; intro a A) | (refine sx_max A rfl rfl rfl rfl ?_; clear A; intro a A))
      | ((with_reducible refine g_slice ?_); first | (refine sx_sstr A tbOk rfl rfl rfl rfl rfl rfl ?_; clear A; intro a A) | (refine sx_cut H A tbOk rfl rfl rfl rfl rfl rfl rfl ?_; clear A H; intro A_ c_ a hc_ A H))
      | ((with_reducible refine g_index ?_); refine sx_sidx A tbOk rfl rfl rfl rfl rfl ?_; clear A; intro a A)
      | ((with_reducible refine g_idx ?_); first | (refine sx_idx H A tbOk rfl rfl rfl rfl rfl rfl ?_; clear A; intro a A) | (refine sx_oidx H A tbOk rfl rfl rfl rfl rfl rfl ?_; clear A; intro a A))
      | ((with_reducible refine g_conv ?_); refine sx_conv A tbOk rfl rfl rfl rfl rfl ?_; clear A; intro a A)
      )
    | ((with_reducible refine g_draw ?_); refine qx_region H (by kernel_rfl) (by kernel_rfl) ?_)
    | ((with_reducible refine qx_nil ?_); clear H; intro w_ F_ H)
    | ((with_reducible refine q_at ?_); first
      | (refine qx_pure A tbOk rfl rfl rfl ?_; clear A; intro a A)
      | (refine qx_skip A rfl rfl ?_; clear A; intro a A)
      | ((with_reducible refine qg_bin ?_); first | ((refine qg_int A rfl ?_); first | (refine qx_cmp A rfl rfl rfl rfl ?_; clear A; intro a A) | (refine qx_arith A rfl rfl rfl rfl ?_; clear A; intro a A)) | ((refine qg_str A rfl ?_); first | (refine qx_scmp A rfl rfl rfl rfl ?_; clear A; intro a A) | (refine qx_concat A rfl rfl rfl rfl ?_; clear A; intro a A)))
      | ((with_reducible refine qg_builtin ?_); first | (refine qx_min A rfl rfl rfl rfl ?_; clear A; intro a A) | (refine qx_max A rfl rfl rfl rfl ?_; clear A; intro a A))
      | ((with_reducible refine qg_slice ?_); refine qx_sstr A tbOk rfl rfl rfl rfl rfl rfl ?_; clear A; intro a A)
      | ((with_reducible refine qg_load ?_); refine qx_load A tbOk rfl rfl rfl rfl ?_; clear A; intro a A)
      | ((with_reducible refine qg_idx ?_); first | (refine qx_idx H A tbOk rfl rfl rfl rfl rfl rfl ?_; clear A; intro a A) | (refine qx_oidx H A tbOk rfl rfl rfl rfl rfl rfl ?_; clear A; intro a A)))
    )
  · rcases hw with ⟨g1, rfl, rfl, rfl⟩ | ⟨g1, g2, rfl, rfl, rfl⟩ | ⟨g1, g2, rfl, rfl, rfl⟩
    · exact absurd h3 (by decide)
    · exact absurd h3 (by decide)
    have g3 := has_t g1
    clear g1
    all_goals repeat' (first
    | ((with_reducible refine g_dst 14 ?_); refine sx_call (f := 19) A rfl Tryd.call19 rfl rfl ?_; refine sl_ref03_Right H (by omega) (by omega) h2 ?_; clear H; intro F_ w_ H; refine ⟨_, rfl, ?_⟩; clear A; intro a A)
    | ((with_reducible refine g_dst 37 ?_); refine sx_call (f := 41) A rfl Tryd.call41 rfl rfl ?_; refine sl_ref01_Trim H hbs ht ?_; clear H; intro F_ w_ H; refine ⟨_, rfl, ?_⟩; clear A; intro a A)
    | ((with_reducible refine g_dst 61 ?_); replace H := H.nilrow kWr 42; refine sx_append (dk := kWr) (zs := ws) (ys := []) H A tbOk rfl rfl rfl rfl rfl rfl rfl rfl rfl ?_; clear A H; intro A3 c3 a w_ A H; rw [List.nil_append] at H A)
    | ((with_reducible refine g_lit ?_); refine sx_lit (dk := kWr) (ys := [⟨_, _⟩]) H A tbOk rfl rfl rfl rfl rfl rfl (.cons (kWr_mk _) .nil) ?_; clear H A; intro b7 a w_ A H)
    | ((with_reducible refine g_dst 72 ?_); refine sx_appendL (dk := kWr) (ys := ws) (zs := [_]) H A tbOk rfl rfl rfl rfl rfl rfl rfl rfl rfl ?_; clear A H; intro A4 c4 a w_ A H)
    | (refine sx_ret tbOk H A rfl ?_; obtain ⟨hcp, F2, _, H2⟩ := H.freeze_row (dk := kWr) (ys := ws ++ [_]) (by (repeat (first | with_reducible exact Del.hd | apply Del.tl))); exact H2.retR (ps := [_, _]) (fun Fx Hx => k Fx _ _ _ _ _ hc0 hcp Hx) (mem2 (a := rdc Kd.string _ _) (b := rdc kWr _ _) (by (repeat (first | with_reducible exact List.mem_cons_self | apply List.mem_cons_of_mem))) (by (repeat (first | with_reducible exact List.mem_cons_self | apply List.mem_cons_of_mem)))))
    | with_reducible refine wp_seq ?_
    | with_reducible refine sx_region ?_
    | with_reducible refine wp_block ?_
    | with_reducible refine wpList_nil ?_
    | with_reducible refine sx_then ?_
    | with_reducible refine sx_inb ?_
    | with_reducible refine wp_skip ?_
    | with_reducible refine wp_ret ?_
    | with_reducible refine wp_exit ?_
    | with_reducible refine sx_then_ret ?_
    | with_reducible refine sx_inb_ret ?_
    | with_reducible refine sx_then_exit ?_
    | with_reducible refine sx_inb_exit ?_
    | with_reducible refine sx_inb_other rfl ?_
    | with_reducible refine sx_if_t A rfl ?_
    | with_reducible refine sx_if_f A rfl ?_
    | ((with_reducible refine sx_at ?_); first
      | (refine sx_pure A tbOk rfl rfl rfl ?_; clear A; intro a A)
      | (refine sx_skip A rfl rfl ?_; clear A; intro a A)
      | ((with_reducible refine g_bin ?_); first | ((refine g_int A rfl ?_); first | (refine sx_cmp A rfl rfl rfl rfl ?_; clear A; intro a A) | (refine sx_arith A rfl rfl rfl rfl ?_; clear A; intro a A) | (refine sx_shl A rfl rfl rfl rfl ?_; clear A; intro a A) | (refine sx_shr A rfl rfl rfl rfl ?_; clear A; intro a A)) | ((refine g_str A rfl ?_); first | (refine sx_scmp A rfl rfl rfl rfl ?_; clear A; intro a A) | (refine sx_concat A rfl rfl rfl rfl ?_; clear A; intro a A)))
      | ((with_reducible refine g_load ?_); first | (refine sx_load_all H A tbOk rfl rfl rfl rfl rfl ?_; clear A; intro a A) | (refine sx_load H A tbOk rfl rfl rfl rfl ?_; clear A; intro a A))
      | ((with_reducible refine g_store ?_); refine sx_store H A tbOk rfl rfl rfl rfl ?_; clear H; intro w_ H)
      | ((with_reducible refine g_box ?_); refine sx_box H A rfl rfl rfl ?_; clear H A; intro b_ a w_ A H)
      | ((with_reducible refine g_alloc ?_); refine sx_alloc H A tbOk rfl rfl rfl ?_; clear H A; intro b_ a w_ A H)
      | ((with_reducible refine g_build ?_); refine sx_build A tbOk rfl rfl rfl rfl rfl rfl ?_; clear A; intro a A)
      | ((with_reducible refine g_builtin ?_); first | (refine sx_min A rfl rfl rfl rfl ?_; clear A; intro a A) | (refine sx_max A rfl rfl rfl rfl ?_; clear A; intro a A))
      | ((with_reducible refine g_slice ?_); first | (refine sx_sstr A tbOk rfl rfl rfl rfl rfl rfl ?_; clear A; intro a A) | (refine sx_cut H A tbOk rfl rfl rfl rfl rfl rfl rfl ?_; clear A H; intro A_ c_ a hc_ A H))
      | ((with_reducible refine g_index ?_); refine sx_sidx A tbOk rfl rfl rfl rfl rfl ?_; clear A; intro a A)
      | ((with_reducible refine g_idx ?_); first | (refine sx_idx H A tbOk rfl rfl rfl rfl rfl rfl ?_; clear A; intro a A) | (refine sx_oidx H A tbOk rfl rfl rfl rfl rfl rfl ?_; clear A; intro a A))
      | ((with_reducible refine g_conv ?_); refine sx_conv A tbOk rfl rfl rfl rfl rfl ?_; clear A; intro a A)
      )
    | ((with_reducible refine g_draw ?_); refine qx_region H (by kernel_rfl) (by kernel_rfl) ?_)
    | ((with_reducible refine qx_nil ?_); clear H; intro w_ F_ H)
    | ((with_reducible refine q_at ?_); first
      | (refine qx_pure A tbOk rfl rfl rfl ?_; clear A; intro a A)
      | (refine qx_skip A rfl rfl ?_; clear A; intro a A)
      | ((with_reducible refine qg_bin ?_); first | ((refine qg_int A rfl ?_); first | (refine qx_cmp A rfl rfl rfl rfl ?_; clear A; intro a A) | (refine qx_arith A rfl rfl rfl rfl ?_; clear A; intro a A)) | ((refine qg_str A rfl ?_); first | (refine qx_scmp A rfl rfl rfl rfl ?_; clear A; intro a A) | (refine qx_concat A rfl rfl rfl rfl ?_; clear A; intro a A)))
      | ((with_reducible refine qg_builtin ?_); first | (refine qx_min A rfl rfl rfl rfl ?_; clear A; intro a A) | (refine qx_max A rfl rfl rfl rfl ?_; clear A; intro a A))
      | ((with_reducible refine qg_slice ?_); refine qx_sstr A tbOk rfl rfl rfl rfl rfl rfl ?_; clear A; intro a A)
      | ((with_reducible refine qg_load ?_); refine qx_load A tbOk rfl rfl rfl rfl ?_; clear A; intro a A)
      | ((with_reducible refine qg_idx ?_); first | (refine qx_idx H A tbOk rfl rfl rfl rfl rfl rfl ?_; clear A; intro a A) | (refine qx_oidx H A tbOk rfl rfl rfl rfl rfl rfl ?_; clear A; intro a A)))
    )
  · rcases hw with ⟨g1, rfl, rfl, rfl⟩ | ⟨g1, g2, rfl, rfl, rfl⟩ | ⟨g1, g2, rfl, rfl, rfl⟩
    · exact absurd h3 (by decide)
    · exact absurd h3 (by decide)
    have g3 := has_t g1
    clear g1
    all_goals repeat' (first
    | ((with_reducible refine g_dst 14 ?_); refine sx_call (f := 19) A rfl Tryd.call19 rfl rfl ?_; refine sl_ref03_Right H (by omega) (by omega) h2 ?_; clear H; intro F_ w_ H; refine ⟨_, rfl, ?_⟩; clear A; intro a A)
    | ((with_reducible refine g_dst 37 ?_); refine sx_call (f := 41) A rfl Tryd.call41 rfl rfl ?_; refine sl_ref01_Trim H hbs ht ?_; clear H; intro F_ w_ H; refine ⟨_, rfl, ?_⟩; clear A; intro a A)
    | ((with_reducible refine g_dst 61 ?_); replace H := H.nilrow kWr 42; refine sx_append (dk := kWr) (zs := ws) (ys := []) H A tbOk rfl rfl rfl rfl rfl rfl rfl rfl rfl ?_; clear A H; intro A3 c3 a w_ A H; rw [List.nil_append] at H A)
    | ((with_reducible refine g_lit ?_); refine sx_lit (dk := kWr) (ys := [⟨_, _⟩]) H A tbOk rfl rfl rfl rfl rfl rfl (.cons (kWr_mk _) .nil) ?_; clear H A; intro b7 a w_ A H)
    | ((with_reducible refine g_dst 72 ?_); refine sx_appendL (dk := kWr) (ys := ws) (zs := [_]) H A tbOk rfl rfl rfl rfl rfl rfl rfl rfl rfl ?_; clear A H; intro A4 c4 a w_ A H)
    | (refine sx_ret tbOk H A rfl ?_; obtain ⟨hcp, F2, _, H2⟩ := H.freeze_row (dk := kWr) (ys := ws ++ [_]) (by (repeat (first | with_reducible exact Del.hd | apply Del.tl))); exact H2.retR (ps := [_, _]) (fun Fx Hx => k Fx _ _ _ _ _ hc0 hcp Hx) (mem2 (a := rdc Kd.string _ _) (b := rdc kWr _ _) (by (repeat (first | with_reducible exact List.mem_cons_self | apply List.mem_cons_of_mem))) (by (repeat (first | with_reducible exact List.mem_cons_self | apply List.mem_cons_of_mem)))))
    | with_reducible refine wp_seq ?_
    | with_reducible refine sx_region ?_
    | with_reducible refine wp_block ?_
    | with_reducible refine wpList_nil ?_
    | with_reducible refine sx_then ?_
    | with_reducible refine sx_inb ?_
    | with_reducible refine wp_skip ?_
    | with_reducible refine wp_ret ?_
    | with_reducible refine wp_exit ?_
    | with_reducible refine sx_then_ret ?_
    | with_reducible refine sx_inb_ret ?_
    | with_reducible refine sx_then_exit ?_
    | with_reducible refine sx_inb_exit ?_
    | with_reducible refine sx_inb_other rfl ?_
    | with_reducible refine sx_if_t A rfl ?_
    | with_reducible refine sx_if_f A rfl ?_
    | ((with_reducible refine sx_at ?_); first
      | (refine sx_pure A tbOk rfl rfl rfl ?_; clear A; intro a A)
      | (refine sx_skip A rfl rfl ?_; clear A; intro a A)
      | ((with_reducible refine g_bin ?_); first | ((refine g_int A rfl ?_); first | (refine sx_cmp A rfl rfl rfl rfl ?_; clear A; intro a A) | (refine sx_arith A rfl rfl rfl rfl ?_; clear A; intro a A) | (refine sx_shl A rfl rfl rfl rfl ?_; clear A; intro a A) | (refine sx_shr A rfl rfl rfl rfl ?_; clear A; intro a A)) | ((refine g_str A rfl ?_); first | (refine sx_scmp A rfl rfl rfl rfl ?_; clear A; intro a A) | (refine sx_concat A rfl rfl rfl rfl ?_; clear A; intro a A)))
      | ((with_reducible refine g_load ?_); first | (refine sx_load_all H A tbOk rfl rfl rfl rfl rfl ?_; clear A; intro a A) | (refine sx_load H A tbOk rfl rfl rfl rfl ?_; clear A; intro a A))
      | ((with_reducible refine g_store ?_); refine sx_store H A tbOk rfl rfl rfl rfl ?_; clear H; intro w_ H)
      | ((with_reducible refine g_box ?_); refine sx_box H A rfl rfl rfl ?_; clear H A; intro b_ a w_ A H)
      | ((with_reducible refine g_alloc ?_); refine sx_alloc H A tbOk rfl rfl rfl ?_; clear H A; intro b_ a w_ A H)
      | ((with_reducible refine g_build ?_); refine sx_build A tbOk rfl rfl rfl rfl rfl rfl ?_; clear A; intro a A)
      | ((with_reducible refine g_builtin ?_); first | (refine sx_min A rfl rfl rfl rfl ?_; clear A; intro a A) | (refine sx_max A rfl rfl rfl rfl ?_; clear A; intro a A))
      | ((with_reducible refine g_slice ?_); first | (refine sx_sstr A tbOk rfl rfl rfl rfl rfl rfl ?_; clear A; intro a A) | (refine sx_cut H A tbOk rfl rfl rfl rfl rfl rfl rfl ?_; clear A H; intro A_ c_ a hc_ A H))
      | ((with_reducible refine g_index ?_); refine sx_sidx A tbOk rfl rfl rfl rfl rfl ?_; clear A; intro a A)
      | ((with_reducible refine g_idx ?_); first | (refine sx_idx H A tbOk rfl rfl rfl rfl rfl rfl ?_; clear A; intro a A) | (refine sx_oidx H A tbOk rfl rfl rfl rfl rfl rfl ?_; clear A; intro a A))
      | ((with_reducible refine g_conv ?_); refine sx_conv A tbOk rfl rfl rfl rfl rfl ?_; clear A; intro a A)
      )
    | ((with_reducible refine g_draw ?_); refine qx_region H (by kernel_rfl) (by kernel_rfl) ?_)
    | ((with_reducible refine qx_nil ?_); clear H; intro w_ F_ H)
    | ((with_reducible refine q_at ?_); first
      | (refine qx_pure A tbOk rfl rfl rfl ?_; clear A; intro a A)
      | (refine qx_skip A rfl rfl ?_; clear A; intro a A)
      | ((with_reducible refine qg_bin ?_); first | ((refine qg_int A rfl ?_); first | (refine qx_cmp A rfl rfl rfl rfl ?_; clear A; intro a A) | (refine qx_arith A rfl rfl rfl rfl ?_; clear A; intro a A)) | ((refine qg_str A rfl ?_); first | (refine qx_scmp A rfl rfl rfl rfl ?_; clear A; intro a A) | (refine qx_concat A rfl rfl rfl rfl ?_; clear A; intro a A)))
      | ((with_reducible refine qg_builtin ?_); first | (refine qx_min A rfl rfl rfl rfl ?_; clear A; intro a A) | (refine qx_max A rfl rfl rfl rfl ?_; clear A; intro a A))
      | ((with_reducible refine qg_slice ?_); refine qx_sstr A tbOk rfl rfl rfl rfl rfl rfl ?_; clear A; intro a A)
      | ((with_reducible refine qg_load ?_); refine qx_load A tbOk rfl rfl rfl rfl ?_; clear A; intro a A)
      | ((with_reducible refine qg_idx ?_); first | (refine qx_idx H A tbOk rfl rfl rfl rfl rfl rfl ?_; clear A; intro a A) | (refine qx_oidx H A tbOk rfl rfl rfl rfl rfl rfl ?_; clear A; intro a A)))
    )
  · skip
    all_goals repeat' (first
    | ((with_reducible refine g_dst 14 ?_); refine sx_call (f := 19) A rfl Tryd.call19 rfl rfl ?_; refine sl_ref03_Right H (by omega) (by omega) h2 ?_; clear H; intro F_ w_ H; refine ⟨_, rfl, ?_⟩; clear A; intro a A)
    | ((with_reducible refine g_dst 37 ?_); refine sx_call (f := 41) A rfl Tryd.call41 rfl rfl ?_; refine sl_ref01_Trim H hbs ht ?_; clear H; intro F_ w_ H; refine ⟨_, rfl, ?_⟩; clear A; intro a A)
    | ((with_reducible refine g_dst 61 ?_); replace H := H.nilrow kWr 42; refine sx_append (dk := kWr) (zs := ws) (ys := []) H A tbOk rfl rfl rfl rfl rfl rfl rfl rfl rfl ?_; clear A H; intro A3 c3 a w_ A H; rw [List.nil_append] at H A)
    | ((with_reducible refine g_lit ?_); refine sx_lit (dk := kWr) (ys := [⟨_, _⟩]) H A tbOk rfl rfl rfl rfl rfl rfl (.cons (kWr_mk _) .nil) ?_; clear H A; intro b7 a w_ A H)
    | ((with_reducible refine g_dst 72 ?_); refine sx_appendL (dk := kWr) (ys := ws) (zs := [_]) H A tbOk rfl rfl rfl rfl rfl rfl rfl rfl rfl ?_; clear A H; intro A4 c4 a w_ A H)
    | (refine sx_ret tbOk H A rfl ?_; exact H.retR (ps := [_, _]) (fun Fx Hx => k Fx _ _ _ _ _ hc0 hc1 Hx) (mem2 (a := rdc Kd.string _ _) (b := rdc kWr _ _) (by (repeat (first | with_reducible exact List.mem_cons_self | apply List.mem_cons_of_mem))) (by (repeat (first | with_reducible exact List.mem_cons_self | apply List.mem_cons_of_mem)))))
    | with_reducible refine wp_seq ?_
    | with_reducible refine sx_region ?_
    | with_reducible refine wp_block ?_
    | with_reducible refine wpList_nil ?_
    | with_reducible refine sx_then ?_
    | with_reducible refine sx_inb ?_
    | with_reducible refine wp_skip ?_
    | with_reducible refine wp_ret ?_
    | with_reducible refine wp_exit ?_
    | with_reducible refine sx_then_ret ?_
    | with_reducible refine sx_inb_ret ?_
    | with_reducible refine sx_then_exit ?_
    | with_reducible refine sx_inb_exit ?_
    | with_reducible refine sx_inb_other rfl ?_
    | with_reducible refine sx_if_t A rfl ?_
    | with_reducible refine sx_if_f A rfl ?_
    | ((with_reducible refine sx_at ?_); first
      | (refine sx_pure A tbOk rfl rfl rfl ?_; clear A; intro a A)
      | (refine sx_skip A rfl rfl ?_; clear A; intro a A)
      | ((with_reducible refine g_bin ?_); first | ((refine g_int A rfl ?_); first | (refine sx_cmp A rfl rfl rfl rfl ?_; clear A; intro a A) | (refine sx_arith A rfl rfl rfl rfl ?_; clear A; intro a A) | (refine sx_shl A rfl rfl rfl rfl ?_; clear A; intro a A) | (refine sx_shr A rfl rfl rfl rfl ?_; clear A; intro a A)) | ((refine g_str A rfl ?_); first | (refine sx_scmp A rfl rfl rfl rfl ?_; clear A; intro a A) | (refine sx_concat A rfl rfl rfl rfl ?_; clear A; intro a A)))
      | ((with_reducible refine g_load ?_); first | (refine sx_load_all H A tbOk rfl rfl rfl rfl rfl ?_; clear A; intro a A) | (refine sx_load H A tbOk rfl rfl rfl rfl ?_; clear A; intro a A))
      | ((with_reducible refine g_store ?_); refine sx_store H A tbOk rfl rfl rfl rfl ?_; clear H; intro w_ H)
      | ((with_reducible refine g_box ?_); refine sx_box H A rfl rfl rfl ?_; clear H A; intro b_ a w_ A H)
      | ((with_reducible refine g_alloc ?_); refine sx_alloc H A tbOk rfl rfl rfl ?_; clear H A; intro b_ a w_ A H)
      | ((with_reducible refine g_build ?_); refine sx_build A tbOk rfl rfl rfl rfl rfl rfl ?_; clear A; intro a A)
      | ((with_reducible refine g_builtin ?_); first | (refine sx_min A rfl rfl rfl rfl ?_; clear A; intro a A) | (refine sx_max A rfl rfl rfl rfl ?_; clear A; intro a A))
      | ((with_reducible refine g_slice ?_); first | (refine sx_sstr A tbOk rfl rfl rfl rfl rfl rfl ?_; clear A; intro a A) | (refine sx_cut H A tbOk rfl rfl rfl rfl rfl rfl rfl ?_; clear A H; intro A_ c_ a hc_ A H))
      | ((with_reducible refine g_index ?_); refine sx_sidx A tbOk rfl rfl rfl rfl rfl ?_; clear A; intro a A)
      | ((with_reducible refine g_idx ?_); first | (refine sx_idx H A tbOk rfl rfl rfl rfl rfl rfl ?_; clear A; intro a A) | (refine sx_oidx H A tbOk rfl rfl rfl rfl rfl rfl ?_; clear A; intro a A))
      | ((with_reducible refine g_conv ?_); refine sx_conv A tbOk rfl rfl rfl rfl rfl ?_; clear A; intro a A)
      )
    | ((with_reducible refine g_draw ?_); refine qx_region H (by kernel_rfl) (by kernel_rfl) ?_)
    | ((with_reducible refine qx_nil ?_); clear H; intro w_ F_ H)
    | ((with_reducible refine q_at ?_); first
      | (refine qx_pure A tbOk rfl rfl rfl ?_; clear A; intro a A)
      | (refine qx_skip A rfl rfl ?_; clear A; intro a A)
      | ((with_reducible refine qg_bin ?_); first | ((refine qg_int A rfl ?_); first | (refine qx_cmp A rfl rfl rfl rfl ?_; clear A; intro a A) | (refine qx_arith A rfl rfl rfl rfl ?_; clear A; intro a A)) | ((refine qg_str A rfl ?_); first | (refine qx_scmp A rfl rfl rfl rfl ?_; clear A; intro a A) | (refine qx_concat A rfl rfl rfl rfl ?_; clear A; intro a A)))
      | ((with_reducible refine qg_builtin ?_); first | (refine qx_min A rfl rfl rfl rfl ?_; clear A; intro a A) | (refine qx_max A rfl rfl rfl rfl ?_; clear A; intro a A))
      | ((with_reducible refine qg_slice ?_); refine qx_sstr A tbOk rfl rfl rfl rfl rfl rfl ?_; clear A; intro a A)
      | ((with_reducible refine qg_load ?_); refine qx_load A tbOk rfl rfl rfl rfl ?_; clear A; intro a A)
      | ((with_reducible refine qg_idx ?_); first | (refine qx_idx H A tbOk rfl rfl rfl rfl rfl rfl ?_; clear A; intro a A) | (refine qx_oidx H A tbOk rfl rfl rfl rfl rfl rfl ?_; clear A; intro a A)))
    )
  · skip
    all_goals repeat' (first
    | ((with_reducible refine g_dst 14 ?_); refine sx_call (f := 19) A rfl Tryd.call19 rfl rfl ?_; refine sl_ref03_Right H (by omega) (by omega) h2 ?_; clear H; intro F_ w_ H; refine ⟨_, rfl, ?_⟩; clear A; intro a A)
    | ((with_reducible refine g_dst 37 ?_); refine sx_call (f := 41) A rfl Tryd.call41 rfl rfl ?_; refine sl_ref01_Trim H hbs ht ?_; clear H; intro F_ w_ H; refine ⟨_, rfl, ?_⟩; clear A; intro a A)
    | ((with_reducible refine g_dst 61 ?_); replace H := H.nilrow kWr 42; refine sx_append (dk := kWr) (zs := ws) (ys := []) H A tbOk rfl rfl rfl rfl rfl rfl rfl rfl rfl ?_; clear A H; intro A3 c3 a w_ A H; rw [List.nil_append] at H A)
    | ((with_reducible refine g_lit ?_); refine sx_lit (dk := kWr) (ys := [⟨_, _⟩]) H A tbOk rfl rfl rfl rfl rfl rfl (.cons (kWr_mk _) .nil) ?_; clear H A; intro b7 a w_ A H)
    | ((with_reducible refine g_dst 72 ?_); refine sx_appendL (dk := kWr) (ys := ws) (zs := [_]) H A tbOk rfl rfl rfl rfl rfl rfl rfl rfl rfl ?_; clear A H; intro A4 c4 a w_ A H)
    | (refine sx_ret tbOk H A rfl ?_; exact H.retR (ps := [_, _]) (fun Fx Hx => k Fx _ _ _ _ _ hc0 hc1 Hx) (mem2 (a := rdc Kd.string _ _) (b := rdc kWr _ _) (by (repeat (first | with_reducible exact List.mem_cons_self | apply List.mem_cons_of_mem))) (by (repeat (first | with_reducible exact List.mem_cons_self | apply List.mem_cons_of_mem)))))
    | with_reducible refine wp_seq ?_
    | with_reducible refine sx_region ?_
    | with_reducible refine wp_block ?_
    | with_reducible refine wpList_nil ?_
    | with_reducible refine sx_then ?_
    | with_reducible refine sx_inb ?_
    | with_reducible refine wp_skip ?_
    | with_reducible refine wp_ret ?_
    | with_reducible refine wp_exit ?_
    | with_reducible refine sx_then_ret ?_
    | with_reducible refine sx_inb_ret ?_
    | with_reducible refine sx_then_exit ?_
    | with_reducible refine sx_inb_exit ?_
    | with_reducible refine sx_inb_other rfl ?_
    | with_reducible refine sx_if_t A rfl ?_
    | with_reducible refine sx_if_f A rfl ?_
    | ((with_reducible refine sx_at ?_); first
      | (refine sx_pure A tbOk rfl rfl rfl ?_; clear A; intro a A)
      | (refine sx_skip A rfl rfl ?_; clear A; intro a A)
      | ((with_reducible refine g_bin ?_); first | ((refine g_int A rfl ?_); first | (refine sx_cmp A rfl rfl rfl rfl ?_; clear A; intro a A) | (refine sx_arith A rfl rfl rfl rfl ?_; clear A; intro a A) | (refine sx_shl A rfl rfl rfl rfl ?_; clear A; intro a A) | (refine sx_shr A rfl rfl rfl rfl ?_; clear A; intro a A)) | ((refine g_str A rfl ?_); first | (refine sx_scmp A rfl rfl rfl rfl ?_; clear A; intro a A) | (refine sx_concat A rfl rfl rfl rfl ?_; clear A; intro a A)))
      | ((with_reducible refine g_load ?_); first | (refine sx_load_all H A tbOk rfl rfl rfl rfl rfl ?_; clear A; intro a A) | (refine sx_load H A tbOk rfl rfl rfl rfl ?_; clear A; intro a A))
      | ((with_reducible refine g_store ?_); refine sx_store H A tbOk rfl rfl rfl rfl ?_; clear H; intro w_ H)
      | ((with_reducible refine g_box ?_); refine sx_box H A rfl rfl rfl ?_; clear H A; intro b_ a w_ A H)
      | ((with_reducible refine g_alloc ?_); refine sx_alloc H A tbOk rfl rfl rfl ?_; clear H A; intro b_ a w_ A H)
      | ((with_reducible refine g_build ?_); refine sx_build A tbOk rfl rfl rfl rfl rfl rfl ?_; clear A; intro a A)
      | ((with_reducible refine g_builtin ?_); first | (refine sx_min A rfl rfl rfl rfl ?_; clear A; intro a A) | (refine sx_max A rfl rfl rfl rfl ?_; clear A; intro a A))
      | ((with_reducible refine g_slice ?_); first | (refine sx_sstr A tbOk rfl rfl rfl rfl rfl rfl ?_; clear A; intro a A) | (refine sx_cut H A tbOk rfl rfl rfl rfl rfl rfl rfl ?_; clear A H; intro A_ c_ a hc_ A H))
      | ((with_reducible refine g_index ?_); refine sx_sidx A tbOk rfl rfl rfl rfl rfl ?_; clear A; intro a A)
      | ((with_reducible refine g_idx ?_); first | (refine sx_idx H A tbOk rfl rfl rfl rfl rfl rfl ?_; clear A; intro a A) | (refine sx_oidx H A tbOk rfl rfl rfl rfl rfl rfl ?_; clear A; intro a A))
      | ((with_reducible refine g_conv ?_); refine sx_conv A tbOk rfl rfl rfl rfl rfl ?_; clear A; intro a A)
      )
    | ((with_reducible refine g_draw ?_); refine qx_region H (by kernel_rfl) (by kernel_rfl) ?_)
    | ((with_reducible refine qx_nil ?_); clear H; intro w_ F_ H)
    | ((with_reducible refine q_at ?_); first
      | (refine qx_pure A tbOk rfl rfl rfl ?_; clear A; intro a A)
      | (refine qx_skip A rfl rfl ?_; clear A; intro a A)
      | ((with_reducible refine qg_bin ?_); first | ((refine qg_int A rfl ?_); first | (refine qx_cmp A rfl rfl rfl rfl ?_; clear A; intro a A) | (refine qx_arith A rfl rfl rfl rfl ?_; clear A; intro a A)) | ((refine qg_str A rfl ?_); first | (refine qx_scmp A rfl rfl rfl rfl ?_; clear A; intro a A) | (refine qx_concat A rfl rfl rfl rfl ?_; clear A; intro a A)))
      | ((with_reducible refine qg_builtin ?_); first | (refine qx_min A rfl rfl rfl rfl ?_; clear A; intro a A) | (refine qx_max A rfl rfl rfl rfl ?_; clear A; intro a A))
      | ((with_reducible refine qg_slice ?_); refine qx_sstr A tbOk rfl rfl rfl rfl rfl rfl ?_; clear A; intro a A)
      | ((with_reducible refine qg_load ?_); refine qx_load A tbOk rfl rfl rfl rfl ?_; clear A; intro a A)
      | ((with_reducible refine qg_idx ?_); first | (refine qx_idx H A tbOk rfl rfl rfl rfl rfl rfl ?_; clear A; intro a A) | (refine qx_oidx H A tbOk rfl rfl rfl rfl rfl rfl ?_; clear A; intro a A)))
    )
end
end Go.Proofs.YtniplmjbligmlaaDoor.V

/-! Layer 3 of the program, walked: disks of few sectors. -/
namespace Go.Proofs.YtniplmjbligmlaaDoor.V
open Go.RowKit Go.Proofs.YtniplmjbligmlaaDoorW.PrintLast
set_option linter.unusedVariables false
set_option linter.unusedSimpArgs false
section
variable {M F0 F : Nat → Prop} {w0 w : World} {B : List Box} {R : List (World → Prop)} {K : Ending → World → Prop}
set_option maxRecDepth 100000
set_option maxHeartbeats 4000000
theorem sl_law03_few (H : St M F0 w0 F B R w) {A0 A1 : Option Addr} {c0 c1 : Nat} {ss : List ByteArray} {ws W : List Wr} {S : List ByteArray} (hl : ss.length < 9223372036854775808) (hl2 : ws.length < 9223372036854775808) (hS : ss.take 300 = S) (hW : ws.take 40 = W) (k : ∀ Fx w' A0' c0' A1' c1', Cap S.length c0' → Cap W.length c1' → St M F0 w0 Fx B (rdc Kd.string A0' S :: rdc kWr A1' W :: R) w' → K (.returned (.agg #[.slice A0' S.length c0', .slice A1' W.length c1'])) w') (hm : rdc Kd.string A0 ss ∈ R := by (repeat (first | with_reducible exact List.mem_cons_self | apply List.mem_cons_of_mem))) (hm2 : rdc kWr A1 ws ∈ R := by (repeat (first | with_reducible exact List.mem_cons_self | apply List.mem_cons_of_mem))) (hc0 : Cap ss.length c0 := by with_reducible assumption) (hc1 : Cap ws.length c1 := by with_reducible assumption) : Calls Tryd.prog 15 #[.agg #[.slice A0 ss.length c0, .slice A1 ws.length c1]] w K := by
  have e0 := hc0.le
  have e1 := hc1.le
  obtain ⟨z1, hz1⟩ : ∃ z : Int, min (ss.length : Int) 300 = z := ⟨_, rfl⟩
  obtain ⟨z2, hz2⟩ : ∃ z : Int, min (ws.length : Int) 40 = z := ⟨_, rfl⟩
  have t1 : ss.take z1.toNat = ss.take 300 := by rcases Nat.le_total ss.length 300 with h | h; rw [List.take_of_length_le (by omega), List.take_of_length_le h]; rw [show z1.toNat = 300 by omega]
  have t2 : ws.take z2.toNat = ws.take 40 := by rcases Nat.le_total ws.length 40 with h | h; rw [List.take_of_length_le (by omega), List.take_of_length_le h]; rw [show z2.toNat = 40 by omega]
  have l1 : (ss.take 300).length = z1.toNat := by rw [List.length_take]; omega
  have l2 : (ws.take 40).length = z2.toNat := by rw [List.length_take]; omega
  obtain ⟨r1, g1⟩ := rdc_cut (H.get hm) (0 : Int).toNat z1.toNat (by simp) (by omega) hc0
  obtain ⟨r2, g2⟩ := rdc_cut (H.get hm2) (0 : Int).toNat z2.toNat (by simp) (by omega) hc1
  replace H := (H.fact r2).fact r1
  rw [t1, show (ss.take 300).drop (0 : Int).toNat = ss.take 300 from rfl] at H g1
  rw [t2, show (ws.take 40).drop (0 : Int).toNat = ws.take 40 from rfl] at H g2
  have hv1 : Value.slice (if c0 = (0 : Int).toNat then A0 else A0.map (·.add ((0 : Int).toNat * 1))) (z1.toNat - (0 : Int).toNat) (c0 - (0 : Int).toNat) = .slice (if c0 = (0 : Int).toNat then A0 else A0.map (·.add ((0 : Int).toNat * Kd.string.sz))) (ss.take 300).length (c0 - (0 : Int).toNat) := by rw [l1]; rfl
  have hv2 : Value.slice (if c1 = (0 : Int).toNat then A1 else A1.map (·.add ((0 : Int).toNat * 2))) (z2.toNat - (0 : Int).toNat) (c1 - (0 : Int).toNat) = .slice (if c1 = (0 : Int).toNat then A1 else A1.map (·.add ((0 : Int).toNat * kWr.sz))) (ws.take 40).length (c1 - (0 : Int).toNat) := by rw [l2]; rfl
  clear t1 t2 r1 r2
  generalize (if c0 = (0 : Int).toNat then A0 else A0.map (·.add ((0 : Int).toNat * Kd.string.sz))) = A2 at *
  generalize (if c1 = (0 : Int).toNat then A1 else A1.map (·.add ((0 : Int).toNat * kWr.sz))) = A3 at *
  rw [hS] at H g1 hv1
  rw [hW] at H g2 hv2
  suffices hs : ∀ (K' : Ending → World → Prop), (∀ Fx w', St M F0 w0 Fx B (rdc Kd.string A2 S :: rdc kWr A3 W :: R) w' → K' (.returned (.agg #[.slice A2 S.length (c0 - (0 : Int).toNat), .slice A3 W.length (c1 - (0 : Int).toNat)])) w') → Calls Tryd.prog 15 #[.agg #[.slice A0 ss.length c0, .slice A1 ws.length c1]] w K' from hs K (fun Fx w' Hx => k Fx w' _ _ _ _ g1 g2 Hx)
  clear k
  intro K' k
  refine St.fn0 H (R0 := []) no_mem (fun H => ?_)
  refine sx_enter Tryd.func15 Tryd.ntmps15 rfl rfl (fun a A => ?_)
  repeat' (first
    | ((with_reducible refine g_dst 1 ?_); refine sx_box H A rfl rfl rfl ?_; clear H A; intro b1 a w_ A H)
    | ((with_reducible refine g_draw ?_); refine vstartB H [.mk b1 25 [.slice A0 ss.length c0, .slice A1 ws.length c1]] [15, 17] #[false, false, false, false, false, false, false, false, false, false, false, false, false, false, false, false, false, false] (by kernel_rfl) rfl rfl (fun w_ H => ?_))
    | with_reducible refine wp_seq ?_
    | with_reducible refine sx_region ?_
    | with_reducible refine wp_block ?_
    | with_reducible refine wpList_nil ?_
    | with_reducible refine sx_then ?_
    | with_reducible refine sx_inb ?_
    | with_reducible refine wp_skip ?_
    | with_reducible refine wp_ret ?_
    | with_reducible refine wp_exit ?_
    | with_reducible refine sx_then_ret ?_
    | with_reducible refine sx_inb_ret ?_
    | with_reducible refine sx_then_exit ?_
    | with_reducible refine sx_inb_exit ?_
    | with_reducible refine sx_inb_other rfl ?_
    | with_reducible refine sx_if_t A rfl ?_
    | with_reducible refine sx_if_f A rfl ?_
    | ((with_reducible refine sx_at ?_); first
      | (refine sx_pure A tbOk rfl rfl rfl ?_; clear A; intro a A)
      | (refine sx_skip A rfl rfl ?_; clear A; intro a A)
      | ((with_reducible refine g_bin ?_); first | ((refine g_int A rfl ?_); first | (refine sx_cmp A rfl rfl rfl rfl ?_; clear A; intro a A) | (refine sx_arith A rfl rfl rfl rfl ?_; clear A; intro a A) | (refine sx_shl A rfl rfl rfl rfl ?_; clear A; intro a A) | (refine sx_shr A rfl rfl rfl rfl ?_; clear A; intro a A)) | ((refine g_str A rfl ?_); first | (refine sx_scmp A rfl rfl rfl rfl ?_; clear A; intro a A) | (refine sx_concat A rfl rfl rfl rfl ?_; clear A; intro a A)))
      | ((with_reducible refine g_load ?_); first | (refine sx_load_all H A tbOk rfl rfl rfl rfl rfl ?_; clear A; intro a A) | (refine sx_load H A tbOk rfl rfl rfl rfl ?_; clear A; intro a A))
      | ((with_reducible refine g_store ?_); refine sx_store H A tbOk rfl rfl rfl rfl ?_; clear H; intro w_ H)
      | ((with_reducible refine g_box ?_); refine sx_box H A rfl rfl rfl ?_; clear H A; intro b_ a w_ A H)
      | ((with_reducible refine g_alloc ?_); refine sx_alloc H A tbOk rfl rfl rfl ?_; clear H A; intro b_ a w_ A H)
      | ((with_reducible refine g_build ?_); refine sx_build A tbOk rfl rfl rfl rfl rfl rfl ?_; clear A; intro a A)
      | ((with_reducible refine g_builtin ?_); first | (refine sx_min A rfl rfl rfl rfl ?_; clear A; intro a A) | (refine sx_max A rfl rfl rfl rfl ?_; clear A; intro a A))
      | ((with_reducible refine g_slice ?_); first | (refine sx_sstr A tbOk rfl rfl rfl rfl rfl rfl ?_; clear A; intro a A) | (refine sx_cut H A tbOk rfl rfl rfl rfl rfl rfl rfl ?_; clear A H; intro A_ c_ a hc_ A H))
      | ((with_reducible refine g_index ?_); refine sx_sidx A tbOk rfl rfl rfl rfl rfl ?_; clear A; intro a A)
      | ((with_reducible refine g_idx ?_); first | (refine sx_idx H A tbOk rfl rfl rfl rfl rfl rfl ?_; clear A; intro a A) | (refine sx_oidx H A tbOk rfl rfl rfl rfl rfl rfl ?_; clear A; intro a A))
      | ((with_reducible refine g_conv ?_); refine sx_conv A tbOk rfl rfl rfl rfl rfl ?_; clear A; intro a A)
      )
    | ((with_reducible refine g_draw ?_); refine qx_region H (by kernel_rfl) (by kernel_rfl) ?_)
    | ((with_reducible refine qx_nil ?_); clear H; intro w_ F_ H)
    | ((with_reducible refine q_at ?_); first
      | (refine qx_pure A tbOk rfl rfl rfl ?_; clear A; intro a A)
      | (refine qx_skip A rfl rfl ?_; clear A; intro a A)
      | ((with_reducible refine qg_bin ?_); first | ((refine qg_int A rfl ?_); first | (refine qx_cmp A rfl rfl rfl rfl ?_; clear A; intro a A) | (refine qx_arith A rfl rfl rfl rfl ?_; clear A; intro a A)) | ((refine qg_str A rfl ?_); first | (refine qx_scmp A rfl rfl rfl rfl ?_; clear A; intro a A) | (refine qx_concat A rfl rfl rfl rfl ?_; clear A; intro a A)))
      | ((with_reducible refine qg_builtin ?_); first | (refine qx_min A rfl rfl rfl rfl ?_; clear A; intro a A) | (refine qx_max A rfl rfl rfl rfl ?_; clear A; intro a A))
      | ((with_reducible refine qg_slice ?_); refine qx_sstr A tbOk rfl rfl rfl rfl rfl rfl ?_; clear A; intro a A)
      | ((with_reducible refine qg_load ?_); refine qx_load A tbOk rfl rfl rfl rfl ?_; clear A; intro a A)
      | ((with_reducible refine qg_idx ?_); first | (refine qx_idx H A tbOk rfl rfl rfl rfl rfl rfl ?_; clear A; intro a A) | (refine qx_oidx H A tbOk rfl rfl rfl rfl rfl rfl ?_; clear A; intro a A)))
  )
  refine vp A tbOk 0 #[true, false, false, false, false, false, false, false, false, false, false, false, false, false, false, false, false, false] rfl (by kernel_rfl) (fun _ _ _ _ h => h) rfl rfl rfl rfl ?_; clear A; intro a A
  refine vload H.sel A tbOk 1 #[true, true, false, false, false, false, false, false, false, false, false, false, false, false, false, false, false, false] rfl (by kernel_rfl) (fun _ _ _ _ h => h) rfl rfl rfl rfl ?_; clear A; intro a A
  refine vp A tbOk 2 #[true, true, true, false, false, false, false, false, false, false, false, false, false, false, false, false, false, false] rfl (by kernel_rfl) (fun _ _ _ _ h => h) rfl rfl rfl rfl ?_; clear A; intro a A
  refine vload H.sel A tbOk 3 #[true, true, true, true, false, false, false, false, false, false, false, false, false, false, false, false, false, false] rfl (by kernel_rfl) (fun _ _ _ _ h => h) rfl rfl rfl rfl ?_; clear A; intro a A
  refine vp A tbOk 4 #[true, true, true, true, true, false, false, false, false, false, false, false, false, false, false, false, false, false] rfl (by kernel_rfl) (fun _ _ _ _ h => h) rfl rfl rfl rfl ?_; clear A; intro a A
  refine vmin A 5 #[true, true, true, true, true, true, false, false, false, false, false, false, false, false, false, false, false, false] rfl (by kernel_rfl) (fun _ _ _ _ h => h) rfl rfl rfl rfl ?_; clear A; intro a A
  refine vcut A tbOk 6 #[true, true, true, true, true, true, true, false, false, false, false, false, false, false, false, false, false, false] rfl (by kernel_rfl) (fun _ _ _ _ h => h) rfl rfl rfl rfl rfl rfl rfl (by omega) (by omega) (by omega) (by omega) hv1 ?_; clear A; intro a A
  refine vp A tbOk 7 #[true, true, true, true, true, true, true, true, false, false, false, false, false, false, false, false, false, false] rfl (by kernel_rfl) (fun _ _ _ _ h => h) rfl rfl rfl rfl ?_; clear A; intro a A
  refine vload H.sel A tbOk 8 #[true, true, true, true, true, true, true, true, true, false, false, false, false, false, false, false, false, false] rfl (by kernel_rfl) (fun _ _ _ _ h => h) rfl rfl rfl rfl ?_; clear A; intro a A
  refine vp A tbOk 9 #[true, true, true, true, true, true, true, true, true, true, false, false, false, false, false, false, false, false] rfl (by kernel_rfl) (fun _ _ _ _ h => h) rfl rfl rfl rfl ?_; clear A; intro a A
  refine vload H.sel A tbOk 10 #[true, true, true, true, true, true, true, true, true, true, true, false, false, false, false, false, false, false] rfl (by kernel_rfl) (fun _ _ _ _ h => h) rfl rfl rfl rfl ?_; clear A; intro a A
  refine vp A tbOk 11 #[true, true, true, true, true, true, true, true, true, true, true, true, false, false, false, false, false, false] rfl (by kernel_rfl) (fun _ _ _ _ h => h) rfl rfl rfl rfl ?_; clear A; intro a A
  refine vmin A 12 #[true, true, true, true, true, true, true, true, true, true, true, true, true, false, false, false, false, false] rfl (by kernel_rfl) (fun _ _ _ _ h => h) rfl rfl rfl rfl ?_; clear A; intro a A
  refine vcut A tbOk 13 #[true, true, true, true, true, true, true, true, true, true, true, true, true, true, false, false, false, false] rfl (by kernel_rfl) (fun _ _ _ _ h => h) rfl rfl rfl rfl rfl rfl rfl (by omega) (by omega) (by omega) (by omega) hv2 ?_; clear A; intro a A
  refine vp A tbOk 14 #[true, true, true, true, true, true, true, true, true, true, true, true, true, true, true, false, false, false] rfl (by kernel_rfl) (fun _ _ _ _ h => h) rfl rfl rfl rfl ?_; clear A; intro a A
  refine vone #[true, true, true, true, true, true, true, true, true, true, true, true, true, true, true, true, false, false] (i := 15) rfl (by kernel_rfl) ?_
  refine sx_store H A tbOk rfl rfl rfl rfl ?_; clear H; intro w_ H
  refine wpList_nil ?_; refine ⟨fun hn => absurd (by decide) hn, ?_⟩
  refine vp A tbOk 16 #[true, true, true, true, true, true, true, true, true, true, true, true, true, true, true, true, true, false] rfl (by kernel_rfl) (fun _ _ _ _ h => h) rfl rfl rfl rfl ?_; clear A; intro a A
  refine vone #[true, true, true, true, true, true, true, true, true, true, true, true, true, true, true, true, true, true] (i := 17) rfl (by kernel_rfl) ?_
  refine sx_store H A tbOk rfl rfl rfl rfl ?_; clear H; intro w_ H
  refine wpList_nil ?_; refine ⟨fun hn => absurd (by decide) hn, ?_⟩
  refine vdone (by kernel_rfl) ?_
  repeat' (first
    | (refine sx_ret tbOk H A rfl ?_; exact H.ret0 (fun Fx Hx => k Fx _ Hx))
    | with_reducible refine wp_seq ?_
    | with_reducible refine sx_region ?_
    | with_reducible refine wp_block ?_
    | with_reducible refine wpList_nil ?_
    | with_reducible refine sx_then ?_
    | with_reducible refine sx_inb ?_
    | with_reducible refine wp_skip ?_
    | with_reducible refine wp_ret ?_
    | with_reducible refine wp_exit ?_
    | with_reducible refine sx_then_ret ?_
    | with_reducible refine sx_inb_ret ?_
    | with_reducible refine sx_then_exit ?_
    | with_reducible refine sx_inb_exit ?_
    | with_reducible refine sx_inb_other rfl ?_
    | with_reducible refine sx_if_t A rfl ?_
    | with_reducible refine sx_if_f A rfl ?_
    | ((with_reducible refine sx_at ?_); first
      | (refine sx_pure A tbOk rfl rfl rfl ?_; clear A; intro a A)
      | (refine sx_skip A rfl rfl ?_; clear A; intro a A)
      | ((with_reducible refine g_bin ?_); first | ((refine g_int A rfl ?_); first | (refine sx_cmp A rfl rfl rfl rfl ?_; clear A; intro a A) | (refine sx_arith A rfl rfl rfl rfl ?_; clear A; intro a A) | (refine sx_shl A rfl rfl rfl rfl ?_; clear A; intro a A) | (refine sx_shr A rfl rfl rfl rfl ?_; clear A; intro a A)) | ((refine g_str A rfl ?_); first | (refine sx_scmp A rfl rfl rfl rfl ?_; clear A; intro a A) | (refine sx_concat A rfl rfl rfl rfl ?_; clear A; intro a A)))
      | ((with_reducible refine g_load ?_); first | (refine sx_load_all H A tbOk rfl rfl rfl rfl rfl ?_; clear A; intro a A) | (refine sx_load H A tbOk rfl rfl rfl rfl ?_; clear A; intro a A))
      | ((with_reducible refine g_store ?_); refine sx_store H A tbOk rfl rfl rfl rfl ?_; clear H; intro w_ H)
      | ((with_reducible refine g_box ?_); refine sx_box H A rfl rfl rfl ?_; clear H A; intro b_ a w_ A H)
      | ((with_reducible refine g_alloc ?_); refine sx_alloc H A tbOk rfl rfl rfl ?_; clear H A; intro b_ a w_ A H)
      | ((with_reducible refine g_build ?_); refine sx_build A tbOk rfl rfl rfl rfl rfl rfl ?_; clear A; intro a A)
      | ((with_reducible refine g_builtin ?_); first | (refine sx_min A rfl rfl rfl rfl ?_; clear A; intro a A) | (refine sx_max A rfl rfl rfl rfl ?_; clear A; intro a A))
      | ((with_reducible refine g_slice ?_); first | (refine sx_sstr A tbOk rfl rfl rfl rfl rfl rfl ?_; clear A; intro a A) | (refine sx_cut H A tbOk rfl rfl rfl rfl rfl rfl rfl ?_; clear A H; intro A_ c_ a hc_ A H))
      | ((with_reducible refine g_index ?_); refine sx_sidx A tbOk rfl rfl rfl rfl rfl ?_; clear A; intro a A)
      | ((with_reducible refine g_idx ?_); first | (refine sx_idx H A tbOk rfl rfl rfl rfl rfl rfl ?_; clear A; intro a A) | (refine sx_oidx H A tbOk rfl rfl rfl rfl rfl rfl ?_; clear A; intro a A))
      | ((with_reducible refine g_conv ?_); refine sx_conv A tbOk rfl rfl rfl rfl rfl ?_; clear A; intro a A)
      )
    | ((with_reducible refine g_draw ?_); refine qx_region H (by kernel_rfl) (by kernel_rfl) ?_)
    | ((with_reducible refine qx_nil ?_); clear H; intro w_ F_ H)
    | ((with_reducible refine q_at ?_); first
      | (refine qx_pure A tbOk rfl rfl rfl ?_; clear A; intro a A)
      | (refine qx_skip A rfl rfl ?_; clear A; intro a A)
      | ((with_reducible refine qg_bin ?_); first | ((refine qg_int A rfl ?_); first | (refine qx_cmp A rfl rfl rfl rfl ?_; clear A; intro a A) | (refine qx_arith A rfl rfl rfl rfl ?_; clear A; intro a A)) | ((refine qg_str A rfl ?_); first | (refine qx_scmp A rfl rfl rfl rfl ?_; clear A; intro a A) | (refine qx_concat A rfl rfl rfl rfl ?_; clear A; intro a A)))
      | ((with_reducible refine qg_builtin ?_); first | (refine qx_min A rfl rfl rfl rfl ?_; clear A; intro a A) | (refine qx_max A rfl rfl rfl rfl ?_; clear A; intro a A))
      | ((with_reducible refine qg_slice ?_); refine qx_sstr A tbOk rfl rfl rfl rfl rfl rfl ?_; clear A; intro a A)
      | ((with_reducible refine qg_load ?_); refine qx_load A tbOk rfl rfl rfl rfl ?_; clear A; intro a A)
      | ((with_reducible refine qg_idx ?_); first | (refine qx_idx H A tbOk rfl rfl rfl rfl rfl rfl ?_; clear A; intro a A) | (refine qx_oidx H A tbOk rfl rfl rfl rfl rfl rfl ?_; clear A; intro a A)))
  )
end
end Go.Proofs.YtniplmjbligmlaaDoor.V

/-! The statement DiskCalls, walked. -/
namespace Go.Proofs.YtniplmjbligmlaaDoor.V
open Go.RowKit Go.Proofs.YtniplmjbligmlaaDoorW.PrintLast
set_option linter.unusedVariables false
set_option linter.unusedSimpArgs false
theorem callP_len {ss ss1 ss' : List ByteArray} {ws ws1 ws' : List Wr} {left left' e1 e : Int} {n : Nat} (hr : callP ss ws left ss1 ws1 e1 = (ss', ws', left', e)) (h1 : ss.length ≤ n) (h2 : ss1.length ≤ n) (h3 : ws.length ≤ n) (h4 : ws1.length ≤ n) : ss'.length ≤ n ∧ ws'.length ≤ n := by
  rcases callP_cases hr with ⟨_, rfl, rfl, _, _⟩ | ⟨_, _, rfl, rfl, _, _⟩ | ⟨_, _, _, rfl, rfl, _, _⟩ | ⟨_, _, _, rfl, rfl, _, _⟩ | ⟨_, _, _, rfl, rfl, _, _⟩ <;> exact ⟨by assumption, by assumption⟩
theorem wrDo_len {ss ss1 : List ByteArray} {ws ws1 : List Wr} {sec e1 : Int} {bytes : ByteArray} (hr : wrDo ss ws sec bytes = (ss1, ws1, e1)) : ss1.length = ss.length ∧ ws1.length ≤ ws.length + 1 := by
  rcases wrDo_cases hr with ⟨_, rfl, rfl, _⟩ | ⟨_, _, rfl, rfl, _⟩ | ⟨_, _, rfl, rfl, _⟩
  · exact ⟨rfl, by omega⟩
  · exact ⟨rfl, by omega⟩
  · exact ⟨rfl, by simp⟩
section
set_option maxRecDepth 100000
set_option maxHeartbeats 4000000
theorem law_DiskCalls (w : World) (s : ByteArray) {A0 A1 : Option Addr} {c0 c1 : Nat} {left sec : Int} {ss : List ByteArray} {ws : List Wr} (hl : ss.length < 9223372036854775808) (hl2 : ws.length < 9223372036854775808) (hlf : left < 9223372036854775808) (hc0 : Cap ss.length c0) (hm : rdc Kd.string A0 ss w) (hc1 : Cap ws.length c1) (hm2 : rdc kWr A1 ws w) (h63 : s.size < 9223372036854775808) : Calls Tryd.prog 9 #[.agg #[.slice A0 ss.length c0, .slice A1 ws.length c1, .int .i64 left], .int .i64 sec, .string s] w fun e w' => e = .returned (.bool true) ∧ Below w.heap.size w w' := by
  have H := ((St.start w (fun k => k < w.heap.size) (fun _ h => h)).fact (rdc_all hm)).fact (rdc_all hm2)
  refine sx_enter Tryd.func9 Tryd.ntmps9 rfl rfl (fun a A => ?_)
  obtain ⟨z, hz⟩ : ∃ z : Int, min (s.size : Int) 700 = z := ⟨_, rfl⟩
  obtain ⟨bs, hbs⟩ : ∃ t, s.extract (0 : Int).toNat z.toNat = t := ⟨_, rfl⟩
  have hts : bs.size ≤ 700 := by rw [← hbs, ByteArray.size_extract]; omega
  obtain ⟨t, ht⟩ : ∃ t, trimS bs = t := ⟨_, rfl⟩
  obtain ⟨S, hS⟩ : ∃ S, ss.take 300 = S := ⟨_, rfl⟩
  obtain ⟨W, hW⟩ : ∃ W, ws.take 40 = W := ⟨_, rfl⟩
  have hSl : S.length ≤ 300 := by rw [← hS, List.length_take]; omega
  have hWl : W.length ≤ 40 := by rw [← hW, List.length_take]; omega
  obtain ⟨m, hmx⟩ : ∃ m : Int, max sec 0 = m := ⟨_, rfl⟩
  have hm0 : 0 ≤ m := by omega
  obtain ⟨⟨S1, W1, e1⟩, hw1⟩ : ∃ r, wrDo S W sec t = r := ⟨_, rfl⟩
  obtain ⟨⟨S2, W2, e2⟩, hw2⟩ : ∃ r, wrDo S W m t = r := ⟨_, rfl⟩
  obtain ⟨⟨Sa, Wa, la, e⟩, hp1⟩ : ∃ r, callP S W left S1 W1 e1 = r := ⟨_, rfl⟩
  obtain ⟨⟨Sx, Wx, lx, g⟩, hp2⟩ : ∃ r, callP S W left S2 W2 e2 = r := ⟨_, rfl⟩
  obtain ⟨⟨Sb, Wb, lb, f⟩, hp3⟩ : ∃ r, callP S W left (flDo S W) [] 0 = r := ⟨_, rfl⟩
  have n1 := wrDo_len hw1
  have n2 := wrDo_len hw2
  have n3 := callP_len (n := 300) hp1 (by omega) (by omega) (by omega) (by omega)
  have n4 := callP_len (n := 300) hp2 (by omega) (by omega) (by omega) (by omega)
  have n5 := callP_len (n := 300) hp3 (by omega) (by unfold flDo; rw [crashN_len]; omega) (by omega) (by simp)
  have hcase : (0 ≤ sec ∧ Sa = Sx ∧ Wa = Wx ∧ la = lx ∧ e = g) ∨ (sec < 0 ∧ Sa = S ∧ Wa = W ∧ la = left ∧ ((e = 21 ∧ g = 21) ∨ (e = 1 ∧ g = 1) ∨ (e = 20 ∧ g ≠ 21 ∧ g ≠ 1))) := by
    rcases Int.lt_or_le sec 0 with h | h
    · refine .inr ⟨h, ?_⟩
      have q1 := wrDo_cases hw1
      have q2 := wrDo_cases hw2
      have hh : hasB S.length sec = false := by unfold hasB; simp; omega
      rw [hh] at q1
      rcases q1 with ⟨_, rfl, rfl, rfl⟩ | ⟨k, _⟩ | ⟨k, _⟩
      rotate_left
      · cases k
      · cases k
      have hg : e2 = 20 ∨ e2 = 2 ∨ e2 = 0 := by rcases q2 with ⟨_, _, _, h⟩ | ⟨_, _, _, _, h⟩ | ⟨_, _, _, _, h⟩ <;> simp [h]
      clear q2 hw1 hw2 hp3
      rcases callP_cases hp1 with ⟨k1, rfl, rfl, k2, rfl⟩ | ⟨k1, k2, rfl, rfl, rfl, rfl⟩ | ⟨k1, k2, k3, rfl, rfl, rfl, rfl⟩ | ⟨k1, k2, k3, _⟩ | ⟨k1, k2, k3, _⟩
      · refine ⟨rfl, rfl, k2.trans k1.symm, .inl ⟨rfl, ?_⟩⟩
        rcases callP_cases hp2 with ⟨_, _, _, _, h⟩ | ⟨h, _⟩ | ⟨h, _⟩ | ⟨h, _⟩ | ⟨h, _⟩
        · exact h
        all_goals omega
      · refine ⟨rfl, rfl, rfl, .inr (.inl ⟨rfl, ?_⟩)⟩
        rcases callP_cases hp2 with ⟨h, _⟩ | ⟨_, _, _, _, _, h⟩ | ⟨_, h, _⟩ | ⟨_, h, _⟩ | ⟨_, h, _⟩
        · exact absurd h k1
        · exact h
        all_goals (rw [k2] at h; cases h)
      · refine ⟨rfl, rfl, rfl, .inr (.inr ⟨rfl, ?_⟩)⟩
        rcases callP_cases hp2 with ⟨h, _⟩ | ⟨_, h, _⟩ | ⟨_, _, _, _, _, _, h⟩ | ⟨_, _, _, _, _, _, h⟩ | ⟨_, _, _, _, _, _, h⟩
        · exact absurd h k1
        · rw [k2] at h; cases h
        all_goals omega
      · omega
      · omega
    · refine .inl ⟨h, ?_⟩
      have : m = sec := by omega
      subst this
      rw [hw1] at hw2
      injection hw2 with q1 q2; injection q2 with q2 q3
      subst q1; subst q2; subst q3
      rw [hp1] at hp2
      injection hp2 with q1 q2; injection q2 with q2 q3; injection q3 with q3 q4
      exact ⟨q1, q2, q3, q4⟩
  rcases hcase with ⟨h1, rfl, rfl, rfl, rfl⟩ | ⟨h1, rfl, rfl, rfl, ⟨rfl, rfl⟩ | ⟨rfl, rfl⟩ | ⟨rfl, h2, h3⟩⟩
  all_goals repeat' (first
    | ((with_reducible refine g_call ?_); first
      | ((with_reducible refine g_dst 18 ?_); refine sx_call (f := 15) A rfl Tryd.call15 rfl rfl ?_; refine sl_law03_few H hl hl2 hS hW ?_; clear H; intro F_ w_ A2 c2 A3 c3 hc2 hc3 H; refine ⟨_, rfl, ?_⟩; clear A; intro a A)
      | ((with_reducible refine g_dst 29 ?_); refine sx_call (f := 25) A rfl Tryd.call25 rfl rfl ?_; refine sl_disk_Write H (by omega) (by omega) hlf (by omega) ht hw1 hp1 ?_; clear H; intro F_ w_ A4 c4 A5 c5 hc4 hc5 H; refine ⟨_, rfl, ?_⟩; clear A; intro a A)
      | ((with_reducible refine g_dst 34 ?_); refine sx_call (f := 31) A rfl Tryd.call31 rfl rfl ?_; refine sl_disk_Flush H (by omega) (by omega) hlf hp3 ?_; clear H; intro F_ w_ A6 c6 A7 c7 hc6 hc7 H; refine ⟨_, rfl, ?_⟩; clear A; intro a A)
      | ((with_reducible refine g_dst 43 ?_); refine sx_call (f := 32) A rfl Tryd.call32 rfl rfl ?_; refine sl_ref03_DoW H (by omega) (by omega) hlf (by omega) hm0 ht hw2 hp2 ?_; clear H; intro F_ w_ A8 c8 A9 c9 hc8 hc9 H; refine ⟨_, rfl, ?_⟩; clear A; intro a A)
      | ((with_reducible refine g_dst 49 ?_); refine sx_call (f := 32) A rfl Tryd.call32 rfl rfl ?_; refine sl_ref03_DoF H (by omega) (by omega) hlf (by decide) hp3 ?_; clear H; intro F_ w_ A10 c10 A11 c11 hc10 hc11 H; refine ⟨_, rfl, ?_⟩; clear A; intro a A)
      | ((with_reducible refine g_dst 62 ?_); refine sx_call (f := 17) (xs := []) (vs := []) A rfl Tryd.call17 rfl rfl ?_; refine sl_law03_alive H ?_; clear H; intro F_ w_ H; refine ⟨_, rfl, ?_⟩; clear A; intro a A)
      | (refine sx_call (f := 33) A rfl Tryd.call33 rfl rfl ?_; refine sl_ref03_LikePower (b := true) H (by omega) (by omega) (by simp) ?_; clear H; intro F_ w_ H; refine ⟨_, rfl, ?_⟩; clear A; intro a A))
    | (refine sx_ret tbOk H A rfl ?_; exact ⟨rfl, H.below⟩)
    | with_reducible refine wp_seq ?_
    | with_reducible refine sx_region ?_
    | with_reducible refine wp_block ?_
    | with_reducible refine wpList_nil ?_
    | with_reducible refine sx_then ?_
    | with_reducible refine sx_inb ?_
    | with_reducible refine wp_skip ?_
    | with_reducible refine wp_ret ?_
    | with_reducible refine wp_exit ?_
    | with_reducible refine sx_then_ret ?_
    | with_reducible refine sx_inb_ret ?_
    | with_reducible refine sx_then_exit ?_
    | with_reducible refine sx_inb_exit ?_
    | with_reducible refine sx_inb_other rfl ?_
    | with_reducible refine sx_if_t A rfl ?_
    | with_reducible refine sx_if_f A rfl ?_
    | ((with_reducible refine sx_at ?_); first
      | (refine sx_pure A tbOk rfl rfl rfl ?_; clear A; intro a A)
      | (refine sx_skip A rfl rfl ?_; clear A; intro a A)
      | ((with_reducible refine g_bin ?_); first | ((refine g_int A rfl ?_); first | (refine sx_cmp A rfl rfl rfl rfl ?_; clear A; intro a A) | (refine sx_arith A rfl rfl rfl rfl ?_; clear A; intro a A) | (refine sx_shl A rfl rfl rfl rfl ?_; clear A; intro a A) | (refine sx_shr A rfl rfl rfl rfl ?_; clear A; intro a A)) | ((refine g_str A rfl ?_); first | (refine sx_scmp A rfl rfl rfl rfl ?_; clear A; intro a A) | (refine sx_concat A rfl rfl rfl rfl ?_; clear A; intro a A)))
      | ((with_reducible refine g_load ?_); first | (refine sx_load_all H A tbOk rfl rfl rfl rfl rfl ?_; clear A; intro a A) | (refine sx_load H A tbOk rfl rfl rfl rfl ?_; clear A; intro a A))
      | ((with_reducible refine g_store ?_); refine sx_store H A tbOk rfl rfl rfl rfl ?_; clear H; intro w_ H)
      | ((with_reducible refine g_box ?_); refine sx_box H A rfl rfl rfl ?_; clear H A; intro b_ a w_ A H)
      | ((with_reducible refine g_alloc ?_); refine sx_alloc H A tbOk rfl rfl rfl ?_; clear H A; intro b_ a w_ A H)
      | ((with_reducible refine g_build ?_); refine sx_build A tbOk rfl rfl rfl rfl rfl rfl ?_; clear A; intro a A)
      | ((with_reducible refine g_builtin ?_); first | (refine sx_min A rfl rfl rfl rfl ?_; clear A; intro a A) | (refine sx_max A rfl rfl rfl rfl ?_; clear A; intro a A))
      | ((with_reducible refine g_slice ?_); first | (refine sx_sstr A tbOk rfl rfl rfl rfl rfl rfl ?_; clear A; intro a A) | (refine sx_cut H A tbOk rfl rfl rfl rfl rfl rfl rfl ?_; clear A H; intro A_ c_ a hc_ A H))
      | ((with_reducible refine g_index ?_); refine sx_sidx A tbOk rfl rfl rfl rfl rfl ?_; clear A; intro a A)
      | ((with_reducible refine g_idx ?_); first | (refine sx_idx H A tbOk rfl rfl rfl rfl rfl rfl ?_; clear A; intro a A) | (refine sx_oidx H A tbOk rfl rfl rfl rfl rfl rfl ?_; clear A; intro a A))
      | ((with_reducible refine g_conv ?_); refine sx_conv A tbOk rfl rfl rfl rfl rfl ?_; clear A; intro a A)
      )
    | ((with_reducible refine g_draw ?_); refine qx_region H (by kernel_rfl) (by kernel_rfl) ?_)
    | ((with_reducible refine qx_nil ?_); clear H; intro w_ F_ H)
    | ((with_reducible refine q_at ?_); first
      | (refine qx_pure A tbOk rfl rfl rfl ?_; clear A; intro a A)
      | (refine qx_skip A rfl rfl ?_; clear A; intro a A)
      | ((with_reducible refine qg_bin ?_); first | ((refine qg_int A rfl ?_); first | (refine qx_cmp A rfl rfl rfl rfl ?_; clear A; intro a A) | (refine qx_arith A rfl rfl rfl rfl ?_; clear A; intro a A)) | ((refine qg_str A rfl ?_); first | (refine qx_scmp A rfl rfl rfl rfl ?_; clear A; intro a A) | (refine qx_concat A rfl rfl rfl rfl ?_; clear A; intro a A)))
      | ((with_reducible refine qg_builtin ?_); first | (refine qx_min A rfl rfl rfl rfl ?_; clear A; intro a A) | (refine qx_max A rfl rfl rfl rfl ?_; clear A; intro a A))
      | ((with_reducible refine qg_slice ?_); refine qx_sstr A tbOk rfl rfl rfl rfl rfl rfl ?_; clear A; intro a A)
      | ((with_reducible refine qg_load ?_); refine qx_load A tbOk rfl rfl rfl rfl ?_; clear A; intro a A)
      | ((with_reducible refine qg_idx ?_); first | (refine qx_idx H A tbOk rfl rfl rfl rfl rfl rfl ?_; clear A; intro a A) | (refine qx_oidx H A tbOk rfl rfl rfl rfl rfl rfl ?_; clear A; intro a A)))
    )
end
end Go.Proofs.YtniplmjbligmlaaDoor.V

/-! DiskCalls holds: the Go law answers true for every input, and leaves its arguments alone; no condition but that the listed tables of the library stand as the program's text lays them. -/
namespace Go.Proofs.YtniplmjbligmlaaDoor.diskCalls
open Go.ChangeShapes Go.WideShapes Go.ChangeAt Go.RowKit Go.Proofs.YtniplmjbligmlaaDoor.V
set_option linter.unusedVariables false
theorem own : ownKnob Tryd.prog.godebug = none := by kernel_rfl
theorem laidOut : laidOutB Tryd.prog = true := by kernel_rfl
theorem wf_i64 {n : Int} (h : (Lit.int .i64 n).wf = true) : -9223372036854775808 ≤ n ∧ n < 9223372036854775808 := by
  simp only [Lit.wf, IntKind.min, IntKind.max, IntKind.signed, IntKind.bits, Bool.and_eq_true, decide_eq_true_eq, if_true] at h
  omega
set_option maxRecDepth 100000 in
theorem lifted (os : Os) (started : os.Started) (H : Type) (enc : TypeId × Value → H) :
    ReturnsInHanded {} Tryd.checked os 9 .any (fun w args => (Rows.diskCallsSpec.pre enc Tryd.prog Tryd.f9 Rows.diskCallsRow.domain false w args ∧ laidMetH Tryd.prog Rows.diskCallsRow.laid w) ∧ sizedMet enc Tryd.prog Tryd.f9 (OpenSpec.ofChange Rows.diskCallsSpec) false w args) (Rows.diskCallsSpec.post enc Tryd.prog Tryd.f9 false true false false) := by
  refine returnsInHanded_of_change_and (C := Tryd.checked) (X := fun w _ => laidMetH Tryd.prog Rows.diskCallsRow.laid w) (fun _ _ _ hh h => h.of_heap hh) own started (by kernel_rfl) Tryd.func9
    (ChangeSpec.witness_shaped (enc := enc) (C := Tryd.checked) (os := os) (X := fun w _ => laidMetH Tryd.prog Rows.diskCallsRow.laid w) false (World.laidAll Tryd.prog os Rows.diskCallsRow.laid) #[.agg #[.slice none 0 0, .slice none 0 0, .int .i64 0], .int .i64 0, .string ByteArray.empty] 8 (World.laidAll_os _ _ _)
      (World.shaped_of_ZipB (by kernel_rfl) (by kernel_rfl)) (by kernel_rfl) (by kernel_rfl) (by kernel_rfl)
      (by rw [MakeChecks.laidMetH_plain _ _ _ (by kernel_rfl)]; exact laidMet_laidAll _ (by kernel_rfl) (by kernel_rfl))) ?_
  intro W base args ds gs before hval0 hW hcnd hsz0 _ _
  have hsz : (DataW.weightsEach Tryd.prog (Tryd.f9.params.toList ++ Rows.diskCallsSpec.plain.varTypes Tryd.prog) (ds ++ gs)).all (· ≤ reachBytes) = true := hsz0
  have hval : ∀ (j : Nat) t v, Tryd.f9.params[j]? = some t → args[j]? = some v → Value.okWide Tryd.prog W .any base t v := hval0
  have hW' := hW
  obtain ⟨p, q, hA0, hV, rfl, hfz, hnd⟩ := hW
  have hA : DataW.TrodAll enc Tryd.prog W 0 (fun _ => true) true Tryd.f9.params.toList args.toList ds p := hA0
  rw [Tryd.params9] at hA hval hsz
  obtain ⟨v0, vs0, d0, ds0, p0, q0, hargs, rfl, rfl, h0, r0⟩ := trodAll_cons hA
  obtain ⟨v1, vs1, d1, ds1, p1, q1, rfl, rfl, rfl, h1, r1⟩ := trodAll_cons r0
  obtain ⟨v2, vs2, d2, ds2, p2, q2, rfl, rfl, rfl, h2, r2⟩ := trodAll_cons r1
  obtain ⟨rfl, rfl, rfl⟩ := trodAll_nil r2
  obtain rfl : args = #[v0, v1, v2] := by cases args; simp_all
  obtain ⟨rfl, rfl⟩ := trodVars_none hV
  have k0 := h0
  have lt0 : ∀ x ∈ p0, x.block < W.heap.size := by obtain ⟨m, hm⟩ := k0; exact DataW.trod_lt m _ _ _ hm
  have ok0 : Value.okWide Tryd.prog W .any base 46 v0 := hval 0 46 v0 rfl rfl
  obtain ⟨fuel0, hf0⟩ := h0
  obtain ⟨x0, K0, Z0⟩ := (show Opens Tryd.prog 46 kPw _ from opens_iso (f := fun x : Pw => (x.dk, x.left)) (fun a => (⟨a.1, a.2⟩ : Pw)) (fun a => rfl) (opens_struct Tryd.underlying46 (by kernel_rfl) (opensF_cons (by kernel_rfl) (by kernel_rfl) (show Opens Tryd.prog 25 kDk _ from opens_iso (f := fun x : Dk => (x.secs, x.pend)) (fun a => (⟨a.1, a.2⟩ : Dk)) (fun a => rfl) (opens_struct Tryd.underlying25 (by kernel_rfl) (opensF_cons (by kernel_rfl) (by kernel_rfl) (opens_slice (P := Tryd.prog) Tryd.underlying22 (by kernel_rfl) 16 (by kernel_rfl) (opens_string (P := Tryd.prog) Tryd.underlying9)) (opensF_one (by kernel_rfl) (opens_slice (P := Tryd.prog) Tryd.underlying23 (by kernel_rfl) 24 (by kernel_rfl) (show Opens Tryd.prog 42 kWr _ from opens_iso (f := fun x : Wr => (x.sec, x.bytes)) (fun a => (⟨a.1, a.2⟩ : Wr)) (fun a => rfl) (opens_struct Tryd.underlying42 (by kernel_rfl) (opensF_cons (by kernel_rfl) (by kernel_rfl) (opens_int (P := Tryd.prog) (k := .i64) Tryd.underlying3) (opensF_one (by kernel_rfl) (opens_string (P := Tryd.prog) Tryd.underlying9)))))))))) (opensF_one (by kernel_rfl) (opens_int (P := Tryd.prog) (k := .i64) Tryd.underlying3))))) H enc W 0 _ true fuel0 _ _ _ hf0 (weights_of_each hsz (j := 0) (t := 46) rfl rfl)
  obtain ⟨cs0, rfl⟩ := aggOf_okWide Tryd.underlying46 ok0
  obtain ⟨A0_0_0, c0_0_0, A0_0_1, c0_0_1, ee0, g0_0, e0_0, g0_1, e0_1⟩ := kPw_open (fk_all K0)
  obtain rfl : cs0 = #[.slice A0_0_0 x0.dk.secs.length c0_0_0, .slice A0_0_1 x0.dk.pend.length c0_0_1, .int .i64 x0.left] := agg_open ee0
  have k1 := h1
  have lt1 : ∀ x ∈ p1, x.block < W.heap.size := by obtain ⟨m, hm⟩ := k1; exact DataW.trod_lt m _ _ _ hm
  have ok1 : Value.okWide Tryd.prog W .any base 3 v1 := hval 1 3 v1 rfl rfl
  obtain ⟨fuel1, hf1⟩ := h1
  obtain ⟨x1, K1, Z1⟩ := (opens_int (P := Tryd.prog) (k := .i64) Tryd.underlying3) H enc W 0 _ true fuel1 _ _ _ hf1 (weights_of_each hsz (j := 1) (t := 3) rfl rfl)
  obtain ⟨y1, rfl⟩ := okWide_int Tryd.underlying3 ok1
  obtain rfl := int_open K1
  have k2 := h2
  have lt2 : ∀ x ∈ p2, x.block < W.heap.size := by obtain ⟨m, hm⟩ := k2; exact DataW.trod_lt m _ _ _ hm
  have ok2 : Value.okWide Tryd.prog W .any base 9 v2 := hval 2 9 v2 rfl rfl
  obtain ⟨fuel2, hf2⟩ := h2
  obtain ⟨x2, K2, Z2⟩ := (opens_string (P := Tryd.prog) Tryd.underlying9) H enc W 0 _ true fuel2 _ _ _ hf2 (weights_of_each hsz (j := 2) (t := 9) rfl rfl)
  obtain ⟨y2, rfl⟩ := okWide_string Tryd.underlying9 ok2
  obtain rfl := string_open K2
  clear hA0 hval0 hsz0 hsz
  refine (Go.Proofs.YtniplmjbligmlaaDoor.V.law_DiskCalls W x2 (by have hz : x0.dk.secs.length * 16 ≤ 140737488351232 := Z0.1.1.1; omega) (by have hz : x0.dk.pend.length * 24 ≤ 140737488351232 := Z0.1.2.1; omega) (wf_i64 Z0.2).2 g0_0 e0_0.now g0_1 e0_1.now (Nat.lt_of_le_of_lt Z2 (by decide))).mono fun e W' ⟨he, bel⟩ => ?_
  subst he
  exact ⟨_, rfl, _, _, _, [], _, [], hW', trodAll_mk1 (shut_bool Tryd.underlying4 _), (trodAll_cons_mk (Below.trod laidOut (by kernel_rfl) (of_decide_eq_true (by kernel_rfl)) k0 bel lt0) (trodAll_cons_mk (Below.trod laidOut (by kernel_rfl) (of_decide_eq_true (by kernel_rfl)) k1 bel lt1) (trodAll_cons_mk (Below.trod laidOut (by kernel_rfl) (of_decide_eq_true (by kernel_rfl)) k2 bel lt2) trodAll_mk0))), rfl, bel.frame _, fun h => by cases h⟩
theorem over : Rows.diskCallsRow.holds Tryd.pinned (OpenSpec.ofChange Rows.diskCallsSpec) :=
  OpenClaim.holds_of_wide 9 Tryd.f9 rfl rfl rfl rfl rfl rfl rfl ⟨rfl, rfl, rfl, rfl, rfl⟩ rfl rfl rfl rfl rfl (by kernel_rfl) Tryd.func9 (by kernel_rfl)
    (of_decide_eq_true (by kernel_rfl)) (by unfold Func.isWrapper; first | (rw [if_pos (by decide +kernel)]; kernel_rfl) | (rw [if_neg (by decide +kernel)]; exact ⟨rfl, rfl⟩))
    (fun os started H enc _ => lifted os started H enc)
theorem proved : Rows.DiskCallsSaid := over
theorem card : Rows.DiskCallsCardSaid :=
  Claim7.holds_tied_plain_at .later [] [.data, .pinned] true (true, "ec22d909a53f874bd568267daaecff0bbd6a3d22c2ad4d19e5d712a5b89fc2b2") false proved (fun _ h => by cases h) (by kernel_rfl) (fun _ h => by cases h) diskCalls_row_tie rfl ⟨rfl, rfl⟩ (by kernel_rfl) rfl
    (fun f fn hf hfn => by
      obtain rfl : f = 9 := Option.some.inj ((show Tryd.prog.funcNamed "doorward/doorwardlaw03.DiskCalls" = some 9 by kernel_rfl).symm.trans hf) |>.symm
      obtain rfl : fn = Tryd.f9 := (Option.some.inj (Tryd.func9.symm.trans hfn)).symm
      exact ⟨by kernel_rfl, fun j t ht => by
        rw [Tryd.params9] at ht
        have hm : t ∈ [46, 3, 9] := by simpa using Array.mem_of_getElem? ht
        have hall : ([46, 3, 9].all fun u => !Tryd.prog.wantsStandIn u) = true := by kernel_rfl
        exact (show Tryd.prog.wantsStandIn t = false by simpa using List.all_eq_true.1 hall t hm)⟩)
    (by kernel_rfl)
end Go.Proofs.YtniplmjbligmlaaDoor.diskCalls
namespace Go.Proofs.YtniplmjbligmlaaDoor
theorem diskCalls_holds : Rows.DiskCallsCardSaid := diskCalls.card
#print axioms diskCalls_holds
end Go.Proofs.YtniplmjbligmlaaDoor
