/- DiskOrder holds: the Go law answers true for every input, and leaves its arguments alone; no condition but that the listed tables of the library stand as the program's text lays them. -/
import Derived.Test.YtniplmjbligmlaaDoorMgDiskOrder2
import Derived.Test.YtniplmjbligmlaaDoorMgDiskOrder1
import Derived.Test.YtniplmjbligmlaaDoorMgDiskOrder0
import Derived.Test.YtniplmjbligmlaaDoorCards
import Derived.Test.YtniplmjbligmlaaDoorTie
import Derived.WalkKit
import Derived.ProofKit
import Derived.OpenShut
import Derived.ShutString
import Derived.ChangeOld
import Derived.Below
import Derived.SizedLaws
import Derived.LaidMore
import Derived.Lay
import Derived.SevenTiedAt
import Derived.Stop.Joined
/-! What writing and flushing answer. -/
namespace Go.Proofs.YtniplmjbligmlaaDoor.Pure
open Go.RowKit Go.Proofs.YtniplmjbligmlaaDoorW.PrintWords Go.Proofs.YtniplmjbligmlaaDoorW.PrintLast Go.Proofs.YtniplmjbligmlaaDoorW.PrintMore Go.Proofs.YtniplmjbligmlaaDoor.Base Go.Proofs.YtniplmjbligmlaaDoor.Q
set_option linter.unusedVariables false
def leftF (left : Int) : Int := if left > 0 then wrap64 (left - 1) else left
/-- what the reference's call answers -/
def doF (l0 : List ByteArray) (l1 : List S42) (left c : Int) (s : ByteArray) : List ByteArray × List S42 × Int × Int :=
  if left = 0 then (l0, l1, left, 21) else if rightB l0 l1 = true then
    (if c < 0 then (crashL l1 (List.replicate l1.length true) l0, [], leftF left, 0) else if c ≥ (l0.length : Int) then (l0, l1, left, 20) else if ((trimS s).size : Int) > 512 then (l0, l1, left, 2) else (l0, l1 ++ [⟨c, trimS s⟩], leftF left, 0))
  else (l0, l1, left, 1)
theorem flush_do (l0 : List ByteArray) (l1 : List S42) (left : Int) (hl : l1.length ≤ 4294967295) : disk_Flush.f l0 l1 left = some (doF l0 l1 left (-1) ⟨#[]⟩) := by
  unfold disk_Flush.f callF doF flush1F leftF
  by_cases h0 : left = 0
  · rw [if_pos h0, if_pos h0]
  rw [if_neg h0, if_neg h0]
  by_cases hr : rightB l0 l1 = true
  · rw [if_pos hr, if_pos hr, if_pos (show (-1 : Int) < 0 by omega)]
    simp [hr, hl]
  · rw [if_neg hr, if_neg hr]
theorem write_do (l0 : List ByteArray) (l1 : List S42) (left c : Int) (s : ByteArray) (hl : l1.length ≤ 4294967295) (hs : s.size ≤ 140737488355328) (hc : 0 ≤ c) : disk_Write.f l0 l1 left c s = some (doF l0 l1 left c s) := by
  have hz : trimS s = trimS s := rfl
  unfold disk_Write.f callF doF write1F leftF
  rw [if_pos (by omega)]
  by_cases h0 : left = 0
  · rw [if_pos h0, if_pos h0]
  rw [if_neg h0, if_neg h0]
  by_cases hr : rightB l0 l1 = true
  · rw [if_pos hr, if_pos hr, if_neg (show ¬ c < 0 by omega)]
    by_cases c2 : c ≥ (l0.length : Int)
    · have h1 : hasB l0.length c = false := by unfold hasB; rw [decide_eq_false (by omega : ¬ c < (l0.length : Int))]; simp
      rw [if_pos c2]
      simp [h1]
    · have h1 : hasB l0.length c = true := by unfold hasB; rw [decide_eq_true hc, decide_eq_true (by omega : c < (l0.length : Int))]; rfl
      rw [if_neg c2]
      by_cases c3 : (trimS s).size ≤ 512
      · rw [if_neg (show ¬ ((trimS s).size : Int) > 512 by omega)]
        simp [h1, c3, show l1.length < 5864062014804 by omega]
      · rw [if_pos (show ((trimS s).size : Int) > 512 by omega)]
        simp [h1, c3]
  · rw [if_neg hr, if_neg hr]
theorem write_neg (l0 : List ByteArray) (l1 : List S42) (left c : Int) (s : ByteArray) (hs : s.size ≤ 140737488355328) (hc : c < 0) : disk_Write.f l0 l1 left c s = some (l0, l1, left, if left = 0 then 21 else if rightB l0 l1 = true then 20 else 1) := by
  unfold disk_Write.f callF write1F
  rw [if_pos (by omega)]
  by_cases h0 : left = 0
  · rw [if_pos h0, if_pos h0]
  rw [if_neg h0, if_neg h0]
  by_cases hr : rightB l0 l1 = true
  · rw [if_pos hr, if_pos hr]
    have : hasB l0.length c = false := by unfold hasB; rw [decide_eq_false (by omega : ¬ 0 ≤ c)]; rfl
    rw [this, if_neg (by decide)]; rfl
  · rw [if_neg hr, if_neg hr]
theorem do_lens (l0 : List ByteArray) (l1 : List S42) (left c : Int) (s : ByteArray) (hl : l1.length ≤ 4294967295) (hl0 : l0.length ≤ 4294967295) : (doF l0 l1 left c s).1.length ≤ 140737488355328 ∧ (doF l0 l1 left c s).2.1.length ≤ 140737488355328 := by
  unfold doF
  split
  · exact ⟨by simp only; omega, by simp only; omega⟩
  split
  · split
    · exact ⟨by simp only; rw [crashL_length]; omega, by simp⟩
    split
    · exact ⟨by simp only; omega, by simp only; omega⟩
    split
    · exact ⟨by simp only; omega, by simp only; omega⟩
    · exact ⟨by simp only; omega, by simp only [List.length_append, List.length_cons, List.length_nil]; omega⟩
  · exact ⟨by simp only; omega, by simp only; omega⟩
theorem do_err (l0 : List ByteArray) (l1 : List S42) (left : Int) (s : ByteArray) : let g := (doF l0 l1 left 0 s).2.2.2; (g = 21 ↔ left = 0) ∧ (g = 1 ↔ (left ≠ 0 ∧ ¬ rightB l0 l1 = true)) := by
  unfold doF
  by_cases h0 : left = 0
  · simp [h0]
  by_cases hr : rightB l0 l1 = true
  · simp only [if_neg h0, if_pos hr]
    split
    · simp [h0, hr]
    split
    · simp [h0, hr]
    split <;> simp [h0, hr]
  · simp [h0, hr]
end Go.Proofs.YtniplmjbligmlaaDoor.Pure

/-! What writing and flushing a disk that may be answer. -/
namespace Go.Proofs.YtniplmjbligmlaaDoor.Q
open Go.RowKit Go.Proofs.YtniplmjbligmlaaDoorW.PrintWords Go.Proofs.YtniplmjbligmlaaDoorW.PrintLast Go.Proofs.YtniplmjbligmlaaDoorW.PrintMore Go.Proofs.YtniplmjbligmlaaDoor.Base Go.Proofs.YtniplmjbligmlaaDoor.Pure
set_option linter.unusedVariables false
set_option linter.unusedSimpArgs false
theorem stands_trim (s : ByteArray) (h : s.size ≤ 512) : standsB (trimS s) = true := by
  unfold standsB; rw [trimS_idem]; simp; have := trimS_size s; omega
theorem right_more {m0 : List ByteArray} {m1 : List S42} (h : rightB m0 m1 = true) (a : Int) (h0 : 0 ≤ a) (h1 : a < (m0.length : Int)) (s : ByteArray) (hs : s.size ≤ 512) : rightB m0 (m1 ++ [⟨a, trimS s⟩]) = true := by
  obtain ⟨g1, g2, g3, g4⟩ := right_parts h
  refine right_mk g1 g2 g3 (fun x hx => ?_)
  rcases List.mem_append.1 hx with hx | hx
  · exact g4 x hx
  · rw [List.mem_singleton.1 hx]
    unfold badW hasB
    rw [decide_eq_true h0, decide_eq_true h1, stands_trim s hs]; rfl
theorem write_right {m0 : List ByteArray} {m1 : List S42} (h : rightB m0 m1 = true) (hl : m1.length ≤ 4294967295) (a : Int) (h0 : 0 ≤ a) (h1 : a < (m0.length : Int)) (s : ByteArray) (hs : s.size ≤ 512) : disk_Write.f m0 m1 (-1) a s = some (m0, m1 ++ [⟨a, trimS s⟩], -1, 0) := by
  rw [write_do m0 m1 (-1) a s hl (by omega) h0]
  unfold doF leftF
  rw [if_neg (by omega), if_pos h, if_neg (by omega), if_neg (by omega), if_neg (by have := trimS_size s; omega), if_neg (by omega)]
theorem flush_right {m0 : List ByteArray} {m1 : List S42} (h : rightB m0 m1 = true) (hl : m1.length ≤ 4294967295) : disk_Flush.f m0 m1 (-1) = some (crashL m1 (List.replicate m1.length true) m0, [], -1, 0) := by
  rw [flush_do m0 m1 (-1) hl]
  unfold doF leftF
  rw [if_neg (by omega), if_pos h, if_pos (by omega), if_neg (by omega)]
theorem lastW_snoc (xs : List S42) (x : S42) (a : Int) (s : ByteArray) : lastW (xs ++ [x]) a s = if x.f0 = a then x.f1 else lastW xs a s := by rw [lastW_app]; rfl
end Go.Proofs.YtniplmjbligmlaaDoor.Q

/-! DiskOrder by a walk: two writes to unlike sectors are done in either order. No condition. -/
namespace Go.Proofs.YtniplmjbligmlaaDoor.Q
open Go.RowKit Go.Proofs.YtniplmjbligmlaaDoorW.PrintWords Go.Proofs.YtniplmjbligmlaaDoorW.PrintLast Go.Proofs.YtniplmjbligmlaaDoorW.PrintMore Go.Proofs.YtniplmjbligmlaaDoor.SL Go.Proofs.YtniplmjbligmlaaDoor.Base Go.Proofs.YtniplmjbligmlaaDoor.Pure
set_option linter.unusedVariables false
set_option linter.unusedSimpArgs false
def doorwardlaw03_DiskOrder.f (k : Nat) (l0 : List ByteArray) (l1 : List S42) (a1 a2 : Int) (s3 s4 : ByteArray) : Option Bool := some true
theorem lastW_swap (m1 : List S42) (q p : Int) (x y : ByteArray) (h : q ≠ p) (a : Int) (s : ByteArray) : lastW (m1 ++ [⟨q, x⟩] ++ [⟨p, y⟩]) a s = lastW (m1 ++ [⟨p, y⟩] ++ [⟨q, x⟩]) a s := by
  simp only [lastW_snoc]
  by_cases h1 : p = a
  · rw [if_pos h1, if_neg (by omega), if_pos h1]
  · rw [if_neg h1, if_neg h1]
set_option maxHeartbeats 4000000 in
set_option maxRecDepth 100000 in
theorem doorwardlaw03_DiskOrder.calls (k : Nat) (A0_0 : Option Addr) (c0_0 : Nat) (l0_0 : List ByteArray) (A0_1 : Option Addr) (c0_1 : Nat) (l0_1 : List S42) (a1 a2 : Int) (s3 s4 : ByteArray) (r : Bool) (w : World)
    (hr0_0 : Kd.C Kd.string w A0_0 l0_0.length l0_0) (hc0_0 : l0_0.length ≤ c0_0) (hr0_1 : Kd.C k42 w A0_1 l0_1.length l0_1) (hc0_1 : l0_1.length ≤ c0_1) (h : doorwardlaw03_DiskOrder.f k l0_0 l0_1 a1 a2 s3 s4 = some r) :
    Calls Tryd.prog 7 #[.agg #[.slice A0_0 l0_0.length c0_0, .slice A0_1 l0_1.length c0_1], .int .i64 a1, .int .i64 a2, .string s3, .string s4] w fun e w' => e = .returned (.bool r) ∧ Below w.heap.size w w' := by
  obtain rfl := Option.some.inj h
  have H := ((St.start w (fun k => k < w.heap.size) (fun _ h => h)).fact (p := rdc Kd.string A0_0 l0_0) (Kd.C_F Kd.heap_string hr0_0)).fact (p := rdc k42 A0_1 l0_1) (Kd.C_F k42_heap hr0_1)
  replace hc0_0 := Cap.mk hc0_0
  replace hc0_1 := Cap.mk hc0_1
  clear hr0_0 hr0_1 h
  have hf := few_eq l0_0 l0_1
  obtain ⟨m0, hm0⟩ : ∃ l, l0_0.take 300 = l := ⟨_, rfl⟩
  obtain ⟨m1, hm1⟩ : ∃ l, l0_1.take 40 = l := ⟨_, rfl⟩
  rw [hm0, hm1] at hf
  have hm : m1.length ≤ 40 := by rw [← hm1, List.length_take]; omega
  have ha3 := alive3
  refine sx_enter Tryd.func7 Tryd.ntmps7 rfl rfl (fun a A => ?_)
  clear hm0 hm1
  cases hR : rightB m0 m1 with
  | false =>
    obtain ⟨k, hk⟩ := ev_ex (ev_eq (refright_ev m0 m1 (by omega)) hR)
    repeat' (first
    | with_reducible refine wp_seq ?_
    | with_reducible refine sx_region ?_
    | with_reducible refine wp_block ?_
    | with_reducible refine wpList_nil ?_
    | with_reducible refine sx_then ?_
    | with_reducible refine sx_inb ?_
    | with_reducible refine wp_skip ?_
    | with_reducible refine wp_ret ?_
    | with_reducible refine wp_exit ?_
    | with_reducible refine sx_then_ret ?_
    | with_reducible refine sx_inb_ret ?_
    | with_reducible refine sx_then_exit ?_
    | with_reducible refine sx_inb_exit ?_
    | with_reducible refine sx_inb_other rfl ?_
    | ((with_reducible refine sx_at ?_); first
      | (refine sx_pure A tbOk rfl rfl rfl ?_; clear A; intro a A)
      | (refine sx_skip A rfl rfl ?_; clear A; intro a A)
      | ((with_reducible refine g_bin ?_); first | ((refine g_int A rfl ?_); first | (refine sx_cmp A rfl rfl rfl rfl ?_; clear A; intro a A) | (refine sx_arith A rfl rfl rfl rfl ?_; clear A; intro a A)) | ((refine g_str A rfl ?_); first | (refine sx_scmp A rfl rfl rfl rfl ?_; clear A; intro a A) | (refine sx_concat A rfl rfl rfl rfl ?_; clear A; intro a A)))
      | ((with_reducible refine g_load ?_); first | (refine sx_load_all H A tbOk rfl rfl rfl rfl rfl ?_; clear A; intro a A) | (refine sx_load H A tbOk rfl rfl rfl rfl ?_; clear A; intro a A))
      | ((with_reducible refine g_store ?_); refine sx_store H A tbOk rfl rfl rfl rfl ?_; clear H; intro w_ H)
      | ((with_reducible refine g_box ?_); refine sx_box H A rfl rfl rfl ?_; clear H A; intro b_ a w_ A H)
      | ((with_reducible refine g_alloc ?_); refine sx_alloc H A tbOk rfl rfl rfl ?_; clear H A; intro b_ a w_ A H)
      | ((with_reducible refine g_build ?_); refine sx_build A tbOk rfl rfl rfl rfl rfl rfl ?_; clear A; intro a A)
      | ((with_reducible refine g_builtin ?_); first | (refine sx_min A rfl rfl rfl rfl ?_; clear A; intro a A) | (refine sx_max A rfl rfl rfl rfl ?_; clear A; intro a A))
      | ((with_reducible refine g_slice ?_); refine sx_sstr A tbOk rfl rfl rfl rfl rfl rfl ?_; clear A; intro a A)
      )
    | ((with_reducible refine g_draw ?_); refine qx_region H (by kernel_rfl) (by kernel_rfl) ?_)
    | ((with_reducible refine qx_nil ?_); clear H; intro w_ F_ H)
    | ((with_reducible refine q_at ?_); first
      | (refine qx_pure A tbOk rfl rfl rfl ?_; clear A; intro a A)
      | (refine qx_skip A rfl rfl ?_; clear A; intro a A)
      | ((with_reducible refine qg_bin ?_); first | ((refine qg_int A rfl ?_); first | (refine qx_cmp A rfl rfl rfl rfl ?_; clear A; intro a A) | (refine qx_arith A rfl rfl rfl rfl ?_; clear A; intro a A)) | ((refine qg_str A rfl ?_); first | (refine qx_scmp A rfl rfl rfl rfl ?_; clear A; intro a A) | (refine qx_concat A rfl rfl rfl rfl ?_; clear A; intro a A)))
      | ((with_reducible refine qg_builtin ?_); first | (refine qx_min A rfl rfl rfl rfl ?_; clear A; intro a A) | (refine qx_max A rfl rfl rfl rfl ?_; clear A; intro a A))
      | ((with_reducible refine qg_slice ?_); refine qx_sstr A tbOk rfl rfl rfl rfl rfl rfl ?_; clear A; intro a A))
    | ((with_reducible refine sx_at ?_); first
      | (refine sx_call (f := 15) A rfl Tryd.call15 rfl rfl ?_; refine sl_doorwardlaw03_few H hf ?_; clear H; intro A_ c_ A_ c_ F_ w_ H hc_ hc_; refine ⟨_, rfl, ?_⟩; clear A; intro a A)
      | (refine sx_call (f := 19) A rfl Tryd.call19 rfl rfl ?_; refine sl_doorwardref03_Right H hk ?_; clear H; intro F_ w_ H; refine ⟨_, rfl, ?_⟩; clear A; intro a A)
      | (refine sx_call (f := 17) A rfl Tryd.call17 rfl rfl ?_; refine sl_doorwardlaw03_alive H ha3 ?_; clear H; intro F_ w_ H; refine ⟨_, rfl, ?_⟩; clear A; intro a A)
      )
    | with_reducible refine sx_if_t A rfl ?_
    | with_reducible refine sx_if_f A rfl ?_
    | (refine sx_ret tbOk H A rfl ?_; exact ⟨rfl, H.below⟩)
    )
  | true =>
    obtain ⟨g1, g2, g3, g4⟩ := right_parts hR
    obtain ⟨k, hk⟩ := ev_ex (ev_eq (refright_ev m0 m1 (by omega)) hR)
    have tm : ∀ z : Int, -(m0.length : Int) < z.tmod (m0.length : Int) ∧ z.tmod (m0.length : Int) < (m0.length : Int) := fun z => ⟨by have := Int.lt_tmod_of_pos z (show (0 : Int) < m0.length by omega); omega, Int.tmod_lt_of_pos z (by omega)⟩
    have qm : ∀ z : Int, 0 ≤ (z.tmod (m0.length : Int) + (m0.length : Int)) % (m0.length : Int) ∧ (z.tmod (m0.length : Int) + (m0.length : Int)) % (m0.length : Int) < (m0.length : Int) := fun z => ⟨Int.emod_nonneg _ (by omega), Int.emod_lt_of_pos _ (by omega)⟩
    obtain ⟨t1, t2⟩ := tm a1
    obtain ⟨t3, t4⟩ := tm a2
    obtain ⟨q0, q1⟩ := qm a1
    obtain ⟨p0, p1⟩ := qm a2
    clear tm qm
    obtain ⟨q, hq⟩ : ∃ q, (a1.tmod (m0.length : Int) + (m0.length : Int)) % (m0.length : Int) = q := ⟨_, rfl⟩
    obtain ⟨p, hp⟩ : ∃ q, (a2.tmod (m0.length : Int) + (m0.length : Int)) % (m0.length : Int) = q := ⟨_, rfl⟩
    rw [hq] at q0 q1
    rw [hp] at p0 p1
    obtain ⟨x, hx⟩ : ∃ s', s3.extract (0 : Int).toNat (min (s3.size : Int) 512).toNat = s' := ⟨_, rfl⟩
    obtain ⟨y, hy⟩ : ∃ s', s4.extract (0 : Int).toNat (min (s4.size : Int) 512).toNat = s' := ⟨_, rfl⟩
    have hzx : x.size ≤ 512 := by rw [← hx, ByteArray.size_extract]; omega
    have hzy : y.size ≤ 512 := by rw [← hy, ByteArray.size_extract]; omega
    obtain ⟨m2, hm2⟩ : ∃ m, m1 ++ [(⟨q, trimS x⟩ : S42)] = m := ⟨_, rfl⟩
    obtain ⟨m3, hm3⟩ : ∃ m, m2 ++ [(⟨p, trimS y⟩ : S42)] = m := ⟨_, rfl⟩
    obtain ⟨m4, hm4⟩ : ∃ m, m1 ++ [(⟨p, trimS y⟩ : S42)] = m := ⟨_, rfl⟩
    obtain ⟨m5, hm5⟩ : ∃ m, m4 ++ [(⟨q, trimS x⟩ : S42)] = m := ⟨_, rfl⟩
    have r2 : rightB m0 m2 = true := by rw [← hm2]; exact right_more hR q q0 q1 x hzx
    have r3 : rightB m0 m3 = true := by rw [← hm3]; exact right_more r2 p p0 p1 y hzy
    have r4 : rightB m0 m4 = true := by rw [← hm4]; exact right_more hR p p0 p1 y hzy
    have r5 : rightB m0 m5 = true := by rw [← hm5]; exact right_more r4 q q0 q1 x hzx
    have l2 : m2.length ≤ 41 := by rw [← hm2]; simp; omega
    have l4 : m4.length ≤ 41 := by rw [← hm4]; simp; omega
    have hW1 := write_right hR (by omega) q q0 q1 x hzx
    have hW2 := write_right r2 (by omega) p p0 p1 y hzy
    have hW3 := write_right hR (by omega) p p0 p1 y hzy
    have hW4 := write_right r4 (by omega) q q0 q1 x hzx
    have hsw : q ≠ p → ∀ (a : Int) (s : ByteArray), lastW m3 a s = lastW m5 a s := fun h a s => by rw [← hm3, ← hm2, ← hm5, ← hm4]; exact lastW_swap m1 q p _ _ h a s
    rw [hm2, ← hq, ← hx] at hW1
    rw [hm3, ← hp, ← hy] at hW2
    rw [hm4, ← hp, ← hy] at hW3
    rw [hm5, ← hq, ← hx] at hW4
    clear r2 r4 l2 l4 q0 q1 p0 p1
    repeat' (first
    | with_reducible refine wp_seq ?_
    | with_reducible refine sx_region ?_
    | with_reducible refine wp_block ?_
    | with_reducible refine wpList_nil ?_
    | with_reducible refine sx_then ?_
    | with_reducible refine sx_inb ?_
    | with_reducible refine wp_skip ?_
    | with_reducible refine wp_ret ?_
    | with_reducible refine wp_exit ?_
    | with_reducible refine sx_then_ret ?_
    | with_reducible refine sx_inb_ret ?_
    | with_reducible refine sx_then_exit ?_
    | with_reducible refine sx_inb_exit ?_
    | with_reducible refine sx_inb_other rfl ?_
    | ((with_reducible refine sx_at ?_); first
      | (refine sx_pure A tbOk rfl rfl rfl ?_; clear A; intro a A)
      | (refine sx_skip A rfl rfl ?_; clear A; intro a A)
      | ((with_reducible refine g_bin ?_); first | ((refine g_int A rfl ?_); first | (refine sx_cmp A rfl rfl rfl rfl ?_; clear A; intro a A) | (refine sx_arith A rfl rfl rfl rfl ?_; clear A; intro a A)) | ((refine g_str A rfl ?_); first | (refine sx_scmp A rfl rfl rfl rfl ?_; clear A; intro a A) | (refine sx_concat A rfl rfl rfl rfl ?_; clear A; intro a A)))
      | ((with_reducible refine g_load ?_); first | (refine sx_load_all H A tbOk rfl rfl rfl rfl rfl ?_; clear A; intro a A) | (refine sx_load H A tbOk rfl rfl rfl rfl ?_; clear A; intro a A))
      | ((with_reducible refine g_store ?_); refine sx_store H A tbOk rfl rfl rfl rfl ?_; clear H; intro w_ H)
      | ((with_reducible refine g_box ?_); refine sx_box H A rfl rfl rfl ?_; clear H A; intro b_ a w_ A H)
      | ((with_reducible refine g_alloc ?_); refine sx_alloc H A tbOk rfl rfl rfl ?_; clear H A; intro b_ a w_ A H)
      | ((with_reducible refine g_build ?_); refine sx_build A tbOk rfl rfl rfl rfl rfl rfl ?_; clear A; intro a A)
      | ((with_reducible refine g_builtin ?_); first | (refine sx_min A rfl rfl rfl rfl ?_; clear A; intro a A) | (refine sx_max A rfl rfl rfl rfl ?_; clear A; intro a A))
      | ((with_reducible refine g_slice ?_); refine sx_sstr A tbOk rfl rfl rfl rfl rfl rfl ?_; clear A; intro a A)
      )
    | ((with_reducible refine g_draw ?_); refine qx_region H (by kernel_rfl) (by kernel_rfl) ?_)
    | ((with_reducible refine qx_nil ?_); clear H; intro w_ F_ H)
    | ((with_reducible refine q_at ?_); first
      | (refine qx_pure A tbOk rfl rfl rfl ?_; clear A; intro a A)
      | (refine qx_skip A rfl rfl ?_; clear A; intro a A)
      | ((with_reducible refine qg_bin ?_); first | ((refine qg_int A rfl ?_); first | (refine qx_cmp A rfl rfl rfl rfl ?_; clear A; intro a A) | (refine qx_arith A rfl rfl rfl rfl ?_; clear A; intro a A)) | ((refine qg_str A rfl ?_); first | (refine qx_scmp A rfl rfl rfl rfl ?_; clear A; intro a A) | (refine qx_concat A rfl rfl rfl rfl ?_; clear A; intro a A)))
      | ((with_reducible refine qg_builtin ?_); first | (refine qx_min A rfl rfl rfl rfl ?_; clear A; intro a A) | (refine qx_max A rfl rfl rfl rfl ?_; clear A; intro a A))
      | ((with_reducible refine qg_slice ?_); refine qx_sstr A tbOk rfl rfl rfl rfl rfl rfl ?_; clear A; intro a A))
    | ((with_reducible refine sx_at ?_); first
      | (refine sx_call (f := 15) A rfl Tryd.call15 rfl rfl ?_; refine sl_doorwardlaw03_few H hf ?_; clear H; intro A_ c_ A_ c_ F_ w_ H hc_ hc_; refine ⟨_, rfl, ?_⟩; clear A; intro a A)
      | (refine sx_call (f := 19) A rfl Tryd.call19 rfl rfl ?_; refine sl_doorwardref03_Right H hk ?_; clear H; intro F_ w_ H; refine ⟨_, rfl, ?_⟩; clear A; intro a A)
      | (refine sx_call (f := 25) A rfl Tryd.call25 rfl rfl ?_; refine sl_disk_Write H (by first | with_reducible exact hW1 | with_reducible exact hW2 | with_reducible exact hW3 | with_reducible exact hW4) ?_; clear H; intro A_ c_ A_ c_ F_ w_ H hc_ hc_; refine ⟨_, rfl, ?_⟩; clear A; intro a A)
      | (refine sx_call (f := 17) A rfl Tryd.call17 rfl rfl ?_; refine sl_doorwardlaw03_alive H ha3 ?_; clear H; intro F_ w_ H; refine ⟨_, rfl, ?_⟩; clear A; intro a A)
      )
    | with_reducible refine sx_if_t A rfl ?_
    | with_reducible refine sx_if_f A rfl ?_
    )
    replace A := A.subs (T' := [(106, _), (1, _), (2, _), (5, _), (10, _), (13, _), (16, _), (105, _)])
    rw [hq, hp] at A
    refine sx_count H A 1 (fun i => i ≤ m0.length) (fun i => [(106, .int .i64 (i : Int))]) (fun i => m0.length - i) (Nat.zero_le _) (fun i F a W hi H A => ?_)
    clear hW1 hW2 hW3 hW4 hq hp hx hy t1 t2 t3 t4 hf hk
    rcases Nat.lt_or_ge i m0.length with hlt | hge
    · have hb : hasB m0.length (i : Int) = true := by unfold hasB; rw [decide_eq_true (by omega : (0 : Int) ≤ i), decide_eq_true (by omega : (i : Int) < m0.length)]; rfl
      have hD1 := read_ok m0 m3 (i : Int) r3 hb
      have hD2 := read_ok m0 m5 (i : Int) r5 hb
      obtain ⟨u, hu⟩ : ∃ u, lastW m3 (i : Int) (rdOf ByteArray.empty m0 (i : Int)) = u := ⟨_, rfl⟩
      obtain ⟨v, hv⟩ : ∃ u, lastW m5 (i : Int) (rdOf ByteArray.empty m0 (i : Int)) = u := ⟨_, rfl⟩
      have huv : q ≠ p → u = v := fun h => by rw [← hu, ← hv]; exact hsw h _ _
      rw [hu] at hD1
      rw [hv] at hD2
      clear hu hv hsw hb r3 r5
      by_cases hqp : q = p
      · subst hqp
        by_cases huw : u = v
        · clear huv
          subst huw
          repeat' (first
    | with_reducible refine wp_seq ?_
    | with_reducible refine sx_region ?_
    | with_reducible refine wp_block ?_
    | with_reducible refine wpList_nil ?_
    | with_reducible refine sx_then ?_
    | with_reducible refine sx_inb ?_
    | with_reducible refine wp_skip ?_
    | with_reducible refine wp_ret ?_
    | with_reducible refine wp_exit ?_
    | with_reducible refine sx_then_ret ?_
    | with_reducible refine sx_inb_ret ?_
    | with_reducible refine sx_then_exit ?_
    | with_reducible refine sx_inb_exit ?_
    | with_reducible refine sx_inb_other rfl ?_
    | ((with_reducible refine sx_at ?_); first
      | (refine sx_pure A tbOk rfl rfl rfl ?_; clear A; intro a A)
      | (refine sx_skip A rfl rfl ?_; clear A; intro a A)
      | ((with_reducible refine g_bin ?_); first | ((refine g_int A rfl ?_); first | (refine sx_cmp A rfl rfl rfl rfl ?_; clear A; intro a A) | (refine sx_arith A rfl rfl rfl rfl ?_; clear A; intro a A)) | ((refine g_str A rfl ?_); first | (refine sx_scmp A rfl rfl rfl rfl ?_; clear A; intro a A) | (refine sx_concat A rfl rfl rfl rfl ?_; clear A; intro a A)))
      | ((with_reducible refine g_load ?_); first | (refine sx_load_all H A tbOk rfl rfl rfl rfl rfl ?_; clear A; intro a A) | (refine sx_load H A tbOk rfl rfl rfl rfl ?_; clear A; intro a A))
      | ((with_reducible refine g_store ?_); refine sx_store H A tbOk rfl rfl rfl rfl ?_; clear H; intro w_ H)
      | ((with_reducible refine g_box ?_); refine sx_box H A rfl rfl rfl ?_; clear H A; intro b_ a w_ A H)
      | ((with_reducible refine g_alloc ?_); refine sx_alloc H A tbOk rfl rfl rfl ?_; clear H A; intro b_ a w_ A H)
      | ((with_reducible refine g_build ?_); refine sx_build A tbOk rfl rfl rfl rfl rfl rfl ?_; clear A; intro a A)
      | ((with_reducible refine g_builtin ?_); first | (refine sx_min A rfl rfl rfl rfl ?_; clear A; intro a A) | (refine sx_max A rfl rfl rfl rfl ?_; clear A; intro a A))
      | ((with_reducible refine g_slice ?_); refine sx_sstr A tbOk rfl rfl rfl rfl rfl rfl ?_; clear A; intro a A)
      )
    | ((with_reducible refine g_draw ?_); refine qx_region H (by kernel_rfl) (by kernel_rfl) ?_)
    | ((with_reducible refine qx_nil ?_); clear H; intro w_ F_ H)
    | ((with_reducible refine q_at ?_); first
      | (refine qx_pure A tbOk rfl rfl rfl ?_; clear A; intro a A)
      | (refine qx_skip A rfl rfl ?_; clear A; intro a A)
      | ((with_reducible refine qg_bin ?_); first | ((refine qg_int A rfl ?_); first | (refine qx_cmp A rfl rfl rfl rfl ?_; clear A; intro a A) | (refine qx_arith A rfl rfl rfl rfl ?_; clear A; intro a A)) | ((refine qg_str A rfl ?_); first | (refine qx_scmp A rfl rfl rfl rfl ?_; clear A; intro a A) | (refine qx_concat A rfl rfl rfl rfl ?_; clear A; intro a A)))
      | ((with_reducible refine qg_builtin ?_); first | (refine qx_min A rfl rfl rfl rfl ?_; clear A; intro a A) | (refine qx_max A rfl rfl rfl rfl ?_; clear A; intro a A))
      | ((with_reducible refine qg_slice ?_); refine qx_sstr A tbOk rfl rfl rfl rfl rfl rfl ?_; clear A; intro a A))
    | ((with_reducible refine sx_at ?_); first
      | (refine sx_call (f := 20) A rfl Tryd.call20 rfl rfl ?_; refine sl_disk_Read H (by first | with_reducible exact hD1 | with_reducible exact hD2) ?_; clear H; intro F_ w_ H; refine ⟨_, rfl, ?_⟩; clear A; intro a A)
      )
    | with_reducible refine sx_if_t A rfl ?_
    | with_reducible refine sx_if_f A rfl ?_
    | (refine sx_ret tbOk H A rfl ?_; exact ⟨rfl, H.below⟩)
    | exact ⟨i + 1, _, by omega, by omega, H, A.subs⟩
    )
        · repeat' (first
    | with_reducible refine wp_seq ?_
    | with_reducible refine sx_region ?_
    | with_reducible refine wp_block ?_
    | with_reducible refine wpList_nil ?_
    | with_reducible refine sx_then ?_
    | with_reducible refine sx_inb ?_
    | with_reducible refine wp_skip ?_
    | with_reducible refine wp_ret ?_
    | with_reducible refine wp_exit ?_
    | with_reducible refine sx_then_ret ?_
    | with_reducible refine sx_inb_ret ?_
    | with_reducible refine sx_then_exit ?_
    | with_reducible refine sx_inb_exit ?_
    | with_reducible refine sx_inb_other rfl ?_
    | ((with_reducible refine sx_at ?_); first
      | (refine sx_pure A tbOk rfl rfl rfl ?_; clear A; intro a A)
      | (refine sx_skip A rfl rfl ?_; clear A; intro a A)
      | ((with_reducible refine g_bin ?_); first | ((refine g_int A rfl ?_); first | (refine sx_cmp A rfl rfl rfl rfl ?_; clear A; intro a A) | (refine sx_arith A rfl rfl rfl rfl ?_; clear A; intro a A)) | ((refine g_str A rfl ?_); first | (refine sx_scmp A rfl rfl rfl rfl ?_; clear A; intro a A) | (refine sx_concat A rfl rfl rfl rfl ?_; clear A; intro a A)))
      | ((with_reducible refine g_load ?_); first | (refine sx_load_all H A tbOk rfl rfl rfl rfl rfl ?_; clear A; intro a A) | (refine sx_load H A tbOk rfl rfl rfl rfl ?_; clear A; intro a A))
      | ((with_reducible refine g_store ?_); refine sx_store H A tbOk rfl rfl rfl rfl ?_; clear H; intro w_ H)
      | ((with_reducible refine g_box ?_); refine sx_box H A rfl rfl rfl ?_; clear H A; intro b_ a w_ A H)
      | ((with_reducible refine g_alloc ?_); refine sx_alloc H A tbOk rfl rfl rfl ?_; clear H A; intro b_ a w_ A H)
      | ((with_reducible refine g_build ?_); refine sx_build A tbOk rfl rfl rfl rfl rfl rfl ?_; clear A; intro a A)
      | ((with_reducible refine g_builtin ?_); first | (refine sx_min A rfl rfl rfl rfl ?_; clear A; intro a A) | (refine sx_max A rfl rfl rfl rfl ?_; clear A; intro a A))
      | ((with_reducible refine g_slice ?_); refine sx_sstr A tbOk rfl rfl rfl rfl rfl rfl ?_; clear A; intro a A)
      )
    | ((with_reducible refine g_draw ?_); refine qx_region H (by kernel_rfl) (by kernel_rfl) ?_)
    | ((with_reducible refine qx_nil ?_); clear H; intro w_ F_ H)
    | ((with_reducible refine q_at ?_); first
      | (refine qx_pure A tbOk rfl rfl rfl ?_; clear A; intro a A)
      | (refine qx_skip A rfl rfl ?_; clear A; intro a A)
      | ((with_reducible refine qg_bin ?_); first | ((refine qg_int A rfl ?_); first | (refine qx_cmp A rfl rfl rfl rfl ?_; clear A; intro a A) | (refine qx_arith A rfl rfl rfl rfl ?_; clear A; intro a A)) | ((refine qg_str A rfl ?_); first | (refine qx_scmp A rfl rfl rfl rfl ?_; clear A; intro a A) | (refine qx_concat A rfl rfl rfl rfl ?_; clear A; intro a A)))
      | ((with_reducible refine qg_builtin ?_); first | (refine qx_min A rfl rfl rfl rfl ?_; clear A; intro a A) | (refine qx_max A rfl rfl rfl rfl ?_; clear A; intro a A))
      | ((with_reducible refine qg_slice ?_); refine qx_sstr A tbOk rfl rfl rfl rfl rfl rfl ?_; clear A; intro a A))
    | ((with_reducible refine sx_at ?_); first
      | (refine sx_call (f := 20) A rfl Tryd.call20 rfl rfl ?_; refine sl_disk_Read H (by first | with_reducible exact hD1 | with_reducible exact hD2) ?_; clear H; intro F_ w_ H; refine ⟨_, rfl, ?_⟩; clear A; intro a A)
      )
    | with_reducible refine sx_if_t A rfl ?_
    | with_reducible refine sx_if_f A rfl ?_
    | (refine sx_ret tbOk H A rfl ?_; exact ⟨rfl, H.below⟩)
    | exact ⟨i + 1, _, by omega, by omega, H, A.subs⟩
    )
      · obtain rfl := huv hqp
        repeat' (first
    | with_reducible refine wp_seq ?_
    | with_reducible refine sx_region ?_
    | with_reducible refine wp_block ?_
    | with_reducible refine wpList_nil ?_
    | with_reducible refine sx_then ?_
    | with_reducible refine sx_inb ?_
    | with_reducible refine wp_skip ?_
    | with_reducible refine wp_ret ?_
    | with_reducible refine wp_exit ?_
    | with_reducible refine sx_then_ret ?_
    | with_reducible refine sx_inb_ret ?_
    | with_reducible refine sx_then_exit ?_
    | with_reducible refine sx_inb_exit ?_
    | with_reducible refine sx_inb_other rfl ?_
    | ((with_reducible refine sx_at ?_); first
      | (refine sx_pure A tbOk rfl rfl rfl ?_; clear A; intro a A)
      | (refine sx_skip A rfl rfl ?_; clear A; intro a A)
      | ((with_reducible refine g_bin ?_); first | ((refine g_int A rfl ?_); first | (refine sx_cmp A rfl rfl rfl rfl ?_; clear A; intro a A) | (refine sx_arith A rfl rfl rfl rfl ?_; clear A; intro a A)) | ((refine g_str A rfl ?_); first | (refine sx_scmp A rfl rfl rfl rfl ?_; clear A; intro a A) | (refine sx_concat A rfl rfl rfl rfl ?_; clear A; intro a A)))
      | ((with_reducible refine g_load ?_); first | (refine sx_load_all H A tbOk rfl rfl rfl rfl rfl ?_; clear A; intro a A) | (refine sx_load H A tbOk rfl rfl rfl rfl ?_; clear A; intro a A))
      | ((with_reducible refine g_store ?_); refine sx_store H A tbOk rfl rfl rfl rfl ?_; clear H; intro w_ H)
      | ((with_reducible refine g_box ?_); refine sx_box H A rfl rfl rfl ?_; clear H A; intro b_ a w_ A H)
      | ((with_reducible refine g_alloc ?_); refine sx_alloc H A tbOk rfl rfl rfl ?_; clear H A; intro b_ a w_ A H)
      | ((with_reducible refine g_build ?_); refine sx_build A tbOk rfl rfl rfl rfl rfl rfl ?_; clear A; intro a A)
      | ((with_reducible refine g_builtin ?_); first | (refine sx_min A rfl rfl rfl rfl ?_; clear A; intro a A) | (refine sx_max A rfl rfl rfl rfl ?_; clear A; intro a A))
      | ((with_reducible refine g_slice ?_); refine sx_sstr A tbOk rfl rfl rfl rfl rfl rfl ?_; clear A; intro a A)
      )
    | ((with_reducible refine g_draw ?_); refine qx_region H (by kernel_rfl) (by kernel_rfl) ?_)
    | ((with_reducible refine qx_nil ?_); clear H; intro w_ F_ H)
    | ((with_reducible refine q_at ?_); first
      | (refine qx_pure A tbOk rfl rfl rfl ?_; clear A; intro a A)
      | (refine qx_skip A rfl rfl ?_; clear A; intro a A)
      | ((with_reducible refine qg_bin ?_); first | ((refine qg_int A rfl ?_); first | (refine qx_cmp A rfl rfl rfl rfl ?_; clear A; intro a A) | (refine qx_arith A rfl rfl rfl rfl ?_; clear A; intro a A)) | ((refine qg_str A rfl ?_); first | (refine qx_scmp A rfl rfl rfl rfl ?_; clear A; intro a A) | (refine qx_concat A rfl rfl rfl rfl ?_; clear A; intro a A)))
      | ((with_reducible refine qg_builtin ?_); first | (refine qx_min A rfl rfl rfl rfl ?_; clear A; intro a A) | (refine qx_max A rfl rfl rfl rfl ?_; clear A; intro a A))
      | ((with_reducible refine qg_slice ?_); refine qx_sstr A tbOk rfl rfl rfl rfl rfl rfl ?_; clear A; intro a A))
    | ((with_reducible refine sx_at ?_); first
      | (refine sx_call (f := 20) A rfl Tryd.call20 rfl rfl ?_; refine sl_disk_Read H (by first | with_reducible exact hD1 | with_reducible exact hD2) ?_; clear H; intro F_ w_ H; refine ⟨_, rfl, ?_⟩; clear A; intro a A)
      )
    | with_reducible refine sx_if_t A rfl ?_
    | with_reducible refine sx_if_f A rfl ?_
    | (refine sx_ret tbOk H A rfl ?_; exact ⟨rfl, H.below⟩)
    | exact ⟨i + 1, _, by omega, by omega, H, A.subs⟩
    )
    · repeat' (first
    | with_reducible refine wp_seq ?_
    | with_reducible refine sx_region ?_
    | with_reducible refine wp_block ?_
    | with_reducible refine wpList_nil ?_
    | with_reducible refine sx_then ?_
    | with_reducible refine sx_inb ?_
    | with_reducible refine wp_skip ?_
    | with_reducible refine wp_ret ?_
    | with_reducible refine wp_exit ?_
    | with_reducible refine sx_then_ret ?_
    | with_reducible refine sx_inb_ret ?_
    | with_reducible refine sx_then_exit ?_
    | with_reducible refine sx_inb_exit ?_
    | with_reducible refine sx_inb_other rfl ?_
    | ((with_reducible refine sx_at ?_); first
      | (refine sx_pure A tbOk rfl rfl rfl ?_; clear A; intro a A)
      | (refine sx_skip A rfl rfl ?_; clear A; intro a A)
      | ((with_reducible refine g_bin ?_); first | ((refine g_int A rfl ?_); first | (refine sx_cmp A rfl rfl rfl rfl ?_; clear A; intro a A) | (refine sx_arith A rfl rfl rfl rfl ?_; clear A; intro a A)) | ((refine g_str A rfl ?_); first | (refine sx_scmp A rfl rfl rfl rfl ?_; clear A; intro a A) | (refine sx_concat A rfl rfl rfl rfl ?_; clear A; intro a A)))
      | ((with_reducible refine g_load ?_); first | (refine sx_load_all H A tbOk rfl rfl rfl rfl rfl ?_; clear A; intro a A) | (refine sx_load H A tbOk rfl rfl rfl rfl ?_; clear A; intro a A))
      | ((with_reducible refine g_store ?_); refine sx_store H A tbOk rfl rfl rfl rfl ?_; clear H; intro w_ H)
      | ((with_reducible refine g_box ?_); refine sx_box H A rfl rfl rfl ?_; clear H A; intro b_ a w_ A H)
      | ((with_reducible refine g_alloc ?_); refine sx_alloc H A tbOk rfl rfl rfl ?_; clear H A; intro b_ a w_ A H)
      | ((with_reducible refine g_build ?_); refine sx_build A tbOk rfl rfl rfl rfl rfl rfl ?_; clear A; intro a A)
      | ((with_reducible refine g_builtin ?_); first | (refine sx_min A rfl rfl rfl rfl ?_; clear A; intro a A) | (refine sx_max A rfl rfl rfl rfl ?_; clear A; intro a A))
      | ((with_reducible refine g_slice ?_); refine sx_sstr A tbOk rfl rfl rfl rfl rfl rfl ?_; clear A; intro a A)
      )
    | ((with_reducible refine g_draw ?_); refine qx_region H (by kernel_rfl) (by kernel_rfl) ?_)
    | ((with_reducible refine qx_nil ?_); clear H; intro w_ F_ H)
    | ((with_reducible refine q_at ?_); first
      | (refine qx_pure A tbOk rfl rfl rfl ?_; clear A; intro a A)
      | (refine qx_skip A rfl rfl ?_; clear A; intro a A)
      | ((with_reducible refine qg_bin ?_); first | ((refine qg_int A rfl ?_); first | (refine qx_cmp A rfl rfl rfl rfl ?_; clear A; intro a A) | (refine qx_arith A rfl rfl rfl rfl ?_; clear A; intro a A)) | ((refine qg_str A rfl ?_); first | (refine qx_scmp A rfl rfl rfl rfl ?_; clear A; intro a A) | (refine qx_concat A rfl rfl rfl rfl ?_; clear A; intro a A)))
      | ((with_reducible refine qg_builtin ?_); first | (refine qx_min A rfl rfl rfl rfl ?_; clear A; intro a A) | (refine qx_max A rfl rfl rfl rfl ?_; clear A; intro a A))
      | ((with_reducible refine qg_slice ?_); refine qx_sstr A tbOk rfl rfl rfl rfl rfl rfl ?_; clear A; intro a A))
    | ((with_reducible refine sx_at ?_); first
      | (refine sx_call (f := 17) A rfl Tryd.call17 rfl rfl ?_; refine sl_doorwardlaw03_alive H ha3 ?_; clear H; intro F_ w_ H; refine ⟨_, rfl, ?_⟩; clear A; intro a A)
      )
    | with_reducible refine sx_if_t A rfl ?_
    | with_reducible refine sx_if_f A rfl ?_
    | (refine sx_ret tbOk H A rfl ?_; exact ⟨rfl, H.below⟩)
    )
end Go.Proofs.YtniplmjbligmlaaDoor.Q

/-! What the statement DiskOrder says of the printed functions alone. -/
namespace Go.Proofs.YtniplmjbligmlaaDoor.Q
open Go.RowKit Go.Proofs.YtniplmjbligmlaaDoorW.PrintWords Go.Proofs.YtniplmjbligmlaaDoorW.PrintLast Go.Proofs.YtniplmjbligmlaaDoorW.PrintMore Go.Proofs.YtniplmjbligmlaaDoor.Base
def doorwardlaw03_DiskOrder.Stm : Prop := ∀ (x0 : S25) (x1 : Int) (x2 : Int) (x3 : ByteArray) (x4 : ByteArray), zT25 x0 → zT3 x1 → zT3 x2 → zT9 x3 → zT9 x4 → ∃ k, doorwardlaw03_DiskOrder.f k x0.f0 x0.f1 x1 x2 x3 x4 = some true
end Go.Proofs.YtniplmjbligmlaaDoor.Q

/-! DiskOrder: all that the walk asks. No condition. -/
namespace Go.Proofs.YtniplmjbligmlaaDoor.Pure
open Go.Proofs.YtniplmjbligmlaaDoor.Q
theorem DiskOrder : doorwardlaw03_DiskOrder.Stm := fun _ _ _ _ _ _ _ _ _ _ => ⟨0, rfl⟩
end Go.Proofs.YtniplmjbligmlaaDoor.Pure

/-! DiskOrder holds: the Go law answers true for every input, and leaves its arguments alone; no condition but that the listed tables of the library stand as the program's text lays them. -/
namespace Go.Proofs.YtniplmjbligmlaaDoor.diskOrder
open Go.ChangeShapes Go.WideShapes Go.ChangeAt Go.RowKit Go.Proofs.YtniplmjbligmlaaDoorW.PrintWords Go.Proofs.YtniplmjbligmlaaDoor.Base Go.Proofs.YtniplmjbligmlaaDoor.Q
set_option linter.unusedVariables false
theorem own : ownKnob Tryd.prog.godebug = none := by kernel_rfl
theorem laidOut : laidOutB Tryd.prog = true := by kernel_rfl
set_option maxRecDepth 100000 in
theorem lifted (os : Os) (started : os.Started) (H : Type) (enc : TypeId × Value → H) :
    ReturnsInHanded {} Tryd.checked os 7 .any (fun w args => (Rows.diskOrderSpec.pre enc Tryd.prog Tryd.f7 Rows.diskOrderRow.domain false w args ∧ laidMetH Tryd.prog Rows.diskOrderRow.laid w) ∧ sizedMet enc Tryd.prog Tryd.f7 (OpenSpec.ofChange Rows.diskOrderSpec) false w args) (Rows.diskOrderSpec.post enc Tryd.prog Tryd.f7 false true false false) := by
  refine returnsInHanded_of_change_and (C := Tryd.checked) (X := fun w _ => laidMetH Tryd.prog Rows.diskOrderRow.laid w) (fun _ _ _ hh h => h.of_heap hh) own started (by kernel_rfl) Tryd.func7
    (ChangeSpec.witness_shaped (enc := enc) (C := Tryd.checked) (os := os) (X := fun w _ => laidMetH Tryd.prog Rows.diskOrderRow.laid w) false (World.laidAll Tryd.prog os Rows.diskOrderRow.laid) #[.agg #[.slice none 0 0, .slice none 0 0], .int .i64 0, .int .i64 0, .string ByteArray.empty, .string ByteArray.empty] 8 (World.laidAll_os _ _ _)
      (World.shaped_of_ZipB (by kernel_rfl) (by kernel_rfl)) (by kernel_rfl) (by kernel_rfl) (by kernel_rfl)
      (by rw [MakeChecks.laidMetH_plain _ _ _ (by kernel_rfl)]; exact laidMet_laidAll _ (by kernel_rfl) (by kernel_rfl))) ?_
  intro W base args ds gs before hval0 hW hcnd hsz0 _ _
  have hsz : (DataW.weightsEach Tryd.prog (Tryd.f7.params.toList ++ Rows.diskOrderSpec.plain.varTypes Tryd.prog) (ds ++ gs)).all (· ≤ reachBytes) = true := hsz0
  have hval : ∀ (j : Nat) t v, Tryd.f7.params[j]? = some t → args[j]? = some v → Value.okWide Tryd.prog W .any base t v := hval0
  have hW' := hW
  obtain ⟨p, q, hA0, hV, rfl, hfz, hnd⟩ := hW
  have hA : DataW.TrodAll enc Tryd.prog W 0 (fun _ => true) true Tryd.f7.params.toList args.toList ds p := hA0
  rw [Tryd.params7] at hA hval hsz
  obtain ⟨v0, vs0, d0, ds0, p0, q0, hargs, rfl, rfl, h0, r0⟩ := trodAll_cons hA
  obtain ⟨v1, vs1, d1, ds1, p1, q1, rfl, rfl, rfl, h1, r1⟩ := trodAll_cons r0
  obtain ⟨v2, vs2, d2, ds2, p2, q2, rfl, rfl, rfl, h2, r2⟩ := trodAll_cons r1
  obtain ⟨v3, vs3, d3, ds3, p3, q3, rfl, rfl, rfl, h3, r3⟩ := trodAll_cons r2
  obtain ⟨v4, vs4, d4, ds4, p4, q4, rfl, rfl, rfl, h4, r4⟩ := trodAll_cons r3
  obtain ⟨rfl, rfl, rfl⟩ := trodAll_nil r4
  obtain rfl : args = #[v0, v1, v2, v3, v4] := by cases args; simp_all
  obtain ⟨rfl, rfl⟩ := trodVars_none hV
  have k0 := h0
  have lt0 : ∀ x ∈ p0, x.block < W.heap.size := by obtain ⟨m, hm⟩ := k0; exact DataW.trod_lt m _ _ _ hm
  have ok0 : Value.okWide Tryd.prog W .any base 25 v0 := hval 0 25 v0 rfl rfl
  obtain ⟨fuel0, hf0⟩ := h0
  obtain ⟨x0, K0, Z0⟩ := opT25 H enc W 0 _ true fuel0 _ _ _ hf0 (weights_of_each hsz (j := 0) (t := 25) rfl rfl)
  obtain ⟨cs0, rfl⟩ := aggOf_okWide Tryd.underlying25 ok0
  have e0 := k25_open K0
  obtain ⟨A0_0, c0_0, A0_1, c0_1, e0, l0_0, g0_0, l0_1, g0_1⟩ := e0
  obtain rfl : cs0 = #[.slice A0_0 x0.f0.length c0_0, .slice A0_1 x0.f1.length c0_1] := agg_open e0
  have k1 := h1
  have lt1 : ∀ x ∈ p1, x.block < W.heap.size := by obtain ⟨m, hm⟩ := k1; exact DataW.trod_lt m _ _ _ hm
  have ok1 : Value.okWide Tryd.prog W .any base 3 v1 := hval 1 3 v1 rfl rfl
  obtain ⟨fuel1, hf1⟩ := h1
  obtain ⟨x1, K1, Z1⟩ := opT3 H enc W 0 _ true fuel1 _ _ _ hf1 (weights_of_each hsz (j := 1) (t := 3) rfl rfl)
  obtain ⟨y1, rfl⟩ := okWide_int Tryd.underlying3 ok1
  obtain rfl := int_open K1
  have k2 := h2
  have lt2 : ∀ x ∈ p2, x.block < W.heap.size := by obtain ⟨m, hm⟩ := k2; exact DataW.trod_lt m _ _ _ hm
  have ok2 : Value.okWide Tryd.prog W .any base 3 v2 := hval 2 3 v2 rfl rfl
  obtain ⟨fuel2, hf2⟩ := h2
  obtain ⟨x2, K2, Z2⟩ := opT3 H enc W 0 _ true fuel2 _ _ _ hf2 (weights_of_each hsz (j := 2) (t := 3) rfl rfl)
  obtain ⟨y2, rfl⟩ := okWide_int Tryd.underlying3 ok2
  obtain rfl := int_open K2
  have k3 := h3
  have lt3 : ∀ x ∈ p3, x.block < W.heap.size := by obtain ⟨m, hm⟩ := k3; exact DataW.trod_lt m _ _ _ hm
  have ok3 : Value.okWide Tryd.prog W .any base 9 v3 := hval 3 9 v3 rfl rfl
  obtain ⟨fuel3, hf3⟩ := h3
  obtain ⟨x3, K3, Z3⟩ := opT9 H enc W 0 _ true fuel3 _ _ _ hf3 (weights_of_each hsz (j := 3) (t := 9) rfl rfl)
  obtain ⟨y3, rfl⟩ := okWide_string Tryd.underlying9 ok3
  obtain rfl := string_open K3
  have k4 := h4
  have lt4 : ∀ x ∈ p4, x.block < W.heap.size := by obtain ⟨m, hm⟩ := k4; exact DataW.trod_lt m _ _ _ hm
  have ok4 : Value.okWide Tryd.prog W .any base 9 v4 := hval 4 9 v4 rfl rfl
  obtain ⟨fuel4, hf4⟩ := h4
  obtain ⟨x4, K4, Z4⟩ := opT9 H enc W 0 _ true fuel4 _ _ _ hf4 (weights_of_each hsz (j := 4) (t := 9) rfl rfl)
  obtain ⟨y4, rfl⟩ := okWide_string Tryd.underlying9 ok4
  obtain rfl := string_open K4
  clear hA0 hval0 hsz0 hsz
  obtain ⟨k, h⟩ := Pure.DiskOrder x0 x1 x2 x3 x4 Z0 Z1 Z2 Z3 Z4
  refine (doorwardlaw03_DiskOrder.calls k A0_0 c0_0 x0.f0 A0_1 c0_1 x0.f1 x1 x2 x3 x4 true W g0_0 l0_0 g0_1 l0_1 h).mono fun e W' ⟨he, bel0⟩ => ?_
  have bel : Below W.heap.size W W' := by first | exact bel0 | (obtain ⟨n0, rfl⟩ := bel0; exact Below.drewN (Below.refl _ _) _) | (obtain ⟨n0, rfl⟩ := bel0; repeat (first | exact Below.refl _ _ | apply pw_below_drewN))
  subst he
  exact ⟨_, rfl, _, _, _, [], _, [], hW', trodAll_mk1 (shut_bool Tryd.underlying4 _), (trodAll_cons_mk (Below.trod laidOut (by kernel_rfl) (of_decide_eq_true (by kernel_rfl)) k0 bel lt0) (trodAll_cons_mk (Below.trod laidOut (by kernel_rfl) (of_decide_eq_true (by kernel_rfl)) k1 bel lt1) (trodAll_cons_mk (Below.trod laidOut (by kernel_rfl) (of_decide_eq_true (by kernel_rfl)) k2 bel lt2) (trodAll_cons_mk (Below.trod laidOut (by kernel_rfl) (of_decide_eq_true (by kernel_rfl)) k3 bel lt3) (trodAll_cons_mk (Below.trod laidOut (by kernel_rfl) (of_decide_eq_true (by kernel_rfl)) k4 bel lt4) trodAll_mk0))))), rfl, bel.frame _, fun h => by cases h⟩
theorem over : Rows.diskOrderRow.holds Tryd.pinned (OpenSpec.ofChange Rows.diskOrderSpec) :=
  OpenClaim.holds_of_wide 7 Tryd.f7 rfl rfl rfl rfl rfl rfl rfl ⟨rfl, rfl, rfl, rfl, rfl⟩ rfl rfl rfl rfl rfl (by kernel_rfl) Tryd.func7 (by kernel_rfl)
    (of_decide_eq_true (by kernel_rfl)) (by unfold Func.isWrapper; first | (rw [if_pos (by decide +kernel)]; kernel_rfl) | (rw [if_neg (by decide +kernel)]; exact ⟨rfl, rfl⟩))
    (fun os started H enc _ => lifted os started H enc)
theorem proved : Rows.DiskOrderSaid := over
theorem card : Rows.DiskOrderCardSaid :=
  Claim7.holds_tied_plain_at .later [] [.data, .pinned] true (true, "ec22d909a53f874bd568267daaecff0bbd6a3d22c2ad4d19e5d712a5b89fc2b2") false proved (fun _ h => by cases h) (by kernel_rfl) (fun _ h => by cases h) diskOrder_row_tie rfl ⟨rfl, rfl⟩ (by kernel_rfl) rfl
    (fun f fn hf hfn => by
      obtain rfl : f = 7 := Option.some.inj ((show Tryd.prog.funcNamed "doorward/doorwardlaw03.DiskOrder" = some 7 by kernel_rfl).symm.trans hf) |>.symm
      obtain rfl : fn = Tryd.f7 := (Option.some.inj (Tryd.func7.symm.trans hfn)).symm
      exact ⟨by kernel_rfl, fun j t ht => by
        rw [Tryd.params7] at ht
        have hm : t ∈ [25, 3, 3, 9, 9] := by simpa using Array.mem_of_getElem? ht
        have hall : ([25, 3, 3, 9, 9].all fun u => !Tryd.prog.wantsStandIn u) = true := by kernel_rfl
        exact (show Tryd.prog.wantsStandIn t = false by simpa using List.all_eq_true.1 hall t hm)⟩)
    (by kernel_rfl)
end Go.Proofs.YtniplmjbligmlaaDoor.diskOrder
namespace Go.Proofs.YtniplmjbligmlaaDoor
theorem diskOrder_holds : Rows.DiskOrderCardSaid := diskOrder.card
#print axioms diskOrder_holds
end Go.Proofs.YtniplmjbligmlaaDoor
