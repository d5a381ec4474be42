/- Go functions as Lean functions, each with a proof that the Go code comes to its answers; written by a program of this repository (mk.py, over the printer of the kit). Lean checks it. -/
import Derived.Test.YtnglmibicdjhcaaDoorQx0
import Derived.Test.YtnglmibicdjhcaaDoorQx1
import Derived.Test.YtnglmibicdjhcaaDoorQx2
import Derived.Test.YtnglmibicdjhcaaDoorQx4
namespace Go.Proofs.YtnglmibicdjhcaaDoor.Q
open Go.RowKit Go.Proofs.YtnglmibicdjhcaaDoorW.PrintWords Go.Proofs.YtnglmibicdjhcaaDoorW.PrintLast Go.Proofs.YtnglmibicdjhcaaDoorW.PrintMore
attribute [local go_sem] max2_int min2_int max_two min_two max_three min_three max_four min_four   -- for this text's walks alone
set_option linter.unusedVariables false
set_option linter.unusedSimpArgs false

/-! ### doorwardlaw01_LeWide: function 5 -/
def doorwardlaw01_LeWide.j0 : Nat → Int → ByteArray → Int → Bool → Option (Bool)
  | 0, _, _, _, _ => none
  | k + 1, x1, x3, x4, x72 => if x72 = true then (some false) else ((le_Get.f k x3 (mn (mx x4 0) (x3.size : Int)) x1).bind fun bt132 => (if 0 ≤ (mn (mx x4 0) (x3.size : Int)) then (if (mn (mx x4 0) (x3.size : Int)) ≤ (x3.size : Int) then ((le_Get.f k (x3.extract ((mn (mx x4 0) (x3.size : Int)) : Int).toNat x3.size) 0 x1).bind fun bt135 => (if bt132.1 = bt135.1 then (if bt132.2.2 = bt135.2.2 then (if bt132.2.2 = 0 then (some (bt132.2.1 == (wrap64 (bt135.2.1 + (mn (mx x4 0) (x3.size : Int)))))) else (some true)) else (some false)) else (some false))) else (none)) else (none)))
def doorwardlaw01_LeWide.f (k : Nat) (a0 : Int) (a1 : Int) (a2 : Int) (a3 : ByteArray) (a4 : Int) : Option (Bool) := if 0 ≤ (mn (a3.size : Int) 3000) then (if (mn (a3.size : Int) 3000) ≤ (a3.size : Int) then ((le_Put.f k a0 (mn (mx a1 1) 8)).bind fun bt124 => ((le_Put.f k a0 (mn ((mn (mx a1 1) 8) + (mn (mx a2 0) 8)) 8)).bind fun bt126 => (if bt124.2 = 0 then (if bt126.2 = 0 then ((le_Trim.f bt124.1).bind fun t128 => ((le_Trim.f bt126.1).bind fun t129 => (if t128.toList = t129.toList then (if (bt126.1.size : Int) = (mn ((mn (mx a1 1) 8) + (mn (mx a2 0) 8)) 8) then ((doorwardlaw01_alive.f k).bind fun t130 => (doorwardlaw01_LeWide.j0 k (mn (mx a1 1) 8) (a3.extract 0 ((mn (a3.size : Int) 3000) : Int).toNat) a4 (!t130))) else (doorwardlaw01_LeWide.j0 k (mn (mx a1 1) 8) (a3.extract 0 ((mn (a3.size : Int) 3000) : Int).toNat) a4 true)) else (doorwardlaw01_LeWide.j0 k (mn (mx a1 1) 8) (a3.extract 0 ((mn (a3.size : Int) 3000) : Int).toNat) a4 true)))) else (doorwardlaw01_LeWide.j0 k (mn (mx a1 1) 8) (a3.extract 0 ((mn (a3.size : Int) 3000) : Int).toNat) a4 true)) else ((doorwardlaw01_alive.f k).bind fun t131 => (doorwardlaw01_LeWide.j0 k (mn (mx a1 1) 8) (a3.extract 0 ((mn (a3.size : Int) 3000) : Int).toNat) a4 (!t131)))))) else (none)) else (none)
theorem doorwardlaw01_LeWide.mono_l : ∀ k, (∀ y0 y1 y2 y3, LeO (doorwardlaw01_LeWide.j0 k y0 y1 y2 y3) (doorwardlaw01_LeWide.j0 (k + 1) y0 y1 y2 y3))
  | 0 => fun _ _ _ _ r h => by simp [doorwardlaw01_LeWide.j0] at h
  | k + 1 => by
    have ih0 := doorwardlaw01_LeWide.mono_l k
    · intro y0 y1 y2 y3
      unfold doorwardlaw01_LeWide.j0
      repeat' first
      | (with_reducible exact ih0 _ _ _ _)
      | (with_reducible exact doorwardlaw01_alive.mono _)
      | (with_reducible exact le_Get.mono _ _ _ _)
      | (with_reducible exact le_Put.mono _ _ _)
      | (with_reducible exact LeO.refl _)
      | (with_reducible exact LeO.none _)
      | (with_reducible refine LeO.ite ?_ ?_)
      | (with_reducible refine LeO.bind ?_ (fun _ => ?_))
      | exact ih0 _ _ _ _
      | exact doorwardlaw01_alive.mono _
      | exact le_Get.mono _ _ _ _
      | exact le_Put.mono _ _ _
      | exact LeO.none _
      | refine LeO.ite ?_ ?_
      | refine LeO.bind ?_ (fun _ => ?_)
theorem doorwardlaw01_LeWide.mono : ∀ a0 a1 a2 a3 a4 k, LeO (doorwardlaw01_LeWide.f k a0 a1 a2 a3 a4) (doorwardlaw01_LeWide.f (k + 1) a0 a1 a2 a3 a4) := by
  intro a0 a1 a2 a3 a4 k
  have ih0 := doorwardlaw01_LeWide.mono_l k
  unfold doorwardlaw01_LeWide.f
  repeat' first
      | (with_reducible exact ih0 _ _ _ _)
      | (with_reducible exact doorwardlaw01_alive.mono _)
      | (with_reducible exact le_Get.mono _ _ _ _)
      | (with_reducible exact le_Put.mono _ _ _)
      | (with_reducible exact LeO.refl _)
      | (with_reducible exact LeO.none _)
      | (with_reducible refine LeO.ite ?_ ?_)
      | (with_reducible refine LeO.bind ?_ (fun _ => ?_))
      | exact ih0 _ _ _ _
      | exact doorwardlaw01_alive.mono _
      | exact le_Get.mono _ _ _ _
      | exact le_Put.mono _ _ _
      | exact LeO.none _
      | refine LeO.ite ?_ ?_
      | refine LeO.bind ?_ (fun _ => ?_)
set_option maxHeartbeats 8000000 in
set_option maxRecDepth 100000 in
theorem doorwardlaw01_LeWide.calls (k : Nat) (a0 : Int) (a1 : Int) (a2 : Int) (a3 : ByteArray) (a4 : Int) (r : Bool) (w : World) (h : doorwardlaw01_LeWide.f k a0 a1 a2 a3 a4 = some r) :
    Calls Tryd.prog 5 #[.int .u64 a0, .int .i64 a1, .int .i64 a2, .string a3, .int .i64 a4] w fun e w' => e = .returned (.bool r) ∧ Below w.heap.size w w' := by
  have HB := Aside0.mk (Below.refl w.heap.size w)
  have H : (if 0 ≤ (mn (a3.size : Int) 3000) then (if (mn (a3.size : Int) 3000) ≤ (a3.size : Int) then ((le_Put.f k a0 (mn (mx a1 1) 8)).bind fun bt124 => ((le_Put.f k a0 (mn ((mn (mx a1 1) 8) + (mn (mx a2 0) 8)) 8)).bind fun bt126 => (if bt124.2 = 0 then (if bt126.2 = 0 then ((le_Trim.f bt124.1).bind fun t128 => ((le_Trim.f bt126.1).bind fun t129 => (if t128.toList = t129.toList then (if (bt126.1.size : Int) = (mn ((mn (mx a1 1) 8) + (mn (mx a2 0) 8)) 8) then ((doorwardlaw01_alive.f k).bind fun t130 => (doorwardlaw01_LeWide.j0 k (mn (mx a1 1) 8) (a3.extract 0 ((mn (a3.size : Int) 3000) : Int).toNat) a4 (!t130))) else (doorwardlaw01_LeWide.j0 k (mn (mx a1 1) 8) (a3.extract 0 ((mn (a3.size : Int) 3000) : Int).toNat) a4 true)) else (doorwardlaw01_LeWide.j0 k (mn (mx a1 1) 8) (a3.extract 0 ((mn (a3.size : Int) 3000) : Int).toNat) a4 true)))) else (doorwardlaw01_LeWide.j0 k (mn (mx a1 1) 8) (a3.extract 0 ((mn (a3.size : Int) 3000) : Int).toNat) a4 true)) else ((doorwardlaw01_alive.f k).bind fun t131 => (doorwardlaw01_LeWide.j0 k (mn (mx a1 1) 8) (a3.extract 0 ((mn (a3.size : Int) 3000) : Int).toNat) a4 (!t131)))))) else (none)) else (none)) = some r := h
  clear h
  obtain ⟨ji6, hji6⟩ : ∃ j_ : Int, (mn (a3.size : Int) 3000) = j_ := ⟨_, rfl⟩
  replace H : (if 0 ≤ (ji6) then (if (ji6) ≤ (a3.size : Int) then ((le_Put.f k a0 (mn (mx a1 1) 8)).bind fun bt124 => ((le_Put.f k a0 (mn ((mn (mx a1 1) 8) + (mn (mx a2 0) 8)) 8)).bind fun bt126 => (if bt124.2 = 0 then (if bt126.2 = 0 then ((le_Trim.f bt124.1).bind fun t128 => ((le_Trim.f bt126.1).bind fun t129 => (if t128.toList = t129.toList then (if (bt126.1.size : Int) = (mn ((mn (mx a1 1) 8) + (mn (mx a2 0) 8)) 8) then ((doorwardlaw01_alive.f k).bind fun t130 => (doorwardlaw01_LeWide.j0 k (mn (mx a1 1) 8) (a3.extract 0 ((ji6) : Int).toNat) a4 (!t130))) else (doorwardlaw01_LeWide.j0 k (mn (mx a1 1) 8) (a3.extract 0 ((ji6) : Int).toNat) a4 true)) else (doorwardlaw01_LeWide.j0 k (mn (mx a1 1) 8) (a3.extract 0 ((ji6) : Int).toNat) a4 true)))) else (doorwardlaw01_LeWide.j0 k (mn (mx a1 1) 8) (a3.extract 0 ((ji6) : Int).toNat) a4 true)) else ((doorwardlaw01_alive.f k).bind fun t131 => (doorwardlaw01_LeWide.j0 k (mn (mx a1 1) 8) (a3.extract 0 ((ji6) : Int).toNat) a4 (!t131)))))) else (none)) else (none)) = some r := by first | (rw [hji6] at H; exact H) | (simp only [hji6] at H ⊢; exact H)
  (try (have hji6h : ji6 ≤ 3000 := by (rw [← hji6]; unfold mn; (repeat' split) <;> omega)))
  (try (have hji6g : ji6 ≤ 64 := by omega))
  (try (have hji6l : 0 ≤ ji6 := by (rw [← hji6]; unfold mn; (repeat' split) <;> omega)))
  (try (have hji6m : 0 ≤ ji6 := by omega))
  have hji6_ : (if 3000 < (a3.size : Int) then 3000 else (a3.size : Int)) = ji6 := hji6
  obtain ⟨x6_a3, hx6_a3⟩ : ∃ x_ : ByteArray, (a3.extract 0 ((ji6) : Int).toNat) = x_ := ⟨_, rfl⟩
  (try simp only [hx6_a3] at H)
  by_cases c7 : 0 ≤ (ji6)
  · rw [if_pos c7] at H
    have c7b0 := eq_true c7
    have c7b1 : decide (0 ≤ (ji6)) = true := decide_eq_true c7
    clear c7
    by_cases c8 : (ji6) ≤ (a3.size : Int)
    · rw [if_pos c8] at H
      have c8b0 := eq_true c8
      have c8b1 : decide ((ji6) ≤ (a3.size : Int)) = true := decide_eq_true c8
      clear c8
      obtain ⟨ji9, hji9⟩ : ∃ j_ : Int, (mx a1 1) = j_ := ⟨_, rfl⟩
      replace H : ((le_Put.f k a0 (mn (ji9) 8)).bind fun bt124 => ((le_Put.f k a0 (mn ((mn (ji9) 8) + (mn (mx a2 0) 8)) 8)).bind fun bt126 => (if bt124.2 = 0 then (if bt126.2 = 0 then ((le_Trim.f bt124.1).bind fun t128 => ((le_Trim.f bt126.1).bind fun t129 => (if t128.toList = t129.toList then (if (bt126.1.size : Int) = (mn ((mn (ji9) 8) + (mn (mx a2 0) 8)) 8) then ((doorwardlaw01_alive.f k).bind fun t130 => (doorwardlaw01_LeWide.j0 k (mn (ji9) 8) x6_a3 a4 (!t130))) else (doorwardlaw01_LeWide.j0 k (mn (ji9) 8) x6_a3 a4 true)) else (doorwardlaw01_LeWide.j0 k (mn (ji9) 8) x6_a3 a4 true)))) else (doorwardlaw01_LeWide.j0 k (mn (ji9) 8) x6_a3 a4 true)) else ((doorwardlaw01_alive.f k).bind fun t131 => (doorwardlaw01_LeWide.j0 k (mn (ji9) 8) x6_a3 a4 (!t131)))))) = some r := by first | (rw [hji9] at H; exact H) | (simp only [hji9] at H ⊢; exact H)
      (try (have hji9l : 1 ≤ ji9 := by (rw [← hji9]; unfold mx; (repeat' split) <;> omega)))
      (try (have hji9m : 0 ≤ ji9 := by omega))
      have hji9_ : (if a1 < 1 then 1 else a1) = ji9 := hji9
      obtain ⟨ji10, hji10⟩ : ∃ j_ : Int, (mn (ji9) 8) = j_ := ⟨_, rfl⟩
      replace H : ((le_Put.f k a0 (ji10)).bind fun bt124 => ((le_Put.f k a0 (mn ((ji10) + (mn (mx a2 0) 8)) 8)).bind fun bt126 => (if bt124.2 = 0 then (if bt126.2 = 0 then ((le_Trim.f bt124.1).bind fun t128 => ((le_Trim.f bt126.1).bind fun t129 => (if t128.toList = t129.toList then (if (bt126.1.size : Int) = (mn ((ji10) + (mn (mx a2 0) 8)) 8) then ((doorwardlaw01_alive.f k).bind fun t130 => (doorwardlaw01_LeWide.j0 k ji10 x6_a3 a4 (!t130))) else (doorwardlaw01_LeWide.j0 k ji10 x6_a3 a4 true)) else (doorwardlaw01_LeWide.j0 k ji10 x6_a3 a4 true)))) else (doorwardlaw01_LeWide.j0 k ji10 x6_a3 a4 true)) else ((doorwardlaw01_alive.f k).bind fun t131 => (doorwardlaw01_LeWide.j0 k ji10 x6_a3 a4 (!t131)))))) = some r := by first | (rw [hji10] at H; exact H) | (simp only [hji10] at H ⊢; exact H)
      have hji10_ : (if 8 < (ji9) then 8 else (ji9)) = ji10 := hji10
      obtain ⟨ji11, hji11⟩ : ∃ j_ : Int, (mx a2 0) = j_ := ⟨_, rfl⟩
      replace H : ((le_Put.f k a0 (ji10)).bind fun bt124 => ((le_Put.f k a0 (mn ((ji10) + (mn (ji11) 8)) 8)).bind fun bt126 => (if bt124.2 = 0 then (if bt126.2 = 0 then ((le_Trim.f bt124.1).bind fun t128 => ((le_Trim.f bt126.1).bind fun t129 => (if t128.toList = t129.toList then (if (bt126.1.size : Int) = (mn ((ji10) + (mn (ji11) 8)) 8) then ((doorwardlaw01_alive.f k).bind fun t130 => (doorwardlaw01_LeWide.j0 k ji10 x6_a3 a4 (!t130))) else (doorwardlaw01_LeWide.j0 k ji10 x6_a3 a4 true)) else (doorwardlaw01_LeWide.j0 k ji10 x6_a3 a4 true)))) else (doorwardlaw01_LeWide.j0 k ji10 x6_a3 a4 true)) else ((doorwardlaw01_alive.f k).bind fun t131 => (doorwardlaw01_LeWide.j0 k ji10 x6_a3 a4 (!t131)))))) = some r := by first | (rw [hji11] at H; exact H) | (simp only [hji11] at H ⊢; exact H)
      (try (have hji11l : 0 ≤ ji11 := by (rw [← hji11]; unfold mx; (repeat' split) <;> omega)))
      (try (have hji11m : 0 ≤ ji11 := by omega))
      have hji11_ : (if a2 < 0 then 0 else a2) = ji11 := hji11
      obtain ⟨ji12, hji12⟩ : ∃ j_ : Int, (mn (ji11) 8) = j_ := ⟨_, rfl⟩
      replace H : ((le_Put.f k a0 (ji10)).bind fun bt124 => ((le_Put.f k a0 (mn ((ji10) + (ji12)) 8)).bind fun bt126 => (if bt124.2 = 0 then (if bt126.2 = 0 then ((le_Trim.f bt124.1).bind fun t128 => ((le_Trim.f bt126.1).bind fun t129 => (if t128.toList = t129.toList then (if (bt126.1.size : Int) = (mn ((ji10) + (ji12)) 8) then ((doorwardlaw01_alive.f k).bind fun t130 => (doorwardlaw01_LeWide.j0 k ji10 x6_a3 a4 (!t130))) else (doorwardlaw01_LeWide.j0 k ji10 x6_a3 a4 true)) else (doorwardlaw01_LeWide.j0 k ji10 x6_a3 a4 true)))) else (doorwardlaw01_LeWide.j0 k ji10 x6_a3 a4 true)) else ((doorwardlaw01_alive.f k).bind fun t131 => (doorwardlaw01_LeWide.j0 k ji10 x6_a3 a4 (!t131)))))) = some r := by first | (rw [hji12] at H; exact H) | (simp only [hji12] at H ⊢; exact H)
      have hji12_ : (if 8 < (ji11) then 8 else (ji11)) = ji12 := hji12
      replace H := Option.bind_eq_some_iff.mp H
      obtain ⟨⟨t124, t125⟩, A130, H⟩ := H
      replace H : ((le_Put.f k a0 (mn ((ji10) + (ji12)) 8)).bind fun bt126 => (if t125 = 0 then (if bt126.2 = 0 then ((le_Trim.f t124).bind fun t128 => ((le_Trim.f bt126.1).bind fun t129 => (if t128.toList = t129.toList then (if (bt126.1.size : Int) = (mn ((ji10) + (ji12)) 8) then ((doorwardlaw01_alive.f k).bind fun t130 => (doorwardlaw01_LeWide.j0 k ji10 x6_a3 a4 (!t130))) else (doorwardlaw01_LeWide.j0 k ji10 x6_a3 a4 true)) else (doorwardlaw01_LeWide.j0 k ji10 x6_a3 a4 true)))) else (doorwardlaw01_LeWide.j0 k ji10 x6_a3 a4 true)) else ((doorwardlaw01_alive.f k).bind fun t131 => (doorwardlaw01_LeWide.j0 k ji10 x6_a3 a4 (!t131))))) = some r := H
      have A13 := Aside0.mk A130
      clear A130
      obtain ⟨ji14, hji14⟩ : ∃ j_ : Int, (mn ((ji10) + (ji12)) 8) = j_ := ⟨_, rfl⟩
      replace H : ((le_Put.f k a0 (ji14)).bind fun bt126 => (if t125 = 0 then (if bt126.2 = 0 then ((le_Trim.f t124).bind fun t128 => ((le_Trim.f bt126.1).bind fun t129 => (if t128.toList = t129.toList then (if (bt126.1.size : Int) = (ji14) then ((doorwardlaw01_alive.f k).bind fun t130 => (doorwardlaw01_LeWide.j0 k ji10 x6_a3 a4 (!t130))) else (doorwardlaw01_LeWide.j0 k ji10 x6_a3 a4 true)) else (doorwardlaw01_LeWide.j0 k ji10 x6_a3 a4 true)))) else (doorwardlaw01_LeWide.j0 k ji10 x6_a3 a4 true)) else ((doorwardlaw01_alive.f k).bind fun t131 => (doorwardlaw01_LeWide.j0 k ji10 x6_a3 a4 (!t131))))) = some r := by first | (rw [hji14] at H; exact H) | (simp only [hji14] at H ⊢; exact H)
      (try rw [hji14] at A13)
      have hji14_ : (if 8 < ((ji10) + (ji12)) then 8 else ((ji10) + (ji12))) = ji14 := hji14
      replace H := Option.bind_eq_some_iff.mp H
      obtain ⟨⟨t126, t127⟩, A150, H⟩ := H
      replace H : (if t125 = 0 then (if t127 = 0 then ((le_Trim.f t124).bind fun t128 => ((le_Trim.f t126).bind fun t129 => (if t128.toList = t129.toList then (if (t126.size : Int) = (ji14) then ((doorwardlaw01_alive.f k).bind fun t130 => (doorwardlaw01_LeWide.j0 k ji10 x6_a3 a4 (!t130))) else (doorwardlaw01_LeWide.j0 k ji10 x6_a3 a4 true)) else (doorwardlaw01_LeWide.j0 k ji10 x6_a3 a4 true)))) else (doorwardlaw01_LeWide.j0 k ji10 x6_a3 a4 true)) else ((doorwardlaw01_alive.f k).bind fun t131 => (doorwardlaw01_LeWide.j0 k ji10 x6_a3 a4 (!t131)))) = some r := H
      have A15 := Aside0.mk A150
      clear A150
      have HC16 := Aside0.mk H
      clear H
      go_enter Tryd.func5, Tryd.ntmps5
      go_upto_region 5 with (first | ((with_reducible refine gate_callee (f := 12) rfl ?_); refine goesL_ (some 35) rfl rfl Tryd.func12 (by kernel_rfl) rfl #[.int .u64 a0, .int .i64 ji10] rfl (by (try simp only [List.map_toArray, List.map_cons, List.map_nil]); first | done | (simp only [hji10]; rfl) | rfl | (simp only [List.length_drop, List.length_take]; rfl) | (simp [Act.eval, IntKind.wrap, IntKind.bits, IntKind.signed]; (repeat (first | (rename (decide _ = false) => h_; replace h_ := of_decide_eq_false h_) | (rename (decide _ = true) => h_; replace h_ := of_decide_eq_true h_))); omega)) ?_; (with_reducible refine (le_Put.calls k a0 ji10 t124 t125 _ A13.out).mono ?_); rintro e w17 ⟨rfl, hb⟩; refine ⟨_, rfl, ?_⟩; have n0_ := Aside0.mk (below_step (by repeat (first | (with_reducible first | exact HB.out | apply below_alloc | apply pw_below_drewN | apply below_drew1) | exact HB.out)) hb); clear HB; have HB := n0_; clear n0_; (try clear hb); (try clear hb2); (try clear hk); (try clear hi)) | ((with_reducible refine gate_callee (f := 12) rfl ?_); refine goesL_ (some 44) rfl rfl Tryd.func12 (by kernel_rfl) rfl #[.int .u64 a0, .int .i64 ji14] rfl (by (try simp only [List.map_toArray, List.map_cons, List.map_nil]); first | done | (simp only [hji14]; rfl) | rfl | (simp only [List.length_drop, List.length_take]; rfl) | (simp [Act.eval, IntKind.wrap, IntKind.bits, IntKind.signed]; (repeat (first | (rename (decide _ = false) => h_; replace h_ := of_decide_eq_false h_) | (rename (decide _ = true) => h_; replace h_ := of_decide_eq_true h_))); omega)) ?_; (with_reducible refine (le_Put.calls k a0 ji14 t126 t127 _ A15.out).mono ?_); rintro e w18 ⟨rfl, hb⟩; refine ⟨_, rfl, ?_⟩; have n0_ := Aside0.mk (below_step (by repeat (first | (with_reducible first | exact HB.out | apply below_alloc | apply pw_below_drewN | apply below_drew1) | exact HB.out)) hb); clear HB; have HB := n0_; clear n0_; (try clear hb); (try clear hb2); (try clear hk); (try clear hi)))
      (try simp only [Act.put, List.setIfInBounds_toArray, List.set_cons_zero, List.set_cons_succ])
      go_cut [72] (fun v72 wc => ∃ (kq : Nat) (x72_15 : Bool), v72 = .bool x72_15 ∧ Aside0 (doorwardlaw01_LeWide.j0 kq ji10 x6_a3 a4 x72_15 = some r) ∧ Aside0 (kq ≤ k) ∧ Aside0 (Below w.heap.size w wc))
      case first =>
        have H := HC16.out
        clear HC16
        by_cases c19 : t125 = 0
        · rw [if_pos c19] at H
          have c19b0 : (t125 == 0) = true := beq_iff_eq.mpr c19
          have c19b1 : (t125 != 0) = false := bne_eq_false_iff_eq.mpr c19
          clear c19
          (first | rw [c19b0] | (simp only [i64_w, i32_w]; rw [c19b0]) | skip)
          by_cases c20 : t127 = 0
          · rw [if_pos c20] at H
            have c20b0 : (t127 == 0) = true := beq_iff_eq.mpr c20
            have c20b1 : (t127 != 0) = false := bne_eq_false_iff_eq.mpr c20
            clear c20
            replace H := Option.bind_eq_some_iff.mp H
            obtain ⟨t128, A210, H⟩ := H
            replace H : ((le_Trim.f t126).bind fun t129 => (if t128.toList = t129.toList then (if (t126.size : Int) = (ji14) then ((doorwardlaw01_alive.f k).bind fun t130 => (doorwardlaw01_LeWide.j0 k ji10 x6_a3 a4 (!t130))) else (doorwardlaw01_LeWide.j0 k ji10 x6_a3 a4 true)) else (doorwardlaw01_LeWide.j0 k ji10 x6_a3 a4 true))) = some r := H
            have A21 := Aside0.mk A210
            clear A210
            replace H := Option.bind_eq_some_iff.mp H
            obtain ⟨t129, A220, H⟩ := H
            replace H : (if t128.toList = t129.toList then (if (t126.size : Int) = (ji14) then ((doorwardlaw01_alive.f k).bind fun t130 => (doorwardlaw01_LeWide.j0 k ji10 x6_a3 a4 (!t130))) else (doorwardlaw01_LeWide.j0 k ji10 x6_a3 a4 true)) else (doorwardlaw01_LeWide.j0 k ji10 x6_a3 a4 true)) = some r := H
            have A22 := Aside0.mk A220
            clear A220
            by_cases c23 : t128.toList = t129.toList
            · rw [if_pos c23] at H
              have c23b0 : (t128.toList == t129.toList) = true := beq_iff_eq.mpr c23
              have c23b1 : (t128.toList != t129.toList) = false := bne_eq_false_iff_eq.mpr c23
              clear c23
              by_cases c25 : (t126.size : Int) = (ji14)
              · rw [if_pos c25] at H
                have c25b0 : ((t126.size : Int) == (ji14)) = true := beq_iff_eq.mpr c25
                have c25b1 : ((t126.size : Int) != (ji14)) = false := bne_eq_false_iff_eq.mpr c25
                clear c25
                replace H := Option.bind_eq_some_iff.mp H
                obtain ⟨t130, A260, H⟩ := H
                replace H : (doorwardlaw01_LeWide.j0 k ji10 x6_a3 a4 (!t130)) = some r := H
                have A26 := Aside0.mk A260
                clear A260
                have H' := Aside0.mk H
                clear H
                go_wp2_with (first | (go_at_call 10; (first | (with_reducible refine (le_Trim.calls t124 t128 _ A21.out).mono ?_) | (refine calls_of_args ?hfit_ ((le_Trim.calls t124 t128 _ A21.out).mono ?_); (case hfit_ => (first | rfl | (simp; done) | (simp [*]; done) | (simp; omega) | (simp [ByteArray.size_extract]; omega))))); rintro e w' ⟨rfl, ⟨nd, rfl⟩⟩) | (go_at_call 10; (first | (with_reducible refine (le_Trim.calls t126 t129 _ A22.out).mono ?_) | (refine calls_of_args ?hfit_ ((le_Trim.calls t126 t129 _ A22.out).mono ?_); (case hfit_ => (first | rfl | (simp; done) | (simp [*]; done) | (simp; omega) | (simp [ByteArray.size_extract]; omega))))); rintro e w' ⟨rfl, ⟨nd, rfl⟩⟩) | (go_at_call 9; (first | (with_reducible refine (doorwardlaw01_alive.calls k  t130 _ A26.out).mono ?_) | (refine calls_of_args ?hfit_ ((doorwardlaw01_alive.calls k  t130 _ A26.out).mono ?_); (case hfit_ => (first | rfl | (simp; done) | (simp [*]; done) | (simp; omega) | (simp [ByteArray.size_extract]; omega))))); rintro e w27 ⟨rfl, hb⟩; have n0_ := Aside0.mk (below_step (by repeat (first | (with_reducible first | exact HB.out | apply below_alloc | apply pw_below_drewN | apply below_drew1) | exact HB.out)) hb); clear HB; have HB := n0_; clear n0_; (try clear hb); (try clear hb2); (try clear hk); (try clear hi)))
                go_meet
                case rel => exact ⟨_, (!t130), (by first | rfl | (simp; done) | (simp [*]; done)), H', ⟨by first | omega | exact Nat.le_refl _⟩, ⟨by repeat (first | (with_reducible first | exact HB.out | apply below_alloc | apply pw_below_drewN | apply below_drew1) | exact HB.out)⟩⟩
              · rw [if_neg c25] at H
                have c25b0 : ((t126.size : Int) == (ji14)) = false := beq_eq_false_iff_ne.mpr c25
                have c25b1 : ((t126.size : Int) != (ji14)) = true := bne_iff_ne.mpr c25
                have H' := Aside0.mk H
                clear H
                go_wp2_with (first | (go_at_call 10; (first | (with_reducible refine (le_Trim.calls t124 t128 _ A21.out).mono ?_) | (refine calls_of_args ?hfit_ ((le_Trim.calls t124 t128 _ A21.out).mono ?_); (case hfit_ => (first | rfl | (simp; done) | (simp [*]; done) | (simp; omega) | (simp [ByteArray.size_extract]; omega))))); rintro e w' ⟨rfl, ⟨nd, rfl⟩⟩) | (go_at_call 10; (first | (with_reducible refine (le_Trim.calls t126 t129 _ A22.out).mono ?_) | (refine calls_of_args ?hfit_ ((le_Trim.calls t126 t129 _ A22.out).mono ?_); (case hfit_ => (first | rfl | (simp; done) | (simp [*]; done) | (simp; omega) | (simp [ByteArray.size_extract]; omega))))); rintro e w' ⟨rfl, ⟨nd, rfl⟩⟩))
                go_meet
                case rel => exact ⟨_, (true), (by first | rfl | (simp; done) | (simp [*]; done)), H', ⟨by first | omega | exact Nat.le_refl _⟩, ⟨by repeat (first | (with_reducible first | exact HB.out | apply below_alloc | apply pw_below_drewN | apply below_drew1) | exact HB.out)⟩⟩
            · rw [if_neg c23] at H
              have c23b0 : (t128.toList == t129.toList) = false := beq_eq_false_iff_ne.mpr c23
              have c23b1 : (t128.toList != t129.toList) = true := bne_iff_ne.mpr c23
              have H' := Aside0.mk H
              clear H
              go_wp2_with (first | (go_at_call 10; (first | (with_reducible refine (le_Trim.calls t124 t128 _ A21.out).mono ?_) | (refine calls_of_args ?hfit_ ((le_Trim.calls t124 t128 _ A21.out).mono ?_); (case hfit_ => (first | rfl | (simp; done) | (simp [*]; done) | (simp; omega) | (simp [ByteArray.size_extract]; omega))))); rintro e w' ⟨rfl, ⟨nd, rfl⟩⟩) | (go_at_call 10; (first | (with_reducible refine (le_Trim.calls t126 t129 _ A22.out).mono ?_) | (refine calls_of_args ?hfit_ ((le_Trim.calls t126 t129 _ A22.out).mono ?_); (case hfit_ => (first | rfl | (simp; done) | (simp [*]; done) | (simp; omega) | (simp [ByteArray.size_extract]; omega))))); rintro e w' ⟨rfl, ⟨nd, rfl⟩⟩))
              go_meet
              case rel => exact ⟨_, (true), (by first | rfl | (simp; done) | (simp [*]; done)), H', ⟨by first | omega | exact Nat.le_refl _⟩, ⟨by repeat (first | (with_reducible first | exact HB.out | apply below_alloc | apply pw_below_drewN | apply below_drew1) | exact HB.out)⟩⟩
          · rw [if_neg c20] at H
            have c20b0 : (t127 == 0) = false := beq_eq_false_iff_ne.mpr c20
            have c20b1 : (t127 != 0) = true := bne_iff_ne.mpr c20
            have H' := Aside0.mk H
            clear H
            go_wp2
            go_meet
            case rel => exact ⟨_, (true), (by first | rfl | (simp; done) | (simp [*]; done)), H', ⟨by first | omega | exact Nat.le_refl _⟩, ⟨by repeat (first | (with_reducible first | exact HB.out | apply below_alloc | apply pw_below_drewN | apply below_drew1) | exact HB.out)⟩⟩
        · rw [if_neg c19] at H
          have c19b0 : (t125 == 0) = false := beq_eq_false_iff_ne.mpr c19
          have c19b1 : (t125 != 0) = true := bne_iff_ne.mpr c19
          (first | rw [c19b0] | (simp only [i64_w, i32_w]; rw [c19b0]) | skip)
          replace H := Option.bind_eq_some_iff.mp H
          obtain ⟨t131, A280, H⟩ := H
          replace H : (doorwardlaw01_LeWide.j0 k ji10 x6_a3 a4 (!t131)) = some r := H
          have A28 := Aside0.mk A280
          clear A280
          have H' := Aside0.mk H
          clear H
          go_wp2_with (first | (go_at_call 9; (first | (with_reducible refine (doorwardlaw01_alive.calls k  t131 _ A28.out).mono ?_) | (refine calls_of_args ?hfit_ ((doorwardlaw01_alive.calls k  t131 _ A28.out).mono ?_); (case hfit_ => (first | rfl | (simp; done) | (simp [*]; done) | (simp; omega) | (simp [ByteArray.size_extract]; omega))))); rintro e w29 ⟨rfl, hb⟩; have n0_ := Aside0.mk (below_step (by repeat (first | (with_reducible first | exact HB.out | apply below_alloc | apply pw_below_drewN | apply below_drew1) | exact HB.out)) hb); clear HB; have HB := n0_; clear n0_; (try clear hb); (try clear hb2); (try clear hk); (try clear hi)))
          go_meet
          case rel => exact ⟨_, (!t131), (by first | rfl | (simp; done) | (simp [*]; done)), H', ⟨by first | omega | exact Nat.le_refl _⟩, ⟨by repeat (first | (with_reducible first | exact HB.out | apply below_alloc | apply pw_below_drewN | apply below_drew1) | exact HB.out)⟩⟩
      case rest =>
        clear HC16
        try clear c1
        try clear c2
        try clear p2
        try clear c5
        try clear c7
        try clear c7b0
        try clear c7b1
        try clear c8
        try clear c8b0
        try clear c8b1
        try clear c12
        try clear c19
        try clear c19b0
        try clear c19b1
        try clear c20
        try clear c20b0
        try clear c20b1
        try clear c23
        try clear c23b0
        try clear c23b1
        try clear c24
        try clear c24b0
        try clear c25
        try clear c25b0
        try clear c25b1
        obtain ⟨kq, x72_15, rfl, HA, HJ15, HB⟩ := hcut
        cases kq with
        | zero => exact absurd HA.out (by simp [doorwardlaw01_LeWide.j0])
        | succ kj15 =>
          have H := HA.out
          clear HA
          simp only [doorwardlaw01_LeWide.j0] at H
          by_cases c30 : x72_15 = true
          · subst c30
            have H1 : (some false) = some r := by rw [if_pos rfl] at H; exact H
            clear H
            have H := H1
            clear H1
            obtain rfl := Option.some.inj H
            go_wp2
            go_ret
            exact ⟨by first | rfl | (rw [show ∀ n_ : Int, -9223372036854775808 ≤ n_ → n_ < 9223372036854775808 → wrap64 n_ = n_ from fun n_ h1_ h2_ => by unfold wrap64; omega] <;> first | rfl | omega) | (simp [errW_none, errW_some] <;> rfl) | (simp only [← hji6, ← hji9, ← hji10, ← hji11, ← hji12, ← hji14]; first | rfl | (simp [errW_none, errW_some] <;> rfl)) | (simp [*, errW_none, errW_some] <;> rfl), by repeat (first | (with_reducible first | exact HB.out | apply below_alloc | apply pw_below_drewN | apply below_drew1) | exact HB.out)⟩
          · replace c30 := Bool.eq_false_iff.mpr c30
            subst c30
            have H1 : ((le_Get.f kj15 x6_a3 (mn (mx a4 0) (x6_a3.size : Int)) ji10).bind fun bt132 => (if 0 ≤ (mn (mx a4 0) (x6_a3.size : Int)) then (if (mn (mx a4 0) (x6_a3.size : Int)) ≤ (x6_a3.size : Int) then ((le_Get.f kj15 (x6_a3.extract ((mn (mx a4 0) (x6_a3.size : Int)) : Int).toNat x6_a3.size) 0 ji10).bind fun bt135 => (if bt132.1 = bt135.1 then (if bt132.2.2 = bt135.2.2 then (if bt132.2.2 = 0 then (some (bt132.2.1 == (wrap64 (bt135.2.1 + (mn (mx a4 0) (x6_a3.size : Int)))))) else (some true)) else (some false)) else (some false))) else (none)) else (none))) = some r := by rw [if_neg (show ¬ (false = true) by decide)] at H; exact H
            clear H
            have H := H1
            clear H1
            obtain ⟨ji31, hji31⟩ : ∃ j_ : Int, (mx a4 0) = j_ := ⟨_, rfl⟩
            replace H : ((le_Get.f kj15 x6_a3 (mn (ji31) (x6_a3.size : Int)) ji10).bind fun bt132 => (if 0 ≤ (mn (ji31) (x6_a3.size : Int)) then (if (mn (ji31) (x6_a3.size : Int)) ≤ (x6_a3.size : Int) then ((le_Get.f kj15 (x6_a3.extract ((mn (ji31) (x6_a3.size : Int)) : Int).toNat x6_a3.size) 0 ji10).bind fun bt135 => (if bt132.1 = bt135.1 then (if bt132.2.2 = bt135.2.2 then (if bt132.2.2 = 0 then (some (bt132.2.1 == (wrap64 (bt135.2.1 + (mn (ji31) (x6_a3.size : Int)))))) else (some true)) else (some false)) else (some false))) else (none)) else (none))) = some r := by first | (rw [hji31] at H; exact H) | (simp only [hji31] at H ⊢; exact H)
            have hji31_ : (if a4 < 0 then 0 else a4) = ji31 := hji31
            obtain ⟨ji32, hji32⟩ : ∃ j_ : Int, (mn (ji31) (x6_a3.size : Int)) = j_ := ⟨_, rfl⟩
            replace H : ((le_Get.f kj15 x6_a3 (ji32) ji10).bind fun bt132 => (if 0 ≤ (ji32) then (if (ji32) ≤ (x6_a3.size : Int) then ((le_Get.f kj15 (x6_a3.extract ((ji32) : Int).toNat x6_a3.size) 0 ji10).bind fun bt135 => (if bt132.1 = bt135.1 then (if bt132.2.2 = bt135.2.2 then (if bt132.2.2 = 0 then (some (bt132.2.1 == (wrap64 (bt135.2.1 + (ji32))))) else (some true)) else (some false)) else (some false))) else (none)) else (none))) = some r := by first | (rw [hji32] at H; exact H) | (simp only [hji32] at H ⊢; exact H)
            have hji32_ : (if (x6_a3.size : Int) < (ji31) then (x6_a3.size : Int) else (ji31)) = ji32 := hji32
            replace H := Option.bind_eq_some_iff.mp H
            obtain ⟨⟨t132, t133, t134⟩, A330, H⟩ := H
            replace H : (if 0 ≤ (ji32) then (if (ji32) ≤ (x6_a3.size : Int) then ((le_Get.f kj15 (x6_a3.extract ((ji32) : Int).toNat x6_a3.size) 0 ji10).bind fun bt135 => (if t132 = bt135.1 then (if t134 = bt135.2.2 then (if t134 = 0 then (some (t133 == (wrap64 (bt135.2.1 + (ji32))))) else (some true)) else (some false)) else (some false))) else (none)) else (none)) = some r := H
            have A33 := Aside0.mk A330
            clear A330
            by_cases c34 : 0 ≤ (ji32)
            · rw [if_pos c34] at H
              have c34b0 := eq_true c34
              have c34b1 : decide (0 ≤ (ji32)) = true := decide_eq_true c34
              clear c34
              by_cases c35 : (ji32) ≤ (x6_a3.size : Int)
              · rw [if_pos c35] at H
                have c35b0 := eq_true c35
                have c35b1 : decide ((ji32) ≤ (x6_a3.size : Int)) = true := decide_eq_true c35
                clear c35
                replace H := Option.bind_eq_some_iff.mp H
                obtain ⟨⟨t135, t136, t137⟩, A360, H⟩ := H
                replace H : (if t132 = t135 then (if t134 = t137 then (if t134 = 0 then (some (t133 == (wrap64 (t136 + (ji32))))) else (some true)) else (some false)) else (some false)) = some r := H
                have A36 := Aside0.mk A360
                clear A360
                by_cases c37 : t132 = t135
                · rw [if_pos c37] at H
                  have c37b0 : (t132 == t135) = true := beq_iff_eq.mpr c37
                  have c37b1 : (t132 != t135) = false := bne_eq_false_iff_eq.mpr c37
                  clear c37
                  by_cases c38 : t134 = t137
                  · rw [if_pos c38] at H
                    have c38b0 : (t134 == t137) = true := beq_iff_eq.mpr c38
                    have c38b1 : (t134 != t137) = false := bne_eq_false_iff_eq.mpr c38
                    clear c38
                    by_cases c39 : t134 = 0
                    · rw [if_pos c39] at H
                      have c39b0 : (t134 == 0) = true := beq_iff_eq.mpr c39
                      have c39b1 : (t134 != 0) = false := bne_eq_false_iff_eq.mpr c39
                      clear c39
                      obtain rfl := Option.some.inj H
                      go_wp2_with (first | ((with_reducible refine gate_callee (f := 13) rfl ?_); refine goesL_ (some 82) rfl rfl Tryd.func13 (by kernel_rfl) rfl #[.string x6_a3, .int .i64 ji32, .int .i64 ji10] rfl (by (try simp only [List.map_toArray, List.map_cons, List.map_nil]); first | done | (simp only [hji10, hji32, hji6]; rfl) | rfl | (simp only [List.length_drop, List.length_take]; rfl) | (simp [Act.eval, IntKind.wrap, IntKind.bits, IntKind.signed]; (repeat (first | (rename (decide _ = false) => h_; replace h_ := of_decide_eq_false h_) | (rename (decide _ = true) => h_; replace h_ := of_decide_eq_true h_))); omega)) ?_; (with_reducible refine (le_Get.calls kj15 x6_a3 ji32 ji10 t132 t133 t134 _ A33.out).mono ?_); rintro e w' ⟨rfl, ⟨nd, rfl⟩⟩; refine ⟨_, rfl, ?_⟩) | ((with_reducible refine gate_callee (f := 13) rfl ?_); refine goesL_ (some 91) rfl rfl Tryd.func13 (by kernel_rfl) rfl #[.string (x6_a3.extract ((ji32) : Int).toNat x6_a3.size), .int .i64 0, .int .i64 ji10] rfl (by (try simp only [List.map_toArray, List.map_cons, List.map_nil]); first | done | (simp only [hji10, hji32, hji6]; rfl) | rfl | (simp only [List.length_drop, List.length_take]; rfl) | (simp [Act.eval, IntKind.wrap, IntKind.bits, IntKind.signed]; (repeat (first | (rename (decide _ = false) => h_; replace h_ := of_decide_eq_false h_) | (rename (decide _ = true) => h_; replace h_ := of_decide_eq_true h_))); omega)) ?_; (with_reducible refine (le_Get.calls kj15 (x6_a3.extract ((ji32) : Int).toNat x6_a3.size) 0 ji10 t135 t136 t137 _ A36.out).mono ?_); rintro e w' ⟨rfl, ⟨nd, rfl⟩⟩; refine ⟨_, rfl, ?_⟩))
                      go_ret
                      exact ⟨by first | rfl | (rw [show ∀ n_ : Int, -9223372036854775808 ≤ n_ → n_ < 9223372036854775808 → wrap64 n_ = n_ from fun n_ h1_ h2_ => by unfold wrap64; omega] <;> first | rfl | omega) | (simp [errW_none, errW_some] <;> rfl) | (simp only [← hji6, ← hji9, ← hji10, ← hji11, ← hji12, ← hji14, ← hji31, ← hji32]; first | rfl | (simp [errW_none, errW_some] <;> rfl)) | (simp [*, errW_none, errW_some] <;> rfl), by repeat (first | (with_reducible first | exact HB.out | apply below_alloc | apply pw_below_drewN | apply below_drew1) | exact HB.out)⟩
                    · rw [if_neg c39] at H
                      have c39b0 : (t134 == 0) = false := beq_eq_false_iff_ne.mpr c39
                      have c39b1 : (t134 != 0) = true := bne_iff_ne.mpr c39
                      obtain rfl := Option.some.inj H
                      go_wp2_with (first | ((with_reducible refine gate_callee (f := 13) rfl ?_); refine goesL_ (some 82) rfl rfl Tryd.func13 (by kernel_rfl) rfl #[.string x6_a3, .int .i64 ji32, .int .i64 ji10] rfl (by (try simp only [List.map_toArray, List.map_cons, List.map_nil]); first | done | (simp only [hji10, hji32, hji6]; rfl) | rfl | (simp only [List.length_drop, List.length_take]; rfl) | (simp [Act.eval, IntKind.wrap, IntKind.bits, IntKind.signed]; (repeat (first | (rename (decide _ = false) => h_; replace h_ := of_decide_eq_false h_) | (rename (decide _ = true) => h_; replace h_ := of_decide_eq_true h_))); omega)) ?_; (with_reducible refine (le_Get.calls kj15 x6_a3 ji32 ji10 t132 t133 t134 _ A33.out).mono ?_); rintro e w' ⟨rfl, ⟨nd, rfl⟩⟩; refine ⟨_, rfl, ?_⟩) | ((with_reducible refine gate_callee (f := 13) rfl ?_); refine goesL_ (some 91) rfl rfl Tryd.func13 (by kernel_rfl) rfl #[.string (x6_a3.extract ((ji32) : Int).toNat x6_a3.size), .int .i64 0, .int .i64 ji10] rfl (by (try simp only [List.map_toArray, List.map_cons, List.map_nil]); first | done | (simp only [hji10, hji32, hji6]; rfl) | rfl | (simp only [List.length_drop, List.length_take]; rfl) | (simp [Act.eval, IntKind.wrap, IntKind.bits, IntKind.signed]; (repeat (first | (rename (decide _ = false) => h_; replace h_ := of_decide_eq_false h_) | (rename (decide _ = true) => h_; replace h_ := of_decide_eq_true h_))); omega)) ?_; (with_reducible refine (le_Get.calls kj15 (x6_a3.extract ((ji32) : Int).toNat x6_a3.size) 0 ji10 t135 t136 t137 _ A36.out).mono ?_); rintro e w' ⟨rfl, ⟨nd, rfl⟩⟩; refine ⟨_, rfl, ?_⟩))
                      go_ret
                      exact ⟨by first | rfl | (rw [show ∀ n_ : Int, -9223372036854775808 ≤ n_ → n_ < 9223372036854775808 → wrap64 n_ = n_ from fun n_ h1_ h2_ => by unfold wrap64; omega] <;> first | rfl | omega) | (simp [errW_none, errW_some] <;> rfl) | (simp only [← hji6, ← hji9, ← hji10, ← hji11, ← hji12, ← hji14, ← hji31, ← hji32]; first | rfl | (simp [errW_none, errW_some] <;> rfl)) | (simp [*, errW_none, errW_some] <;> rfl), by repeat (first | (with_reducible first | exact HB.out | apply below_alloc | apply pw_below_drewN | apply below_drew1) | exact HB.out)⟩
                  · rw [if_neg c38] at H
                    have c38b0 : (t134 == t137) = false := beq_eq_false_iff_ne.mpr c38
                    have c38b1 : (t134 != t137) = true := bne_iff_ne.mpr c38
                    obtain rfl := Option.some.inj H
                    go_wp2_with (first | ((with_reducible refine gate_callee (f := 13) rfl ?_); refine goesL_ (some 82) rfl rfl Tryd.func13 (by kernel_rfl) rfl #[.string x6_a3, .int .i64 ji32, .int .i64 ji10] rfl (by (try simp only [List.map_toArray, List.map_cons, List.map_nil]); first | done | (simp only [hji10, hji32, hji6]; rfl) | rfl | (simp only [List.length_drop, List.length_take]; rfl) | (simp [Act.eval, IntKind.wrap, IntKind.bits, IntKind.signed]; (repeat (first | (rename (decide _ = false) => h_; replace h_ := of_decide_eq_false h_) | (rename (decide _ = true) => h_; replace h_ := of_decide_eq_true h_))); omega)) ?_; (with_reducible refine (le_Get.calls kj15 x6_a3 ji32 ji10 t132 t133 t134 _ A33.out).mono ?_); rintro e w' ⟨rfl, ⟨nd, rfl⟩⟩; refine ⟨_, rfl, ?_⟩) | ((with_reducible refine gate_callee (f := 13) rfl ?_); refine goesL_ (some 91) rfl rfl Tryd.func13 (by kernel_rfl) rfl #[.string (x6_a3.extract ((ji32) : Int).toNat x6_a3.size), .int .i64 0, .int .i64 ji10] rfl (by (try simp only [List.map_toArray, List.map_cons, List.map_nil]); first | done | (simp only [hji10, hji32, hji6]; rfl) | rfl | (simp only [List.length_drop, List.length_take]; rfl) | (simp [Act.eval, IntKind.wrap, IntKind.bits, IntKind.signed]; (repeat (first | (rename (decide _ = false) => h_; replace h_ := of_decide_eq_false h_) | (rename (decide _ = true) => h_; replace h_ := of_decide_eq_true h_))); omega)) ?_; (with_reducible refine (le_Get.calls kj15 (x6_a3.extract ((ji32) : Int).toNat x6_a3.size) 0 ji10 t135 t136 t137 _ A36.out).mono ?_); rintro e w' ⟨rfl, ⟨nd, rfl⟩⟩; refine ⟨_, rfl, ?_⟩))
                    go_ret
                    exact ⟨by first | rfl | (rw [show ∀ n_ : Int, -9223372036854775808 ≤ n_ → n_ < 9223372036854775808 → wrap64 n_ = n_ from fun n_ h1_ h2_ => by unfold wrap64; omega] <;> first | rfl | omega) | (simp [errW_none, errW_some] <;> rfl) | (simp only [← hji6, ← hji9, ← hji10, ← hji11, ← hji12, ← hji14, ← hji31, ← hji32]; first | rfl | (simp [errW_none, errW_some] <;> rfl)) | (simp [*, errW_none, errW_some] <;> rfl), by repeat (first | (with_reducible first | exact HB.out | apply below_alloc | apply pw_below_drewN | apply below_drew1) | exact HB.out)⟩
                · rw [if_neg c37] at H
                  have c37b0 : (t132 == t135) = false := beq_eq_false_iff_ne.mpr c37
                  have c37b1 : (t132 != t135) = true := bne_iff_ne.mpr c37
                  obtain rfl := Option.some.inj H
                  go_wp2_with (first | ((with_reducible refine gate_callee (f := 13) rfl ?_); refine goesL_ (some 82) rfl rfl Tryd.func13 (by kernel_rfl) rfl #[.string x6_a3, .int .i64 ji32, .int .i64 ji10] rfl (by (try simp only [List.map_toArray, List.map_cons, List.map_nil]); first | done | (simp only [hji10, hji32, hji6]; rfl) | rfl | (simp only [List.length_drop, List.length_take]; rfl) | (simp [Act.eval, IntKind.wrap, IntKind.bits, IntKind.signed]; (repeat (first | (rename (decide _ = false) => h_; replace h_ := of_decide_eq_false h_) | (rename (decide _ = true) => h_; replace h_ := of_decide_eq_true h_))); omega)) ?_; (with_reducible refine (le_Get.calls kj15 x6_a3 ji32 ji10 t132 t133 t134 _ A33.out).mono ?_); rintro e w' ⟨rfl, ⟨nd, rfl⟩⟩; refine ⟨_, rfl, ?_⟩) | ((with_reducible refine gate_callee (f := 13) rfl ?_); refine goesL_ (some 91) rfl rfl Tryd.func13 (by kernel_rfl) rfl #[.string (x6_a3.extract ((ji32) : Int).toNat x6_a3.size), .int .i64 0, .int .i64 ji10] rfl (by (try simp only [List.map_toArray, List.map_cons, List.map_nil]); first | done | (simp only [hji10, hji32, hji6]; rfl) | rfl | (simp only [List.length_drop, List.length_take]; rfl) | (simp [Act.eval, IntKind.wrap, IntKind.bits, IntKind.signed]; (repeat (first | (rename (decide _ = false) => h_; replace h_ := of_decide_eq_false h_) | (rename (decide _ = true) => h_; replace h_ := of_decide_eq_true h_))); omega)) ?_; (with_reducible refine (le_Get.calls kj15 (x6_a3.extract ((ji32) : Int).toNat x6_a3.size) 0 ji10 t135 t136 t137 _ A36.out).mono ?_); rintro e w' ⟨rfl, ⟨nd, rfl⟩⟩; refine ⟨_, rfl, ?_⟩))
                  go_ret
                  exact ⟨by first | rfl | (rw [show ∀ n_ : Int, -9223372036854775808 ≤ n_ → n_ < 9223372036854775808 → wrap64 n_ = n_ from fun n_ h1_ h2_ => by unfold wrap64; omega] <;> first | rfl | omega) | (simp [errW_none, errW_some] <;> rfl) | (simp only [← hji6, ← hji9, ← hji10, ← hji11, ← hji12, ← hji14, ← hji31, ← hji32]; first | rfl | (simp [errW_none, errW_some] <;> rfl)) | (simp [*, errW_none, errW_some] <;> rfl), by repeat (first | (with_reducible first | exact HB.out | apply below_alloc | apply pw_below_drewN | apply below_drew1) | exact HB.out)⟩
              · rw [if_neg c35] at H
                exact absurd H (by simp)
            · rw [if_neg c34] at H
              exact absurd H (by simp)
    · rw [if_neg c8] at H
      exact absurd H (by simp)
  · rw [if_neg c7] at H
    exact absurd H (by simp)

/-- THE ONE PURE STATEMENT of doorwardlaw01_LeWide: yours. -/
def doorwardlaw01_LeWide.Pure : Prop := ∀ (a0 : Int) (a1 : Int) (a2 : Int) (a3 : ByteArray) (a4 : Int), (Lit.int .u64 a0).wf = true → (Lit.int .i64 a1).wf = true → (Lit.int .i64 a2).wf = true → a3.size ≤ 140737488351232 → (Lit.int .i64 a4).wf = true → ∃ k, doorwardlaw01_LeWide.f k a0 a1 a2 a3 a4 = some true
theorem doorwardlaw01_LeWide.walk (P : doorwardlaw01_LeWide.Pure) (a0 : Int) (a1 : Int) (a2 : Int) (a3 : ByteArray) (a4 : Int) (w : World) (w0 : (Lit.int .u64 a0).wf = true) (w1 : (Lit.int .i64 a1).wf = true) (w2 : (Lit.int .i64 a2).wf = true) (w3 : a3.size ≤ 140737488351232) (w4 : (Lit.int .i64 a4).wf = true) :
    Calls Tryd.prog 5 #[.int .u64 a0, .int .i64 a1, .int .i64 a2, .string a3, .int .i64 a4] w fun e w' => e = .returned (.bool true) ∧ Below w.heap.size w w' := by
  obtain ⟨k, h⟩ := P a0 a1 a2 a3 a4 w0 w1 w2 w3 w4
  refine (doorwardlaw01_LeWide.calls k a0 a1 a2 a3 a4 true w h).mono ?_
  rintro e w' ⟨rfl, hd⟩
  exact ⟨rfl, hd⟩

end Go.Proofs.YtnglmibicdjhcaaDoor.Q
