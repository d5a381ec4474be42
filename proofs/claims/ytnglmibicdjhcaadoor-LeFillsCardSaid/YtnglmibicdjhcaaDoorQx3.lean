/- Go functions as Lean functions, each with a proof that the Go code comes to its answers; written by a program of this repository (mk.py, over the printer of the kit). Lean checks it. -/
import Derived.Test.YtnglmibicdjhcaaDoorQx0
import Derived.Test.YtnglmibicdjhcaaDoorQx1
import Derived.Test.YtnglmibicdjhcaaDoorQx2
namespace Go.Proofs.YtnglmibicdjhcaaDoor.Q
open Go.RowKit Go.Proofs.YtnglmibicdjhcaaDoorW.PrintWords Go.Proofs.YtnglmibicdjhcaaDoorW.PrintLast Go.Proofs.YtnglmibicdjhcaaDoorW.PrintMore
attribute [local go_sem] max2_int min2_int max_two min_two max_three min_three max_four min_four   -- for this text's walks alone
set_option linter.unusedVariables false
set_option linter.unusedSimpArgs false

/-! ### doorwardlaw01_LeFills: function 4 -/
def doorwardlaw01_LeFills.j0 : Nat → ByteArray → ByteArray → Bool → Option (Bool)
  | 0, _, _, _ => none
  | k + 1, x0, x5, x69 => if x69 = true then (some false) else (if x0.size + 1 ≤ 9223372036854775807 then ((le_Fill.f (x0 ++ (⟨#[120]⟩ : ByteArray)) (x0.size : Int)).bind fun bt121 => ((doorwardlaw01_alive.f k).bind fun t123 => (if t123 = true then (if bt121.2 = 2 then (if (x5.size : Int) ≤ (x0.size : Int) then (if 0 ≤ (x5.size : Int) then (if (x0.extract 0 ((x5.size : Int) : Int).toNat).toList = x5.toList then (if x5.toList = ([] : List UInt8) then (some true) else (if 0 ≤ (wrap64 ((x5.size : Int) - 1)) then (if (wrap64 ((x5.size : Int) - 1)) < (x5.size : Int) then (some ((bt x5 (wrap64 ((x5.size : Int) - 1))) != 0)) else (none)) else (none))) else (some false)) else (none)) else (some false)) else (some false)) else (some false)))) else (none))
def doorwardlaw01_LeFills.f (k : Nat) (a0 : ByteArray) (a1 : Int) : Option (Bool) := if 0 ≤ (mn (a0.size : Int) 3000) then (if (mn (a0.size : Int) 3000) ≤ (a0.size : Int) then ((le_Trim.f (a0.extract 0 ((mn (a0.size : Int) 3000) : Int).toNat)).bind fun t114 => ((le_Fill.f t114 ((a0.extract 0 ((mn (a0.size : Int) 3000) : Int).toNat).size : Int)).bind fun bt115 => ((le_Fill.f (a0.extract 0 ((mn (a0.size : Int) 3000) : Int).toNat) (wrap64 (((a0.extract 0 ((mn (a0.size : Int) 3000) : Int).toNat).size : Int) + (mn (mx a1 0) 3000)))).bind fun bt117 => (if bt115.2 = 0 then (if bt117.2 = 0 then (if bt115.1.toList = (a0.extract 0 ((mn (a0.size : Int) 3000) : Int).toNat).toList then (if (bt117.1.size : Int) = (wrap64 (((a0.extract 0 ((mn (a0.size : Int) 3000) : Int).toNat).size : Int) + (mn (mx a1 0) 3000))) then ((le_Trim.f bt117.1).bind fun t119 => (if t119.toList = t114.toList then ((le_Trim.f t114).bind fun t120 => (doorwardlaw01_LeFills.j0 k (a0.extract 0 ((mn (a0.size : Int) 3000) : Int).toNat) t114 (t120.toList != t114.toList))) else (doorwardlaw01_LeFills.j0 k (a0.extract 0 ((mn (a0.size : Int) 3000) : Int).toNat) t114 true))) else (doorwardlaw01_LeFills.j0 k (a0.extract 0 ((mn (a0.size : Int) 3000) : Int).toNat) t114 true)) else (doorwardlaw01_LeFills.j0 k (a0.extract 0 ((mn (a0.size : Int) 3000) : Int).toNat) t114 true)) else (doorwardlaw01_LeFills.j0 k (a0.extract 0 ((mn (a0.size : Int) 3000) : Int).toNat) t114 true)) else (doorwardlaw01_LeFills.j0 k (a0.extract 0 ((mn (a0.size : Int) 3000) : Int).toNat) t114 true))))) else (none)) else (none)
theorem doorwardlaw01_LeFills.mono_l : ∀ k, (∀ y0 y1 y2, LeO (doorwardlaw01_LeFills.j0 k y0 y1 y2) (doorwardlaw01_LeFills.j0 (k + 1) y0 y1 y2))
  | 0 => fun _ _ _ r h => by simp [doorwardlaw01_LeFills.j0] at h
  | k + 1 => by
    have ih0 := doorwardlaw01_LeFills.mono_l k
    · intro y0 y1 y2
      unfold doorwardlaw01_LeFills.j0
      repeat' first
      | (with_reducible exact ih0 _ _ _)
      | (with_reducible exact doorwardlaw01_alive.mono _)
      | (with_reducible exact LeO.refl _)
      | (with_reducible exact LeO.none _)
      | (with_reducible refine LeO.ite ?_ ?_)
      | (with_reducible refine LeO.bind ?_ (fun _ => ?_))
      | exact ih0 _ _ _
      | exact doorwardlaw01_alive.mono _
      | exact LeO.none _
      | refine LeO.ite ?_ ?_
      | refine LeO.bind ?_ (fun _ => ?_)
theorem doorwardlaw01_LeFills.mono : ∀ a0 a1 k, LeO (doorwardlaw01_LeFills.f k a0 a1) (doorwardlaw01_LeFills.f (k + 1) a0 a1) := by
  intro a0 a1 k
  have ih0 := doorwardlaw01_LeFills.mono_l k
  unfold doorwardlaw01_LeFills.f
  repeat' first
      | (with_reducible exact ih0 _ _ _)
      | (with_reducible exact doorwardlaw01_alive.mono _)
      | (with_reducible exact LeO.refl _)
      | (with_reducible exact LeO.none _)
      | (with_reducible refine LeO.ite ?_ ?_)
      | (with_reducible refine LeO.bind ?_ (fun _ => ?_))
      | exact ih0 _ _ _
      | exact doorwardlaw01_alive.mono _
      | exact LeO.none _
      | refine LeO.ite ?_ ?_
      | refine LeO.bind ?_ (fun _ => ?_)
set_option maxHeartbeats 8000000 in
set_option maxRecDepth 100000 in
theorem doorwardlaw01_LeFills.calls (k : Nat) (a0 : ByteArray) (a1 : Int) (r : Bool) (w : World) (h : doorwardlaw01_LeFills.f k a0 a1 = some r) :
    Calls Tryd.prog 4 #[.string a0, .int .i64 a1] w fun e w' => e = .returned (.bool r) ∧ Below w.heap.size w w' := by
  have HB := Aside0.mk (Below.refl w.heap.size w)
  have H : (if 0 ≤ (mn (a0.size : Int) 3000) then (if (mn (a0.size : Int) 3000) ≤ (a0.size : Int) then ((le_Trim.f (a0.extract 0 ((mn (a0.size : Int) 3000) : Int).toNat)).bind fun t114 => ((le_Fill.f t114 ((a0.extract 0 ((mn (a0.size : Int) 3000) : Int).toNat).size : Int)).bind fun bt115 => ((le_Fill.f (a0.extract 0 ((mn (a0.size : Int) 3000) : Int).toNat) (wrap64 (((a0.extract 0 ((mn (a0.size : Int) 3000) : Int).toNat).size : Int) + (mn (mx a1 0) 3000)))).bind fun bt117 => (if bt115.2 = 0 then (if bt117.2 = 0 then (if bt115.1.toList = (a0.extract 0 ((mn (a0.size : Int) 3000) : Int).toNat).toList then (if (bt117.1.size : Int) = (wrap64 (((a0.extract 0 ((mn (a0.size : Int) 3000) : Int).toNat).size : Int) + (mn (mx a1 0) 3000))) then ((le_Trim.f bt117.1).bind fun t119 => (if t119.toList = t114.toList then ((le_Trim.f t114).bind fun t120 => (doorwardlaw01_LeFills.j0 k (a0.extract 0 ((mn (a0.size : Int) 3000) : Int).toNat) t114 (t120.toList != t114.toList))) else (doorwardlaw01_LeFills.j0 k (a0.extract 0 ((mn (a0.size : Int) 3000) : Int).toNat) t114 true))) else (doorwardlaw01_LeFills.j0 k (a0.extract 0 ((mn (a0.size : Int) 3000) : Int).toNat) t114 true)) else (doorwardlaw01_LeFills.j0 k (a0.extract 0 ((mn (a0.size : Int) 3000) : Int).toNat) t114 true)) else (doorwardlaw01_LeFills.j0 k (a0.extract 0 ((mn (a0.size : Int) 3000) : Int).toNat) t114 true)) else (doorwardlaw01_LeFills.j0 k (a0.extract 0 ((mn (a0.size : Int) 3000) : Int).toNat) t114 true))))) else (none)) else (none)) = some r := h
  clear h
  obtain ⟨ji3, hji3⟩ : ∃ j_ : Int, (mn (a0.size : Int) 3000) = j_ := ⟨_, rfl⟩
  replace H : (if 0 ≤ (ji3) then (if (ji3) ≤ (a0.size : Int) then ((le_Trim.f (a0.extract 0 ((ji3) : Int).toNat)).bind fun t114 => ((le_Fill.f t114 ((a0.extract 0 ((ji3) : Int).toNat).size : Int)).bind fun bt115 => ((le_Fill.f (a0.extract 0 ((ji3) : Int).toNat) (wrap64 (((a0.extract 0 ((ji3) : Int).toNat).size : Int) + (mn (mx a1 0) 3000)))).bind fun bt117 => (if bt115.2 = 0 then (if bt117.2 = 0 then (if bt115.1.toList = (a0.extract 0 ((ji3) : Int).toNat).toList then (if (bt117.1.size : Int) = (wrap64 (((a0.extract 0 ((ji3) : Int).toNat).size : Int) + (mn (mx a1 0) 3000))) then ((le_Trim.f bt117.1).bind fun t119 => (if t119.toList = t114.toList then ((le_Trim.f t114).bind fun t120 => (doorwardlaw01_LeFills.j0 k (a0.extract 0 ((ji3) : Int).toNat) t114 (t120.toList != t114.toList))) else (doorwardlaw01_LeFills.j0 k (a0.extract 0 ((ji3) : Int).toNat) t114 true))) else (doorwardlaw01_LeFills.j0 k (a0.extract 0 ((ji3) : Int).toNat) t114 true)) else (doorwardlaw01_LeFills.j0 k (a0.extract 0 ((ji3) : Int).toNat) t114 true)) else (doorwardlaw01_LeFills.j0 k (a0.extract 0 ((ji3) : Int).toNat) t114 true)) else (doorwardlaw01_LeFills.j0 k (a0.extract 0 ((ji3) : Int).toNat) t114 true))))) else (none)) else (none)) = some r := by first | (rw [hji3] at H; exact H) | (simp only [hji3] at H ⊢; exact H)
  (try (have hji3h : ji3 ≤ 3000 := by (rw [← hji3]; unfold mn; (repeat' split) <;> omega)))
  (try (have hji3g : ji3 ≤ 64 := by omega))
  (try (have hji3l : 0 ≤ ji3 := by (rw [← hji3]; unfold mn; (repeat' split) <;> omega)))
  (try (have hji3m : 0 ≤ ji3 := by omega))
  have hji3_ : (if 3000 < (a0.size : Int) then 3000 else (a0.size : Int)) = ji3 := hji3
  obtain ⟨x3_a0, hx3_a0⟩ : ∃ x_ : ByteArray, (a0.extract 0 ((ji3) : Int).toNat) = x_ := ⟨_, rfl⟩
  (try simp only [hx3_a0] at H)
  by_cases c4 : 0 ≤ (ji3)
  · rw [if_pos c4] at H
    have c4b0 := eq_true c4
    have c4b1 : decide (0 ≤ (ji3)) = true := decide_eq_true c4
    clear c4
    by_cases c5 : (ji3) ≤ (a0.size : Int)
    · rw [if_pos c5] at H
      have c5b0 := eq_true c5
      have c5b1 : decide ((ji3) ≤ (a0.size : Int)) = true := decide_eq_true c5
      clear c5
      obtain ⟨ji6, hji6⟩ : ∃ j_ : Int, (mx a1 0) = j_ := ⟨_, rfl⟩
      replace H : ((le_Trim.f x3_a0).bind fun t114 => ((le_Fill.f t114 (x3_a0.size : Int)).bind fun bt115 => ((le_Fill.f x3_a0 (wrap64 ((x3_a0.size : Int) + (mn (ji6) 3000)))).bind fun bt117 => (if bt115.2 = 0 then (if bt117.2 = 0 then (if bt115.1.toList = x3_a0.toList then (if (bt117.1.size : Int) = (wrap64 ((x3_a0.size : Int) + (mn (ji6) 3000))) then ((le_Trim.f bt117.1).bind fun t119 => (if t119.toList = t114.toList then ((le_Trim.f t114).bind fun t120 => (doorwardlaw01_LeFills.j0 k x3_a0 t114 (t120.toList != t114.toList))) else (doorwardlaw01_LeFills.j0 k x3_a0 t114 true))) else (doorwardlaw01_LeFills.j0 k x3_a0 t114 true)) else (doorwardlaw01_LeFills.j0 k x3_a0 t114 true)) else (doorwardlaw01_LeFills.j0 k x3_a0 t114 true)) else (doorwardlaw01_LeFills.j0 k x3_a0 t114 true))))) = some r := by first | (rw [hji6] at H; exact H) | (simp only [hji6] at H ⊢; exact H)
      (try (have hji6l : 0 ≤ ji6 := by (rw [← hji6]; unfold mx; (repeat' split) <;> omega)))
      (try (have hji6m : 0 ≤ ji6 := by omega))
      have hji6_ : (if a1 < 0 then 0 else a1) = ji6 := hji6
      obtain ⟨ji7, hji7⟩ : ∃ j_ : Int, (mn (ji6) 3000) = j_ := ⟨_, rfl⟩
      replace H : ((le_Trim.f x3_a0).bind fun t114 => ((le_Fill.f t114 (x3_a0.size : Int)).bind fun bt115 => ((le_Fill.f x3_a0 (wrap64 ((x3_a0.size : Int) + (ji7)))).bind fun bt117 => (if bt115.2 = 0 then (if bt117.2 = 0 then (if bt115.1.toList = x3_a0.toList then (if (bt117.1.size : Int) = (wrap64 ((x3_a0.size : Int) + (ji7))) then ((le_Trim.f bt117.1).bind fun t119 => (if t119.toList = t114.toList then ((le_Trim.f t114).bind fun t120 => (doorwardlaw01_LeFills.j0 k x3_a0 t114 (t120.toList != t114.toList))) else (doorwardlaw01_LeFills.j0 k x3_a0 t114 true))) else (doorwardlaw01_LeFills.j0 k x3_a0 t114 true)) else (doorwardlaw01_LeFills.j0 k x3_a0 t114 true)) else (doorwardlaw01_LeFills.j0 k x3_a0 t114 true)) else (doorwardlaw01_LeFills.j0 k x3_a0 t114 true))))) = some r := by first | (rw [hji7] at H; exact H) | (simp only [hji7] at H ⊢; exact H)
      have hji7_ : (if 3000 < (ji6) then 3000 else (ji6)) = ji7 := hji7
      replace H := Option.bind_eq_some_iff.mp H
      obtain ⟨t114, A80, H⟩ := H
      replace H : ((le_Fill.f t114 (x3_a0.size : Int)).bind fun bt115 => ((le_Fill.f x3_a0 (wrap64 ((x3_a0.size : Int) + (ji7)))).bind fun bt117 => (if bt115.2 = 0 then (if bt117.2 = 0 then (if bt115.1.toList = x3_a0.toList then (if (bt117.1.size : Int) = (wrap64 ((x3_a0.size : Int) + (ji7))) then ((le_Trim.f bt117.1).bind fun t119 => (if t119.toList = t114.toList then ((le_Trim.f t114).bind fun t120 => (doorwardlaw01_LeFills.j0 k x3_a0 t114 (t120.toList != t114.toList))) else (doorwardlaw01_LeFills.j0 k x3_a0 t114 true))) else (doorwardlaw01_LeFills.j0 k x3_a0 t114 true)) else (doorwardlaw01_LeFills.j0 k x3_a0 t114 true)) else (doorwardlaw01_LeFills.j0 k x3_a0 t114 true)) else (doorwardlaw01_LeFills.j0 k x3_a0 t114 true)))) = some r := H
      have A8 := Aside0.mk A80
      clear A80
      replace H := Option.bind_eq_some_iff.mp H
      obtain ⟨⟨t115, t116⟩, A90, H⟩ := H
      replace H : ((le_Fill.f x3_a0 (wrap64 ((x3_a0.size : Int) + (ji7)))).bind fun bt117 => (if t116 = 0 then (if bt117.2 = 0 then (if t115.toList = x3_a0.toList then (if (bt117.1.size : Int) = (wrap64 ((x3_a0.size : Int) + (ji7))) then ((le_Trim.f bt117.1).bind fun t119 => (if t119.toList = t114.toList then ((le_Trim.f t114).bind fun t120 => (doorwardlaw01_LeFills.j0 k x3_a0 t114 (t120.toList != t114.toList))) else (doorwardlaw01_LeFills.j0 k x3_a0 t114 true))) else (doorwardlaw01_LeFills.j0 k x3_a0 t114 true)) else (doorwardlaw01_LeFills.j0 k x3_a0 t114 true)) else (doorwardlaw01_LeFills.j0 k x3_a0 t114 true)) else (doorwardlaw01_LeFills.j0 k x3_a0 t114 true))) = some r := H
      have A9 := Aside0.mk A90
      clear A90
      replace H := Option.bind_eq_some_iff.mp H
      obtain ⟨⟨t117, t118⟩, A100, H⟩ := H
      replace H : (if t116 = 0 then (if t118 = 0 then (if t115.toList = x3_a0.toList then (if (t117.size : Int) = (wrap64 ((x3_a0.size : Int) + (ji7))) then ((le_Trim.f t117).bind fun t119 => (if t119.toList = t114.toList then ((le_Trim.f t114).bind fun t120 => (doorwardlaw01_LeFills.j0 k x3_a0 t114 (t120.toList != t114.toList))) else (doorwardlaw01_LeFills.j0 k x3_a0 t114 true))) else (doorwardlaw01_LeFills.j0 k x3_a0 t114 true)) else (doorwardlaw01_LeFills.j0 k x3_a0 t114 true)) else (doorwardlaw01_LeFills.j0 k x3_a0 t114 true)) else (doorwardlaw01_LeFills.j0 k x3_a0 t114 true)) = some r := H
      have A10 := Aside0.mk A100
      clear A100
      have HC11 := Aside0.mk H
      clear H
      go_enter Tryd.func4, Tryd.ntmps4
      go_upto_region 6 with (first | ((with_reducible refine gate_callee (f := 10) rfl ?_); refine goesL_ (some 21) rfl rfl Tryd.func10 (by kernel_rfl) rfl #[.string x3_a0] rfl (by (try simp only [List.map_toArray, List.map_cons, List.map_nil]); first | done | (simp only [hji3]; rfl) | rfl | (simp only [List.length_drop, List.length_take]; rfl) | (simp [Act.eval, IntKind.wrap, IntKind.bits, IntKind.signed]; (repeat (first | (rename (decide _ = false) => h_; replace h_ := of_decide_eq_false h_) | (rename (decide _ = true) => h_; replace h_ := of_decide_eq_true h_))); omega)) ?_; (with_reducible refine (le_Trim.calls x3_a0 t114 _ A8.out).mono ?_); rintro e w' ⟨rfl, ⟨nd, rfl⟩⟩; refine ⟨_, rfl, ?_⟩) | ((with_reducible refine gate_callee (f := 7) rfl ?_); refine goesL_ (some 26) rfl rfl Tryd.func7 (by kernel_rfl) rfl #[.string t114, .int .i64 (x3_a0.size : Int)] rfl (by (try simp only [List.map_toArray, List.map_cons, List.map_nil]); first | done | (simp only [hji3]; rfl) | rfl | (simp only [List.length_drop, List.length_take]; rfl) | (simp [Act.eval, IntKind.wrap, IntKind.bits, IntKind.signed]; (repeat (first | (rename (decide _ = false) => h_; replace h_ := of_decide_eq_false h_) | (rename (decide _ = true) => h_; replace h_ := of_decide_eq_true h_))); omega)) ?_; (with_reducible refine (le_Fill.calls t114 (x3_a0.size : Int) t115 t116 _ A9.out).mono ?_); rintro e w12 ⟨rfl, hb⟩; refine ⟨_, rfl, ?_⟩; have n0_ := Aside0.mk (below_step (by repeat (first | (with_reducible first | exact HB.out | apply below_alloc | apply pw_below_drewN | apply below_drew1) | exact HB.out)) hb); clear HB; have HB := n0_; clear n0_; (try clear hb); (try clear hb2); (try clear hk); (try clear hi)) | ((with_reducible refine gate_callee (f := 7) rfl ?_); refine goesL_ (some 35) rfl rfl Tryd.func7 (by kernel_rfl) rfl #[.string x3_a0, .int .i64 (wrap64 ((x3_a0.size : Int) + (ji7)))] rfl (by (try simp only [List.map_toArray, List.map_cons, List.map_nil]); first | done | (simp only [hji3, hji7]; rfl) | rfl | (simp only [List.length_drop, List.length_take]; rfl) | (simp [Act.eval, IntKind.wrap, IntKind.bits, IntKind.signed]; (repeat (first | (rename (decide _ = false) => h_; replace h_ := of_decide_eq_false h_) | (rename (decide _ = true) => h_; replace h_ := of_decide_eq_true h_))); omega)) ?_; (with_reducible refine (le_Fill.calls x3_a0 (wrap64 ((x3_a0.size : Int) + (ji7))) t117 t118 _ A10.out).mono ?_); rintro e w13 ⟨rfl, hb⟩; refine ⟨_, rfl, ?_⟩; have n0_ := Aside0.mk (below_step (by repeat (first | (with_reducible first | exact HB.out | apply below_alloc | apply pw_below_drewN | apply below_drew1) | exact HB.out)) hb); clear HB; have HB := n0_; clear n0_; (try clear hb); (try clear hb2); (try clear hk); (try clear hi)))
      (try simp only [Act.put, List.setIfInBounds_toArray, List.set_cons_zero, List.set_cons_succ])
      go_cut [69] (fun v69 wc => ∃ (kq : Nat) (x69_10 : Bool), v69 = .bool x69_10 ∧ Aside0 (doorwardlaw01_LeFills.j0 kq x3_a0 t114 x69_10 = some r) ∧ Aside0 (kq ≤ k) ∧ Aside0 (Below w.heap.size w wc))
      case first =>
        have H := HC11.out
        clear HC11
        by_cases c14 : t116 = 0
        · rw [if_pos c14] at H
          have c14b0 : (t116 == 0) = true := beq_iff_eq.mpr c14
          have c14b1 : (t116 != 0) = false := bne_eq_false_iff_eq.mpr c14
          clear c14
          (first | rw [c14b0] | (simp only [i64_w, i32_w]; rw [c14b0]) | skip)
          by_cases c15 : t118 = 0
          · rw [if_pos c15] at H
            have c15b0 : (t118 == 0) = true := beq_iff_eq.mpr c15
            have c15b1 : (t118 != 0) = false := bne_eq_false_iff_eq.mpr c15
            clear c15
            by_cases c16 : t115.toList = x3_a0.toList
            · rw [if_pos c16] at H
              have c16b0 : (t115.toList == x3_a0.toList) = true := beq_iff_eq.mpr c16
              have c16b1 : (t115.toList != x3_a0.toList) = false := bne_eq_false_iff_eq.mpr c16
              clear c16
              by_cases c17 : (t117.size : Int) = (wrap64 ((x3_a0.size : Int) + (ji7)))
              · rw [if_pos c17] at H
                have c17b0 : ((t117.size : Int) == (wrap64 ((x3_a0.size : Int) + (ji7)))) = true := beq_iff_eq.mpr c17
                have c17b1 : ((t117.size : Int) != (wrap64 ((x3_a0.size : Int) + (ji7)))) = false := bne_eq_false_iff_eq.mpr c17
                clear c17
                replace H := Option.bind_eq_some_iff.mp H
                obtain ⟨t119, A180, H⟩ := H
                replace H : (if t119.toList = t114.toList then ((le_Trim.f t114).bind fun t120 => (doorwardlaw01_LeFills.j0 k x3_a0 t114 (t120.toList != t114.toList))) else (doorwardlaw01_LeFills.j0 k x3_a0 t114 true)) = some r := H
                have A18 := Aside0.mk A180
                clear A180
                by_cases c19 : t119.toList = t114.toList
                · rw [if_pos c19] at H
                  have c19b0 : (t119.toList == t114.toList) = true := beq_iff_eq.mpr c19
                  have c19b1 : (t119.toList != t114.toList) = false := bne_eq_false_iff_eq.mpr c19
                  clear c19
                  replace H := Option.bind_eq_some_iff.mp H
                  obtain ⟨t120, A200, H⟩ := H
                  replace H : (doorwardlaw01_LeFills.j0 k x3_a0 t114 (t120.toList != t114.toList)) = some r := H
                  have A20 := Aside0.mk A200
                  clear A200
                  have H' := Aside0.mk H
                  clear H
                  go_wp2_with (first | (go_at_call 10; (first | (with_reducible refine (le_Trim.calls t117 t119 _ A18.out).mono ?_) | (refine calls_of_args ?hfit_ ((le_Trim.calls t117 t119 _ A18.out).mono ?_); (case hfit_ => (first | rfl | (simp; done) | (simp [*]; done) | (simp; omega) | (simp [ByteArray.size_extract]; omega))))); rintro e w' ⟨rfl, ⟨nd, rfl⟩⟩) | (go_at_call 10; (first | (with_reducible refine (le_Trim.calls t114 t120 _ A20.out).mono ?_) | (refine calls_of_args ?hfit_ ((le_Trim.calls t114 t120 _ A20.out).mono ?_); (case hfit_ => (first | rfl | (simp; done) | (simp [*]; done) | (simp; omega) | (simp [ByteArray.size_extract]; omega))))); rintro e w' ⟨rfl, ⟨nd, rfl⟩⟩))
                  go_meet
                  case rel => exact ⟨_, ((t120.toList != t114.toList)), (by first | rfl | (simp; done) | (simp [*]; done)), H', ⟨by first | omega | exact Nat.le_refl _⟩, ⟨by repeat (first | (with_reducible first | exact HB.out | apply below_alloc | apply pw_below_drewN | apply below_drew1) | exact HB.out)⟩⟩
                · rw [if_neg c19] at H
                  have c19b0 : (t119.toList == t114.toList) = false := beq_eq_false_iff_ne.mpr c19
                  have c19b1 : (t119.toList != t114.toList) = true := bne_iff_ne.mpr c19
                  have H' := Aside0.mk H
                  clear H
                  go_wp2_with (first | (go_at_call 10; (first | (with_reducible refine (le_Trim.calls t117 t119 _ A18.out).mono ?_) | (refine calls_of_args ?hfit_ ((le_Trim.calls t117 t119 _ A18.out).mono ?_); (case hfit_ => (first | rfl | (simp; done) | (simp [*]; done) | (simp; omega) | (simp [ByteArray.size_extract]; omega))))); rintro e w' ⟨rfl, ⟨nd, rfl⟩⟩))
                  go_meet
                  case rel => exact ⟨_, (true), (by first | rfl | (simp; done) | (simp [*]; done)), H', ⟨by first | omega | exact Nat.le_refl _⟩, ⟨by repeat (first | (with_reducible first | exact HB.out | apply below_alloc | apply pw_below_drewN | apply below_drew1) | exact HB.out)⟩⟩
              · rw [if_neg c17] at H
                have c17b0 : ((t117.size : Int) == (wrap64 ((x3_a0.size : Int) + (ji7)))) = false := beq_eq_false_iff_ne.mpr c17
                have c17b1 : ((t117.size : Int) != (wrap64 ((x3_a0.size : Int) + (ji7)))) = true := bne_iff_ne.mpr c17
                have H' := Aside0.mk H
                clear H
                go_wp2
                go_meet
                case rel => exact ⟨_, (true), (by first | rfl | (simp; done) | (simp [*]; done)), H', ⟨by first | omega | exact Nat.le_refl _⟩, ⟨by repeat (first | (with_reducible first | exact HB.out | apply below_alloc | apply pw_below_drewN | apply below_drew1) | exact HB.out)⟩⟩
            · rw [if_neg c16] at H
              have c16b0 : (t115.toList == x3_a0.toList) = false := beq_eq_false_iff_ne.mpr c16
              have c16b1 : (t115.toList != x3_a0.toList) = true := bne_iff_ne.mpr c16
              have H' := Aside0.mk H
              clear H
              go_wp2
              go_meet
              case rel => exact ⟨_, (true), (by first | rfl | (simp; done) | (simp [*]; done)), H', ⟨by first | omega | exact Nat.le_refl _⟩, ⟨by repeat (first | (with_reducible first | exact HB.out | apply below_alloc | apply pw_below_drewN | apply below_drew1) | exact HB.out)⟩⟩
          · rw [if_neg c15] at H
            have c15b0 : (t118 == 0) = false := beq_eq_false_iff_ne.mpr c15
            have c15b1 : (t118 != 0) = true := bne_iff_ne.mpr c15
            have H' := Aside0.mk H
            clear H
            go_wp2
            go_meet
            case rel => exact ⟨_, (true), (by first | rfl | (simp; done) | (simp [*]; done)), H', ⟨by first | omega | exact Nat.le_refl _⟩, ⟨by repeat (first | (with_reducible first | exact HB.out | apply below_alloc | apply pw_below_drewN | apply below_drew1) | exact HB.out)⟩⟩
        · rw [if_neg c14] at H
          have c14b0 : (t116 == 0) = false := beq_eq_false_iff_ne.mpr c14
          have c14b1 : (t116 != 0) = true := bne_iff_ne.mpr c14
          (first | rw [c14b0] | (simp only [i64_w, i32_w]; rw [c14b0]) | skip)
          have H' := Aside0.mk H
          clear H
          go_wp2
          go_meet
          case rel => exact ⟨_, (true), (by first | rfl | (simp; done) | (simp [*]; done)), H', ⟨by first | omega | exact Nat.le_refl _⟩, ⟨by repeat (first | (with_reducible first | exact HB.out | apply below_alloc | apply pw_below_drewN | apply below_drew1) | exact HB.out)⟩⟩
      case rest =>
        clear HC11
        try clear c1
        try clear p2
        try clear c4
        try clear c4b0
        try clear c4b1
        try clear c5
        try clear c5b0
        try clear c5b1
        try clear p6
        try clear c7
        try clear c10
        try clear c14
        try clear c14b0
        try clear c14b1
        try clear c15
        try clear c15b0
        try clear c15b1
        try clear c16
        try clear c16b0
        try clear c16b1
        try clear c17
        try clear c17b0
        try clear c17b1
        try clear c19
        try clear c19b0
        try clear c19b1
        obtain ⟨kq, x69_10, rfl, HA, HJ10, HB⟩ := hcut
        cases kq with
        | zero => exact absurd HA.out (by simp [doorwardlaw01_LeFills.j0])
        | succ kj10 =>
          have H := HA.out
          clear HA
          simp only [doorwardlaw01_LeFills.j0] at H
          by_cases c21 : x69_10 = true
          · subst c21
            have H1 : (some false) = some r := by rw [if_pos rfl] at H; exact H
            clear H
            have H := H1
            clear H1
            obtain rfl := Option.some.inj H
            go_wp2
            go_ret
            exact ⟨by first | rfl | (rw [show ∀ n_ : Int, -9223372036854775808 ≤ n_ → n_ < 9223372036854775808 → wrap64 n_ = n_ from fun n_ h1_ h2_ => by unfold wrap64; omega] <;> first | rfl | omega) | (simp [errW_none, errW_some] <;> rfl) | (simp only [← hji3, ← hji6, ← hji7]; first | rfl | (simp [errW_none, errW_some] <;> rfl)) | (simp [*, errW_none, errW_some] <;> rfl), by repeat (first | (with_reducible first | exact HB.out | apply below_alloc | apply pw_below_drewN | apply below_drew1) | exact HB.out)⟩
          · replace c21 := Bool.eq_false_iff.mpr c21
            subst c21
            have H1 : (if x3_a0.size + 1 ≤ 9223372036854775807 then ((le_Fill.f (x3_a0 ++ (⟨#[120]⟩ : ByteArray)) (x3_a0.size : Int)).bind fun bt121 => ((doorwardlaw01_alive.f kj10).bind fun t123 => (if t123 = true then (if bt121.2 = 2 then (if (t114.size : Int) ≤ (x3_a0.size : Int) then (if 0 ≤ (t114.size : Int) then (if (x3_a0.extract 0 ((t114.size : Int) : Int).toNat).toList = t114.toList then (if t114.toList = ([] : List UInt8) then (some true) else (if 0 ≤ (wrap64 ((t114.size : Int) - 1)) then (if (wrap64 ((t114.size : Int) - 1)) < (t114.size : Int) then (some ((bt t114 (wrap64 ((t114.size : Int) - 1))) != 0)) else (none)) else (none))) else (some false)) else (none)) else (some false)) else (some false)) else (some false)))) else (none)) = some r := by rw [if_neg (show ¬ (false = true) by decide)] at H; exact H
            clear H
            have H := H1
            clear H1
            by_cases c22 : x3_a0.size + 1 ≤ 9223372036854775807
            · rw [if_pos c22] at H
              have c22b0 := eq_true c22
              have c22b1 : decide (x3_a0.size + 1 ≤ 9223372036854775807) = true := decide_eq_true c22
              try have c22b2 : (9223372036854775807 < x3_a0.size + 1) = False := eq_false (Nat.not_lt.2 c22)
              replace H := Option.bind_eq_some_iff.mp H
              obtain ⟨⟨t121, t122⟩, A230, H⟩ := H
              replace H : ((doorwardlaw01_alive.f kj10).bind fun t123 => (if t123 = true then (if t122 = 2 then (if (t114.size : Int) ≤ (x3_a0.size : Int) then (if 0 ≤ (t114.size : Int) then (if (x3_a0.extract 0 ((t114.size : Int) : Int).toNat).toList = t114.toList then (if t114.toList = ([] : List UInt8) then (some true) else (if 0 ≤ (wrap64 ((t114.size : Int) - 1)) then (if (wrap64 ((t114.size : Int) - 1)) < (t114.size : Int) then (some ((bt t114 (wrap64 ((t114.size : Int) - 1))) != 0)) else (none)) else (none))) else (some false)) else (none)) else (some false)) else (some false)) else (some false))) = some r := H
              have A23 := Aside0.mk A230
              clear A230
              replace H := Option.bind_eq_some_iff.mp H
              obtain ⟨t123, A240, H⟩ := H
              replace H : (if t123 = true then (if t122 = 2 then (if (t114.size : Int) ≤ (x3_a0.size : Int) then (if 0 ≤ (t114.size : Int) then (if (x3_a0.extract 0 ((t114.size : Int) : Int).toNat).toList = t114.toList then (if t114.toList = ([] : List UInt8) then (some true) else (if 0 ≤ (wrap64 ((t114.size : Int) - 1)) then (if (wrap64 ((t114.size : Int) - 1)) < (t114.size : Int) then (some ((bt t114 (wrap64 ((t114.size : Int) - 1))) != 0)) else (none)) else (none))) else (some false)) else (none)) else (some false)) else (some false)) else (some false)) = some r := H
              have A24 := Aside0.mk A240
              clear A240
              by_cases c25 : t123 = true
              · subst c25
                have H1 : (if t122 = 2 then (if (t114.size : Int) ≤ (x3_a0.size : Int) then (if 0 ≤ (t114.size : Int) then (if (x3_a0.extract 0 ((t114.size : Int) : Int).toNat).toList = t114.toList then (if t114.toList = ([] : List UInt8) then (some true) else (if 0 ≤ (wrap64 ((t114.size : Int) - 1)) then (if (wrap64 ((t114.size : Int) - 1)) < (t114.size : Int) then (some ((bt t114 (wrap64 ((t114.size : Int) - 1))) != 0)) else (none)) else (none))) else (some false)) else (none)) else (some false)) else (some false)) = some r := by rw [if_pos rfl] at H; exact H
                clear H
                have H := H1
                clear H1
                by_cases c26 : t122 = 2
                · rw [if_pos c26] at H
                  have c26b0 : (t122 == 2) = true := beq_iff_eq.mpr c26
                  have c26b1 : (t122 != 2) = false := bne_eq_false_iff_eq.mpr c26
                  clear c26
                  by_cases c27 : (t114.size : Int) ≤ (x3_a0.size : Int)
                  · rw [if_pos c27] at H
                    have c27b0 : decide ((t114.size : Int) ≤ (x3_a0.size : Int)) = true := decide_eq_true c27
                    have c27b1 : decide (t114.size ≤ x3_a0.size) = true := decide_eq_true (Int.ofNat_le.mp c27)
                    clear c27
                    by_cases c28 : 0 ≤ (t114.size : Int)
                    · rw [if_pos c28] at H
                      have c28b0 := eq_true c28
                      have c28b1 : decide (0 ≤ (t114.size : Int)) = true := decide_eq_true c28
                      clear c28
                      have c29b0 := eq_true (of_decide_eq_true (by first | (with_reducible assumption) | assumption) : (t114.size : Int) ≤ (x3_a0.size : Int))
                      by_cases c30 : (x3_a0.extract 0 ((t114.size : Int) : Int).toNat).toList = t114.toList
                      · rw [if_pos c30] at H
                        have c30b0 : ((x3_a0.extract 0 ((t114.size : Int) : Int).toNat).toList == t114.toList) = true := beq_iff_eq.mpr c30
                        (try (have c30b0s := c30b0; simp only [Int.toNat_natCast] at c30b0s))
                        have c30b1 : ((x3_a0.extract 0 ((t114.size : Int) : Int).toNat).toList != t114.toList) = false := bne_eq_false_iff_eq.mpr c30
                        (try (have c30b1s := c30b1; simp only [Int.toNat_natCast] at c30b1s))
                        clear c30
                        by_cases c31 : t114.toList = ([] : List UInt8)
                        · rw [if_pos c31] at H
                          have c31b0 : (t114.toList == ([] : List UInt8)) = true := beq_iff_eq.mpr c31
                          have c31b1 : (t114.toList != ([] : List UInt8)) = false := bne_eq_false_iff_eq.mpr c31
                          clear c31
                          obtain rfl := Option.some.inj H
                          go_wp2_with (first | ((with_reducible refine gate_callee (f := 7) rfl ?_); refine goesL_ (some 75) rfl rfl Tryd.func7 (by kernel_rfl) rfl #[.string (x3_a0 ++ (⟨#[120]⟩ : ByteArray)), .int .i64 (x3_a0.size : Int)] rfl (by (try simp only [List.map_toArray, List.map_cons, List.map_nil]); first | done | (simp only [hji3]; rfl) | rfl | (simp only [List.length_drop, List.length_take]; rfl) | (simp [Act.eval, IntKind.wrap, IntKind.bits, IntKind.signed]; (repeat (first | (rename (decide _ = false) => h_; replace h_ := of_decide_eq_false h_) | (rename (decide _ = true) => h_; replace h_ := of_decide_eq_true h_))); omega)) ?_; (with_reducible refine (le_Fill.calls (x3_a0 ++ (⟨#[120]⟩ : ByteArray)) (x3_a0.size : Int) t121 t122 _ A23.out).mono ?_); rintro e w32 ⟨rfl, hb⟩; refine ⟨_, rfl, ?_⟩; have n0_ := Aside0.mk (below_step (by repeat (first | (with_reducible first | exact HB.out | apply below_alloc | apply pw_below_drewN | apply below_drew1) | exact HB.out)) hb); clear HB; have HB := n0_; clear n0_; (try clear hb); (try clear hb2); (try clear hk); (try clear hi)) | ((with_reducible refine gate_callee (f := 9) rfl ?_); refine goesL_ (some 78) rfl rfl Tryd.func9 (by kernel_rfl) rfl #[] rfl (by (try simp only [List.map_toArray, List.map_cons, List.map_nil]); first | done | rfl | (simp only [List.length_drop, List.length_take]; rfl) | (simp [Act.eval, IntKind.wrap, IntKind.bits, IntKind.signed]; (repeat (first | (rename (decide _ = false) => h_; replace h_ := of_decide_eq_false h_) | (rename (decide _ = true) => h_; replace h_ := of_decide_eq_true h_))); omega)) ?_; (with_reducible refine (doorwardlaw01_alive.calls kj10  true _ A24.out).mono ?_); rintro e w33 ⟨rfl, hb⟩; refine ⟨_, rfl, ?_⟩; have n0_ := Aside0.mk (below_step (by repeat (first | (with_reducible first | exact HB.out | apply below_alloc | apply pw_below_drewN | apply below_drew1) | exact HB.out)) hb); clear HB; have HB := n0_; clear n0_; (try clear hb); (try clear hb2); (try clear hk); (try clear hi)))
                          go_ret
                          exact ⟨by first | rfl | (rw [show ∀ n_ : Int, -9223372036854775808 ≤ n_ → n_ < 9223372036854775808 → wrap64 n_ = n_ from fun n_ h1_ h2_ => by unfold wrap64; omega] <;> first | rfl | omega) | (simp [errW_none, errW_some] <;> rfl) | (simp only [← hji3, ← hji6, ← hji7]; first | rfl | (simp [errW_none, errW_some] <;> rfl)) | (simp [*, errW_none, errW_some] <;> rfl), by repeat (first | (with_reducible first | exact HB.out | apply below_alloc | apply pw_below_drewN | apply below_drew1) | exact HB.out)⟩
                        · rw [if_neg c31] at H
                          have c31b0 : (t114.toList == ([] : List UInt8)) = false := beq_eq_false_iff_ne.mpr c31
                          have c31b1 : (t114.toList != ([] : List UInt8)) = true := bne_iff_ne.mpr c31
                          obtain ⟨ji34, hji34⟩ : ∃ j_ : Int, (wrap64 ((t114.size : Int) - 1)) = j_ := ⟨_, rfl⟩
                          replace H : (if 0 ≤ (ji34) then (if (ji34) < (t114.size : Int) then (some ((bt t114 (ji34)) != 0)) else (none)) else (none)) = some r := by first | (rw [hji34] at H; exact H) | (simp only [hji34] at H ⊢; exact H)
                          (try rw [hji34] at A23)
                          (try rw [hji34] at A24)
                          have hji34w : (IntKind.i64.wrap ((t114.size : Int) - 1)) = ji34 := (i64_w _).trans hji34
                          by_cases c35 : 0 ≤ (ji34)
                          · rw [if_pos c35] at H
                            have c35b0 : decide (0 ≤ (ji34)) = true := decide_eq_true c35
                            clear c35
                            by_cases c36 : (ji34) < (t114.size : Int)
                            · rw [if_pos c36] at H
                              have c36b0 : decide ((ji34) < (t114.size : Int)) = true := decide_eq_true c36
                              clear c36
                              obtain rfl := Option.some.inj H
                              go_wp2_with (first | ((with_reducible refine gate_callee (f := 7) rfl ?_); refine goesL_ (some 75) rfl rfl Tryd.func7 (by kernel_rfl) rfl #[.string (x3_a0 ++ (⟨#[120]⟩ : ByteArray)), .int .i64 (x3_a0.size : Int)] rfl (by (try simp only [List.map_toArray, List.map_cons, List.map_nil]); first | done | (simp only [hji3]; rfl) | rfl | (simp only [List.length_drop, List.length_take]; rfl) | (simp [Act.eval, IntKind.wrap, IntKind.bits, IntKind.signed]; (repeat (first | (rename (decide _ = false) => h_; replace h_ := of_decide_eq_false h_) | (rename (decide _ = true) => h_; replace h_ := of_decide_eq_true h_))); omega)) ?_; (with_reducible refine (le_Fill.calls (x3_a0 ++ (⟨#[120]⟩ : ByteArray)) (x3_a0.size : Int) t121 t122 _ A23.out).mono ?_); rintro e w38 ⟨rfl, hb⟩; refine ⟨_, rfl, ?_⟩; have n0_ := Aside0.mk (below_step (by repeat (first | (with_reducible first | exact HB.out | apply below_alloc | apply pw_below_drewN | apply below_drew1) | exact HB.out)) hb); clear HB; have HB := n0_; clear n0_; (try clear hb); (try clear hb2); (try clear hk); (try clear hi)) | ((with_reducible refine gate_callee (f := 9) rfl ?_); refine goesL_ (some 78) rfl rfl Tryd.func9 (by kernel_rfl) rfl #[] rfl (by (try simp only [List.map_toArray, List.map_cons, List.map_nil]); first | done | rfl | (simp only [List.length_drop, List.length_take]; rfl) | (simp [Act.eval, IntKind.wrap, IntKind.bits, IntKind.signed]; (repeat (first | (rename (decide _ = false) => h_; replace h_ := of_decide_eq_false h_) | (rename (decide _ = true) => h_; replace h_ := of_decide_eq_true h_))); omega)) ?_; (with_reducible refine (doorwardlaw01_alive.calls kj10  true _ A24.out).mono ?_); rintro e w39 ⟨rfl, hb⟩; refine ⟨_, rfl, ?_⟩; have n0_ := Aside0.mk (below_step (by repeat (first | (with_reducible first | exact HB.out | apply below_alloc | apply pw_below_drewN | apply below_drew1) | exact HB.out)) hb); clear HB; have HB := n0_; clear n0_; (try clear hb); (try clear hb2); (try clear hk); (try clear hi); have p37 : 0 ≤ ((ji34) : Int) := of_decide_eq_true (by first | (with_reducible assumption) | assumption); have q37 : (ji34) < (t114.size : Int) := of_decide_eq_true (by first | (with_reducible assumption) | assumption); have hx37 := bt_at t114 (ji34); replace p37 := eq_true p37; replace q37 := eq_true q37))
                              go_ret
                              exact ⟨by first | rfl | (rw [show ∀ n_ : Int, -9223372036854775808 ≤ n_ → n_ < 9223372036854775808 → wrap64 n_ = n_ from fun n_ h1_ h2_ => by unfold wrap64; omega] <;> first | rfl | omega) | (simp [errW_none, errW_some] <;> rfl) | (simp only [← hji3, ← hji6, ← hji7, ← hji34]; first | rfl | (simp [errW_none, errW_some] <;> rfl)) | (simp [*, errW_none, errW_some] <;> rfl), by repeat (first | (with_reducible first | exact HB.out | apply below_alloc | apply pw_below_drewN | apply below_drew1) | exact HB.out)⟩
                            · rw [if_neg c36] at H
                              exact absurd H (by simp)
                          · rw [if_neg c35] at H
                            exact absurd H (by simp)
                      · rw [if_neg c30] at H
                        have c30b0 : ((x3_a0.extract 0 ((t114.size : Int) : Int).toNat).toList == t114.toList) = false := beq_eq_false_iff_ne.mpr c30
                        (try (have c30b0s := c30b0; simp only [Int.toNat_natCast] at c30b0s))
                        have c30b1 : ((x3_a0.extract 0 ((t114.size : Int) : Int).toNat).toList != t114.toList) = true := bne_iff_ne.mpr c30
                        (try (have c30b1s := c30b1; simp only [Int.toNat_natCast] at c30b1s))
                        obtain rfl := Option.some.inj H
                        go_wp2_with (first | ((with_reducible refine gate_callee (f := 7) rfl ?_); refine goesL_ (some 75) rfl rfl Tryd.func7 (by kernel_rfl) rfl #[.string (x3_a0 ++ (⟨#[120]⟩ : ByteArray)), .int .i64 (x3_a0.size : Int)] rfl (by (try simp only [List.map_toArray, List.map_cons, List.map_nil]); first | done | (simp only [hji3]; rfl) | rfl | (simp only [List.length_drop, List.length_take]; rfl) | (simp [Act.eval, IntKind.wrap, IntKind.bits, IntKind.signed]; (repeat (first | (rename (decide _ = false) => h_; replace h_ := of_decide_eq_false h_) | (rename (decide _ = true) => h_; replace h_ := of_decide_eq_true h_))); omega)) ?_; (with_reducible refine (le_Fill.calls (x3_a0 ++ (⟨#[120]⟩ : ByteArray)) (x3_a0.size : Int) t121 t122 _ A23.out).mono ?_); rintro e w40 ⟨rfl, hb⟩; refine ⟨_, rfl, ?_⟩; have n0_ := Aside0.mk (below_step (by repeat (first | (with_reducible first | exact HB.out | apply below_alloc | apply pw_below_drewN | apply below_drew1) | exact HB.out)) hb); clear HB; have HB := n0_; clear n0_; (try clear hb); (try clear hb2); (try clear hk); (try clear hi)) | ((with_reducible refine gate_callee (f := 9) rfl ?_); refine goesL_ (some 78) rfl rfl Tryd.func9 (by kernel_rfl) rfl #[] rfl (by (try simp only [List.map_toArray, List.map_cons, List.map_nil]); first | done | rfl | (simp only [List.length_drop, List.length_take]; rfl) | (simp [Act.eval, IntKind.wrap, IntKind.bits, IntKind.signed]; (repeat (first | (rename (decide _ = false) => h_; replace h_ := of_decide_eq_false h_) | (rename (decide _ = true) => h_; replace h_ := of_decide_eq_true h_))); omega)) ?_; (with_reducible refine (doorwardlaw01_alive.calls kj10  true _ A24.out).mono ?_); rintro e w41 ⟨rfl, hb⟩; refine ⟨_, rfl, ?_⟩; have n0_ := Aside0.mk (below_step (by repeat (first | (with_reducible first | exact HB.out | apply below_alloc | apply pw_below_drewN | apply below_drew1) | exact HB.out)) hb); clear HB; have HB := n0_; clear n0_; (try clear hb); (try clear hb2); (try clear hk); (try clear hi)))
                        go_ret
                        exact ⟨by first | rfl | (rw [show ∀ n_ : Int, -9223372036854775808 ≤ n_ → n_ < 9223372036854775808 → wrap64 n_ = n_ from fun n_ h1_ h2_ => by unfold wrap64; omega] <;> first | rfl | omega) | (simp [errW_none, errW_some] <;> rfl) | (simp only [← hji3, ← hji6, ← hji7]; first | rfl | (simp [errW_none, errW_some] <;> rfl)) | (simp [*, errW_none, errW_some] <;> rfl), by repeat (first | (with_reducible first | exact HB.out | apply below_alloc | apply pw_below_drewN | apply below_drew1) | exact HB.out)⟩
                    · rw [if_neg c28] at H
                      exact absurd H (by simp)
                  · rw [if_neg c27] at H
                    have c27b0 : decide ((t114.size : Int) ≤ (x3_a0.size : Int)) = false := decide_eq_false c27
                    have c27b1 : decide (t114.size ≤ x3_a0.size) = false := decide_eq_false (fun h => c27 (Int.ofNat_le.mpr h))
                    clear c27
                    obtain rfl := Option.some.inj H
                    go_wp2_with (first | ((with_reducible refine gate_callee (f := 7) rfl ?_); refine goesL_ (some 75) rfl rfl Tryd.func7 (by kernel_rfl) rfl #[.string (x3_a0 ++ (⟨#[120]⟩ : ByteArray)), .int .i64 (x3_a0.size : Int)] rfl (by (try simp only [List.map_toArray, List.map_cons, List.map_nil]); first | done | (simp only [hji3]; rfl) | rfl | (simp only [List.length_drop, List.length_take]; rfl) | (simp [Act.eval, IntKind.wrap, IntKind.bits, IntKind.signed]; (repeat (first | (rename (decide _ = false) => h_; replace h_ := of_decide_eq_false h_) | (rename (decide _ = true) => h_; replace h_ := of_decide_eq_true h_))); omega)) ?_; (with_reducible refine (le_Fill.calls (x3_a0 ++ (⟨#[120]⟩ : ByteArray)) (x3_a0.size : Int) t121 t122 _ A23.out).mono ?_); rintro e w42 ⟨rfl, hb⟩; refine ⟨_, rfl, ?_⟩; have n0_ := Aside0.mk (below_step (by repeat (first | (with_reducible first | exact HB.out | apply below_alloc | apply pw_below_drewN | apply below_drew1) | exact HB.out)) hb); clear HB; have HB := n0_; clear n0_; (try clear hb); (try clear hb2); (try clear hk); (try clear hi)) | ((with_reducible refine gate_callee (f := 9) rfl ?_); refine goesL_ (some 78) rfl rfl Tryd.func9 (by kernel_rfl) rfl #[] rfl (by (try simp only [List.map_toArray, List.map_cons, List.map_nil]); first | done | rfl | (simp only [List.length_drop, List.length_take]; rfl) | (simp [Act.eval, IntKind.wrap, IntKind.bits, IntKind.signed]; (repeat (first | (rename (decide _ = false) => h_; replace h_ := of_decide_eq_false h_) | (rename (decide _ = true) => h_; replace h_ := of_decide_eq_true h_))); omega)) ?_; (with_reducible refine (doorwardlaw01_alive.calls kj10  true _ A24.out).mono ?_); rintro e w43 ⟨rfl, hb⟩; refine ⟨_, rfl, ?_⟩; have n0_ := Aside0.mk (below_step (by repeat (first | (with_reducible first | exact HB.out | apply below_alloc | apply pw_below_drewN | apply below_drew1) | exact HB.out)) hb); clear HB; have HB := n0_; clear n0_; (try clear hb); (try clear hb2); (try clear hk); (try clear hi)))
                    go_ret
                    exact ⟨by first | rfl | (rw [show ∀ n_ : Int, -9223372036854775808 ≤ n_ → n_ < 9223372036854775808 → wrap64 n_ = n_ from fun n_ h1_ h2_ => by unfold wrap64; omega] <;> first | rfl | omega) | (simp [errW_none, errW_some] <;> rfl) | (simp only [← hji3, ← hji6, ← hji7]; first | rfl | (simp [errW_none, errW_some] <;> rfl)) | (simp [*, errW_none, errW_some] <;> rfl), by repeat (first | (with_reducible first | exact HB.out | apply below_alloc | apply pw_below_drewN | apply below_drew1) | exact HB.out)⟩
                · rw [if_neg c26] at H
                  have c26b0 : (t122 == 2) = false := beq_eq_false_iff_ne.mpr c26
                  have c26b1 : (t122 != 2) = true := bne_iff_ne.mpr c26
                  obtain rfl := Option.some.inj H
                  go_wp2_with (first | ((with_reducible refine gate_callee (f := 7) rfl ?_); refine goesL_ (some 75) rfl rfl Tryd.func7 (by kernel_rfl) rfl #[.string (x3_a0 ++ (⟨#[120]⟩ : ByteArray)), .int .i64 (x3_a0.size : Int)] rfl (by (try simp only [List.map_toArray, List.map_cons, List.map_nil]); first | done | (simp only [hji3]; rfl) | rfl | (simp only [List.length_drop, List.length_take]; rfl) | (simp [Act.eval, IntKind.wrap, IntKind.bits, IntKind.signed]; (repeat (first | (rename (decide _ = false) => h_; replace h_ := of_decide_eq_false h_) | (rename (decide _ = true) => h_; replace h_ := of_decide_eq_true h_))); omega)) ?_; (with_reducible refine (le_Fill.calls (x3_a0 ++ (⟨#[120]⟩ : ByteArray)) (x3_a0.size : Int) t121 t122 _ A23.out).mono ?_); rintro e w44 ⟨rfl, hb⟩; refine ⟨_, rfl, ?_⟩; have n0_ := Aside0.mk (below_step (by repeat (first | (with_reducible first | exact HB.out | apply below_alloc | apply pw_below_drewN | apply below_drew1) | exact HB.out)) hb); clear HB; have HB := n0_; clear n0_; (try clear hb); (try clear hb2); (try clear hk); (try clear hi)) | ((with_reducible refine gate_callee (f := 9) rfl ?_); refine goesL_ (some 78) rfl rfl Tryd.func9 (by kernel_rfl) rfl #[] rfl (by (try simp only [List.map_toArray, List.map_cons, List.map_nil]); first | done | rfl | (simp only [List.length_drop, List.length_take]; rfl) | (simp [Act.eval, IntKind.wrap, IntKind.bits, IntKind.signed]; (repeat (first | (rename (decide _ = false) => h_; replace h_ := of_decide_eq_false h_) | (rename (decide _ = true) => h_; replace h_ := of_decide_eq_true h_))); omega)) ?_; (with_reducible refine (doorwardlaw01_alive.calls kj10  true _ A24.out).mono ?_); rintro e w45 ⟨rfl, hb⟩; refine ⟨_, rfl, ?_⟩; have n0_ := Aside0.mk (below_step (by repeat (first | (with_reducible first | exact HB.out | apply below_alloc | apply pw_below_drewN | apply below_drew1) | exact HB.out)) hb); clear HB; have HB := n0_; clear n0_; (try clear hb); (try clear hb2); (try clear hk); (try clear hi)))
                  go_ret
                  exact ⟨by first | rfl | (rw [show ∀ n_ : Int, -9223372036854775808 ≤ n_ → n_ < 9223372036854775808 → wrap64 n_ = n_ from fun n_ h1_ h2_ => by unfold wrap64; omega] <;> first | rfl | omega) | (simp [errW_none, errW_some] <;> rfl) | (simp only [← hji3, ← hji6, ← hji7]; first | rfl | (simp [errW_none, errW_some] <;> rfl)) | (simp [*, errW_none, errW_some] <;> rfl), by repeat (first | (with_reducible first | exact HB.out | apply below_alloc | apply pw_below_drewN | apply below_drew1) | exact HB.out)⟩
              · replace c25 := Bool.eq_false_iff.mpr c25
                subst c25
                have H1 : (some false) = some r := by rw [if_neg (show ¬ (false = true) by decide)] at H; exact H
                clear H
                have H := H1
                clear H1
                obtain rfl := Option.some.inj H
                go_wp2_with (first | ((with_reducible refine gate_callee (f := 7) rfl ?_); refine goesL_ (some 75) rfl rfl Tryd.func7 (by kernel_rfl) rfl #[.string (x3_a0 ++ (⟨#[120]⟩ : ByteArray)), .int .i64 (x3_a0.size : Int)] rfl (by (try simp only [List.map_toArray, List.map_cons, List.map_nil]); first | done | (simp only [hji3]; rfl) | rfl | (simp only [List.length_drop, List.length_take]; rfl) | (simp [Act.eval, IntKind.wrap, IntKind.bits, IntKind.signed]; (repeat (first | (rename (decide _ = false) => h_; replace h_ := of_decide_eq_false h_) | (rename (decide _ = true) => h_; replace h_ := of_decide_eq_true h_))); omega)) ?_; (with_reducible refine (le_Fill.calls (x3_a0 ++ (⟨#[120]⟩ : ByteArray)) (x3_a0.size : Int) t121 t122 _ A23.out).mono ?_); rintro e w46 ⟨rfl, hb⟩; refine ⟨_, rfl, ?_⟩; have n0_ := Aside0.mk (below_step (by repeat (first | (with_reducible first | exact HB.out | apply below_alloc | apply pw_below_drewN | apply below_drew1) | exact HB.out)) hb); clear HB; have HB := n0_; clear n0_; (try clear hb); (try clear hb2); (try clear hk); (try clear hi)) | ((with_reducible refine gate_callee (f := 9) rfl ?_); refine goesL_ (some 78) rfl rfl Tryd.func9 (by kernel_rfl) rfl #[] rfl (by (try simp only [List.map_toArray, List.map_cons, List.map_nil]); first | done | rfl | (simp only [List.length_drop, List.length_take]; rfl) | (simp [Act.eval, IntKind.wrap, IntKind.bits, IntKind.signed]; (repeat (first | (rename (decide _ = false) => h_; replace h_ := of_decide_eq_false h_) | (rename (decide _ = true) => h_; replace h_ := of_decide_eq_true h_))); omega)) ?_; (with_reducible refine (doorwardlaw01_alive.calls kj10  false _ A24.out).mono ?_); rintro e w47 ⟨rfl, hb⟩; refine ⟨_, rfl, ?_⟩; have n0_ := Aside0.mk (below_step (by repeat (first | (with_reducible first | exact HB.out | apply below_alloc | apply pw_below_drewN | apply below_drew1) | exact HB.out)) hb); clear HB; have HB := n0_; clear n0_; (try clear hb); (try clear hb2); (try clear hk); (try clear hi)))
                go_ret
                exact ⟨by first | rfl | (rw [show ∀ n_ : Int, -9223372036854775808 ≤ n_ → n_ < 9223372036854775808 → wrap64 n_ = n_ from fun n_ h1_ h2_ => by unfold wrap64; omega] <;> first | rfl | omega) | (simp [errW_none, errW_some] <;> rfl) | (simp only [← hji3, ← hji6, ← hji7]; first | rfl | (simp [errW_none, errW_some] <;> rfl)) | (simp [*, errW_none, errW_some] <;> rfl), by repeat (first | (with_reducible first | exact HB.out | apply below_alloc | apply pw_below_drewN | apply below_drew1) | exact HB.out)⟩
            · rw [if_neg c22] at H
              exact absurd H (by simp)
    · rw [if_neg c5] at H
      exact absurd H (by simp)
  · rw [if_neg c4] at H
    exact absurd H (by simp)

/-- THE ONE PURE STATEMENT of doorwardlaw01_LeFills: yours. -/
def doorwardlaw01_LeFills.Pure : Prop := ∀ (a0 : ByteArray) (a1 : Int), a0.size ≤ 140737488351232 → (Lit.int .i64 a1).wf = true → ∃ k, doorwardlaw01_LeFills.f k a0 a1 = some true
theorem doorwardlaw01_LeFills.walk (P : doorwardlaw01_LeFills.Pure) (a0 : ByteArray) (a1 : Int) (w : World) (w0 : a0.size ≤ 140737488351232) (w1 : (Lit.int .i64 a1).wf = true) :
    Calls Tryd.prog 4 #[.string a0, .int .i64 a1] w fun e w' => e = .returned (.bool true) ∧ Below w.heap.size w w' := by
  obtain ⟨k, h⟩ := P a0 a1 w0 w1
  refine (doorwardlaw01_LeFills.calls k a0 a1 true w h).mono ?_
  rintro e w' ⟨rfl, hd⟩
  exact ⟨rfl, hd⟩

end Go.Proofs.YtnglmibicdjhcaaDoor.Q
