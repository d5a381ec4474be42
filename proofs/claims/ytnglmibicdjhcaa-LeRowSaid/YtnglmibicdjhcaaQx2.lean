/- Go functions as Lean functions, each with a proof that the Go code comes to its answers; written by a program of this repository (mk.py, over the printer of the kit). Lean checks it. -/
import Derived.Test.YtnglmibicdjhcaaQx0
import Derived.Test.YtnglmibicdjhcaaQx1
namespace Go.Proofs.Ytnglmibicdjhcaa.Q
open Go.RowKit Go.Proofs.YtnglmibicdjhcaaW.PrintWords Go.Proofs.YtnglmibicdjhcaaW.PrintLast Go.Proofs.YtnglmibicdjhcaaW.PrintMore
attribute [local go_sem] max2_int min2_int max_two min_two max_three min_three max_four min_four   -- for this text's walks alone
set_option linter.unusedVariables false
set_option linter.unusedSimpArgs false

/-! ### doorwardref01_Get: function 16 -/
def doorwardref01_Get.j0 : Nat → ByteArray → Int → Int → Bool → Option (Int × Int × Int)
  | 0, _, _, _, _ => none
  | k + 1, x0, x1, x2, x18 => if x18 = true then (some (0, 0, 1)) else (if x1 > (x0.size : Int) then (some (0, 0, 3)) else (if (wrap64 ((x0.size : Int) - x1)) < x2 then (some (0, 0, 3)) else (if 0 ≤ x1 then (if x1 ≤ (wrap64 (x1 + x2)) then (if (wrap64 (x1 + x2)) ≤ (x0.size : Int) then ((doorwardref01_Number.f k (x0.extract (x1 : Int).toNat ((wrap64 (x1 + x2)) : Int).toNat)).bind fun t113 => (some (t113, wrap64 (x1 + x2), 0))) else (none)) else (none)) else (none))))
def doorwardref01_Get.f (k : Nat) (a0 : ByteArray) (a1 : Int) (a2 : Int) : Option (Int × Int × Int) := if a2 < 1 then (doorwardref01_Get.j0 k a0 a1 a2 true) else (if a2 > 8 then (doorwardref01_Get.j0 k a0 a1 a2 true) else (doorwardref01_Get.j0 k a0 a1 a2 (decide (a1 < 0))))
theorem doorwardref01_Get.mono_l : ∀ k, (∀ y0 y1 y2 y3, LeO (doorwardref01_Get.j0 k y0 y1 y2 y3) (doorwardref01_Get.j0 (k + 1) y0 y1 y2 y3))
  | 0 => fun _ _ _ _ r h => by simp [doorwardref01_Get.j0] at h
  | k + 1 => by
    have ih0 := doorwardref01_Get.mono_l k
    · intro y0 y1 y2 y3
      unfold doorwardref01_Get.j0
      repeat' first
      | (with_reducible exact ih0 _ _ _ _)
      | (with_reducible exact doorwardref01_Number.mono _ _)
      | (with_reducible exact LeO.refl _)
      | (with_reducible exact LeO.none _)
      | (with_reducible refine LeO.ite ?_ ?_)
      | (with_reducible refine LeO.bind ?_ (fun _ => ?_))
      | exact ih0 _ _ _ _
      | exact doorwardref01_Number.mono _ _
      | exact LeO.none _
      | refine LeO.ite ?_ ?_
      | refine LeO.bind ?_ (fun _ => ?_)
theorem doorwardref01_Get.mono : ∀ a0 a1 a2 k, LeO (doorwardref01_Get.f k a0 a1 a2) (doorwardref01_Get.f (k + 1) a0 a1 a2) := by
  intro a0 a1 a2 k
  have ih0 := doorwardref01_Get.mono_l k
  unfold doorwardref01_Get.f
  repeat' first
      | (with_reducible exact ih0 _ _ _ _)
      | (with_reducible exact doorwardref01_Number.mono _ _)
      | (with_reducible exact LeO.refl _)
      | (with_reducible exact LeO.none _)
      | (with_reducible refine LeO.ite ?_ ?_)
      | (with_reducible refine LeO.bind ?_ (fun _ => ?_))
      | exact ih0 _ _ _ _
      | exact doorwardref01_Number.mono _ _
      | exact LeO.none _
      | refine LeO.ite ?_ ?_
      | refine LeO.bind ?_ (fun _ => ?_)
set_option maxHeartbeats 8000000 in
set_option maxRecDepth 100000 in
theorem doorwardref01_Get.calls (k : Nat) (a0 : ByteArray) (a1 : Int) (a2 : Int) (r1 : Int) (r2 : Int) (r3 : Int) (w : World) (h : doorwardref01_Get.f k a0 a1 a2 = some (r1, r2, r3)) :
    Calls Try.prog 16 #[.string a0, .int .i64 a1, .int .i64 a2] w fun e w' => e = .returned (.tuple #[.int .u64 r1, .int .i64 r2, .int .i64 r3]) ∧ Drawn0 w w' := by
  have H : (if a2 < 1 then (doorwardref01_Get.j0 k a0 a1 a2 true) else (if a2 > 8 then (doorwardref01_Get.j0 k a0 a1 a2 true) else (doorwardref01_Get.j0 k a0 a1 a2 (decide (a1 < 0))))) = some (r1, r2, r3) := h
  clear h
  have HC4 := Aside0.mk H
  clear H
  go_enter Try.func16, Try.ntmps16
  go_upto_region 1 with (fail)
  go_cut [18] (fun v18 wc => ∃ (kq : Nat) (x18_3 : Bool), v18 = .bool x18_3 ∧ Aside0 (doorwardref01_Get.j0 kq a0 a1 a2 x18_3 = some (r1, r2, r3)) ∧ Aside0 (kq ≤ k) ∧ Drawn0 w wc)
  case first =>
    have H := HC4.out
    clear HC4
    by_cases c5 : a2 < 1
    · rw [if_pos c5] at H
      have c5b0 : decide (a2 < 1) = true := decide_eq_true c5
      clear c5
      (first | rw [c5b0] | (simp only [i64_w, i32_w]; rw [c5b0]) | skip)
      have H' := Aside0.mk H
      clear H
      go_wp2
      go_meet
      case rel => exact ⟨_, (true), (by first | rfl | (simp; done) | (simp [*]; done)), H', ⟨by first | omega | exact Nat.le_refl _⟩, by repeat (first | exact Drawn0.refl _ | apply Drawn0.step)⟩
    · rw [if_neg c5] at H
      have c5b0 : decide (a2 < 1) = false := decide_eq_false c5
      clear c5
      (first | rw [c5b0] | (simp only [i64_w, i32_w]; rw [c5b0]) | skip)
      by_cases c6 : a2 > 8
      · rw [if_pos c6] at H
        have c6b0 : decide (8 < a2) = true := decide_eq_true c6
        clear c6
        have H' := Aside0.mk H
        clear H
        go_wp2
        go_meet
        case rel => exact ⟨_, (true), (by first | rfl | (simp; done) | (simp [*]; done)), H', ⟨by first | omega | exact Nat.le_refl _⟩, by repeat (first | exact Drawn0.refl _ | apply Drawn0.step)⟩
      · rw [if_neg c6] at H
        have c6b0 : decide (8 < a2) = false := decide_eq_false c6
        clear c6
        have H' := Aside0.mk H
        clear H
        go_wp2
        go_meet
        case rel => exact ⟨_, (decide (a1 < 0)), (by first | rfl | (simp; done) | (simp [*]; done)), H', ⟨by first | omega | exact Nat.le_refl _⟩, by repeat (first | exact Drawn0.refl _ | apply Drawn0.step)⟩
  case rest =>
    clear HC4
    try clear c1
    try clear p2
    try clear c5
    try clear c5b0
    try clear c6
    try clear c6b0
    obtain ⟨kq, x18_3, rfl, HA, HJ3, ⟨mc3, rfl⟩⟩ := hcut
    cases kq with
    | zero => exact absurd HA.out (by simp [doorwardref01_Get.j0])
    | succ kj3 =>
      have H := HA.out
      clear HA
      simp only [doorwardref01_Get.j0] at H
      by_cases c7 : x18_3 = true
      · subst c7
        have H1 : (some (0, 0, 1)) = some (r1, r2, r3) := by rw [if_pos rfl] at H; exact H
        clear H
        have H := H1
        clear H1
        simp only [Option.some.injEq, Prod.mk.injEq] at H
        obtain ⟨rfl, rfl, rfl⟩ := H
        go_wp2
        go_ret3
        exact ⟨by first | rfl | (simp; done) | (simp [*]; done), by repeat (first | exact Drawn0.refl _ | apply Drawn0.step)⟩
      · replace c7 := Bool.eq_false_iff.mpr c7
        subst c7
        have H1 : (if a1 > (a0.size : Int) then (some (0, 0, 3)) else (if (wrap64 ((a0.size : Int) - a1)) < a2 then (some (0, 0, 3)) else (if 0 ≤ a1 then (if a1 ≤ (wrap64 (a1 + a2)) then (if (wrap64 (a1 + a2)) ≤ (a0.size : Int) then ((doorwardref01_Number.f kj3 (a0.extract (a1 : Int).toNat ((wrap64 (a1 + a2)) : Int).toNat)).bind fun t113 => (some (t113, wrap64 (a1 + a2), 0))) else (none)) else (none)) else (none)))) = some (r1, r2, r3) := by rw [if_neg (show ¬ (false = true) by decide)] at H; exact H
        clear H
        have H := H1
        clear H1
        by_cases c8 : a1 > (a0.size : Int)
        · rw [if_pos c8] at H
          have c8b0 : decide ((a0.size : Int) < a1) = true := decide_eq_true c8
          clear c8
          simp only [Option.some.injEq, Prod.mk.injEq] at H
          obtain ⟨rfl, rfl, rfl⟩ := H
          go_wp2
          go_ret3
          exact ⟨by first | rfl | (simp; done) | (simp [*]; done), by repeat (first | exact Drawn0.refl _ | apply Drawn0.step)⟩
        · rw [if_neg c8] at H
          have c8b0 : decide ((a0.size : Int) < a1) = false := decide_eq_false c8
          clear c8
          by_cases c9 : (wrap64 ((a0.size : Int) - a1)) < a2
          · rw [if_pos c9] at H
            have c9b0 : decide ((wrap64 ((a0.size : Int) - a1)) < a2) = true := decide_eq_true c9
            clear c9
            simp only [Option.some.injEq, Prod.mk.injEq] at H
            obtain ⟨rfl, rfl, rfl⟩ := H
            go_wp2
            go_ret3
            exact ⟨by first | rfl | (simp; done) | (simp [*]; done), by repeat (first | exact Drawn0.refl _ | apply Drawn0.step)⟩
          · rw [if_neg c9] at H
            have c9b0 : decide ((wrap64 ((a0.size : Int) - a1)) < a2) = false := decide_eq_false c9
            clear c9
            by_cases c10 : 0 ≤ a1
            · rw [if_pos c10] at H
              have c10b0 := eq_true c10
              have c10b1 : decide (0 ≤ a1) = true := decide_eq_true c10
              clear c10
              by_cases c11 : a1 ≤ (wrap64 (a1 + a2))
              · rw [if_pos c11] at H
                have c11b0 := eq_true c11
                have c11b1 : decide (a1 ≤ (wrap64 (a1 + a2))) = true := decide_eq_true c11
                by_cases c12 : (wrap64 (a1 + a2)) ≤ (a0.size : Int)
                · rw [if_pos c12] at H
                  have c12b0 := eq_true c12
                  have c12b1 : decide ((wrap64 (a1 + a2)) ≤ (a0.size : Int)) = true := decide_eq_true c12
                  replace H := Option.bind_eq_some_iff.mp H
                  obtain ⟨t113, A130, H⟩ := H
                  replace H : (some (t113, wrap64 (a1 + a2), 0)) = some (r1, r2, r3) := H
                  have A13 := Aside0.mk A130
                  clear A130
                  simp only [Option.some.injEq, Prod.mk.injEq] at H
                  obtain ⟨rfl, rfl, rfl⟩ := H
                  go_wp2_with (first | ((with_reducible refine gate_callee (f := 39) rfl ?_); refine goesL_ (some 37) rfl rfl Try.func39 (by kernel_rfl) rfl #[.string (a0.extract (a1 : Int).toNat ((wrap64 (a1 + a2)) : Int).toNat)] rfl (by (try simp only [List.map_toArray, List.map_cons, List.map_nil]); first | done | rfl | (simp only [List.length_drop, List.length_take]; rfl) | (simp [Act.eval, IntKind.wrap, IntKind.bits, IntKind.signed]; (repeat (first | (rename (decide _ = false) => h_; replace h_ := of_decide_eq_false h_) | (rename (decide _ = true) => h_; replace h_ := of_decide_eq_true h_))); omega)) ?_; (with_reducible refine (doorwardref01_Number.calls kj3 (a0.extract (a1 : Int).toNat ((wrap64 (a1 + a2)) : Int).toNat) t113 _ A13.out).mono ?_); rintro e w' ⟨rfl, ⟨nd, rfl⟩⟩; refine ⟨_, rfl, ?_⟩))
                  go_ret3
                  exact ⟨by first | rfl | (simp; done) | (simp [*]; done), by repeat (first | exact Drawn0.refl _ | apply Drawn0.step)⟩
                · rw [if_neg c12] at H
                  exact absurd H (by simp)
              · rw [if_neg c11] at H
                exact absurd H (by simp)
            · rw [if_neg c10] at H
              exact absurd H (by simp)

/-! ### doorwardlaw01_alive: function 17 -/
def doorwardlaw01_alive.f (k : Nat)  : Option (Bool) := (le_Put.f k 258 2).bind fun bt114 => (if bt114.2 = 0 then (some (bt114.1.toList == ([2, 1] : List UInt8))) else (some false))
theorem doorwardlaw01_alive.mono : ∀ k, LeO (doorwardlaw01_alive.f k ) (doorwardlaw01_alive.f (k + 1) ) := by
  intro  k
  unfold doorwardlaw01_alive.f
  repeat' first
      | (with_reducible exact le_Put.mono _ _ _)
      | (with_reducible exact LeO.refl _)
      | (with_reducible exact LeO.none _)
      | (with_reducible refine LeO.ite ?_ ?_)
      | (with_reducible refine LeO.bind ?_ (fun _ => ?_))
      | exact le_Put.mono _ _ _
      | exact LeO.none _
      | refine LeO.ite ?_ ?_
      | refine LeO.bind ?_ (fun _ => ?_)
set_option maxHeartbeats 8000000 in
set_option maxRecDepth 100000 in
theorem doorwardlaw01_alive.calls (k : Nat)  (r : Bool) (w : World) (h : doorwardlaw01_alive.f k  = some r) :
    Calls Try.prog 17 #[] w fun e w' => e = .returned (.bool r) ∧ Below w.heap.size w w' := by
  have HB := Aside0.mk (Below.refl w.heap.size w)
  have H : ((le_Put.f k 258 2).bind fun bt114 => (if bt114.2 = 0 then (some (bt114.1.toList == ([2, 1] : List UInt8))) else (some false))) = some r := h
  clear h
  replace H := Option.bind_eq_some_iff.mp H
  obtain ⟨⟨t114, t115⟩, A10, H⟩ := H
  replace H : (if t115 = 0 then (some (t114.toList == ([2, 1] : List UInt8))) else (some false)) = some r := H
  have A1 := Aside0.mk A10
  clear A10
  by_cases c2 : t115 = 0
  · rw [if_pos c2] at H
    have c2b0 : (t115 == 0) = true := beq_iff_eq.mpr c2
    have c2b1 : (t115 != 0) = false := bne_eq_false_iff_eq.mpr c2
    clear c2
    obtain rfl := Option.some.inj H
    go_enter Try.func17, Try.ntmps17
    go_wp2_with (first | ((with_reducible refine gate_callee (f := 13) rfl ?_); refine goesL_ (some 4) rfl rfl Try.func13 (by kernel_rfl) rfl #[.int .u64 258, .int .i64 2] rfl (by (try simp only [List.map_toArray, List.map_cons, List.map_nil]); first | done | rfl | (simp only [List.length_drop, List.length_take]; rfl) | (simp [Act.eval, IntKind.wrap, IntKind.bits, IntKind.signed]; (repeat (first | (rename (decide _ = false) => h_; replace h_ := of_decide_eq_false h_) | (rename (decide _ = true) => h_; replace h_ := of_decide_eq_true h_))); omega)) ?_; (with_reducible refine (le_Put.calls k 258 2 t114 t115 _ A1.out).mono ?_); rintro e w3 ⟨rfl, hb⟩; refine ⟨_, rfl, ?_⟩; have n0_ := Aside0.mk (below_step (by repeat (first | (with_reducible first | exact HB.out | apply below_alloc | apply pw_below_drewN | apply below_drew1) | exact HB.out)) hb); clear HB; have HB := n0_; clear n0_; (try clear hb); (try clear hb2); (try clear hk); (try clear hi)))
    go_ret
    exact ⟨by first | rfl | (rw [show ∀ n_ : Int, -9223372036854775808 ≤ n_ → n_ < 9223372036854775808 → wrap64 n_ = n_ from fun n_ h1_ h2_ => by unfold wrap64; omega] <;> first | rfl | omega) | (simp [errW_none, errW_some] <;> rfl) | (simp [*, errW_none, errW_some] <;> rfl), by repeat (first | (with_reducible first | exact HB.out | apply below_alloc | apply pw_below_drewN | apply below_drew1) | exact HB.out)⟩
  · rw [if_neg c2] at H
    have c2b0 : (t115 == 0) = false := beq_eq_false_iff_ne.mpr c2
    have c2b1 : (t115 != 0) = true := bne_iff_ne.mpr c2
    obtain rfl := Option.some.inj H
    go_enter Try.func17, Try.ntmps17
    go_wp2_with (first | ((with_reducible refine gate_callee (f := 13) rfl ?_); refine goesL_ (some 4) rfl rfl Try.func13 (by kernel_rfl) rfl #[.int .u64 258, .int .i64 2] rfl (by (try simp only [List.map_toArray, List.map_cons, List.map_nil]); first | done | rfl | (simp only [List.length_drop, List.length_take]; rfl) | (simp [Act.eval, IntKind.wrap, IntKind.bits, IntKind.signed]; (repeat (first | (rename (decide _ = false) => h_; replace h_ := of_decide_eq_false h_) | (rename (decide _ = true) => h_; replace h_ := of_decide_eq_true h_))); omega)) ?_; (with_reducible refine (le_Put.calls k 258 2 t114 t115 _ A1.out).mono ?_); rintro e w4 ⟨rfl, hb⟩; refine ⟨_, rfl, ?_⟩; have n0_ := Aside0.mk (below_step (by repeat (first | (with_reducible first | exact HB.out | apply below_alloc | apply pw_below_drewN | apply below_drew1) | exact HB.out)) hb); clear HB; have HB := n0_; clear n0_; (try clear hb); (try clear hb2); (try clear hk); (try clear hi)))
    go_ret
    exact ⟨by first | rfl | (rw [show ∀ n_ : Int, -9223372036854775808 ≤ n_ → n_ < 9223372036854775808 → wrap64 n_ = n_ from fun n_ h1_ h2_ => by unfold wrap64; omega] <;> first | rfl | omega) | (simp [errW_none, errW_some] <;> rfl) | (simp [*, errW_none, errW_some] <;> rfl), by repeat (first | (with_reducible first | exact HB.out | apply below_alloc | apply pw_below_drewN | apply below_drew1) | exact HB.out)⟩

end Go.Proofs.Ytnglmibicdjhcaa.Q
