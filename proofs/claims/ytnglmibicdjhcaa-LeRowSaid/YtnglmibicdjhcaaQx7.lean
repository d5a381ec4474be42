/- Go functions as Lean functions, each with a proof that the Go code comes to its answers; written by a program of this repository (mk.py, over the printer of the kit). Lean checks it. -/
import Derived.Test.YtnglmibicdjhcaaQx0
import Derived.Test.YtnglmibicdjhcaaQx2
import Derived.Test.YtnglmibicdjhcaaQx4
namespace Go.Proofs.Ytnglmibicdjhcaa.Q
open Go.RowKit Go.Proofs.YtnglmibicdjhcaaW.PrintWords Go.Proofs.YtnglmibicdjhcaaW.PrintLast Go.Proofs.YtnglmibicdjhcaaW.PrintMore
attribute [local go_sem] max2_int min2_int max_two min_two max_three min_three max_four min_four   -- for this text's walks alone
set_option linter.unusedVariables false
set_option linter.unusedSimpArgs false

/-! ### doorwardlaw01_LeRow: function 6 -/
mutual
def doorwardlaw01_LeRow.l0 : Nat → List ByteArray → ByteArray → List ByteArray → Int → Int → Option (Bool)
  | 0, _, _, _, _, _ => none
  | k + 1, x0, x3, x22, x23, x24 => if x24 < x23 then (if 0 ≤ x24 then (if x24 < (x22.length : Int) then (if 0 ≤ (mn ((rdOf ByteArray.empty x22 x24).size : Int) 200) then (if (mn ((rdOf ByteArray.empty x22 x24).size : Int) 200) ≤ ((rdOf ByteArray.empty x22 x24).size : Int) then ((le_Text.f k ((rdOf ByteArray.empty x22 x24).extract 0 ((mn ((rdOf ByteArray.empty x22 x24).size : Int) 200) : Int).toNat)).bind fun bt174 => (if bt174.2 = 0 then (if x3.size + bt174.1.size ≤ 9223372036854775807 then (doorwardlaw01_LeRow.l0 k x0 (x3 ++ bt174.1) x22 x23 (wrap64 (x24 + 1))) else (none)) else (some false))) else (none)) else (none)) else (none)) else (none)) else (doorwardlaw01_LeRow.l1 k x3 0 x0 (x0.length : Int) 0)
def doorwardlaw01_LeRow.l1 : Nat → ByteArray → Int → List ByteArray → Int → Int → Option (Bool)
  | 0, _, _, _, _, _ => none
  | k + 1, x3, x8, x43, x44, x45 => if x45 < x44 then (if 0 ≤ x45 then (if x45 < (x43.length : Int) then ((le_Cut.f k x3 x8).bind fun bt177 => (if bt177.2.2 = 0 then (if 0 ≤ (mn ((rdOf ByteArray.empty x43 x45).size : Int) 200) then (if (mn ((rdOf ByteArray.empty x43 x45).size : Int) 200) ≤ ((rdOf ByteArray.empty x43 x45).size : Int) then (if bt177.1.toList = ((rdOf ByteArray.empty x43 x45).extract 0 ((mn ((rdOf ByteArray.empty x43 x45).size : Int) 200) : Int).toNat).toList then (if bt177.2.1 = (wrap64 ((wrap64 (x8 + 2)) + (bt177.1.size : Int))) then (doorwardlaw01_LeRow.l1 k x3 bt177.2.1 x43 x44 (wrap64 (x45 + 1))) else (some false)) else (some false)) else (none)) else (none)) else (some false))) else (none)) else (none)) else ((le_Cut.f k x3 x8).bind fun bt180 => ((doorwardlaw01_alive.f k).bind fun t183 => (if t183 = true then (if x8 = (x3.size : Int) then (some (bt180.2.2 == 3)) else (some false)) else (some false))))
end
def doorwardlaw01_LeRow.f (k : Nat) (l0 : List ByteArray) : Option (Bool) := if 0 ≤ (mn (l0.length : Int) 30) then (if (mn (l0.length : Int) 30) ≤ (l0.length : Int) then (doorwardlaw01_LeRow.l0 k (l0.take ((mn (l0.length : Int) 30) : Int).toNat) (⟨#[]⟩ : ByteArray) (l0.take ((mn (l0.length : Int) 30) : Int).toNat) ((l0.take ((mn (l0.length : Int) 30) : Int).toNat).length : Int) 0) else (none)) else (none)
theorem doorwardlaw01_LeRow.mono_l : ∀ k, (∀ y0 y1 y2 y3 y4, LeO (doorwardlaw01_LeRow.l0 k y0 y1 y2 y3 y4) (doorwardlaw01_LeRow.l0 (k + 1) y0 y1 y2 y3 y4)) ∧ (∀ y0 y1 y2 y3 y4, LeO (doorwardlaw01_LeRow.l1 k y0 y1 y2 y3 y4) (doorwardlaw01_LeRow.l1 (k + 1) y0 y1 y2 y3 y4))
  | 0 => ⟨fun _ _ _ _ _ r h => by simp [doorwardlaw01_LeRow.l0] at h, fun _ _ _ _ _ r h => by simp [doorwardlaw01_LeRow.l1] at h⟩
  | k + 1 => by
    obtain ⟨ih0, ih1⟩ := doorwardlaw01_LeRow.mono_l k
    refine ⟨?_, ?_⟩
    · intro y0 y1 y2 y3 y4
      unfold doorwardlaw01_LeRow.l0
      repeat' first
      | (with_reducible exact ih0 _ _ _ _ _)
      | (with_reducible exact ih1 _ _ _ _ _)
      | (with_reducible exact doorwardlaw01_alive.mono _)
      | (with_reducible exact le_Cut.mono _ _ _)
      | (with_reducible exact le_Text.mono _ _)
      | (with_reducible exact LeO.refl _)
      | (with_reducible exact LeO.none _)
      | (with_reducible refine LeO.ite ?_ ?_)
      | (with_reducible refine LeO.bind ?_ (fun _ => ?_))
      | exact ih0 _ _ _ _ _
      | exact ih1 _ _ _ _ _
      | exact doorwardlaw01_alive.mono _
      | exact le_Cut.mono _ _ _
      | exact le_Text.mono _ _
      | exact LeO.none _
      | refine LeO.ite ?_ ?_
      | refine LeO.bind ?_ (fun _ => ?_)
    · intro y0 y1 y2 y3 y4
      unfold doorwardlaw01_LeRow.l1
      repeat' first
      | (with_reducible exact ih0 _ _ _ _ _)
      | (with_reducible exact ih1 _ _ _ _ _)
      | (with_reducible exact doorwardlaw01_alive.mono _)
      | (with_reducible exact le_Cut.mono _ _ _)
      | (with_reducible exact le_Text.mono _ _)
      | (with_reducible exact LeO.refl _)
      | (with_reducible exact LeO.none _)
      | (with_reducible refine LeO.ite ?_ ?_)
      | (with_reducible refine LeO.bind ?_ (fun _ => ?_))
      | exact ih0 _ _ _ _ _
      | exact ih1 _ _ _ _ _
      | exact doorwardlaw01_alive.mono _
      | exact le_Cut.mono _ _ _
      | exact le_Text.mono _ _
      | exact LeO.none _
      | refine LeO.ite ?_ ?_
      | refine LeO.bind ?_ (fun _ => ?_)
theorem doorwardlaw01_LeRow.mono : ∀ a0 k, LeO (doorwardlaw01_LeRow.f k a0) (doorwardlaw01_LeRow.f (k + 1) a0) := by
  intro a0 k
  obtain ⟨ih0, ih1⟩ := doorwardlaw01_LeRow.mono_l k
  unfold doorwardlaw01_LeRow.f
  repeat' first
      | (with_reducible exact ih0 _ _ _ _ _)
      | (with_reducible exact ih1 _ _ _ _ _)
      | (with_reducible exact doorwardlaw01_alive.mono _)
      | (with_reducible exact le_Cut.mono _ _ _)
      | (with_reducible exact le_Text.mono _ _)
      | (with_reducible exact LeO.refl _)
      | (with_reducible exact LeO.none _)
      | (with_reducible refine LeO.ite ?_ ?_)
      | (with_reducible refine LeO.bind ?_ (fun _ => ?_))
      | exact ih0 _ _ _ _ _
      | exact ih1 _ _ _ _ _
      | exact doorwardlaw01_alive.mono _
      | exact le_Cut.mono _ _ _
      | exact le_Text.mono _ _
      | exact LeO.none _
      | refine LeO.ite ?_ ?_
      | refine LeO.bind ?_ (fun _ => ?_)
set_option maxHeartbeats 8000000 in
set_option maxRecDepth 100000 in
theorem doorwardlaw01_LeRow.calls (k : Nat) (A0 : Option Addr) (c0 : Nat) (l0 : List ByteArray) (r : Bool) (w : World) (hr0 : Kd.C Kd.string w A0 l0.length l0) (hc0 : l0.length ≤ c0) (h : doorwardlaw01_LeRow.f k l0 = some r) :
    Calls Try.prog 6 #[.slice A0 l0.length c0] w fun e w' => e = .returned (.bool r) ∧ Below w.heap.size w w' := by
  have HR0 := Aside0.mk hr0
  have HC0 := Aside0.mk hc0
  clear hr0 hc0
  have HB := Aside0.mk (Below.refl w.heap.size w)
  have H : (if 0 ≤ (mn (l0.length : Int) 30) then (if (mn (l0.length : Int) 30) ≤ (l0.length : Int) then (doorwardlaw01_LeRow.l0 k (l0.take ((mn (l0.length : Int) 30) : Int).toNat) (⟨#[]⟩ : ByteArray) (l0.take ((mn (l0.length : Int) 30) : Int).toNat) ((l0.take ((mn (l0.length : Int) 30) : Int).toNat).length : Int) 0) else (none)) else (none)) = some r := h
  clear h
  obtain ⟨ji2, hji2⟩ : ∃ j_ : Int, (mn (l0.length : Int) 30) = j_ := ⟨_, rfl⟩
  replace H : (if 0 ≤ (ji2) then (if (ji2) ≤ (l0.length : Int) then (doorwardlaw01_LeRow.l0 k (l0.take ((ji2) : Int).toNat) (⟨#[]⟩ : ByteArray) (l0.take ((ji2) : Int).toNat) ((l0.take ((ji2) : Int).toNat).length : Int) 0) else (none)) else (none)) = some r := by first | (rw [hji2] at H; exact H) | (simp only [hji2] at H ⊢; exact H)
  (try (have hji2h : ji2 ≤ 30 := by (rw [← hji2]; unfold mn; (repeat' split) <;> omega)))
  (try (have hji2g : ji2 ≤ 64 := by omega))
  (try (have hji2l : 0 ≤ ji2 := by (rw [← hji2]; unfold mn; (repeat' split) <;> omega)))
  (try (have hji2m : 0 ≤ ji2 := by omega))
  have hji2_ : (if 30 < (l0.length : Int) then 30 else (l0.length : Int)) = ji2 := hji2
  by_cases c3 : 0 ≤ (ji2)
  · rw [if_pos c3] at H
    have c3b0 := eq_true c3
    have c3b1 : decide (0 ≤ (ji2)) = true := decide_eq_true c3
    clear c3
    by_cases c4 : (ji2) ≤ (l0.length : Int)
    · rw [if_pos c4] at H
      have c4b0 := eq_true c4
      have c4b1 : decide ((ji2) ≤ (l0.length : Int)) = true := decide_eq_true c4
      clear c4
      have H' := Aside0.mk H
      clear H
      obtain ⟨i05, hi05, _, hsz5, _⟩ := info_parts info9
      obtain ⟨hcut5, hA5, hC5⟩ := print_take_of (P := Try.prog) Value.string (⟨#[]⟩ : ByteArray) 36 9 .i64 Try.underlying36 hi05 hsz5 A0 c0 l0 (ji2) (of_decide_eq_true (by first | (with_reducible assumption) | assumption)) (of_decide_eq_true (by first | (with_reducible assumption) | assumption)) HC0.out
      have HR172 := Aside0.mk (Kd.C_of_reads (h1 := fun _ => rfl) (hA5 _ (Kd.reads_of_C HR0.out)))
      have HC172 := Aside0.mk hC5
      clear hA5 hC5 hi05 hsz5
      obtain ⟨y2_l0, hy2_l0, hy2_l0l⟩ : ∃ y_, (l0.take ((ji2) : Int).toNat) = y_ ∧ ji2 = (y_.length : Int) := ⟨_, rfl, by rw [List.length_take]; (repeat (first | (rename (decide _ = true) => h_; replace h_ := of_decide_eq_true h_))); omega⟩
      (try simp only [hy2_l0] at hcut5)
      (try simp only [hy2_l0] at HR172)
      (try simp only [hy2_l0] at HC172)
      (try simp only [hy2_l0] at H')
      (try simp only [hy2_l0] at H)
      subst hy2_l0l
      go_enter Try.func6, Try.ntmps6
      go_wp2
      go_loopg [3, 24] k (fun kq v3 v24 w' => ∃ (x3_1 : ByteArray) (x24_1 : Int), v3 = .string x3_1 ∧ v24 = .int .i64 x24_1 ∧ Aside0 (doorwardlaw01_LeRow.l0 kq y2_l0 x3_1 y2_l0 (y2_l0.length : Int) x24_1 = some r) ∧ Aside0 (kq ≤ k) ∧ Aside0 (Below w.heap.size w w'))
      case atStart => exact ⟨((⟨#[]⟩ : ByteArray)), (0), (by first | rfl | (simp; done) | (simp [*]; done)), (by first | rfl | (simp; done) | (simp [*]; done)), H', ⟨Nat.le_refl _⟩, ⟨by repeat (first | (with_reducible first | exact HB.out | apply below_alloc | apply pw_below_drewN | apply below_drew1) | exact HB.out)⟩⟩
      case round =>
        clear H'
        try clear p2
        try clear c3
        try clear c3b0
        try clear c3b1
        try clear c4
        try clear c4b0
        try clear c4b1
        obtain ⟨x3_1, x24_1, rfl, rfl, HA, HK1, HB⟩ := hrel
        cases gk with
        | zero => exact absurd HA.out (by simp [doorwardlaw01_LeRow.l0])
        | succ k1 =>
          have H := HA.out
          clear HA
          simp only [doorwardlaw01_LeRow.l0] at H
          by_cases c6 : x24_1 < (y2_l0.length : Int)
          · rw [if_pos c6] at H
            have c6b0 : decide (x24_1 < (y2_l0.length : Int)) = true := decide_eq_true c6
            clear c6
            by_cases c7 : 0 ≤ x24_1
            · rw [if_pos c7] at H
              have c7b0 : decide (0 ≤ x24_1) = true := decide_eq_true c7
              clear c7
              by_cases c8 : x24_1 < (y2_l0.length : Int)
              · rw [if_pos c8] at H
                have c8b0 : decide (x24_1 < (y2_l0.length : Int)) = true := decide_eq_true c8
                clear c8
                obtain ⟨ji9, hji9⟩ : ∃ j_ : Int, (mn ((rdOf ByteArray.empty y2_l0 x24_1).size : Int) 200) = j_ := ⟨_, rfl⟩
                replace H : (if 0 ≤ (ji9) then (if (ji9) ≤ ((rdOf ByteArray.empty y2_l0 x24_1).size : Int) then ((le_Text.f k1 ((rdOf ByteArray.empty y2_l0 x24_1).extract 0 ((ji9) : Int).toNat)).bind fun bt174 => (if bt174.2 = 0 then (if x3_1.size + bt174.1.size ≤ 9223372036854775807 then (doorwardlaw01_LeRow.l0 k1 y2_l0 (x3_1 ++ bt174.1) y2_l0 (y2_l0.length : Int) (wrap64 (x24_1 + 1))) else (none)) else (some false))) else (none)) else (none)) = some r := by first | (rw [hji9] at H; exact H) | (simp only [hji9] at H ⊢; exact H)
                have hji9_ : (if 200 < ((rdOf ByteArray.empty y2_l0 x24_1).size : Int) then 200 else ((rdOf ByteArray.empty y2_l0 x24_1).size : Int)) = ji9 := hji9
                by_cases c10 : 0 ≤ (ji9)
                · rw [if_pos c10] at H
                  have c10b0 := eq_true c10
                  have c10b1 : decide (0 ≤ (ji9)) = true := decide_eq_true c10
                  clear c10
                  by_cases c11 : (ji9) ≤ ((rdOf ByteArray.empty y2_l0 x24_1).size : Int)
                  · rw [if_pos c11] at H
                    have c11b0 := eq_true c11
                    have c11b1 : decide ((ji9) ≤ ((rdOf ByteArray.empty y2_l0 x24_1).size : Int)) = true := decide_eq_true c11
                    clear c11
                    replace H := Option.bind_eq_some_iff.mp H
                    obtain ⟨⟨t174, t175⟩, A120, H⟩ := H
                    replace H : (if t175 = 0 then (if x3_1.size + t174.size ≤ 9223372036854775807 then (doorwardlaw01_LeRow.l0 k1 y2_l0 (x3_1 ++ t174) y2_l0 (y2_l0.length : Int) (wrap64 (x24_1 + 1))) else (none)) else (some false)) = some r := H
                    have A12 := Aside0.mk A120
                    clear A120
                    by_cases c13 : t175 = 0
                    · rw [if_pos c13] at H
                      have c13b0 : (t175 == 0) = true := beq_iff_eq.mpr c13
                      have c13b1 : (t175 != 0) = false := bne_eq_false_iff_eq.mpr c13
                      clear c13
                      by_cases c14 : x3_1.size + t174.size ≤ 9223372036854775807
                      · rw [if_pos c14] at H
                        have c14b0 := eq_true c14
                        have c14b1 : decide (x3_1.size + t174.size ≤ 9223372036854775807) = true := decide_eq_true c14
                        try have c14b2 : (9223372036854775807 < x3_1.size + t174.size) = False := eq_false (Nat.not_lt.2 c14)
                        have H' := Aside0.mk H
                        clear H
                        have p173 : 0 ≤ (x24_1 : Int) := of_decide_eq_true (by first | (with_reducible assumption) | assumption)
                        have q173 : x24_1 < (y2_l0.length : Int) := of_decide_eq_true (by first | (with_reducible assumption) | assumption)
                        obtain ⟨ad173, e173, hx173_0⟩ := Kd.at_string HR172.out x24_1 p173 q173
                        cases e173
                        replace hx173_0 := (HB.out.cell (World.block_lt_of_cell? w _ hx173_0)).trans hx173_0
                        replace p173 := eq_true p173
                        replace q173 := eq_true q173
                        go_wp2_with (first | ((with_reducible refine gate_callee (f := 18) rfl ?_); refine goesL_ (some 34) rfl rfl Try.func18 (by kernel_rfl) rfl #[.string ((rdOf ByteArray.empty y2_l0 x24_1).extract 0 ((ji9) : Int).toNat)] rfl (by (try simp only [List.map_toArray, List.map_cons, List.map_nil]); first | done | (simp only [hji2, hji9]; rfl) | rfl | (simp only [List.length_drop, List.length_take]; rfl) | (simp [Act.eval, IntKind.wrap, IntKind.bits, IntKind.signed]; (repeat (first | (rename (decide _ = false) => h_; replace h_ := of_decide_eq_false h_) | (rename (decide _ = true) => h_; replace h_ := of_decide_eq_true h_))); omega)) ?_; (with_reducible refine (le_Text.calls k1 ((rdOf ByteArray.empty y2_l0 x24_1).extract 0 ((ji9) : Int).toNat) t174 t175 _ A12.out).mono ?_); rintro e w15 ⟨rfl, hb⟩; refine ⟨_, rfl, ?_⟩; have n0_ := Aside0.mk (below_step (by repeat (first | (with_reducible first | exact HB.out | apply below_alloc | apply pw_below_drewN | apply below_drew1) | exact HB.out)) hb); clear HB; have HB := n0_; clear n0_; (try clear hb); (try clear hb2); (try clear hk); (try clear hi)))
                        go_roundg k1
                        case measure => have := HK1.out; omega
                        case rel => exact ⟨(x3_1 ++ t174), (wrap64 (x24_1 + 1)), (by first | rfl | (simp; done) | (simp [*]; done)), (by first | rfl | (simp; done) | (simp [*]; done)), H', ⟨by have := HK1.out; omega⟩, ⟨by repeat (first | (with_reducible first | exact HB.out | apply below_alloc | apply pw_below_drewN | apply below_drew1) | exact HB.out)⟩⟩
                      · rw [if_neg c14] at H
                        exact absurd H (by simp)
                    · rw [if_neg c13] at H
                      have c13b0 : (t175 == 0) = false := beq_eq_false_iff_ne.mpr c13
                      have c13b1 : (t175 != 0) = true := bne_iff_ne.mpr c13
                      obtain rfl := Option.some.inj H
                      have p173 : 0 ≤ (x24_1 : Int) := of_decide_eq_true (by first | (with_reducible assumption) | assumption)
                      have q173 : x24_1 < (y2_l0.length : Int) := of_decide_eq_true (by first | (with_reducible assumption) | assumption)
                      obtain ⟨ad173, e173, hx173_0⟩ := Kd.at_string HR172.out x24_1 p173 q173
                      cases e173
                      replace hx173_0 := (HB.out.cell (World.block_lt_of_cell? w _ hx173_0)).trans hx173_0
                      replace p173 := eq_true p173
                      replace q173 := eq_true q173
                      go_wp2_with (first | ((with_reducible refine gate_callee (f := 18) rfl ?_); refine goesL_ (some 34) rfl rfl Try.func18 (by kernel_rfl) rfl #[.string ((rdOf ByteArray.empty y2_l0 x24_1).extract 0 ((ji9) : Int).toNat)] rfl (by (try simp only [List.map_toArray, List.map_cons, List.map_nil]); first | done | (simp only [hji2, hji9]; rfl) | rfl | (simp only [List.length_drop, List.length_take]; rfl) | (simp [Act.eval, IntKind.wrap, IntKind.bits, IntKind.signed]; (repeat (first | (rename (decide _ = false) => h_; replace h_ := of_decide_eq_false h_) | (rename (decide _ = true) => h_; replace h_ := of_decide_eq_true h_))); omega)) ?_; (with_reducible refine (le_Text.calls k1 ((rdOf ByteArray.empty y2_l0 x24_1).extract 0 ((ji9) : Int).toNat) t174 t175 _ A12.out).mono ?_); rintro e w16 ⟨rfl, hb⟩; refine ⟨_, rfl, ?_⟩; have n0_ := Aside0.mk (below_step (by repeat (first | (with_reducible first | exact HB.out | apply below_alloc | apply pw_below_drewN | apply below_drew1) | exact HB.out)) hb); clear HB; have HB := n0_; clear n0_; (try clear hb); (try clear hb2); (try clear hk); (try clear hi)))
                      go_ret
                      exact ⟨by first | rfl | (rw [show ∀ n_ : Int, -9223372036854775808 ≤ n_ → n_ < 9223372036854775808 → wrap64 n_ = n_ from fun n_ h1_ h2_ => by unfold wrap64; omega] <;> first | rfl | omega) | (simp [errW_none, errW_some] <;> rfl) | (simp only [← hji2, ← hji9]; first | rfl | (simp [errW_none, errW_some] <;> rfl)) | (simp [*, errW_none, errW_some] <;> rfl), by repeat (first | (with_reducible first | exact HB.out | apply below_alloc | apply pw_below_drewN | apply below_drew1) | exact HB.out)⟩
                  · rw [if_neg c11] at H
                    exact absurd H (by simp)
                · rw [if_neg c10] at H
                  exact absurd H (by simp)
              · rw [if_neg c8] at H
                exact absurd H (by simp)
            · rw [if_neg c7] at H
              exact absurd H (by simp)
          · rw [if_neg c6] at H
            have c6b0 : decide (x24_1 < (y2_l0.length : Int)) = false := decide_eq_false c6
            clear c6
            have H' := Aside0.mk H
            clear H
            go_wp2
            go_loopg [8, 45] k1 (fun kq v8 v45 w' => ∃ (x8_2 : Int) (x45_2 : Int), v8 = .int .i64 x8_2 ∧ v45 = .int .i64 x45_2 ∧ Aside0 (doorwardlaw01_LeRow.l1 kq x3_1 x8_2 y2_l0 (y2_l0.length : Int) x45_2 = some r) ∧ Aside0 (kq ≤ k1) ∧ Aside0 (Below w.heap.size w w'))
            case atStart => exact ⟨(0), (0), (by first | rfl | (simp; done) | (simp [*]; done)), (by first | rfl | (simp; done) | (simp [*]; done)), H', ⟨Nat.le_refl _⟩, ⟨by repeat (first | (with_reducible first | exact HB.out | apply below_alloc | apply pw_below_drewN | apply below_drew1) | exact HB.out)⟩⟩
            case round =>
              clear H'
              try clear c1
              try clear p1
              try clear q1
              try clear hx1
              try clear p2
              try clear c3
              try clear c3b0
              try clear c3b1
              try clear c4
              try clear c4b0
              try clear c4b1
              try clear c6
              try clear c6b0
              try clear p6
              try clear c7
              try clear c7b0
              try clear c8
              try clear c8b0
              try clear c10
              try clear c10b0
              try clear c10b1
              try clear c11
              try clear c11b0
              try clear c11b1
              try clear c13
              try clear c13b0
              try clear c13b1
              try clear c14
              try clear c14b0
              try clear c14b1
              try clear c14b2
              try clear hx173_0
              try clear p173
              try clear p2
              try clear q173
              obtain ⟨x8_2, x45_2, rfl, rfl, HA, HK2, HB⟩ := hrel
              cases gk with
              | zero => exact absurd HA.out (by simp [doorwardlaw01_LeRow.l1])
              | succ k2 =>
                have H := HA.out
                clear HA
                simp only [doorwardlaw01_LeRow.l1] at H
                by_cases c17 : x45_2 < (y2_l0.length : Int)
                · rw [if_pos c17] at H
                  have c17b0 : decide (x45_2 < (y2_l0.length : Int)) = true := decide_eq_true c17
                  clear c17
                  by_cases c18 : 0 ≤ x45_2
                  · rw [if_pos c18] at H
                    have c18b0 : decide (0 ≤ x45_2) = true := decide_eq_true c18
                    clear c18
                    by_cases c19 : x45_2 < (y2_l0.length : Int)
                    · rw [if_pos c19] at H
                      have c19b0 : decide (x45_2 < (y2_l0.length : Int)) = true := decide_eq_true c19
                      clear c19
                      replace H := Option.bind_eq_some_iff.mp H
                      obtain ⟨⟨t177, t178, t179⟩, A200, H⟩ := H
                      replace H : (if t179 = 0 then (if 0 ≤ (mn ((rdOf ByteArray.empty y2_l0 x45_2).size : Int) 200) then (if (mn ((rdOf ByteArray.empty y2_l0 x45_2).size : Int) 200) ≤ ((rdOf ByteArray.empty y2_l0 x45_2).size : Int) then (if t177.toList = ((rdOf ByteArray.empty y2_l0 x45_2).extract 0 ((mn ((rdOf ByteArray.empty y2_l0 x45_2).size : Int) 200) : Int).toNat).toList then (if t178 = (wrap64 ((wrap64 (x8_2 + 2)) + (t177.size : Int))) then (doorwardlaw01_LeRow.l1 k2 x3_1 t178 y2_l0 (y2_l0.length : Int) (wrap64 (x45_2 + 1))) else (some false)) else (some false)) else (none)) else (none)) else (some false)) = some r := H
                      have A20 := Aside0.mk A200
                      clear A200
                      by_cases c21 : t179 = 0
                      · rw [if_pos c21] at H
                        have c21b0 : (t179 == 0) = true := beq_iff_eq.mpr c21
                        have c21b1 : (t179 != 0) = false := bne_eq_false_iff_eq.mpr c21
                        clear c21
                        obtain ⟨ji22, hji22⟩ : ∃ j_ : Int, (mn ((rdOf ByteArray.empty y2_l0 x45_2).size : Int) 200) = j_ := ⟨_, rfl⟩
                        replace H : (if 0 ≤ (ji22) then (if (ji22) ≤ ((rdOf ByteArray.empty y2_l0 x45_2).size : Int) then (if t177.toList = ((rdOf ByteArray.empty y2_l0 x45_2).extract 0 ((ji22) : Int).toNat).toList then (if t178 = (wrap64 ((wrap64 (x8_2 + 2)) + (t177.size : Int))) then (doorwardlaw01_LeRow.l1 k2 x3_1 t178 y2_l0 (y2_l0.length : Int) (wrap64 (x45_2 + 1))) else (some false)) else (some false)) else (none)) else (none)) = some r := by first | (rw [hji22] at H; exact H) | (simp only [hji22] at H ⊢; exact H)
                        (try rw [hji22] at A20)
                        have hji22_ : (if 200 < ((rdOf ByteArray.empty y2_l0 x45_2).size : Int) then 200 else ((rdOf ByteArray.empty y2_l0 x45_2).size : Int)) = ji22 := hji22
                        by_cases c23 : 0 ≤ (ji22)
                        · rw [if_pos c23] at H
                          have c23b0 := eq_true c23
                          have c23b1 : decide (0 ≤ (ji22)) = true := decide_eq_true c23
                          clear c23
                          by_cases c24 : (ji22) ≤ ((rdOf ByteArray.empty y2_l0 x45_2).size : Int)
                          · rw [if_pos c24] at H
                            have c24b0 := eq_true c24
                            have c24b1 : decide ((ji22) ≤ ((rdOf ByteArray.empty y2_l0 x45_2).size : Int)) = true := decide_eq_true c24
                            clear c24
                            by_cases c25 : t177.toList = ((rdOf ByteArray.empty y2_l0 x45_2).extract 0 ((ji22) : Int).toNat).toList
                            · rw [if_pos c25] at H
                              have c25b0 : (t177.toList == ((rdOf ByteArray.empty y2_l0 x45_2).extract 0 ((ji22) : Int).toNat).toList) = true := beq_iff_eq.mpr c25
                              have c25b1 : (t177.toList != ((rdOf ByteArray.empty y2_l0 x45_2).extract 0 ((ji22) : Int).toNat).toList) = false := bne_eq_false_iff_eq.mpr c25
                              clear c25
                              by_cases c26 : t178 = (wrap64 ((wrap64 (x8_2 + 2)) + (t177.size : Int)))
                              · rw [if_pos c26] at H
                                have c26b0 : (t178 == (wrap64 ((wrap64 (x8_2 + 2)) + (t177.size : Int)))) = true := beq_iff_eq.mpr c26
                                have c26b1 : (t178 != (wrap64 ((wrap64 (x8_2 + 2)) + (t177.size : Int)))) = false := bne_eq_false_iff_eq.mpr c26
                                clear c26
                                have H' := Aside0.mk H
                                clear H
                                have p176 : 0 ≤ (x45_2 : Int) := of_decide_eq_true (by first | (with_reducible assumption) | assumption)
                                have q176 : x45_2 < (y2_l0.length : Int) := of_decide_eq_true (by first | (with_reducible assumption) | assumption)
                                obtain ⟨ad176, e176, hx176_0⟩ := Kd.at_string HR172.out x45_2 p176 q176
                                cases e176
                                replace hx176_0 := (HB.out.cell (World.block_lt_of_cell? w _ hx176_0)).trans hx176_0
                                replace p176 := eq_true p176
                                replace q176 := eq_true q176
                                go_wp2_with (first | ((with_reducible refine gate_callee (f := 20) rfl ?_); refine goesL_ (some 52) rfl rfl Try.func20 (by kernel_rfl) rfl #[.string x3_1, .int .i64 x8_2] rfl (by (try simp only [List.map_toArray, List.map_cons, List.map_nil]); first | done | rfl | (simp only [List.length_drop, List.length_take]; rfl) | (simp [Act.eval, IntKind.wrap, IntKind.bits, IntKind.signed]; (repeat (first | (rename (decide _ = false) => h_; replace h_ := of_decide_eq_false h_) | (rename (decide _ = true) => h_; replace h_ := of_decide_eq_true h_))); omega)) ?_; (with_reducible refine (le_Cut.calls k2 x3_1 x8_2 t177 t178 t179 _ A20.out).mono ?_); rintro e w' ⟨rfl, ⟨nd, rfl⟩⟩; refine ⟨_, rfl, ?_⟩))
                                go_roundg k2
                                case measure => have := HK1.out; have := HK2.out; omega
                                case rel => exact ⟨(t178), (wrap64 (x45_2 + 1)), (by first | rfl | (simp; done) | (simp [*]; done)), (by first | rfl | (simp; done) | (simp [*]; done)), H', ⟨by have := HK1.out; have := HK2.out; omega⟩, ⟨by repeat (first | (with_reducible first | exact HB.out | apply below_alloc | apply pw_below_drewN | apply below_drew1) | exact HB.out)⟩⟩
                              · rw [if_neg c26] at H
                                have c26b0 : (t178 == (wrap64 ((wrap64 (x8_2 + 2)) + (t177.size : Int)))) = false := beq_eq_false_iff_ne.mpr c26
                                have c26b1 : (t178 != (wrap64 ((wrap64 (x8_2 + 2)) + (t177.size : Int)))) = true := bne_iff_ne.mpr c26
                                obtain rfl := Option.some.inj H
                                have p176 : 0 ≤ (x45_2 : Int) := of_decide_eq_true (by first | (with_reducible assumption) | assumption)
                                have q176 : x45_2 < (y2_l0.length : Int) := of_decide_eq_true (by first | (with_reducible assumption) | assumption)
                                obtain ⟨ad176, e176, hx176_0⟩ := Kd.at_string HR172.out x45_2 p176 q176
                                cases e176
                                replace hx176_0 := (HB.out.cell (World.block_lt_of_cell? w _ hx176_0)).trans hx176_0
                                replace p176 := eq_true p176
                                replace q176 := eq_true q176
                                go_wp2_with (first | ((with_reducible refine gate_callee (f := 20) rfl ?_); refine goesL_ (some 52) rfl rfl Try.func20 (by kernel_rfl) rfl #[.string x3_1, .int .i64 x8_2] rfl (by (try simp only [List.map_toArray, List.map_cons, List.map_nil]); first | done | rfl | (simp only [List.length_drop, List.length_take]; rfl) | (simp [Act.eval, IntKind.wrap, IntKind.bits, IntKind.signed]; (repeat (first | (rename (decide _ = false) => h_; replace h_ := of_decide_eq_false h_) | (rename (decide _ = true) => h_; replace h_ := of_decide_eq_true h_))); omega)) ?_; (with_reducible refine (le_Cut.calls k2 x3_1 x8_2 t177 t178 t179 _ A20.out).mono ?_); rintro e w' ⟨rfl, ⟨nd, rfl⟩⟩; refine ⟨_, rfl, ?_⟩))
                                go_ret
                                exact ⟨by first | rfl | (rw [show ∀ n_ : Int, -9223372036854775808 ≤ n_ → n_ < 9223372036854775808 → wrap64 n_ = n_ from fun n_ h1_ h2_ => by unfold wrap64; omega] <;> first | rfl | omega) | (simp [errW_none, errW_some] <;> rfl) | (simp only [← hji2, ← hji22]; first | rfl | (simp [errW_none, errW_some] <;> rfl)) | (simp [*, errW_none, errW_some] <;> rfl), by repeat (first | (with_reducible first | exact HB.out | apply below_alloc | apply pw_below_drewN | apply below_drew1) | exact HB.out)⟩
                            · rw [if_neg c25] at H
                              have c25b0 : (t177.toList == ((rdOf ByteArray.empty y2_l0 x45_2).extract 0 ((ji22) : Int).toNat).toList) = false := beq_eq_false_iff_ne.mpr c25
                              have c25b1 : (t177.toList != ((rdOf ByteArray.empty y2_l0 x45_2).extract 0 ((ji22) : Int).toNat).toList) = true := bne_iff_ne.mpr c25
                              obtain rfl := Option.some.inj H
                              have p176 : 0 ≤ (x45_2 : Int) := of_decide_eq_true (by first | (with_reducible assumption) | assumption)
                              have q176 : x45_2 < (y2_l0.length : Int) := of_decide_eq_true (by first | (with_reducible assumption) | assumption)
                              obtain ⟨ad176, e176, hx176_0⟩ := Kd.at_string HR172.out x45_2 p176 q176
                              cases e176
                              replace hx176_0 := (HB.out.cell (World.block_lt_of_cell? w _ hx176_0)).trans hx176_0
                              replace p176 := eq_true p176
                              replace q176 := eq_true q176
                              go_wp2_with (first | ((with_reducible refine gate_callee (f := 20) rfl ?_); refine goesL_ (some 52) rfl rfl Try.func20 (by kernel_rfl) rfl #[.string x3_1, .int .i64 x8_2] rfl (by (try simp only [List.map_toArray, List.map_cons, List.map_nil]); first | done | rfl | (simp only [List.length_drop, List.length_take]; rfl) | (simp [Act.eval, IntKind.wrap, IntKind.bits, IntKind.signed]; (repeat (first | (rename (decide _ = false) => h_; replace h_ := of_decide_eq_false h_) | (rename (decide _ = true) => h_; replace h_ := of_decide_eq_true h_))); omega)) ?_; (with_reducible refine (le_Cut.calls k2 x3_1 x8_2 t177 t178 t179 _ A20.out).mono ?_); rintro e w' ⟨rfl, ⟨nd, rfl⟩⟩; refine ⟨_, rfl, ?_⟩))
                              go_ret
                              exact ⟨by first | rfl | (rw [show ∀ n_ : Int, -9223372036854775808 ≤ n_ → n_ < 9223372036854775808 → wrap64 n_ = n_ from fun n_ h1_ h2_ => by unfold wrap64; omega] <;> first | rfl | omega) | (simp [errW_none, errW_some] <;> rfl) | (simp only [← hji2, ← hji22]; first | rfl | (simp [errW_none, errW_some] <;> rfl)) | (simp [*, errW_none, errW_some] <;> rfl), by repeat (first | (with_reducible first | exact HB.out | apply below_alloc | apply pw_below_drewN | apply below_drew1) | exact HB.out)⟩
                          · rw [if_neg c24] at H
                            exact absurd H (by simp)
                        · rw [if_neg c23] at H
                          exact absurd H (by simp)
                      · rw [if_neg c21] at H
                        have c21b0 : (t179 == 0) = false := beq_eq_false_iff_ne.mpr c21
                        have c21b1 : (t179 != 0) = true := bne_iff_ne.mpr c21
                        obtain rfl := Option.some.inj H
                        have p176 : 0 ≤ (x45_2 : Int) := of_decide_eq_true (by first | (with_reducible assumption) | assumption)
                        have q176 : x45_2 < (y2_l0.length : Int) := of_decide_eq_true (by first | (with_reducible assumption) | assumption)
                        obtain ⟨ad176, e176, hx176_0⟩ := Kd.at_string HR172.out x45_2 p176 q176
                        cases e176
                        replace hx176_0 := (HB.out.cell (World.block_lt_of_cell? w _ hx176_0)).trans hx176_0
                        replace p176 := eq_true p176
                        replace q176 := eq_true q176
                        go_wp2_with (first | ((with_reducible refine gate_callee (f := 20) rfl ?_); refine goesL_ (some 52) rfl rfl Try.func20 (by kernel_rfl) rfl #[.string x3_1, .int .i64 x8_2] rfl (by (try simp only [List.map_toArray, List.map_cons, List.map_nil]); first | done | rfl | (simp only [List.length_drop, List.length_take]; rfl) | (simp [Act.eval, IntKind.wrap, IntKind.bits, IntKind.signed]; (repeat (first | (rename (decide _ = false) => h_; replace h_ := of_decide_eq_false h_) | (rename (decide _ = true) => h_; replace h_ := of_decide_eq_true h_))); omega)) ?_; (with_reducible refine (le_Cut.calls k2 x3_1 x8_2 t177 t178 t179 _ A20.out).mono ?_); rintro e w' ⟨rfl, ⟨nd, rfl⟩⟩; refine ⟨_, rfl, ?_⟩))
                        go_ret
                        exact ⟨by first | rfl | (rw [show ∀ n_ : Int, -9223372036854775808 ≤ n_ → n_ < 9223372036854775808 → wrap64 n_ = n_ from fun n_ h1_ h2_ => by unfold wrap64; omega] <;> first | rfl | omega) | (simp [errW_none, errW_some] <;> rfl) | (simp only [← hji2]; first | rfl | (simp [errW_none, errW_some] <;> rfl)) | (simp [*, errW_none, errW_some] <;> rfl), by repeat (first | (with_reducible first | exact HB.out | apply below_alloc | apply pw_below_drewN | apply below_drew1) | exact HB.out)⟩
                    · rw [if_neg c19] at H
                      exact absurd H (by simp)
                  · rw [if_neg c18] at H
                    exact absurd H (by simp)
                · rw [if_neg c17] at H
                  have c17b0 : decide (x45_2 < (y2_l0.length : Int)) = false := decide_eq_false c17
                  clear c17
                  replace H := Option.bind_eq_some_iff.mp H
                  obtain ⟨⟨t180, t181, t182⟩, A270, H⟩ := H
                  replace H : ((doorwardlaw01_alive.f k2).bind fun t183 => (if t183 = true then (if x8_2 = (x3_1.size : Int) then (some (t182 == 3)) else (some false)) else (some false))) = some r := H
                  have A27 := Aside0.mk A270
                  clear A270
                  replace H := Option.bind_eq_some_iff.mp H
                  obtain ⟨t183, A280, H⟩ := H
                  replace H : (if t183 = true then (if x8_2 = (x3_1.size : Int) then (some (t182 == 3)) else (some false)) else (some false)) = some r := H
                  have A28 := Aside0.mk A280
                  clear A280
                  by_cases c29 : t183 = true
                  · subst c29
                    have H1 : (if x8_2 = (x3_1.size : Int) then (some (t182 == 3)) else (some false)) = some r := by rw [if_pos rfl] at H; exact H
                    clear H
                    have H := H1
                    clear H1
                    by_cases c30 : x8_2 = (x3_1.size : Int)
                    · rw [if_pos c30] at H
                      have c30b0 : (x8_2 == (x3_1.size : Int)) = true := beq_iff_eq.mpr c30
                      have c30b1 : (x8_2 != (x3_1.size : Int)) = false := bne_eq_false_iff_eq.mpr c30
                      clear c30
                      obtain rfl := Option.some.inj H
                      go_wp2_with (first | ((with_reducible refine gate_callee (f := 20) rfl ?_); refine goesL_ (some 81) rfl rfl Try.func20 (by kernel_rfl) rfl #[.string x3_1, .int .i64 x8_2] rfl (by (try simp only [List.map_toArray, List.map_cons, List.map_nil]); first | done | rfl | (simp only [List.length_drop, List.length_take]; rfl) | (simp [Act.eval, IntKind.wrap, IntKind.bits, IntKind.signed]; (repeat (first | (rename (decide _ = false) => h_; replace h_ := of_decide_eq_false h_) | (rename (decide _ = true) => h_; replace h_ := of_decide_eq_true h_))); omega)) ?_; (with_reducible refine (le_Cut.calls k2 x3_1 x8_2 t180 t181 t182 _ A27.out).mono ?_); rintro e w' ⟨rfl, ⟨nd, rfl⟩⟩; refine ⟨_, rfl, ?_⟩) | ((with_reducible refine gate_callee (f := 17) rfl ?_); refine goesL_ (some 85) rfl rfl Try.func17 (by kernel_rfl) rfl #[] rfl (by (try simp only [List.map_toArray, List.map_cons, List.map_nil]); first | done | rfl | (simp only [List.length_drop, List.length_take]; rfl) | (simp [Act.eval, IntKind.wrap, IntKind.bits, IntKind.signed]; (repeat (first | (rename (decide _ = false) => h_; replace h_ := of_decide_eq_false h_) | (rename (decide _ = true) => h_; replace h_ := of_decide_eq_true h_))); omega)) ?_; (with_reducible refine (doorwardlaw01_alive.calls k2  true _ A28.out).mono ?_); rintro e w31 ⟨rfl, hb⟩; refine ⟨_, rfl, ?_⟩; have n0_ := Aside0.mk (below_step (by repeat (first | (with_reducible first | exact HB.out | apply below_alloc | apply pw_below_drewN | apply below_drew1) | exact HB.out)) hb); clear HB; have HB := n0_; clear n0_; (try clear hb); (try clear hb2); (try clear hk); (try clear hi)))
                      go_ret
                      exact ⟨by first | rfl | (rw [show ∀ n_ : Int, -9223372036854775808 ≤ n_ → n_ < 9223372036854775808 → wrap64 n_ = n_ from fun n_ h1_ h2_ => by unfold wrap64; omega] <;> first | rfl | omega) | (simp [errW_none, errW_some] <;> rfl) | (simp only [← hji2]; first | rfl | (simp [errW_none, errW_some] <;> rfl)) | (simp [*, errW_none, errW_some] <;> rfl), by repeat (first | (with_reducible first | exact HB.out | apply below_alloc | apply pw_below_drewN | apply below_drew1) | exact HB.out)⟩
                    · rw [if_neg c30] at H
                      have c30b0 : (x8_2 == (x3_1.size : Int)) = false := beq_eq_false_iff_ne.mpr c30
                      have c30b1 : (x8_2 != (x3_1.size : Int)) = true := bne_iff_ne.mpr c30
                      obtain rfl := Option.some.inj H
                      go_wp2_with (first | ((with_reducible refine gate_callee (f := 20) rfl ?_); refine goesL_ (some 81) rfl rfl Try.func20 (by kernel_rfl) rfl #[.string x3_1, .int .i64 x8_2] rfl (by (try simp only [List.map_toArray, List.map_cons, List.map_nil]); first | done | rfl | (simp only [List.length_drop, List.length_take]; rfl) | (simp [Act.eval, IntKind.wrap, IntKind.bits, IntKind.signed]; (repeat (first | (rename (decide _ = false) => h_; replace h_ := of_decide_eq_false h_) | (rename (decide _ = true) => h_; replace h_ := of_decide_eq_true h_))); omega)) ?_; (with_reducible refine (le_Cut.calls k2 x3_1 x8_2 t180 t181 t182 _ A27.out).mono ?_); rintro e w' ⟨rfl, ⟨nd, rfl⟩⟩; refine ⟨_, rfl, ?_⟩) | ((with_reducible refine gate_callee (f := 17) rfl ?_); refine goesL_ (some 85) rfl rfl Try.func17 (by kernel_rfl) rfl #[] rfl (by (try simp only [List.map_toArray, List.map_cons, List.map_nil]); first | done | rfl | (simp only [List.length_drop, List.length_take]; rfl) | (simp [Act.eval, IntKind.wrap, IntKind.bits, IntKind.signed]; (repeat (first | (rename (decide _ = false) => h_; replace h_ := of_decide_eq_false h_) | (rename (decide _ = true) => h_; replace h_ := of_decide_eq_true h_))); omega)) ?_; (with_reducible refine (doorwardlaw01_alive.calls k2  true _ A28.out).mono ?_); rintro e w32 ⟨rfl, hb⟩; refine ⟨_, rfl, ?_⟩; have n0_ := Aside0.mk (below_step (by repeat (first | (with_reducible first | exact HB.out | apply below_alloc | apply pw_below_drewN | apply below_drew1) | exact HB.out)) hb); clear HB; have HB := n0_; clear n0_; (try clear hb); (try clear hb2); (try clear hk); (try clear hi)))
                      go_ret
                      exact ⟨by first | rfl | (rw [show ∀ n_ : Int, -9223372036854775808 ≤ n_ → n_ < 9223372036854775808 → wrap64 n_ = n_ from fun n_ h1_ h2_ => by unfold wrap64; omega] <;> first | rfl | omega) | (simp [errW_none, errW_some] <;> rfl) | (simp only [← hji2]; first | rfl | (simp [errW_none, errW_some] <;> rfl)) | (simp [*, errW_none, errW_some] <;> rfl), by repeat (first | (with_reducible first | exact HB.out | apply below_alloc | apply pw_below_drewN | apply below_drew1) | exact HB.out)⟩
                  · replace c29 := Bool.eq_false_iff.mpr c29
                    subst c29
                    have H1 : (some false) = some r := by rw [if_neg (show ¬ (false = true) by decide)] at H; exact H
                    clear H
                    have H := H1
                    clear H1
                    obtain rfl := Option.some.inj H
                    go_wp2_with (first | ((with_reducible refine gate_callee (f := 20) rfl ?_); refine goesL_ (some 81) rfl rfl Try.func20 (by kernel_rfl) rfl #[.string x3_1, .int .i64 x8_2] rfl (by (try simp only [List.map_toArray, List.map_cons, List.map_nil]); first | done | rfl | (simp only [List.length_drop, List.length_take]; rfl) | (simp [Act.eval, IntKind.wrap, IntKind.bits, IntKind.signed]; (repeat (first | (rename (decide _ = false) => h_; replace h_ := of_decide_eq_false h_) | (rename (decide _ = true) => h_; replace h_ := of_decide_eq_true h_))); omega)) ?_; (with_reducible refine (le_Cut.calls k2 x3_1 x8_2 t180 t181 t182 _ A27.out).mono ?_); rintro e w' ⟨rfl, ⟨nd, rfl⟩⟩; refine ⟨_, rfl, ?_⟩) | ((with_reducible refine gate_callee (f := 17) rfl ?_); refine goesL_ (some 85) rfl rfl Try.func17 (by kernel_rfl) rfl #[] rfl (by (try simp only [List.map_toArray, List.map_cons, List.map_nil]); first | done | rfl | (simp only [List.length_drop, List.length_take]; rfl) | (simp [Act.eval, IntKind.wrap, IntKind.bits, IntKind.signed]; (repeat (first | (rename (decide _ = false) => h_; replace h_ := of_decide_eq_false h_) | (rename (decide _ = true) => h_; replace h_ := of_decide_eq_true h_))); omega)) ?_; (with_reducible refine (doorwardlaw01_alive.calls k2  false _ A28.out).mono ?_); rintro e w33 ⟨rfl, hb⟩; refine ⟨_, rfl, ?_⟩; have n0_ := Aside0.mk (below_step (by repeat (first | (with_reducible first | exact HB.out | apply below_alloc | apply pw_below_drewN | apply below_drew1) | exact HB.out)) hb); clear HB; have HB := n0_; clear n0_; (try clear hb); (try clear hb2); (try clear hk); (try clear hi)))
                    go_ret
                    exact ⟨by first | rfl | (rw [show ∀ n_ : Int, -9223372036854775808 ≤ n_ → n_ < 9223372036854775808 → wrap64 n_ = n_ from fun n_ h1_ h2_ => by unfold wrap64; omega] <;> first | rfl | omega) | (simp [errW_none, errW_some] <;> rfl) | (simp only [← hji2]; first | rfl | (simp [errW_none, errW_some] <;> rfl)) | (simp [*, errW_none, errW_some] <;> rfl), by repeat (first | (with_reducible first | exact HB.out | apply below_alloc | apply pw_below_drewN | apply below_drew1) | exact HB.out)⟩
    · rw [if_neg c4] at H
      exact absurd H (by simp)
  · rw [if_neg c3] at H
    exact absurd H (by simp)

end Go.Proofs.Ytnglmibicdjhcaa.Q
