/- Texts of this claim, one behind the other. -/
import Derived.Test.YtniplmjbligmlaaDoorMgDiskWhole0
import Derived.Shelf.Bits.Mul64
import Derived.Laws.CopyOwn
import Derived.Laws.MakeOwn
/-! Go functions as Lean functions, each with a proof that the Go code comes to its answers; written by a program of this repository (mk.py, over the printer of the kit). Lean checks it. -/
namespace Go.Proofs.YtniplmjbligmlaaDoor.Q
open Go.RowKit Go.Proofs.YtniplmjbligmlaaDoorW.PrintWords Go.Proofs.YtniplmjbligmlaaDoorW.PrintLast Go.Proofs.YtniplmjbligmlaaDoorW.PrintMore
attribute [local go_sem] max2_int min2_int max_two min_two max_three min_three max_four min_four   -- for this text's walks alone
set_option linter.unusedVariables false
set_option linter.unusedSimpArgs false

attribute [local go_sem high] eqA42
/-! ### disk_Crash: function 21 -/
def disk_Crash.l0 : Nat → List Bool → List (S42) → Int → Int → List ByteArray → Option (List ByteArray × (List (S42)) × Int)
  | 0, _, _, _, _, _ => none
  | k + 1, x1, x18, x19, x20, x166000 => if x20 < x19 then (if 0 ≤ x20 then (if x20 < (x18.length : Int) then (if x20 < (x1.length : Int) then (if rdOf false x1 x20 = true then (if 0 ≤ ((rd_T42 x18 x20).f0) then (if ((rd_T42 x18 x20).f0) < (x166000.length : Int) then (disk_Crash.l0 k x1 x18 x19 (wrap64 (x20 + 1)) (x166000.set (((rd_T42 x18 x20).f0) : Int).toNat ((rd_T42 x18 x20).f1))) else (none)) else (none)) else (disk_Crash.l0 k x1 x18 x19 (wrap64 (x20 + 1)) x166000)) else (disk_Crash.l0 k x1 x18 x19 (wrap64 (x20 + 1)) x166000)) else (none)) else (none)) else (some (x166000, ([] : List (S42)), 0))
def disk_Crash.f (k : Nat) (l0_0 : List ByteArray) (l0_1 : List (S42)) (l1 : List Bool) : Option (List ByteArray × (List (S42)) × Int) := (disk_Right.f l0_0 l0_1).bind fun t161 => (if t161 = true then ((slices_Clone_string_string.f l0_0).bind fun t162 => (disk_Crash.l0 k l1 l0_1 (l0_1.length : Int) 0 t162)) else (some (([] : List ByteArray), ([] : List (S42)), 1)))
theorem disk_Crash.mono_l : ∀ k, (∀ y0 y1 y2 y3 y4, LeO (disk_Crash.l0 k y0 y1 y2 y3 y4) (disk_Crash.l0 (k + 1) y0 y1 y2 y3 y4))
  | 0 => fun _ _ _ _ _ r h => by simp [disk_Crash.l0] at h
  | k + 1 => by
    have ih0 := disk_Crash.mono_l k
    · intro y0 y1 y2 y3 y4
      unfold disk_Crash.l0
      repeat' first
      | (with_reducible exact ih0 _ _ _ _ _)
      | (with_reducible exact LeO.refl _)
      | (with_reducible exact LeO.none _)
      | (with_reducible refine LeO.ite ?_ ?_)
      | (with_reducible refine LeO.bind ?_ (fun _ => ?_))
      | exact ih0 _ _ _ _ _
      | exact LeO.none _
      | refine LeO.ite ?_ ?_
      | refine LeO.bind ?_ (fun _ => ?_)
theorem disk_Crash.mono : ∀ a0 a1 a2 k, LeO (disk_Crash.f k a0 a1 a2) (disk_Crash.f (k + 1) a0 a1 a2) := by
  intro a0 a1 a2 k
  have ih0 := disk_Crash.mono_l k
  unfold disk_Crash.f
  repeat' first
      | (with_reducible exact ih0 _ _ _ _ _)
      | (with_reducible exact LeO.refl _)
      | (with_reducible exact LeO.none _)
      | (with_reducible refine LeO.ite ?_ ?_)
      | (with_reducible refine LeO.bind ?_ (fun _ => ?_))
      | exact ih0 _ _ _ _ _
      | exact LeO.none _
      | refine LeO.ite ?_ ?_
      | refine LeO.bind ?_ (fun _ => ?_)
set_option maxHeartbeats 8000000 in
set_option maxRecDepth 100000 in
theorem disk_Crash.calls (k : Nat) (A0_0 : Option Addr) (c0_0 : Nat) (l0_0 : List ByteArray) (A0_1 : Option Addr) (c0_1 : Nat) (l0_1 : List (S42)) (A1 : Option Addr) (c1 : Nat) (l1 : List Bool) (r1 : List ByteArray) (r2 : List (S42)) (r3 : Int) (w : World) (hr0_0 : Kd.C Kd.string w A0_0 l0_0.length l0_0) (hc0_0 : l0_0.length ≤ c0_0) (hr0_1 : Kd.C k42 w A0_1 l0_1.length l0_1) (hc0_1 : l0_1.length ≤ c0_1) (hr1 : Kd.C Kd.bool w A1 l1.length l1) (hc1 : l1.length ≤ c1) (h : disk_Crash.f k l0_0 l0_1 l1 = some (r1, r2, r3)) :
    Calls Tryd.prog 21 #[.agg #[.slice A0_0 l0_0.length c0_0, .slice A0_1 l0_1.length c0_1], .slice A1 l1.length c1] w fun e w' => ∃ v0_ v1_ : Value, e = .returned (.tuple #[.agg #[v0_, v1_], .int .i64 r3]) ∧ Kd.R Kd.string 9 w' w.heap.size (fun _ => True) v0_ r1 ∧ Kd.R k42 42 w' w.heap.size (fun _ => True) v1_ r2 ∧ Below w.heap.size w w' := by
  have hu25 := Tryd.underlying25
  have hu42 := Tryd.underlying42
  have HR0_0 := Aside0.mk hr0_0
  have HC0_0 := Aside0.mk hc0_0
  clear hr0_0 hc0_0
  have HR0_1 := Aside0.mk hr0_1
  have HC0_1 := Aside0.mk hc0_1
  clear hr0_1 hc0_1
  have HR1 := Aside0.mk hr1
  have HC1 := Aside0.mk hc1
  clear hr1 hc1
  have HB := Aside0.mk (Below.refl w.heap.size w)
  have H : ((disk_Right.f l0_0 l0_1).bind fun t161 => (if t161 = true then ((slices_Clone_string_string.f l0_0).bind fun t162 => (disk_Crash.l0 k l1 l0_1 (l0_1.length : Int) 0 t162)) else (some (([] : List ByteArray), ([] : List (S42)), 1)))) = some (r1, r2, r3) := h
  clear h
  replace H := Option.bind_eq_some_iff.mp H
  obtain ⟨t161, A30, H⟩ := H
  replace H : (if t161 = true then ((slices_Clone_string_string.f l0_0).bind fun t162 => (disk_Crash.l0 k l1 l0_1 (l0_1.length : Int) 0 t162)) else (some (([] : List ByteArray), ([] : List (S42)), 1))) = some (r1, r2, r3) := H
  have A3 := Aside0.mk A30
  clear A30
  by_cases c4 : t161 = true
  · subst c4
    have H1 : ((slices_Clone_string_string.f l0_0).bind fun t162 => (disk_Crash.l0 k l1 l0_1 (l0_1.length : Int) 0 t162)) = some (r1, r2, r3) := by rw [if_pos rfl] at H; exact H
    clear H
    have H := H1
    clear H1
    replace H := Option.bind_eq_some_iff.mp H
    obtain ⟨t162, A50, H⟩ := H
    replace H : (disk_Crash.l0 k l1 l0_1 (l0_1.length : Int) 0 t162) = some (r1, r2, r3) := H
    have A5 := Aside0.mk A50
    clear A50
    have H' := Aside0.mk H
    clear H
    go_enter Tryd.func21, Tryd.ntmps21
    go_wp2_with (first | ((with_reducible refine gate_dst (N := 2) rfl ?_); refine box_event ?hg (N := 2) ?hd (cs := #[.slice A0_0 l0_0.length c0_0, .slice A0_1 l0_1.length c0_1]) (t := 25) ?hr ?_; (case hd => rfl); (case hg => rfl); (case hr => first | (go_simp; done) | (go_simp; rfl)); intro gb159 hg w6 hbox hb; have n0_ := Aside0.mk (below_step (by repeat (first | (with_reducible first | exact HB.out | apply below_alloc | apply pw_below_drewN | apply below_drew1) | exact HB.out)) hb); have n1_ := Aside0.mk (hbox); have n2_ := Aside0.mk ((by rw [hg]; exact (below_size (by repeat (first | (with_reducible first | exact HB.out | apply below_alloc | apply pw_below_drewN | apply below_drew1) | exact HB.out))) : w.heap.size ≤ gb159)); have n3_ := Aside0.mk ((by rw [hg]; exact (below_size (by repeat (first | (with_reducible first | exact HB.out | apply below_alloc | apply pw_below_drewN | apply below_drew1) | exact HB.out))) : w.heap.size ≤ gb159)); clear HB; have HB := n0_; have BK159 := n1_; have GW159 := n2_; have GE159 := n3_; clear n0_ n1_ n2_ n3_; clear hb hbox hg) | ((with_reducible refine gate_dst (N := 4) rfl ?_); refine box_event ?hg (N := 4) ?hd (cs := #[.slice none 0 0, .slice none 0 0]) (t := 25) ?hr ?_; (case hd => rfl); (case hg => rfl); (case hr => first | (go_simp; done) | (go_simp; rfl)); intro gb160 hg w7 hbox hb; have n0_ := Aside0.mk (blk_below (g := gb159) (o := .cells #[.slice A0_0 l0_0.length c0_0, .slice A0_1 l0_1.length c0_1] 25 (0, 0)) (by (with_reducible repeat (first | refine blk_drewN ?_ _ | refine blk_drew ?_ | refine blk_alloc ?_ _)); exact BK159.out) hb); have n1_ := Aside0.mk (below_step (by repeat (first | (with_reducible first | exact HB.out | apply below_alloc | apply pw_below_drewN | apply below_drew1 | refine below_set ?_ GE159.out) | exact HB.out)) hb); have n2_ := Aside0.mk (hbox); have n3_ := Aside0.mk ((by rw [hg]; exact (below_size (by repeat (first | (with_reducible first | exact HB.out | apply below_alloc | apply pw_below_drewN | apply below_drew1 | refine below_set ?_ GE159.out) | exact HB.out))) : w.heap.size ≤ gb160)); have n4_ := Aside0.mk ((by rw [hg]; exact (below_size (by repeat (first | (with_reducible first | exact HB.out | apply below_alloc | apply pw_below_drewN | apply below_drew1 | refine below_set ?_ GE159.out) | exact HB.out))) : w.heap.size ≤ gb160)); have n5_ := Aside0.mk ((by rw [hg]; exact Nat.ne_of_lt (blk_lt (g := gb159) (o := .cells #[.slice A0_0 l0_0.length c0_0, .slice A0_1 l0_1.length c0_1] 25 (0, 0)) (by (with_reducible repeat (first | refine blk_drewN ?_ _ | refine blk_drew ?_ | refine blk_alloc ?_ _)); exact BK159.out)) : gb159 ≠ gb160)); have n6_ := Aside0.mk ((by rw [hg]; exact Nat.ne_of_gt (blk_lt (g := gb159) (o := .cells #[.slice A0_0 l0_0.length c0_0, .slice A0_1 l0_1.length c0_1] 25 (0, 0)) (by (with_reducible repeat (first | refine blk_drewN ?_ _ | refine blk_drew ?_ | refine blk_alloc ?_ _)); exact BK159.out)) : gb160 ≠ gb159)); clear BK159; clear HB; have BK159 := n0_; have HB := n1_; have BK160 := n2_; have GW160 := n3_; have GE160 := n4_; have NB159_160 := n5_; have NB160_159 := n6_; clear n0_ n1_ n2_ n3_ n4_ n5_ n6_; clear hb hbox hg; have hnb8 := NB159_160.out; have hnc8 := NB160_159.out; have hcz9_0 : w7.cell? ⟨gb159, 0, none⟩ = some (.slice A0_0 l0_0.length c0_0) := (blk_cell BK159.out 0).trans rfl; have hcz9_1 : w7.cell? ⟨gb159, 1, none⟩ = some (.slice A0_1 l0_1.length c0_1) := (blk_cell BK159.out 1).trans rfl; have hfz9_0 := blk_frozen BK159.out 0; have hfz9_1 := blk_frozen BK159.out 1) | ((with_reducible refine gate_callee (f := 18) rfl ?_); refine goesL_ (some 10) rfl rfl Tryd.func18 (by kernel_rfl) rfl #[.agg #[.slice A0_0 l0_0.length c0_0, .slice A0_1 l0_1.length c0_1]] rfl (by (try simp only [List.map_toArray, List.map_cons, List.map_nil]); first | done | rfl | (simp only [List.length_drop, List.length_take]; rfl) | (simp [Act.eval, IntKind.wrap, IntKind.bits, IntKind.signed]; (repeat (first | (rename (decide _ = false) => h_; replace h_ := of_decide_eq_false h_) | (rename (decide _ = true) => h_; replace h_ := of_decide_eq_true h_))); omega)) ?_; (with_reducible refine (disk_Right.calls _ _ l0_0 _ _ l0_1 true _ ?side1 ?side2 ?side3 ?side4 A3.out).mono ?_); (case side1 => repeat (first | exact (Kd.C_below HR0_0.out HB.out) | (with_reducible refine Kd.C_alloc ?_ _) | (with_reducible refine Kd.C_drewN ?_ _) | (with_reducible refine Kd.C_drew ?_))); (case side2 => exact HC0_0.out); (case side3 => repeat (first | exact (Kd.C_below HR0_1.out HB.out) | (with_reducible refine Kd.C_alloc ?_ _) | (with_reducible refine Kd.C_drewN ?_ _) | (with_reducible refine Kd.C_drew ?_))); (case side4 => exact HC0_1.out); rintro e w10 ⟨rfl, hb⟩; refine ⟨_, rfl, ?_⟩; have n0_ := Aside0.mk (blk_below (g := gb159) (o := .cells #[.slice A0_0 l0_0.length c0_0, .slice A0_1 l0_1.length c0_1] 25 (0, 0)) (by (with_reducible repeat (first | refine blk_drewN ?_ _ | refine blk_drew ?_ | refine blk_alloc ?_ _)); exact BK159.out) hb); have n1_ := Aside0.mk (blk_below (g := gb160) (o := .cells #[.slice none 0 0, .slice none 0 0] 25 (0, 0)) (by (with_reducible repeat (first | refine blk_drewN ?_ _ | refine blk_drew ?_ | refine blk_alloc ?_ _)); exact BK160.out) hb); have n2_ := Aside0.mk (below_step (by repeat (first | (with_reducible first | exact HB.out | apply below_alloc | apply pw_below_drewN | apply below_drew1 | refine below_set ?_ GE159.out | refine below_set ?_ GE160.out) | exact HB.out)) hb); clear BK159; clear BK160; clear HB; have BK159 := n0_; have BK160 := n1_; have HB := n2_; clear n0_ n1_ n2_; (try clear hb); (try clear hb2); (try clear hk); (try clear hi); have hcz11_0 : w10.cell? ⟨gb159, 0, none⟩ = some (.slice A0_0 l0_0.length c0_0) := (blk_cell BK159.out 0).trans rfl; have hcz11_1 : w10.cell? ⟨gb159, 1, none⟩ = some (.slice A0_1 l0_1.length c0_1) := (blk_cell BK159.out 1).trans rfl; have hfz11_0 := blk_frozen BK159.out 0; have hfz11_1 := blk_frozen BK159.out 1) | ((with_reducible refine gate_callee (f := 54) rfl ?_); refine goesL_ (some 15) rfl rfl Tryd.func54 (by kernel_rfl) rfl #[.slice A0_0 l0_0.length c0_0] rfl (by (try simp only [List.map_toArray, List.map_cons, List.map_nil]); first | done | rfl | (simp only [List.length_drop, List.length_take]; rfl) | (simp [Act.eval, IntKind.wrap, IntKind.bits, IntKind.signed]; (repeat (first | (rename (decide _ = false) => h_; replace h_ := of_decide_eq_false h_) | (rename (decide _ = true) => h_; replace h_ := of_decide_eq_true h_))); omega)) ?_; (with_reducible refine (slices_Clone_string_string.calls _ _ l0_0 t162 _ ?side1 ?side2 A5.out).mono ?_); (case side1 => repeat (first | exact (Kd.C_below HR0_0.out HB.out) | (with_reducible refine Kd.C_alloc ?_ _) | (with_reducible refine Kd.C_drewN ?_ _) | (with_reducible refine Kd.C_drew ?_))); (case side2 => exact HC0_0.out); rintro e w12 ⟨v163, rfl, ho0, hb⟩; refine ⟨_, rfl, ?_⟩; have n0_ := Aside0.mk (Kd.R_lower ho0 (below_size (by repeat (first | (with_reducible first | exact HB.out | apply below_alloc | apply pw_below_drewN | apply below_drew1 | refine below_set ?_ GE159.out | refine below_set ?_ GE160.out) | exact HB.out)))); have n1_ := Aside0.mk (blk_below (g := gb159) (o := .cells #[.slice A0_0 l0_0.length c0_0, .slice A0_1 l0_1.length c0_1] 25 (0, 0)) (by (with_reducible repeat (first | refine blk_drewN ?_ _ | refine blk_drew ?_ | refine blk_alloc ?_ _)); exact BK159.out) hb); have n2_ := Aside0.mk (blk_below (g := gb160) (o := .cells #[.slice none 0 0, .slice none 0 0] 25 (0, 0)) (by (with_reducible repeat (first | refine blk_drewN ?_ _ | refine blk_drew ?_ | refine blk_alloc ?_ _)); exact BK160.out) hb); have n3_ := Aside0.mk (below_step (by repeat (first | (with_reducible first | exact HB.out | apply below_alloc | apply pw_below_drewN | apply below_drew1 | refine below_set ?_ GE159.out | refine below_set ?_ GE160.out) | exact HB.out)) hb); clear BK159; clear BK160; clear HB; have HO164 := n0_; have BK159 := n1_; have BK160 := n2_; have HB := n3_; clear n0_ n1_ n2_ n3_; (try clear hb); (try clear hb2); (try clear hk); (try clear hi); (try clear ho0); obtain ⟨Ao13, co13, eo13⟩ := Kd.R_slice HO164.out; subst eo13) | ((with_reducible refine gate_dst (N := 6) rfl ?_); refine box_event ?hg (N := 6) ?hd (cs := #[.slice none 0 0, .slice none 0 0]) (t := 25) ?hr ?_; (case hd => rfl); (case hg => rfl); (case hr => first | (go_simp; done) | (go_simp; rfl)); intro gb165 hg w14 hbox hb; have n0_ := Aside0.mk (Kd.R_below (by (with_reducible repeat (first | apply Kd.R_alloc | apply Kd.R_drewN | apply Kd.R_drew)); exact HO164.out) hb); have n1_ := Aside0.mk (blk_below (g := gb159) (o := .cells #[.slice A0_0 l0_0.length c0_0, .slice A0_1 l0_1.length c0_1] 25 (0, 0)) (by (with_reducible repeat (first | refine blk_drewN ?_ _ | refine blk_drew ?_ | refine blk_alloc ?_ _)); exact BK159.out) hb); have n2_ := Aside0.mk (blk_below (g := gb160) (o := .cells #[.slice none 0 0, .slice none 0 0] 25 (0, 0)) (by (with_reducible repeat (first | refine blk_drewN ?_ _ | refine blk_drew ?_ | refine blk_alloc ?_ _)); exact BK160.out) hb); have n3_ := Aside0.mk (below_step (by repeat (first | (with_reducible first | exact HB.out | apply below_alloc | apply pw_below_drewN | apply below_drew1 | refine below_set ?_ GE159.out | refine below_set ?_ GE160.out) | exact HB.out)) hb); have n4_ := Aside0.mk (hbox); have n5_ := Aside0.mk ((by rw [hg]; exact (below_size (by repeat (first | (with_reducible first | exact HB.out | apply below_alloc | apply pw_below_drewN | apply below_drew1 | refine below_set ?_ GE159.out | refine below_set ?_ GE160.out) | exact HB.out))) : w.heap.size ≤ gb165)); have n6_ := Aside0.mk ((by rw [hg]; exact (below_size (by repeat (first | (with_reducible first | exact HB.out | apply below_alloc | apply pw_below_drewN | apply below_drew1 | refine below_set ?_ GE159.out | refine below_set ?_ GE160.out) | exact HB.out))) : w.heap.size ≤ gb165)); have n7_ := Aside0.mk ((by rw [hg]; exact Nat.ne_of_lt (blk_lt (g := gb159) (o := .cells #[.slice A0_0 l0_0.length c0_0, .slice A0_1 l0_1.length c0_1] 25 (0, 0)) (by (with_reducible repeat (first | refine blk_drewN ?_ _ | refine blk_drew ?_ | refine blk_alloc ?_ _)); exact BK159.out)) : gb159 ≠ gb165)); have n8_ := Aside0.mk ((by rw [hg]; exact Nat.ne_of_gt (blk_lt (g := gb159) (o := .cells #[.slice A0_0 l0_0.length c0_0, .slice A0_1 l0_1.length c0_1] 25 (0, 0)) (by (with_reducible repeat (first | refine blk_drewN ?_ _ | refine blk_drew ?_ | refine blk_alloc ?_ _)); exact BK159.out)) : gb165 ≠ gb159)); have n9_ := Aside0.mk ((by rw [hg]; exact Nat.ne_of_lt (blk_lt (g := gb160) (o := .cells #[.slice none 0 0, .slice none 0 0] 25 (0, 0)) (by (with_reducible repeat (first | refine blk_drewN ?_ _ | refine blk_drew ?_ | refine blk_alloc ?_ _)); exact BK160.out)) : gb160 ≠ gb165)); have n10_ := Aside0.mk ((by rw [hg]; exact Nat.ne_of_gt (blk_lt (g := gb160) (o := .cells #[.slice none 0 0, .slice none 0 0] 25 (0, 0)) (by (with_reducible repeat (first | refine blk_drewN ?_ _ | refine blk_drew ?_ | refine blk_alloc ?_ _)); exact BK160.out)) : gb165 ≠ gb160)); clear HO164; clear BK159; clear BK160; clear HB; have HO164 := n0_; have BK159 := n1_; have BK160 := n2_; have HB := n3_; have BK165 := n4_; have GW165 := n5_; have GE165 := n6_; have NB159_165 := n7_; have NB165_159 := n8_; have NB160_165 := n9_; have NB165_160 := n10_; clear n0_ n1_ n2_ n3_ n4_ n5_ n6_ n7_ n8_ n9_ n10_; clear hb hbox hg; have hnb15 := NB165_159.out; have hnc15 := NB159_165.out; have hnb16 := NB165_160.out; have hnc16 := NB160_165.out; have hcz17_0 : w14.cell? ⟨gb165, 0, none⟩ = some (.slice none 0 0) := (blk_cell BK165.out 0).trans rfl; have hcz17_1 : w14.cell? ⟨gb165, 1, none⟩ = some (.slice none 0 0) := (blk_cell BK165.out 1).trans rfl; have hfz17_0 := blk_frozen BK165.out 0; have hfz17_1 := blk_frozen BK165.out 1; have hcz18_0 : w14.cell? ⟨gb159, 0, none⟩ = some (.slice A0_0 l0_0.length c0_0) := (blk_cell BK159.out 0).trans rfl; have hcz18_1 : w14.cell? ⟨gb159, 1, none⟩ = some (.slice A0_1 l0_1.length c0_1) := (blk_cell BK159.out 1).trans rfl; have hfz18_0 := blk_frozen BK159.out 0; have hfz18_1 := blk_frozen BK159.out 1))
    go_loopg [20] k (fun kq v20 w' => ∃ (x20_1 : Int) (x166000_1 : List ByteArray) (u166000 : Value), v20 = .int .i64 x20_1 ∧ Aside0 (disk_Crash.l0 kq l1 l0_1 (l0_1.length : Int) x20_1 x166000_1 = some (r1, r2, r3)) ∧ Aside0 (kq ≤ k) ∧ Aside0 (Kd.R Kd.string 9 w' w.heap.size (fun _ => True) u166000 x166000_1) ∧ Aside0 (w'.heap[gb159]? = some (.cells #[(.slice A0_0 l0_0.length c0_0), (.slice A0_1 l0_1.length c0_1)] 25 (0, 0))) ∧ Aside0 (w'.heap[gb160]? = some (.cells #[(.slice none 0 0), (.slice none 0 0)] 25 (0, 0))) ∧ Aside0 (w'.heap[gb165]? = some (.cells #[u166000, (.slice none 0 0)] 25 (0, 0))) ∧ Aside0 (Below w.heap.size w w'))
    case atStart => exact ⟨(0), (t162), (.slice Ao13 t162.length co13), (by first | rfl | (simp; done) | (simp [*]; done)), H', ⟨Nat.le_refl _⟩, ⟨by (with_reducible repeat (first | apply Kd.R_alloc | apply Kd.R_drewN | apply Kd.R_drew)); exact Kd.R_mono (Kd.R_far (p := ⟨gb165, 1, none⟩) (Kd.R_far (p := ⟨gb165, 0, none⟩) (Kd.R_types HO164.out BK165.out (by decide)) (fun _ hk => hk.2) (.slice Ao13 t162.length co13)) (fun _ hk => hk.2) (.slice none 0 0)) (fun _ hk => trivial)⟩, ⟨by (with_reducible repeat (first | refine blk_drewN ?_ _ | refine blk_drew ?_ | refine blk_alloc ?_ _)); refine blk_far ?_ NB159_165.out _; (with_reducible repeat (first | refine blk_drewN ?_ _ | refine blk_drew ?_ | refine blk_alloc ?_ _)); refine blk_far ?_ NB159_165.out _; (with_reducible repeat (first | refine blk_drewN ?_ _ | refine blk_drew ?_ | refine blk_alloc ?_ _)); exact BK159.out⟩, ⟨by (with_reducible repeat (first | refine blk_drewN ?_ _ | refine blk_drew ?_ | refine blk_alloc ?_ _)); refine blk_far ?_ NB160_165.out _; (with_reducible repeat (first | refine blk_drewN ?_ _ | refine blk_drew ?_ | refine blk_alloc ?_ _)); refine blk_far ?_ NB160_165.out _; (with_reducible repeat (first | refine blk_drewN ?_ _ | refine blk_drew ?_ | refine blk_alloc ?_ _)); exact BK160.out⟩, ⟨by (with_reducible repeat (first | refine blk_drewN ?_ _ | refine blk_drew ?_ | refine blk_alloc ?_ _)); refine blk_put (cs := #[.slice Ao13 t162.length co13, .slice none 0 0]) ?_ 1 _ rfl; (with_reducible repeat (first | refine blk_drewN ?_ _ | refine blk_drew ?_ | refine blk_alloc ?_ _)); refine blk_put (cs := #[.slice none 0 0, .slice none 0 0]) ?_ 0 _ rfl; (with_reducible repeat (first | refine blk_drewN ?_ _ | refine blk_drew ?_ | refine blk_alloc ?_ _)); exact BK165.out⟩, ⟨by repeat (first | (with_reducible first | exact HB.out | apply below_alloc | apply pw_below_drewN | apply below_drew1 | refine below_set ?_ GE159.out | refine below_set ?_ GE160.out | refine below_set ?_ GE165.out) | exact HB.out)⟩⟩
    case round =>
      clear H'
      try clear c1
      try clear c2
      try clear p2
      try clear c4
      try clear c5
      try clear c8
      try clear c15
      try clear c16
      try clear c18
      try clear hcz11_0
      try clear hcz11_1
      try clear hcz17_0
      try clear hcz17_1
      try clear hcz18_0
      try clear hcz18_1
      try clear hcz9_0
      try clear hcz9_1
      try clear hfz11_0
      try clear hfz11_1
      try clear hfz17_0
      try clear hfz17_1
      try clear hfz18_0
      try clear hfz18_1
      try clear hfz9_0
      try clear hfz9_1
      obtain ⟨x20_1, x166000_1, u166000, rfl, HA, HK1, HO_166000, BK159, BK160, BK165, HB⟩ := hrel
      cases gk with
      | zero => exact absurd HA.out (by simp [disk_Crash.l0])
      | succ k1 =>
        have H := HA.out
        clear HA
        simp only [disk_Crash.l0] at H
        by_cases c19 : x20_1 < (l0_1.length : Int)
        · rw [if_pos c19] at H
          have c19b0 : decide (x20_1 < (l0_1.length : Int)) = true := decide_eq_true c19
          clear c19
          by_cases c20 : 0 ≤ x20_1
          · rw [if_pos c20] at H
            have c20b0 : decide (0 ≤ x20_1) = true := decide_eq_true c20
            clear c20
            by_cases c21 : x20_1 < (l0_1.length : Int)
            · rw [if_pos c21] at H
              have c21b0 : decide (x20_1 < (l0_1.length : Int)) = true := decide_eq_true c21
              clear c21
              by_cases c22 : x20_1 < (l1.length : Int)
              · rw [if_pos c22] at H
                have c22b0 : decide (x20_1 < (l1.length : Int)) = true := decide_eq_true c22
                clear c22
                obtain ⟨bq23, hbq23⟩ : ∃ b_ : Bool, b_ = (rdOf false l1 x20_1) := ⟨_, rfl⟩
                replace H : (if bq23 = true then (if 0 ≤ ((rd_T42 l0_1 x20_1).f0) then (if ((rd_T42 l0_1 x20_1).f0) < (x166000_1.length : Int) then (disk_Crash.l0 k1 l1 l0_1 (l0_1.length : Int) (wrap64 (x20_1 + 1)) (x166000_1.set (((rd_T42 l0_1 x20_1).f0) : Int).toNat ((rd_T42 l0_1 x20_1).f1))) else (none)) else (none)) else (disk_Crash.l0 k1 l1 l0_1 (l0_1.length : Int) (wrap64 (x20_1 + 1)) x166000_1)) = some (r1, r2, r3) := by rw [← hbq23] at H; exact H
                have Nbq23 := Aside0.mk hbq23
                clear hbq23
                by_cases c24 : bq23 = true
                · subst c24
                  have H1 : (if 0 ≤ ((rd_T42 l0_1 x20_1).f0) then (if ((rd_T42 l0_1 x20_1).f0) < (x166000_1.length : Int) then (disk_Crash.l0 k1 l1 l0_1 (l0_1.length : Int) (wrap64 (x20_1 + 1)) (x166000_1.set (((rd_T42 l0_1 x20_1).f0) : Int).toNat ((rd_T42 l0_1 x20_1).f1))) else (none)) else (none)) = some (r1, r2, r3) := by rw [if_pos rfl] at H; exact H
                  clear H
                  have H := H1
                  clear H1
                  by_cases c25 : 0 ≤ ((rd_T42 l0_1 x20_1).f0)
                  · rw [if_pos c25] at H
                    have c25b0 : decide (0 ≤ ((rd_T42 l0_1 x20_1).f0)) = true := decide_eq_true c25
                    clear c25
                    by_cases c26 : ((rd_T42 l0_1 x20_1).f0) < (x166000_1.length : Int)
                    · rw [if_pos c26] at H
                      have c26b0 : decide (((rd_T42 l0_1 x20_1).f0) < (x166000_1.length : Int)) = true := decide_eq_true c26
                      clear c26
                      obtain ⟨y169, hy169⟩ : ∃ y_ : List ByteArray, y_ = (x166000_1.set (((rd_T42 l0_1 x20_1).f0) : Int).toNat ((rd_T42 l0_1 x20_1).f1)) := ⟨_, rfl⟩
                      replace H : (disk_Crash.l0 k1 l1 l0_1 (l0_1.length : Int) (wrap64 (x20_1 + 1)) y169) = some (r1, r2, r3) := by first | (rw [hy169]; with_reducible exact H) | (have H2_ := (Option.bind_some _ _).symm.trans H; rw [hy169]; with_reducible exact H2_) | (have H2_ := (Option.bind_some _ _).symm.trans H; with_reducible exact H2_) | with_reducible exact H | (rw [hy169]; exact H) | exact H
                      have Ny169 := Aside0.mk hy169
                      clear hy169
                      have H' := Aside0.mk H
                      clear H
                      have p166 : 0 ≤ (x20_1 : Int) := of_decide_eq_true (by first | (with_reducible assumption) | assumption)
                      have q166 : x20_1 < (l0_1.length : Int) := of_decide_eq_true (by first | (with_reducible assumption) | assumption)
                      obtain ⟨ad166, e166, hx166_0, hx166_1⟩ := at_T42 HR0_1.out x20_1 p166 q166
                      cases e166
                      replace hx166_0 := (HB.out.cell (World.block_lt_of_cell? w _ hx166_0)).trans hx166_0
                      replace hx166_1 := (HB.out.cell (World.block_lt_of_cell? w _ hx166_1)).trans hx166_1
                      replace p166 := eq_true p166
                      replace q166 := eq_true q166
                      go_wp2_with (first | ((with_reducible refine gate_dst (N := 8) rfl ?_); refine box_event ?hg (N := 8) ?hd (cs := #[.int .i64 0, .string (⟨#[]⟩ : ByteArray)]) (t := 42) ?hr ?_; (case hd => rfl); (case hg => rfl); (case hr => first | (go_simp; done) | (go_simp; rfl)); intro gb167 hg w28 hbox hb; have n0_ := Aside0.mk (Kd.R_below (by (with_reducible repeat (first | apply Kd.R_alloc | apply Kd.R_drewN | apply Kd.R_drew)); exact HO_166000.out) hb); have n1_ := Aside0.mk (blk_below (g := gb159) (o := .cells #[.slice A0_0 l0_0.length c0_0, .slice (some ad166) l0_1.length c0_1] 25 (0, 0)) (by (with_reducible repeat (first | refine blk_drewN ?_ _ | refine blk_drew ?_ | refine blk_alloc ?_ _)); exact BK159.out) hb); have n2_ := Aside0.mk (blk_below (g := gb160) (o := .cells #[.slice none 0 0, .slice none 0 0] 25 (0, 0)) (by (with_reducible repeat (first | refine blk_drewN ?_ _ | refine blk_drew ?_ | refine blk_alloc ?_ _)); exact BK160.out) hb); have n3_ := Aside0.mk (blk_below (g := gb165) (o := .cells #[u166000, .slice none 0 0] 25 (0, 0)) (by (with_reducible repeat (first | refine blk_drewN ?_ _ | refine blk_drew ?_ | refine blk_alloc ?_ _)); exact BK165.out) hb); have n4_ := Aside0.mk (below_step (by repeat (first | (with_reducible first | exact HB.out | apply below_alloc | apply pw_below_drewN | apply below_drew1 | refine below_set ?_ GE159.out | refine below_set ?_ GE160.out | refine below_set ?_ GE165.out) | exact HB.out)) hb); have n5_ := Aside0.mk (hbox); have n6_ := Aside0.mk ((by rw [hg]; exact (below_size (by repeat (first | (with_reducible first | exact HB.out | apply below_alloc | apply pw_below_drewN | apply below_drew1 | refine below_set ?_ GE159.out | refine below_set ?_ GE160.out | refine below_set ?_ GE165.out) | exact HB.out))) : w.heap.size ≤ gb167)); have n7_ := Aside0.mk ((by rw [hg]; exact (below_size (by repeat (first | (with_reducible first | exact HB.out | apply below_alloc | apply pw_below_drewN | apply below_drew1 | refine below_set ?_ GE159.out | refine below_set ?_ GE160.out | refine below_set ?_ GE165.out) | exact HB.out))) : w.heap.size ≤ gb167)); have n8_ := Aside0.mk ((by rw [hg]; exact Nat.ne_of_lt (blk_lt (g := gb159) (o := .cells #[.slice A0_0 l0_0.length c0_0, .slice (some ad166) l0_1.length c0_1] 25 (0, 0)) (by (with_reducible repeat (first | refine blk_drewN ?_ _ | refine blk_drew ?_ | refine blk_alloc ?_ _)); exact BK159.out)) : gb159 ≠ gb167)); have n9_ := Aside0.mk ((by rw [hg]; exact Nat.ne_of_gt (blk_lt (g := gb159) (o := .cells #[.slice A0_0 l0_0.length c0_0, .slice (some ad166) l0_1.length c0_1] 25 (0, 0)) (by (with_reducible repeat (first | refine blk_drewN ?_ _ | refine blk_drew ?_ | refine blk_alloc ?_ _)); exact BK159.out)) : gb167 ≠ gb159)); have n10_ := Aside0.mk ((by rw [hg]; exact Nat.ne_of_lt (blk_lt (g := gb160) (o := .cells #[.slice none 0 0, .slice none 0 0] 25 (0, 0)) (by (with_reducible repeat (first | refine blk_drewN ?_ _ | refine blk_drew ?_ | refine blk_alloc ?_ _)); exact BK160.out)) : gb160 ≠ gb167)); have n11_ := Aside0.mk ((by rw [hg]; exact Nat.ne_of_gt (blk_lt (g := gb160) (o := .cells #[.slice none 0 0, .slice none 0 0] 25 (0, 0)) (by (with_reducible repeat (first | refine blk_drewN ?_ _ | refine blk_drew ?_ | refine blk_alloc ?_ _)); exact BK160.out)) : gb167 ≠ gb160)); have n12_ := Aside0.mk ((by rw [hg]; exact Nat.ne_of_lt (blk_lt (g := gb165) (o := .cells #[u166000, .slice none 0 0] 25 (0, 0)) (by (with_reducible repeat (first | refine blk_drewN ?_ _ | refine blk_drew ?_ | refine blk_alloc ?_ _)); exact BK165.out)) : gb165 ≠ gb167)); have n13_ := Aside0.mk ((by rw [hg]; exact Nat.ne_of_gt (blk_lt (g := gb165) (o := .cells #[u166000, .slice none 0 0] 25 (0, 0)) (by (with_reducible repeat (first | refine blk_drewN ?_ _ | refine blk_drew ?_ | refine blk_alloc ?_ _)); exact BK165.out)) : gb167 ≠ gb165)); clear HO_166000; clear BK159; clear BK160; clear BK165; clear HB; have HO_166000 := n0_; have BK159 := n1_; have BK160 := n2_; have BK165 := n3_; have HB := n4_; have BK167 := n5_; have GW167 := n6_; have GE167 := n7_; have NB159_167 := n8_; have NB167_159 := n9_; have NB160_167 := n10_; have NB167_160 := n11_; have NB165_167 := n12_; have NB167_165 := n13_; clear n0_ n1_ n2_ n3_ n4_ n5_ n6_ n7_ n8_ n9_ n10_ n11_ n12_ n13_; clear hb hbox hg; have hnb29 := NB167_159.out; have hnc29 := NB159_167.out; have hnb30 := NB167_160.out; have hnc30 := NB160_167.out; have hnb31 := NB167_165.out; have hnc31 := NB165_167.out; have hcz32_0 : w28.cell? ⟨gb167, 0, none⟩ = some (.int .i64 0) := (blk_cell BK167.out 0).trans rfl; have hcz32_1 : w28.cell? ⟨gb167, 1, none⟩ = some (.string (⟨#[]⟩ : ByteArray)) := (blk_cell BK167.out 1).trans rfl; have hfz32_0 := blk_frozen BK167.out 0; have hfz32_1 := blk_frozen BK167.out 1) | ((with_reducible refine gate_store (t := 42) (p := 8) rfl ?_); refine store_event (t := 42) (p := 8) (v := ?vo_w33) (w1 := ((w28.setCell ⟨gb167, 0, none⟩ (.int .i64 ((rd_T42 l0_1 x20_1).f0))).setCell ⟨gb167, 1, none⟩ (.string ((rd_T42 l0_1 x20_1).f1)))) ?hg ?ho ?hn ?hr ?_; (case ho => rfl); (case hg => rfl); (case hn => rfl); (case hr => first | (go_simp; done) | (go_simp; rfl)); intro w33 hw; have n0_ : Aside0 (Kd.R Kd.string 9 w33 w.heap.size (fun _ => True) u166000 x166000_1) := ⟨(by rw [hw]; exact (by (with_reducible repeat (first | apply Kd.R_alloc | apply Kd.R_drewN | apply Kd.R_drew)); exact Kd.R_mono (Kd.R_far (p := ⟨gb167, 1, none⟩) (Kd.R_far (p := ⟨gb167, 0, none⟩) (Kd.R_types HO_166000.out BK167.out (by decide)) (fun _ hk => hk.2) (.int .i64 ((rd_T42 l0_1 x20_1).f0))) (fun _ hk => hk.2) (.string ((rd_T42 l0_1 x20_1).f1))) (fun _ hk => trivial)))⟩; have n1_ : Aside0 (w33.heap[gb159]? = some (.cells #[.slice A0_0 l0_0.length c0_0, .slice (some ad166) l0_1.length c0_1] 25 (0, 0))) := ⟨(by rw [hw]; exact (by (with_reducible repeat (first | refine blk_drewN ?_ _ | refine blk_drew ?_ | refine blk_alloc ?_ _)); refine blk_far ?_ NB159_167.out _; (with_reducible repeat (first | refine blk_drewN ?_ _ | refine blk_drew ?_ | refine blk_alloc ?_ _)); refine blk_far ?_ NB159_167.out _; (with_reducible repeat (first | refine blk_drewN ?_ _ | refine blk_drew ?_ | refine blk_alloc ?_ _)); exact BK159.out))⟩; have n2_ : Aside0 (w33.heap[gb160]? = some (.cells #[.slice none 0 0, .slice none 0 0] 25 (0, 0))) := ⟨(by rw [hw]; exact (by (with_reducible repeat (first | refine blk_drewN ?_ _ | refine blk_drew ?_ | refine blk_alloc ?_ _)); refine blk_far ?_ NB160_167.out _; (with_reducible repeat (first | refine blk_drewN ?_ _ | refine blk_drew ?_ | refine blk_alloc ?_ _)); refine blk_far ?_ NB160_167.out _; (with_reducible repeat (first | refine blk_drewN ?_ _ | refine blk_drew ?_ | refine blk_alloc ?_ _)); exact BK160.out))⟩; have n3_ : Aside0 (w33.heap[gb165]? = some (.cells #[u166000, .slice none 0 0] 25 (0, 0))) := ⟨(by rw [hw]; exact (by (with_reducible repeat (first | refine blk_drewN ?_ _ | refine blk_drew ?_ | refine blk_alloc ?_ _)); refine blk_far ?_ NB165_167.out _; (with_reducible repeat (first | refine blk_drewN ?_ _ | refine blk_drew ?_ | refine blk_alloc ?_ _)); refine blk_far ?_ NB165_167.out _; (with_reducible repeat (first | refine blk_drewN ?_ _ | refine blk_drew ?_ | refine blk_alloc ?_ _)); exact BK165.out))⟩; have n4_ : Aside0 (w33.heap[gb167]? = some (.cells #[.int .i64 ((rd_T42 l0_1 x20_1).f0), .string ((rd_T42 l0_1 x20_1).f1)] 42 (0, 0))) := ⟨(by rw [hw]; exact (by (with_reducible repeat (first | refine blk_drewN ?_ _ | refine blk_drew ?_ | refine blk_alloc ?_ _)); refine blk_put (cs := #[.int .i64 ((rd_T42 l0_1 x20_1).f0), .string (⟨#[]⟩ : ByteArray)]) ?_ 1 _ rfl; (with_reducible repeat (first | refine blk_drewN ?_ _ | refine blk_drew ?_ | refine blk_alloc ?_ _)); refine blk_put (cs := #[.int .i64 0, .string (⟨#[]⟩ : ByteArray)]) ?_ 0 _ rfl; (with_reducible repeat (first | refine blk_drewN ?_ _ | refine blk_drew ?_ | refine blk_alloc ?_ _)); exact BK167.out))⟩; have n5_ : Aside0 (Below w.heap.size w w33) := ⟨(by rw [hw]; exact (by repeat (first | (with_reducible first | exact HB.out | apply below_alloc | apply pw_below_drewN | apply below_drew1 | refine below_set ?_ GE159.out | refine below_set ?_ GE160.out | refine below_set ?_ GE165.out | refine below_set ?_ GE167.out) | exact HB.out)))⟩; clear hw; clear HO_166000; clear BK159; clear BK160; clear BK165; clear BK167; clear HB; have HO_166000 := n0_; have BK159 := n1_; have BK160 := n2_; have BK165 := n3_; have BK167 := n4_; have HB := n5_; clear n0_ n1_ n2_ n3_ n4_ n5_; have p168 : 0 ≤ (x20_1 : Int) := of_decide_eq_true (by first | (with_reducible assumption) | assumption); have q168 : x20_1 < (l1.length : Int) := of_decide_eq_true (by first | (with_reducible assumption) | assumption); obtain ⟨ad168, e168, hx168_0⟩ := Kd.at_bool HR1.out x20_1 p168 q168; (try rw [← Nbq23.out] at hx168_0); cases e168; replace hx168_0 := (HB.out.cell (World.block_lt_of_cell? w _ hx168_0)).trans hx168_0; replace p168 := eq_true p168; replace q168 := eq_true q168; have hnb34 := NB165_159.out; have hnc34 := NB159_165.out; have hnb35 := NB165_160.out; have hnc35 := NB160_165.out; have hcz36_0 : w33.cell? ⟨gb165, 0, none⟩ = some (u166000) := (blk_cell BK165.out 0).trans rfl; have hcz36_1 : w33.cell? ⟨gb165, 1, none⟩ = some (.slice none 0 0) := (blk_cell BK165.out 1).trans rfl; have hfz36_0 := blk_frozen BK165.out 0; have hfz36_1 := blk_frozen BK165.out 1; have hcz37_0 : w33.cell? ⟨gb167, 0, none⟩ = some (.int .i64 ((rd_T42 l0_1 x20_1).f0)) := (blk_cell BK167.out 0).trans rfl; have hcz37_1 : w33.cell? ⟨gb167, 1, none⟩ = some (.string ((rd_T42 l0_1 x20_1).f1)) := (blk_cell BK167.out 1).trans rfl; have hfz37_0 := blk_frozen BK167.out 0; have hfz37_1 := blk_frozen BK167.out 1; have p27 : 0 ≤ (((rd_T42 l0_1 x20_1).f0) : Int) := of_decide_eq_true (by first | (with_reducible assumption) | assumption); have q27 : (((rd_T42 l0_1 x20_1).f0) : Int) < ((x166000_1.length : Int) : Int) := of_decide_eq_true (by first | (with_reducible assumption) | assumption); obtain ⟨go27, co27, eo27, gb27, gl27, cl27, HG27⟩ := Kd.R_form HO_166000.out (by omega); (first | cases eo27 | (injection eo27 with ea_ en_ ec_; (first | subst ea_ | (injection ea_ with ea_; subst ea_)); subst ec_; clear en_)); have GB27 := Aside0.mk gb27; have GG27 := Aside0.mk HG27; clear gb27 gl27 HG27; obtain ⟨hx27_0, hf27_0⟩ := Kd.R_celln (⟨#[]⟩ : ByteArray) HO_166000.out (((rd_T42 l0_1 x20_1).f0) : Int) p27 q27; replace p27 := eq_true p27; replace q27 := eq_true q27; obtain ⟨hy38_, hz38_⟩ := Kd.R_celln (⟨#[]⟩ : ByteArray) HO_166000.out (((rd_T42 l0_1 x20_1).f0) : Int) (of_decide_eq_true (by first | (with_reducible assumption) | assumption)) (of_decide_eq_true (by first | (with_reducible assumption) | assumption)); have HP38 := Kd.R_putg HO_166000.out (((rd_T42 l0_1 x20_1).f0) : Int) ((rd_T42 l0_1 x20_1).f1)) | ((with_reducible refine gate_store (t := 9) (p := 41) rfl ?_); refine store_event (t := 9) (p := 41) (v := ?vo_w39) (w1 := (w33.setCell ⟨go27, (((rd_T42 l0_1 x20_1).f0) : Int).toNat, none⟩ (.string ((rd_T42 l0_1 x20_1).f1)))) ?hg ?ho ?hn ?hr ?_; (case ho => rfl); (case hg => rfl); (case hn => rfl); (case hr => first | (go_simp; done) | (go_simp; rfl)); intro w39 hw; have hg : w33.grownBy w39 (some go27) := (by rw [hw]; exact HP38.2); have hp_ : Kd.R Kd.string 9 w39 w.heap.size (fun _ => True) (.slice (some ⟨go27, 0, none⟩) x166000_1.length co27) y169 := (by rw [hw, Ny169.out]; exact HP38.1); clear HP38; have n0_ := Aside0.mk (hp_); have n1_ := Aside0.mk (blk_grown (g := gb159) (o := .cells #[.slice A0_0 l0_0.length c0_0, .slice (some ad166) l0_1.length c0_1] 25 (0, 0)) (by (with_reducible repeat (first | refine blk_drewN ?_ _ | refine blk_drew ?_ | refine blk_alloc ?_ _)); exact BK159.out) hg (Kd.R_ne HO_166000.out BK159.out (by decide))); have n2_ := Aside0.mk (blk_grown (g := gb160) (o := .cells #[.slice none 0 0, .slice none 0 0] 25 (0, 0)) (by (with_reducible repeat (first | refine blk_drewN ?_ _ | refine blk_drew ?_ | refine blk_alloc ?_ _)); exact BK160.out) hg (Kd.R_ne HO_166000.out BK160.out (by decide))); have n3_ := Aside0.mk (blk_grown (g := gb165) (o := .cells #[.slice (some ⟨go27, 0, none⟩) x166000_1.length co27, .slice none 0 0] 25 (0, 0)) (by (with_reducible repeat (first | refine blk_drewN ?_ _ | refine blk_drew ?_ | refine blk_alloc ?_ _)); exact BK165.out) hg (Kd.R_ne HO_166000.out BK165.out (by decide))); have n4_ := Aside0.mk (blk_grown (g := gb167) (o := .cells #[.int .i64 ((rd_T42 l0_1 x20_1).f0), .string ((rd_T42 l0_1 x20_1).f1)] 42 (0, 0)) (by (with_reducible repeat (first | refine blk_drewN ?_ _ | refine blk_drew ?_ | refine blk_alloc ?_ _)); exact BK167.out) hg (Kd.R_ne HO_166000.out BK167.out (by decide))); have n5_ := Aside0.mk ((by rw [hw]; exact below_set (HB.out) GB27.out : Below w.heap.size w w39)); clear HO_166000; clear BK159; clear BK160; clear BK165; clear BK167; clear HB; have HO_166000 := n0_; have BK159 := n1_; have BK160 := n2_; have BK165 := n3_; have BK167 := n4_; have HB := n5_; clear n0_ n1_ n2_ n3_ n4_ n5_; clear hg hw hp_))
                      go_roundg k1
                      case measure => have := HK1.out; omega
                      case rel => exact ⟨(wrap64 (x20_1 + 1)), (y169), (.slice (some ⟨go27, 0, none⟩) x166000_1.length co27), (by first | rfl | (simp; done) | (simp [*]; done)), H', ⟨by have := HK1.out; omega⟩, ⟨by (with_reducible repeat (first | apply Kd.R_alloc | apply Kd.R_drewN | apply Kd.R_drew)); exact HO_166000.out⟩, ⟨by (with_reducible repeat (first | refine blk_drewN ?_ _ | refine blk_drew ?_ | refine blk_alloc ?_ _)); exact BK159.out⟩, ⟨by (with_reducible repeat (first | refine blk_drewN ?_ _ | refine blk_drew ?_ | refine blk_alloc ?_ _)); exact BK160.out⟩, ⟨by (with_reducible repeat (first | refine blk_drewN ?_ _ | refine blk_drew ?_ | refine blk_alloc ?_ _)); exact BK165.out⟩, ⟨by repeat (first | (with_reducible first | exact HB.out | apply below_alloc | apply pw_below_drewN | apply below_drew1 | refine below_set ?_ GE159.out | refine below_set ?_ GE160.out | refine below_set ?_ GE165.out | refine below_set ?_ GE167.out) | exact HB.out)⟩⟩
                    · rw [if_neg c26] at H
                      exact absurd H (by simp)
                  · rw [if_neg c25] at H
                    exact absurd H (by simp)
                · replace c24 := Bool.eq_false_iff.mpr c24
                  subst c24
                  have H1 : (disk_Crash.l0 k1 l1 l0_1 (l0_1.length : Int) (wrap64 (x20_1 + 1)) x166000_1) = some (r1, r2, r3) := by rw [if_neg (show ¬ (false = true) by decide)] at H; exact H
                  clear H
                  have H := H1
                  clear H1
                  have H' := Aside0.mk H
                  clear H
                  have p166 : 0 ≤ (x20_1 : Int) := of_decide_eq_true (by first | (with_reducible assumption) | assumption)
                  have q166 : x20_1 < (l0_1.length : Int) := of_decide_eq_true (by first | (with_reducible assumption) | assumption)
                  obtain ⟨ad166, e166, hx166_0, hx166_1⟩ := at_T42 HR0_1.out x20_1 p166 q166
                  cases e166
                  replace hx166_0 := (HB.out.cell (World.block_lt_of_cell? w _ hx166_0)).trans hx166_0
                  replace hx166_1 := (HB.out.cell (World.block_lt_of_cell? w _ hx166_1)).trans hx166_1
                  replace p166 := eq_true p166
                  replace q166 := eq_true q166
                  go_wp2_with (first | ((with_reducible refine gate_dst (N := 8) rfl ?_); refine box_event ?hg (N := 8) ?hd (cs := #[.int .i64 0, .string (⟨#[]⟩ : ByteArray)]) (t := 42) ?hr ?_; (case hd => rfl); (case hg => rfl); (case hr => first | (go_simp; done) | (go_simp; rfl)); intro gb167 hg w40 hbox hb; have n0_ := Aside0.mk (Kd.R_below (by (with_reducible repeat (first | apply Kd.R_alloc | apply Kd.R_drewN | apply Kd.R_drew)); exact HO_166000.out) hb); have n1_ := Aside0.mk (blk_below (g := gb159) (o := .cells #[.slice A0_0 l0_0.length c0_0, .slice (some ad166) l0_1.length c0_1] 25 (0, 0)) (by (with_reducible repeat (first | refine blk_drewN ?_ _ | refine blk_drew ?_ | refine blk_alloc ?_ _)); exact BK159.out) hb); have n2_ := Aside0.mk (blk_below (g := gb160) (o := .cells #[.slice none 0 0, .slice none 0 0] 25 (0, 0)) (by (with_reducible repeat (first | refine blk_drewN ?_ _ | refine blk_drew ?_ | refine blk_alloc ?_ _)); exact BK160.out) hb); have n3_ := Aside0.mk (blk_below (g := gb165) (o := .cells #[u166000, .slice none 0 0] 25 (0, 0)) (by (with_reducible repeat (first | refine blk_drewN ?_ _ | refine blk_drew ?_ | refine blk_alloc ?_ _)); exact BK165.out) hb); have n4_ := Aside0.mk (below_step (by repeat (first | (with_reducible first | exact HB.out | apply below_alloc | apply pw_below_drewN | apply below_drew1 | refine below_set ?_ GE159.out | refine below_set ?_ GE160.out | refine below_set ?_ GE165.out) | exact HB.out)) hb); have n5_ := Aside0.mk (hbox); have n6_ := Aside0.mk ((by rw [hg]; exact (below_size (by repeat (first | (with_reducible first | exact HB.out | apply below_alloc | apply pw_below_drewN | apply below_drew1 | refine below_set ?_ GE159.out | refine below_set ?_ GE160.out | refine below_set ?_ GE165.out) | exact HB.out))) : w.heap.size ≤ gb167)); have n7_ := Aside0.mk ((by rw [hg]; exact (below_size (by repeat (first | (with_reducible first | exact HB.out | apply below_alloc | apply pw_below_drewN | apply below_drew1 | refine below_set ?_ GE159.out | refine below_set ?_ GE160.out | refine below_set ?_ GE165.out) | exact HB.out))) : w.heap.size ≤ gb167)); have n8_ := Aside0.mk ((by rw [hg]; exact Nat.ne_of_lt (blk_lt (g := gb159) (o := .cells #[.slice A0_0 l0_0.length c0_0, .slice (some ad166) l0_1.length c0_1] 25 (0, 0)) (by (with_reducible repeat (first | refine blk_drewN ?_ _ | refine blk_drew ?_ | refine blk_alloc ?_ _)); exact BK159.out)) : gb159 ≠ gb167)); have n9_ := Aside0.mk ((by rw [hg]; exact Nat.ne_of_gt (blk_lt (g := gb159) (o := .cells #[.slice A0_0 l0_0.length c0_0, .slice (some ad166) l0_1.length c0_1] 25 (0, 0)) (by (with_reducible repeat (first | refine blk_drewN ?_ _ | refine blk_drew ?_ | refine blk_alloc ?_ _)); exact BK159.out)) : gb167 ≠ gb159)); have n10_ := Aside0.mk ((by rw [hg]; exact Nat.ne_of_lt (blk_lt (g := gb160) (o := .cells #[.slice none 0 0, .slice none 0 0] 25 (0, 0)) (by (with_reducible repeat (first | refine blk_drewN ?_ _ | refine blk_drew ?_ | refine blk_alloc ?_ _)); exact BK160.out)) : gb160 ≠ gb167)); have n11_ := Aside0.mk ((by rw [hg]; exact Nat.ne_of_gt (blk_lt (g := gb160) (o := .cells #[.slice none 0 0, .slice none 0 0] 25 (0, 0)) (by (with_reducible repeat (first | refine blk_drewN ?_ _ | refine blk_drew ?_ | refine blk_alloc ?_ _)); exact BK160.out)) : gb167 ≠ gb160)); have n12_ := Aside0.mk ((by rw [hg]; exact Nat.ne_of_lt (blk_lt (g := gb165) (o := .cells #[u166000, .slice none 0 0] 25 (0, 0)) (by (with_reducible repeat (first | refine blk_drewN ?_ _ | refine blk_drew ?_ | refine blk_alloc ?_ _)); exact BK165.out)) : gb165 ≠ gb167)); have n13_ := Aside0.mk ((by rw [hg]; exact Nat.ne_of_gt (blk_lt (g := gb165) (o := .cells #[u166000, .slice none 0 0] 25 (0, 0)) (by (with_reducible repeat (first | refine blk_drewN ?_ _ | refine blk_drew ?_ | refine blk_alloc ?_ _)); exact BK165.out)) : gb167 ≠ gb165)); clear HO_166000; clear BK159; clear BK160; clear BK165; clear HB; have HO_166000 := n0_; have BK159 := n1_; have BK160 := n2_; have BK165 := n3_; have HB := n4_; have BK167 := n5_; have GW167 := n6_; have GE167 := n7_; have NB159_167 := n8_; have NB167_159 := n9_; have NB160_167 := n10_; have NB167_160 := n11_; have NB165_167 := n12_; have NB167_165 := n13_; clear n0_ n1_ n2_ n3_ n4_ n5_ n6_ n7_ n8_ n9_ n10_ n11_ n12_ n13_; clear hb hbox hg; have hnb41 := NB167_159.out; have hnc41 := NB159_167.out; have hnb42 := NB167_160.out; have hnc42 := NB160_167.out; have hnb43 := NB167_165.out; have hnc43 := NB165_167.out; have hcz44_0 : w40.cell? ⟨gb167, 0, none⟩ = some (.int .i64 0) := (blk_cell BK167.out 0).trans rfl; have hcz44_1 : w40.cell? ⟨gb167, 1, none⟩ = some (.string (⟨#[]⟩ : ByteArray)) := (blk_cell BK167.out 1).trans rfl; have hfz44_0 := blk_frozen BK167.out 0; have hfz44_1 := blk_frozen BK167.out 1; have p168 : 0 ≤ (x20_1 : Int) := of_decide_eq_true (by first | (with_reducible assumption) | assumption); have q168 : x20_1 < (l1.length : Int) := of_decide_eq_true (by first | (with_reducible assumption) | assumption); obtain ⟨ad168, e168, hx168_0⟩ := Kd.at_bool HR1.out x20_1 p168 q168; (try rw [← Nbq23.out] at hx168_0); cases e168; have hn168_0 : ad168.block ≠ gb167 := Nat.ne_of_lt (Nat.lt_of_lt_of_le (by have := World.block_lt_of_cell? _ _ hx168_0; first | rwa [add_block] at this | exact this) GW167.out); have hn168_1 : ad168.block ≠ gb167 := Nat.ne_of_lt (Nat.lt_of_lt_of_le (by have := World.block_lt_of_cell? _ _ hx168_0; first | rwa [add_block] at this | exact this) GW167.out); replace hx168_0 := (HB.out.cell (World.block_lt_of_cell? w _ hx168_0)).trans hx168_0; replace hx168_0 := (cell_far (p := ⟨gb167, 0, none⟩) (by first | (rw [add_block]; exact hn168_0) | (show (Addr.add _ _).block ≠ _; rw [add_block]; exact hn168_0) | exact hn168_0) (.int .i64 ((rd_T42 l0_1 x20_1).f0))).trans hx168_0; replace hx168_0 := (cell_far (p := ⟨gb167, 1, none⟩) (by first | (rw [add_block]; exact hn168_1) | (show (Addr.add _ _).block ≠ _; rw [add_block]; exact hn168_1) | exact hn168_1) (.string ((rd_T42 l0_1 x20_1).f1))).trans hx168_0; clear hn168_0; clear hn168_1; replace p168 := eq_true p168; replace q168 := eq_true q168))
                  go_roundg k1
                  case measure => have := HK1.out; omega
                  case rel => exact ⟨(wrap64 (x20_1 + 1)), (x166000_1), (u166000), (by first | rfl | (simp; done) | (simp [*]; done)), H', ⟨by have := HK1.out; omega⟩, ⟨by (with_reducible repeat (first | apply Kd.R_alloc | apply Kd.R_drewN | apply Kd.R_drew)); exact Kd.R_mono (Kd.R_far (p := ⟨gb167, 1, none⟩) (Kd.R_far (p := ⟨gb167, 0, none⟩) (Kd.R_types HO_166000.out BK167.out (by decide)) (fun _ hk => hk.2) (.int .i64 ((rd_T42 l0_1 x20_1).f0))) (fun _ hk => hk.2) (.string ((rd_T42 l0_1 x20_1).f1))) (fun _ hk => trivial)⟩, ⟨by (with_reducible repeat (first | refine blk_drewN ?_ _ | refine blk_drew ?_ | refine blk_alloc ?_ _)); refine blk_far ?_ NB159_167.out _; (with_reducible repeat (first | refine blk_drewN ?_ _ | refine blk_drew ?_ | refine blk_alloc ?_ _)); refine blk_far ?_ NB159_167.out _; (with_reducible repeat (first | refine blk_drewN ?_ _ | refine blk_drew ?_ | refine blk_alloc ?_ _)); exact BK159.out⟩, ⟨by (with_reducible repeat (first | refine blk_drewN ?_ _ | refine blk_drew ?_ | refine blk_alloc ?_ _)); refine blk_far ?_ NB160_167.out _; (with_reducible repeat (first | refine blk_drewN ?_ _ | refine blk_drew ?_ | refine blk_alloc ?_ _)); refine blk_far ?_ NB160_167.out _; (with_reducible repeat (first | refine blk_drewN ?_ _ | refine blk_drew ?_ | refine blk_alloc ?_ _)); exact BK160.out⟩, ⟨by (with_reducible repeat (first | refine blk_drewN ?_ _ | refine blk_drew ?_ | refine blk_alloc ?_ _)); refine blk_far ?_ NB165_167.out _; (with_reducible repeat (first | refine blk_drewN ?_ _ | refine blk_drew ?_ | refine blk_alloc ?_ _)); refine blk_far ?_ NB165_167.out _; (with_reducible repeat (first | refine blk_drewN ?_ _ | refine blk_drew ?_ | refine blk_alloc ?_ _)); exact BK165.out⟩, ⟨by repeat (first | (with_reducible first | exact HB.out | apply below_alloc | apply pw_below_drewN | apply below_drew1 | refine below_set ?_ GE159.out | refine below_set ?_ GE160.out | refine below_set ?_ GE165.out | refine below_set ?_ GE167.out) | exact HB.out)⟩⟩
              · rw [if_neg c22] at H
                have c22b0 : decide (x20_1 < (l1.length : Int)) = false := decide_eq_false c22
                clear c22
                have H' := Aside0.mk H
                clear H
                have p166 : 0 ≤ (x20_1 : Int) := of_decide_eq_true (by first | (with_reducible assumption) | assumption)
                have q166 : x20_1 < (l0_1.length : Int) := of_decide_eq_true (by first | (with_reducible assumption) | assumption)
                obtain ⟨ad166, e166, hx166_0, hx166_1⟩ := at_T42 HR0_1.out x20_1 p166 q166
                cases e166
                replace hx166_0 := (HB.out.cell (World.block_lt_of_cell? w _ hx166_0)).trans hx166_0
                replace hx166_1 := (HB.out.cell (World.block_lt_of_cell? w _ hx166_1)).trans hx166_1
                replace p166 := eq_true p166
                replace q166 := eq_true q166
                go_wp2_with (first | ((with_reducible refine gate_dst (N := 8) rfl ?_); refine box_event ?hg (N := 8) ?hd (cs := #[.int .i64 0, .string (⟨#[]⟩ : ByteArray)]) (t := 42) ?hr ?_; (case hd => rfl); (case hg => rfl); (case hr => first | (go_simp; done) | (go_simp; rfl)); intro gb167 hg w45 hbox hb; have n0_ := Aside0.mk (Kd.R_below (by (with_reducible repeat (first | apply Kd.R_alloc | apply Kd.R_drewN | apply Kd.R_drew)); exact HO_166000.out) hb); have n1_ := Aside0.mk (blk_below (g := gb159) (o := .cells #[.slice A0_0 l0_0.length c0_0, .slice (some ad166) l0_1.length c0_1] 25 (0, 0)) (by (with_reducible repeat (first | refine blk_drewN ?_ _ | refine blk_drew ?_ | refine blk_alloc ?_ _)); exact BK159.out) hb); have n2_ := Aside0.mk (blk_below (g := gb160) (o := .cells #[.slice none 0 0, .slice none 0 0] 25 (0, 0)) (by (with_reducible repeat (first | refine blk_drewN ?_ _ | refine blk_drew ?_ | refine blk_alloc ?_ _)); exact BK160.out) hb); have n3_ := Aside0.mk (blk_below (g := gb165) (o := .cells #[u166000, .slice none 0 0] 25 (0, 0)) (by (with_reducible repeat (first | refine blk_drewN ?_ _ | refine blk_drew ?_ | refine blk_alloc ?_ _)); exact BK165.out) hb); have n4_ := Aside0.mk (below_step (by repeat (first | (with_reducible first | exact HB.out | apply below_alloc | apply pw_below_drewN | apply below_drew1 | refine below_set ?_ GE159.out | refine below_set ?_ GE160.out | refine below_set ?_ GE165.out) | exact HB.out)) hb); have n5_ := Aside0.mk (hbox); have n6_ := Aside0.mk ((by rw [hg]; exact (below_size (by repeat (first | (with_reducible first | exact HB.out | apply below_alloc | apply pw_below_drewN | apply below_drew1 | refine below_set ?_ GE159.out | refine below_set ?_ GE160.out | refine below_set ?_ GE165.out) | exact HB.out))) : w.heap.size ≤ gb167)); have n7_ := Aside0.mk ((by rw [hg]; exact (below_size (by repeat (first | (with_reducible first | exact HB.out | apply below_alloc | apply pw_below_drewN | apply below_drew1 | refine below_set ?_ GE159.out | refine below_set ?_ GE160.out | refine below_set ?_ GE165.out) | exact HB.out))) : w.heap.size ≤ gb167)); have n8_ := Aside0.mk ((by rw [hg]; exact Nat.ne_of_lt (blk_lt (g := gb159) (o := .cells #[.slice A0_0 l0_0.length c0_0, .slice (some ad166) l0_1.length c0_1] 25 (0, 0)) (by (with_reducible repeat (first | refine blk_drewN ?_ _ | refine blk_drew ?_ | refine blk_alloc ?_ _)); exact BK159.out)) : gb159 ≠ gb167)); have n9_ := Aside0.mk ((by rw [hg]; exact Nat.ne_of_gt (blk_lt (g := gb159) (o := .cells #[.slice A0_0 l0_0.length c0_0, .slice (some ad166) l0_1.length c0_1] 25 (0, 0)) (by (with_reducible repeat (first | refine blk_drewN ?_ _ | refine blk_drew ?_ | refine blk_alloc ?_ _)); exact BK159.out)) : gb167 ≠ gb159)); have n10_ := Aside0.mk ((by rw [hg]; exact Nat.ne_of_lt (blk_lt (g := gb160) (o := .cells #[.slice none 0 0, .slice none 0 0] 25 (0, 0)) (by (with_reducible repeat (first | refine blk_drewN ?_ _ | refine blk_drew ?_ | refine blk_alloc ?_ _)); exact BK160.out)) : gb160 ≠ gb167)); have n11_ := Aside0.mk ((by rw [hg]; exact Nat.ne_of_gt (blk_lt (g := gb160) (o := .cells #[.slice none 0 0, .slice none 0 0] 25 (0, 0)) (by (with_reducible repeat (first | refine blk_drewN ?_ _ | refine blk_drew ?_ | refine blk_alloc ?_ _)); exact BK160.out)) : gb167 ≠ gb160)); have n12_ := Aside0.mk ((by rw [hg]; exact Nat.ne_of_lt (blk_lt (g := gb165) (o := .cells #[u166000, .slice none 0 0] 25 (0, 0)) (by (with_reducible repeat (first | refine blk_drewN ?_ _ | refine blk_drew ?_ | refine blk_alloc ?_ _)); exact BK165.out)) : gb165 ≠ gb167)); have n13_ := Aside0.mk ((by rw [hg]; exact Nat.ne_of_gt (blk_lt (g := gb165) (o := .cells #[u166000, .slice none 0 0] 25 (0, 0)) (by (with_reducible repeat (first | refine blk_drewN ?_ _ | refine blk_drew ?_ | refine blk_alloc ?_ _)); exact BK165.out)) : gb167 ≠ gb165)); clear HO_166000; clear BK159; clear BK160; clear BK165; clear HB; have HO_166000 := n0_; have BK159 := n1_; have BK160 := n2_; have BK165 := n3_; have HB := n4_; have BK167 := n5_; have GW167 := n6_; have GE167 := n7_; have NB159_167 := n8_; have NB167_159 := n9_; have NB160_167 := n10_; have NB167_160 := n11_; have NB165_167 := n12_; have NB167_165 := n13_; clear n0_ n1_ n2_ n3_ n4_ n5_ n6_ n7_ n8_ n9_ n10_ n11_ n12_ n13_; clear hb hbox hg; have hnb46 := NB167_159.out; have hnc46 := NB159_167.out; have hnb47 := NB167_160.out; have hnc47 := NB160_167.out; have hnb48 := NB167_165.out; have hnc48 := NB165_167.out; have hcz49_0 : w45.cell? ⟨gb167, 0, none⟩ = some (.int .i64 0) := (blk_cell BK167.out 0).trans rfl; have hcz49_1 : w45.cell? ⟨gb167, 1, none⟩ = some (.string (⟨#[]⟩ : ByteArray)) := (blk_cell BK167.out 1).trans rfl; have hfz49_0 := blk_frozen BK167.out 0; have hfz49_1 := blk_frozen BK167.out 1))
                go_roundg k1
                case measure => have := HK1.out; omega
                case rel => exact ⟨(wrap64 (x20_1 + 1)), (x166000_1), (u166000), (by first | rfl | (simp; done) | (simp [*]; done)), H', ⟨by have := HK1.out; omega⟩, ⟨by (with_reducible repeat (first | apply Kd.R_alloc | apply Kd.R_drewN | apply Kd.R_drew)); exact Kd.R_mono (Kd.R_far (p := ⟨gb167, 1, none⟩) (Kd.R_far (p := ⟨gb167, 0, none⟩) (Kd.R_types HO_166000.out BK167.out (by decide)) (fun _ hk => hk.2) (.int .i64 ((rd_T42 l0_1 x20_1).f0))) (fun _ hk => hk.2) (.string ((rd_T42 l0_1 x20_1).f1))) (fun _ hk => trivial)⟩, ⟨by (with_reducible repeat (first | refine blk_drewN ?_ _ | refine blk_drew ?_ | refine blk_alloc ?_ _)); refine blk_far ?_ NB159_167.out _; (with_reducible repeat (first | refine blk_drewN ?_ _ | refine blk_drew ?_ | refine blk_alloc ?_ _)); refine blk_far ?_ NB159_167.out _; (with_reducible repeat (first | refine blk_drewN ?_ _ | refine blk_drew ?_ | refine blk_alloc ?_ _)); exact BK159.out⟩, ⟨by (with_reducible repeat (first | refine blk_drewN ?_ _ | refine blk_drew ?_ | refine blk_alloc ?_ _)); refine blk_far ?_ NB160_167.out _; (with_reducible repeat (first | refine blk_drewN ?_ _ | refine blk_drew ?_ | refine blk_alloc ?_ _)); refine blk_far ?_ NB160_167.out _; (with_reducible repeat (first | refine blk_drewN ?_ _ | refine blk_drew ?_ | refine blk_alloc ?_ _)); exact BK160.out⟩, ⟨by (with_reducible repeat (first | refine blk_drewN ?_ _ | refine blk_drew ?_ | refine blk_alloc ?_ _)); refine blk_far ?_ NB165_167.out _; (with_reducible repeat (first | refine blk_drewN ?_ _ | refine blk_drew ?_ | refine blk_alloc ?_ _)); refine blk_far ?_ NB165_167.out _; (with_reducible repeat (first | refine blk_drewN ?_ _ | refine blk_drew ?_ | refine blk_alloc ?_ _)); exact BK165.out⟩, ⟨by repeat (first | (with_reducible first | exact HB.out | apply below_alloc | apply pw_below_drewN | apply below_drew1 | refine below_set ?_ GE159.out | refine below_set ?_ GE160.out | refine below_set ?_ GE165.out | refine below_set ?_ GE167.out) | exact HB.out)⟩⟩
            · rw [if_neg c21] at H
              exact absurd H (by simp)
          · rw [if_neg c20] at H
            exact absurd H (by simp)
        · rw [if_neg c19] at H
          have c19b0 : decide (x20_1 < (l0_1.length : Int)) = false := decide_eq_false c19
          clear c19
          simp only [Option.some.injEq, Prod.mk.injEq] at H
          obtain ⟨rfl, rfl, rfl⟩ := H
          have hnb50 := NB165_159.out
          have hnc50 := NB159_165.out
          have hnb51 := NB165_160.out
          have hnc51 := NB160_165.out
          have hcz52_0 : wr.cell? ⟨gb165, 0, none⟩ = some (u166000) := (blk_cell BK165.out 0).trans rfl
          have hcz52_1 : wr.cell? ⟨gb165, 1, none⟩ = some (.slice none 0 0) := (blk_cell BK165.out 1).trans rfl
          have hfz52_0 := blk_frozen BK165.out 0
          have hfz52_1 := blk_frozen BK165.out 1
          obtain ⟨Ao53, co53, eo53⟩ := Kd.R_slice HO_166000.out
          subst eo53
          have hnb54 := NB160_159.out
          have hnc54 := NB159_160.out
          have hcz55_0 : wr.cell? ⟨gb160, 0, none⟩ = some (.slice none 0 0) := (blk_cell BK160.out 0).trans rfl
          have hcz55_1 : wr.cell? ⟨gb160, 1, none⟩ = some (.slice none 0 0) := (blk_cell BK160.out 1).trans rfl
          have hfz55_0 := blk_frozen BK160.out 0
          have hfz55_1 := blk_frozen BK160.out 1
          go_wp2
          refine bodyPost_ret (results_ct rfl _ _ gb160 25 #[.slice Ao53 x166000_1.length co53, .slice none 0 0] (0, 0) _ rfl (by (with_reducible repeat (first | refine blk_drewN ?_ _ | refine blk_drew ?_ | refine blk_alloc ?_ _)); refine blk_put (cs := #[.slice Ao53 x166000_1.length co53, .slice none 0 0]) ?_ 1 _ rfl; (with_reducible repeat (first | refine blk_drewN ?_ _ | refine blk_drew ?_ | refine blk_alloc ?_ _)); refine blk_put (cs := #[.slice none 0 0, .slice none 0 0]) ?_ 0 _ rfl; (with_reducible repeat (first | refine blk_drewN ?_ _ | refine blk_drew ?_ | refine blk_alloc ?_ _)); exact BK160.out) Tryd.underlying25 rfl (by kernel_rfl)) rfl ?_
          exact ⟨_, _, by first | rfl | (simp [errW_none, errW_some] <;> rfl) | (simp [*, errW_none, errW_some] <;> rfl), by (with_reducible repeat (first | apply Kd.R_alloc | apply Kd.R_drewN | apply Kd.R_drew)); exact Kd.R_mono (Kd.R_far (p := ⟨gb160, 1, none⟩) (Kd.R_far (p := ⟨gb160, 0, none⟩) (Kd.R_types HO_166000.out BK160.out (by decide)) (fun _ hk => hk.2) (.slice Ao53 x166000_1.length co53)) (fun _ hk => hk.2) (.slice none 0 0)) (fun _ hk => trivial), by first | exact Kd.R_nil _ _ _ _ _ | exact Kd.N_nil _ _ _ _ _ | exact Kd.V_nil _ _ _ _ _ | exact Kd.Q_nil _ _ _ _ _ | exact Kd.S_nil _ _ _ _ _, by repeat (first | (with_reducible first | exact HB.out | apply below_alloc | apply pw_below_drewN | apply below_drew1 | refine below_set ?_ GE159.out | refine below_set ?_ GE160.out | refine below_set ?_ GE165.out) | exact HB.out)⟩
  · replace c4 := Bool.eq_false_iff.mpr c4
    subst c4
    have H1 : (some (([] : List ByteArray), ([] : List (S42)), 1)) = some (r1, r2, r3) := by rw [if_neg (show ¬ (false = true) by decide)] at H; exact H
    clear H
    have H := H1
    clear H1
    simp only [Option.some.injEq, Prod.mk.injEq] at H
    obtain ⟨rfl, rfl, rfl⟩ := H
    go_enter Tryd.func21, Tryd.ntmps21
    go_wp2_with (first | ((with_reducible refine gate_dst (N := 2) rfl ?_); refine box_event ?hg (N := 2) ?hd (cs := #[.slice A0_0 l0_0.length c0_0, .slice A0_1 l0_1.length c0_1]) (t := 25) ?hr ?_; (case hd => rfl); (case hg => rfl); (case hr => first | (go_simp; done) | (go_simp; rfl)); intro gb159 hg w56 hbox hb; have n0_ := Aside0.mk (below_step (by repeat (first | (with_reducible first | exact HB.out | apply below_alloc | apply pw_below_drewN | apply below_drew1) | exact HB.out)) hb); have n1_ := Aside0.mk (hbox); have n2_ := Aside0.mk ((by rw [hg]; exact (below_size (by repeat (first | (with_reducible first | exact HB.out | apply below_alloc | apply pw_below_drewN | apply below_drew1) | exact HB.out))) : w.heap.size ≤ gb159)); have n3_ := Aside0.mk ((by rw [hg]; exact (below_size (by repeat (first | (with_reducible first | exact HB.out | apply below_alloc | apply pw_below_drewN | apply below_drew1) | exact HB.out))) : w.heap.size ≤ gb159)); clear HB; have HB := n0_; have BK159 := n1_; have GW159 := n2_; have GE159 := n3_; clear n0_ n1_ n2_ n3_; clear hb hbox hg) | ((with_reducible refine gate_dst (N := 4) rfl ?_); refine box_event ?hg (N := 4) ?hd (cs := #[.slice none 0 0, .slice none 0 0]) (t := 25) ?hr ?_; (case hd => rfl); (case hg => rfl); (case hr => first | (go_simp; done) | (go_simp; rfl)); intro gb160 hg w57 hbox hb; have n0_ := Aside0.mk (blk_below (g := gb159) (o := .cells #[.slice A0_0 l0_0.length c0_0, .slice A0_1 l0_1.length c0_1] 25 (0, 0)) (by (with_reducible repeat (first | refine blk_drewN ?_ _ | refine blk_drew ?_ | refine blk_alloc ?_ _)); exact BK159.out) hb); have n1_ := Aside0.mk (below_step (by repeat (first | (with_reducible first | exact HB.out | apply below_alloc | apply pw_below_drewN | apply below_drew1 | refine below_set ?_ GE159.out) | exact HB.out)) hb); have n2_ := Aside0.mk (hbox); have n3_ := Aside0.mk ((by rw [hg]; exact (below_size (by repeat (first | (with_reducible first | exact HB.out | apply below_alloc | apply pw_below_drewN | apply below_drew1 | refine below_set ?_ GE159.out) | exact HB.out))) : w.heap.size ≤ gb160)); have n4_ := Aside0.mk ((by rw [hg]; exact (below_size (by repeat (first | (with_reducible first | exact HB.out | apply below_alloc | apply pw_below_drewN | apply below_drew1 | refine below_set ?_ GE159.out) | exact HB.out))) : w.heap.size ≤ gb160)); have n5_ := Aside0.mk ((by rw [hg]; exact Nat.ne_of_lt (blk_lt (g := gb159) (o := .cells #[.slice A0_0 l0_0.length c0_0, .slice A0_1 l0_1.length c0_1] 25 (0, 0)) (by (with_reducible repeat (first | refine blk_drewN ?_ _ | refine blk_drew ?_ | refine blk_alloc ?_ _)); exact BK159.out)) : gb159 ≠ gb160)); have n6_ := Aside0.mk ((by rw [hg]; exact Nat.ne_of_gt (blk_lt (g := gb159) (o := .cells #[.slice A0_0 l0_0.length c0_0, .slice A0_1 l0_1.length c0_1] 25 (0, 0)) (by (with_reducible repeat (first | refine blk_drewN ?_ _ | refine blk_drew ?_ | refine blk_alloc ?_ _)); exact BK159.out)) : gb160 ≠ gb159)); clear BK159; clear HB; have BK159 := n0_; have HB := n1_; have BK160 := n2_; have GW160 := n3_; have GE160 := n4_; have NB159_160 := n5_; have NB160_159 := n6_; clear n0_ n1_ n2_ n3_ n4_ n5_ n6_; clear hb hbox hg; have hnb58 := NB159_160.out; have hnc58 := NB160_159.out; have hcz59_0 : w57.cell? ⟨gb159, 0, none⟩ = some (.slice A0_0 l0_0.length c0_0) := (blk_cell BK159.out 0).trans rfl; have hcz59_1 : w57.cell? ⟨gb159, 1, none⟩ = some (.slice A0_1 l0_1.length c0_1) := (blk_cell BK159.out 1).trans rfl; have hfz59_0 := blk_frozen BK159.out 0; have hfz59_1 := blk_frozen BK159.out 1) | ((with_reducible refine gate_callee (f := 18) rfl ?_); refine goesL_ (some 10) rfl rfl Tryd.func18 (by kernel_rfl) rfl #[.agg #[.slice A0_0 l0_0.length c0_0, .slice A0_1 l0_1.length c0_1]] rfl (by (try simp only [List.map_toArray, List.map_cons, List.map_nil]); first | done | rfl | (simp only [List.length_drop, List.length_take]; rfl) | (simp [Act.eval, IntKind.wrap, IntKind.bits, IntKind.signed]; (repeat (first | (rename (decide _ = false) => h_; replace h_ := of_decide_eq_false h_) | (rename (decide _ = true) => h_; replace h_ := of_decide_eq_true h_))); omega)) ?_; (with_reducible refine (disk_Right.calls _ _ l0_0 _ _ l0_1 false _ ?side1 ?side2 ?side3 ?side4 A3.out).mono ?_); (case side1 => repeat (first | exact (Kd.C_below HR0_0.out HB.out) | (with_reducible refine Kd.C_alloc ?_ _) | (with_reducible refine Kd.C_drewN ?_ _) | (with_reducible refine Kd.C_drew ?_))); (case side2 => exact HC0_0.out); (case side3 => repeat (first | exact (Kd.C_below HR0_1.out HB.out) | (with_reducible refine Kd.C_alloc ?_ _) | (with_reducible refine Kd.C_drewN ?_ _) | (with_reducible refine Kd.C_drew ?_))); (case side4 => exact HC0_1.out); rintro e w60 ⟨rfl, hb⟩; refine ⟨_, rfl, ?_⟩; have n0_ := Aside0.mk (blk_below (g := gb159) (o := .cells #[.slice A0_0 l0_0.length c0_0, .slice A0_1 l0_1.length c0_1] 25 (0, 0)) (by (with_reducible repeat (first | refine blk_drewN ?_ _ | refine blk_drew ?_ | refine blk_alloc ?_ _)); exact BK159.out) hb); have n1_ := Aside0.mk (blk_below (g := gb160) (o := .cells #[.slice none 0 0, .slice none 0 0] 25 (0, 0)) (by (with_reducible repeat (first | refine blk_drewN ?_ _ | refine blk_drew ?_ | refine blk_alloc ?_ _)); exact BK160.out) hb); have n2_ := Aside0.mk (below_step (by repeat (first | (with_reducible first | exact HB.out | apply below_alloc | apply pw_below_drewN | apply below_drew1 | refine below_set ?_ GE159.out | refine below_set ?_ GE160.out) | exact HB.out)) hb); clear BK159; clear BK160; clear HB; have BK159 := n0_; have BK160 := n1_; have HB := n2_; clear n0_ n1_ n2_; (try clear hb); (try clear hb2); (try clear hk); (try clear hi); have hcz61_0 : w60.cell? ⟨gb160, 0, none⟩ = some (.slice none 0 0) := (blk_cell BK160.out 0).trans rfl; have hcz61_1 : w60.cell? ⟨gb160, 1, none⟩ = some (.slice none 0 0) := (blk_cell BK160.out 1).trans rfl; have hfz61_0 := blk_frozen BK160.out 0; have hfz61_1 := blk_frozen BK160.out 1))
    refine bodyPost_ret (results_ct rfl _ _ gb160 25 #[.slice none 0 0, .slice none 0 0] (0, 0) _ rfl (by (with_reducible repeat (first | refine blk_drewN ?_ _ | refine blk_drew ?_ | refine blk_alloc ?_ _)); refine blk_put (cs := #[.slice none 0 0, .slice none 0 0]) ?_ 1 _ rfl; (with_reducible repeat (first | refine blk_drewN ?_ _ | refine blk_drew ?_ | refine blk_alloc ?_ _)); refine blk_put (cs := #[.slice none 0 0, .slice none 0 0]) ?_ 0 _ rfl; (with_reducible repeat (first | refine blk_drewN ?_ _ | refine blk_drew ?_ | refine blk_alloc ?_ _)); exact BK160.out) Tryd.underlying25 rfl (by kernel_rfl)) rfl ?_
    exact ⟨_, _, by first | rfl | (simp [errW_none, errW_some] <;> rfl) | (simp [*, errW_none, errW_some] <;> rfl), by first | exact Kd.R_nil _ _ _ _ _ | exact Kd.N_nil _ _ _ _ _ | exact Kd.V_nil _ _ _ _ _ | exact Kd.Q_nil _ _ _ _ _ | exact Kd.S_nil _ _ _ _ _, by first | exact Kd.R_nil _ _ _ _ _ | exact Kd.N_nil _ _ _ _ _ | exact Kd.V_nil _ _ _ _ _ | exact Kd.Q_nil _ _ _ _ _ | exact Kd.S_nil _ _ _ _ _, by repeat (first | (with_reducible first | exact HB.out | apply below_alloc | apply pw_below_drewN | apply below_drew1 | refine below_set ?_ GE159.out | refine below_set ?_ GE160.out) | exact HB.out)⟩

/-! ### doorwardref03_LikeWrites: function 55 -/
def doorwardref03_LikeWrites.l0 : Nat → List (S42) → List (S42) → Int → Int → Option (Bool)
  | 0, _, _, _, _ => none
  | k + 1, x0, x1, x12, x13 => if x13 < x12 then (if 0 ≤ x13 then (if x13 < (x0.length : Int) then (if x13 < (x1.length : Int) then (if (!(((rd_T42 x0 x13).f0) == ((rd_T42 x1 x13).f0)) || (!((((rd_T42 x0 x13).f1).toList) == (((rd_T42 x1 x13).f1).toList)))) = true then (some false) else (doorwardref03_LikeWrites.l0 k x0 x1 x12 (wrap64 (x13 + 1)))) else (none)) else (none)) else (none)) else (some true)
def doorwardref03_LikeWrites.f (k : Nat) (l0 : List (S42)) (l1 : List (S42)) : Option (Bool) := if (l0.length : Int) = (l1.length : Int) then (doorwardref03_LikeWrites.l0 k l0 l1 (l0.length : Int) 0) else (some false)
theorem doorwardref03_LikeWrites.mono_l : ∀ k, (∀ y0 y1 y2 y3, LeO (doorwardref03_LikeWrites.l0 k y0 y1 y2 y3) (doorwardref03_LikeWrites.l0 (k + 1) y0 y1 y2 y3))
  | 0 => fun _ _ _ _ r h => by simp [doorwardref03_LikeWrites.l0] at h
  | k + 1 => by
    have ih0 := doorwardref03_LikeWrites.mono_l k
    · intro y0 y1 y2 y3
      unfold doorwardref03_LikeWrites.l0
      repeat' first
      | (with_reducible exact ih0 _ _ _ _)
      | (with_reducible exact LeO.refl _)
      | (with_reducible exact LeO.none _)
      | (with_reducible refine LeO.ite ?_ ?_)
      | (with_reducible refine LeO.bind ?_ (fun _ => ?_))
      | exact ih0 _ _ _ _
      | exact LeO.none _
      | refine LeO.ite ?_ ?_
      | refine LeO.bind ?_ (fun _ => ?_)
theorem doorwardref03_LikeWrites.mono : ∀ a0 a1 k, LeO (doorwardref03_LikeWrites.f k a0 a1) (doorwardref03_LikeWrites.f (k + 1) a0 a1) := by
  intro a0 a1 k
  have ih0 := doorwardref03_LikeWrites.mono_l k
  unfold doorwardref03_LikeWrites.f
  repeat' first
      | (with_reducible exact ih0 _ _ _ _)
      | (with_reducible exact LeO.refl _)
      | (with_reducible exact LeO.none _)
      | (with_reducible refine LeO.ite ?_ ?_)
      | (with_reducible refine LeO.bind ?_ (fun _ => ?_))
      | exact ih0 _ _ _ _
      | exact LeO.none _
      | refine LeO.ite ?_ ?_
      | refine LeO.bind ?_ (fun _ => ?_)
set_option maxHeartbeats 8000000 in
set_option maxRecDepth 100000 in
theorem doorwardref03_LikeWrites.calls (k : Nat) (A0 : Option Addr) (c0 : Nat) (l0 : List (S42)) (A1 : Option Addr) (c1 : Nat) (l1 : List (S42)) (r : Bool) (w : World) (hr0 : Kd.C k42 w A0 l0.length l0) (hc0 : l0.length ≤ c0) (hr1 : Kd.C k42 w A1 l1.length l1) (hc1 : l1.length ≤ c1) (h : doorwardref03_LikeWrites.f k l0 l1 = some r) :
    Calls Tryd.prog 55 #[.slice A0 l0.length c0, .slice A1 l1.length c1] w fun e w' => e = .returned (.bool r) ∧ Drawn0 w w' := by
  have hu42 := Tryd.underlying42
  have HR0 := Aside0.mk hr0
  have HC0 := Aside0.mk hc0
  clear hr0 hc0
  have HR1 := Aside0.mk hr1
  have HC1 := Aside0.mk hc1
  clear hr1 hc1
  have H : (if (l0.length : Int) = (l1.length : Int) then (doorwardref03_LikeWrites.l0 k l0 l1 (l0.length : Int) 0) else (some false)) = some r := h
  clear h
  by_cases c3 : (l0.length : Int) = (l1.length : Int)
  · rw [if_pos c3] at H
    have c3b0 : ((l0.length : Int) == (l1.length : Int)) = true := beq_iff_eq.mpr c3
    have c3b1 : ((l0.length : Int) != (l1.length : Int)) = false := bne_eq_false_iff_eq.mpr c3
    have c3b2 : (l0.length == l1.length) = true := by first | simpa using c3 | (simp at c3 ⊢; omega)
    clear c3
    have H' := Aside0.mk H
    clear H
    go_enter Tryd.func55, Tryd.ntmps55
    go_wp2
    repeat (go_quiet (fail); try go_wp2)
    go_loopg [13] k (fun kq v13 w' => ∃ (x13_1 : Int), v13 = .int .i64 x13_1 ∧ Aside0 (doorwardref03_LikeWrites.l0 kq l0 l1 (l0.length : Int) x13_1 = some r) ∧ Aside0 (kq ≤ k) ∧ Drawn0 w w')
    case atStart => exact ⟨(0), (by first | rfl | (simp; done) | (simp [*]; done)), H', ⟨Nat.le_refl _⟩, by repeat (first | exact Drawn0.refl _ | apply Drawn0.step)⟩
    case round =>
      clear H'
      try clear c1
      try clear p2
      try clear c3
      try clear c3b0
      try clear c3b1
      try clear c3b2
      obtain ⟨x13_1, rfl, HA, HK1, ⟨m1, rfl⟩⟩ := hrel
      cases gk with
      | zero => exact absurd HA.out (by simp [doorwardref03_LikeWrites.l0])
      | succ k1 =>
        have H := HA.out
        clear HA
        simp only [doorwardref03_LikeWrites.l0] at H
        by_cases c4 : x13_1 < (l0.length : Int)
        · rw [if_pos c4] at H
          have c4b0 : decide (x13_1 < (l0.length : Int)) = true := decide_eq_true c4
          clear c4
          by_cases c5 : 0 ≤ x13_1
          · rw [if_pos c5] at H
            have c5b0 : decide (0 ≤ x13_1) = true := decide_eq_true c5
            clear c5
            by_cases c6 : x13_1 < (l0.length : Int)
            · rw [if_pos c6] at H
              have c6b0 : decide (x13_1 < (l0.length : Int)) = true := decide_eq_true c6
              clear c6
              by_cases c7 : x13_1 < (l1.length : Int)
              · rw [if_pos c7] at H
                have c7b0 : decide (x13_1 < (l1.length : Int)) = true := decide_eq_true c7
                clear c7
                by_cases c8 : (!(((rd_T42 l0 x13_1).f0) == ((rd_T42 l1 x13_1).f0)) || (!((((rd_T42 l0 x13_1).f1).toList) == (((rd_T42 l1 x13_1).f1).toList)))) = true
                · rw [if_pos c8] at H
                  have c8b0 : (!(((rd_T42 l0 x13_1).f0) == ((rd_T42 l1 x13_1).f0)) || (!((((rd_T42 l0 x13_1).f1).toList) == (((rd_T42 l1 x13_1).f1).toList)))) = true := c8
                  clear c8
                  obtain rfl := Option.some.inj H
                  have p170 : 0 ≤ (x13_1 : Int) := of_decide_eq_true (by first | (with_reducible assumption) | assumption)
                  have q170 : x13_1 < (l0.length : Int) := of_decide_eq_true (by first | (with_reducible assumption) | assumption)
                  obtain ⟨ad170, e170, hx170_0, hx170_1⟩ := at_T42 HR0.out x13_1 p170 q170
                  cases e170
                  replace p170 := eq_true p170
                  replace q170 := eq_true q170
                  have p171 : 0 ≤ (x13_1 : Int) := of_decide_eq_true (by first | (with_reducible assumption) | assumption)
                  have q171 : x13_1 < (l1.length : Int) := of_decide_eq_true (by first | (with_reducible assumption) | assumption)
                  obtain ⟨ad171, e171, hx171_0, hx171_1⟩ := at_T42 HR1.out x13_1 p171 q171
                  cases e171
                  replace p171 := eq_true p171
                  replace q171 := eq_true q171
                  go_wp2
                  repeat (go_quiet (fail); try go_wp2)
                  go_ret
                  exact ⟨by first | rfl | (simp; done) | (simp [*]; done), by repeat (first | exact Drawn0.refl _ | apply Drawn0.step)⟩
                · rw [if_neg c8] at H
                  have c8b0 : (!(((rd_T42 l0 x13_1).f0) == ((rd_T42 l1 x13_1).f0)) || (!((((rd_T42 l0 x13_1).f1).toList) == (((rd_T42 l1 x13_1).f1).toList)))) = false := by simpa using c8
                  clear c8
                  have H' := Aside0.mk H
                  clear H
                  have p170 : 0 ≤ (x13_1 : Int) := of_decide_eq_true (by first | (with_reducible assumption) | assumption)
                  have q170 : x13_1 < (l0.length : Int) := of_decide_eq_true (by first | (with_reducible assumption) | assumption)
                  obtain ⟨ad170, e170, hx170_0, hx170_1⟩ := at_T42 HR0.out x13_1 p170 q170
                  cases e170
                  replace p170 := eq_true p170
                  replace q170 := eq_true q170
                  have p171 : 0 ≤ (x13_1 : Int) := of_decide_eq_true (by first | (with_reducible assumption) | assumption)
                  have q171 : x13_1 < (l1.length : Int) := of_decide_eq_true (by first | (with_reducible assumption) | assumption)
                  obtain ⟨ad171, e171, hx171_0, hx171_1⟩ := at_T42 HR1.out x13_1 p171 q171
                  cases e171
                  replace p171 := eq_true p171
                  replace q171 := eq_true q171
                  go_wp2
                  repeat (go_quiet (fail); try go_wp2)
                  go_roundg k1
                  case measure => have := HK1.out; omega
                  case rel => exact ⟨(wrap64 (x13_1 + 1)), (by first | rfl | (simp; done) | (simp [*]; done)), H', ⟨by have := HK1.out; omega⟩, by repeat (first | exact Drawn0.refl _ | apply Drawn0.step)⟩
              · rw [if_neg c7] at H
                exact absurd H (by simp)
            · rw [if_neg c6] at H
              exact absurd H (by simp)
          · rw [if_neg c5] at H
            exact absurd H (by simp)
        · rw [if_neg c4] at H
          have c4b0 : decide (x13_1 < (l0.length : Int)) = false := decide_eq_false c4
          clear c4
          obtain rfl := Option.some.inj H
          go_wp2
          repeat (go_quiet (fail); try go_wp2)
          go_ret
          exact ⟨by first | rfl | (simp; done) | (simp [*]; done), by repeat (first | exact Drawn0.refl _ | apply Drawn0.step)⟩
  · rw [if_neg c3] at H
    have c3b0 : ((l0.length : Int) == (l1.length : Int)) = false := beq_eq_false_iff_ne.mpr c3
    have c3b1 : ((l0.length : Int) != (l1.length : Int)) = true := bne_iff_ne.mpr c3
    have c3b2 : (l0.length == l1.length) = false := by first | simpa using c3 | (simp at c3 ⊢; omega)
    obtain rfl := Option.some.inj H
    go_enter Tryd.func55, Tryd.ntmps55
    go_wp2
    repeat (go_quiet (fail); try go_wp2)
    go_ret
    exact ⟨by first | rfl | (simp; done) | (simp [*]; done), by repeat (first | exact Drawn0.refl _ | apply Drawn0.step)⟩

/-! ### doorwardref03_Like: function 22 -/
mutual
def doorwardref03_Like.j0 : Nat → Bool → List ByteArray → List (S42) → List ByteArray → List (S42) → Option (Bool)
  | 0, _, _, _, _, _ => none
  | k + 1, x21, x173000, x173001, x174000, x174001 => if x21 = true then (some false) else (doorwardref03_Like.l0 k (x173000.length : Int) 0 x173000 x173001 x174000 x174001)
def doorwardref03_Like.l0 : Nat → Int → Int → List ByteArray → List (S42) → List ByteArray → List (S42) → Option (Bool)
  | 0, _, _, _, _, _, _ => none
  | k + 1, x24, x25, x173000, x173001, x174000, x174001 => if x25 < x24 then (if 0 ≤ x25 then (if x25 < (x173000.length : Int) then (if x25 < (x174000.length : Int) then (if (rdOf ByteArray.empty x173000 x25).toList = (rdOf ByteArray.empty x174000 x25).toList then (doorwardref03_Like.l0 k x24 (wrap64 (x25 + 1)) x173000 x173001 x174000 x174001) else (some false)) else (none)) else (none)) else (none)) else ((doorwardref03_LikeWrites.f k x173001 x174001).bind fun t176 => (some t176))
end
def doorwardref03_Like.f (k : Nat) (l0_0 : List ByteArray) (l0_1 : List (S42)) (l1_0 : List ByteArray) (l1_1 : List (S42)) : Option (Bool) := if (l0_0.length : Int) = (l1_0.length : Int) then (doorwardref03_Like.j0 k ((l0_1.length : Int) != (l1_1.length : Int)) l0_0 l0_1 l1_0 l1_1) else (doorwardref03_Like.j0 k true l0_0 l0_1 l1_0 l1_1)
theorem doorwardref03_Like.mono_l : ∀ k, (∀ y0 y1 y2 y3 y4, LeO (doorwardref03_Like.j0 k y0 y1 y2 y3 y4) (doorwardref03_Like.j0 (k + 1) y0 y1 y2 y3 y4)) ∧ (∀ y0 y1 y2 y3 y4 y5, LeO (doorwardref03_Like.l0 k y0 y1 y2 y3 y4 y5) (doorwardref03_Like.l0 (k + 1) y0 y1 y2 y3 y4 y5))
  | 0 => ⟨fun _ _ _ _ _ r h => by simp [doorwardref03_Like.j0] at h, fun _ _ _ _ _ _ r h => by simp [doorwardref03_Like.l0] at h⟩
  | k + 1 => by
    obtain ⟨ih0, ih1⟩ := doorwardref03_Like.mono_l k
    refine ⟨?_, ?_⟩
    · intro y0 y1 y2 y3 y4
      unfold doorwardref03_Like.j0
      repeat' first
      | (with_reducible exact ih0 _ _ _ _ _)
      | (with_reducible exact ih1 _ _ _ _ _ _)
      | (with_reducible exact doorwardref03_LikeWrites.mono _ _ _)
      | (with_reducible exact LeO.refl _)
      | (with_reducible exact LeO.none _)
      | (with_reducible refine LeO.ite ?_ ?_)
      | (with_reducible refine LeO.bind ?_ (fun _ => ?_))
      | exact ih0 _ _ _ _ _
      | exact ih1 _ _ _ _ _ _
      | exact doorwardref03_LikeWrites.mono _ _ _
      | exact LeO.none _
      | refine LeO.ite ?_ ?_
      | refine LeO.bind ?_ (fun _ => ?_)
    · intro y0 y1 y2 y3 y4 y5
      unfold doorwardref03_Like.l0
      repeat' first
      | (with_reducible exact ih0 _ _ _ _ _)
      | (with_reducible exact ih1 _ _ _ _ _ _)
      | (with_reducible exact doorwardref03_LikeWrites.mono _ _ _)
      | (with_reducible exact LeO.refl _)
      | (with_reducible exact LeO.none _)
      | (with_reducible refine LeO.ite ?_ ?_)
      | (with_reducible refine LeO.bind ?_ (fun _ => ?_))
      | exact ih0 _ _ _ _ _
      | exact ih1 _ _ _ _ _ _
      | exact doorwardref03_LikeWrites.mono _ _ _
      | exact LeO.none _
      | refine LeO.ite ?_ ?_
      | refine LeO.bind ?_ (fun _ => ?_)
theorem doorwardref03_Like.mono : ∀ a0 a1 a2 a3 k, LeO (doorwardref03_Like.f k a0 a1 a2 a3) (doorwardref03_Like.f (k + 1) a0 a1 a2 a3) := by
  intro a0 a1 a2 a3 k
  obtain ⟨ih0, ih1⟩ := doorwardref03_Like.mono_l k
  unfold doorwardref03_Like.f
  repeat' first
      | (with_reducible exact ih0 _ _ _ _ _)
      | (with_reducible exact ih1 _ _ _ _ _ _)
      | (with_reducible exact doorwardref03_LikeWrites.mono _ _ _)
      | (with_reducible exact LeO.refl _)
      | (with_reducible exact LeO.none _)
      | (with_reducible refine LeO.ite ?_ ?_)
      | (with_reducible refine LeO.bind ?_ (fun _ => ?_))
      | exact ih0 _ _ _ _ _
      | exact ih1 _ _ _ _ _ _
      | exact doorwardref03_LikeWrites.mono _ _ _
      | exact LeO.none _
      | refine LeO.ite ?_ ?_
      | refine LeO.bind ?_ (fun _ => ?_)
set_option maxHeartbeats 8000000 in
set_option maxRecDepth 100000 in
theorem doorwardref03_Like.calls (k : Nat) (A0_0 : Option Addr) (c0_0 : Nat) (l0_0 : List ByteArray) (A0_1 : Option Addr) (c0_1 : Nat) (l0_1 : List (S42)) (A1_0 : Option Addr) (c1_0 : Nat) (l1_0 : List ByteArray) (A1_1 : Option Addr) (c1_1 : Nat) (l1_1 : List (S42)) (r : Bool) (w : World) (hr0_0 : Kd.C Kd.string w A0_0 l0_0.length l0_0) (hc0_0 : l0_0.length ≤ c0_0) (hr0_1 : Kd.C k42 w A0_1 l0_1.length l0_1) (hc0_1 : l0_1.length ≤ c0_1) (hr1_0 : Kd.C Kd.string w A1_0 l1_0.length l1_0) (hc1_0 : l1_0.length ≤ c1_0) (hr1_1 : Kd.C k42 w A1_1 l1_1.length l1_1) (hc1_1 : l1_1.length ≤ c1_1) (h : doorwardref03_Like.f k l0_0 l0_1 l1_0 l1_1 = some r) :
    Calls Tryd.prog 22 #[.agg #[.slice A0_0 l0_0.length c0_0, .slice A0_1 l0_1.length c0_1], .agg #[.slice A1_0 l1_0.length c1_0, .slice A1_1 l1_1.length c1_1]] w fun e w' => e = .returned (.bool r) ∧ Below w.heap.size w w' := by
  have hu25 := Tryd.underlying25
  have HR0_0 := Aside0.mk hr0_0
  have HC0_0 := Aside0.mk hc0_0
  clear hr0_0 hc0_0
  have HR0_1 := Aside0.mk hr0_1
  have HC0_1 := Aside0.mk hc0_1
  clear hr0_1 hc0_1
  have HR1_0 := Aside0.mk hr1_0
  have HC1_0 := Aside0.mk hc1_0
  clear hr1_0 hc1_0
  have HR1_1 := Aside0.mk hr1_1
  have HC1_1 := Aside0.mk hc1_1
  clear hr1_1 hc1_1
  have HB := Aside0.mk (Below.refl w.heap.size w)
  have H : (if (l0_0.length : Int) = (l1_0.length : Int) then (doorwardref03_Like.j0 k ((l0_1.length : Int) != (l1_1.length : Int)) l0_0 l0_1 l1_0 l1_1) else (doorwardref03_Like.j0 k true l0_0 l0_1 l1_0 l1_1)) = some r := h
  clear h
  have HC3 := Aside0.mk H
  clear H
  go_enter Tryd.func22, Tryd.ntmps22
  go_upto_region 1 with (first | ((with_reducible refine gate_dst (N := 2) rfl ?_); (try (refine gate_guard (by rfl) ?_; dsimp only)); refine box_event ?hg (N := 2) ?hd (cs := #[.slice A0_0 l0_0.length c0_0, .slice A0_1 l0_1.length c0_1]) (t := 25) ?hr ?_; (case hd => rfl); (case hg => rfl); (case hr => first | (go_simp; done) | (go_simp; rfl)); intro gb172 hg w4 hbox hb; have n0_ := Aside0.mk (below_step (by repeat (first | (with_reducible first | exact HB.out | apply below_alloc | apply pw_below_drewN | apply below_drew1) | exact HB.out)) hb); have n1_ := Aside0.mk (hbox); have n2_ := Aside0.mk ((by rw [hg]; exact (below_size (by repeat (first | (with_reducible first | exact HB.out | apply below_alloc | apply pw_below_drewN | apply below_drew1) | exact HB.out))) : w.heap.size ≤ gb172)); have n3_ := Aside0.mk ((by rw [hg]; exact (below_size (by repeat (first | (with_reducible first | exact HB.out | apply below_alloc | apply pw_below_drewN | apply below_drew1) | exact HB.out))) : w.heap.size ≤ gb172)); clear HB; have HB := n0_; have BK172 := n1_; have GW172 := n2_; have GE172 := n3_; clear n0_ n1_ n2_ n3_; clear hb hbox hg) | ((with_reducible refine gate_dst (N := 3) rfl ?_); (try (refine gate_guard (by rfl) ?_; dsimp only)); refine box_event ?hg (N := 3) ?hd (cs := #[.slice A1_0 l1_0.length c1_0, .slice A1_1 l1_1.length c1_1]) (t := 25) ?hr ?_; (case hd => rfl); (case hg => rfl); (case hr => first | (go_simp; done) | (go_simp; rfl)); intro gb173 hg w5 hbox hb; have n0_ := Aside0.mk (blk_below (g := gb172) (o := .cells #[.slice A0_0 l0_0.length c0_0, .slice A0_1 l0_1.length c0_1] 25 (0, 0)) (by (with_reducible repeat (first | refine blk_drewN ?_ _ | refine blk_drew ?_ | refine blk_alloc ?_ _)); exact BK172.out) hb); have n1_ := Aside0.mk (below_step (by repeat (first | (with_reducible first | exact HB.out | apply below_alloc | apply pw_below_drewN | apply below_drew1 | refine below_set ?_ GE172.out) | exact HB.out)) hb); have n2_ := Aside0.mk (hbox); have n3_ := Aside0.mk ((by rw [hg]; exact (below_size (by repeat (first | (with_reducible first | exact HB.out | apply below_alloc | apply pw_below_drewN | apply below_drew1 | refine below_set ?_ GE172.out) | exact HB.out))) : w.heap.size ≤ gb173)); have n4_ := Aside0.mk ((by rw [hg]; exact (below_size (by repeat (first | (with_reducible first | exact HB.out | apply below_alloc | apply pw_below_drewN | apply below_drew1 | refine below_set ?_ GE172.out) | exact HB.out))) : w.heap.size ≤ gb173)); have n5_ := Aside0.mk ((by rw [hg]; exact Nat.ne_of_lt (blk_lt (g := gb172) (o := .cells #[.slice A0_0 l0_0.length c0_0, .slice A0_1 l0_1.length c0_1] 25 (0, 0)) (by (with_reducible repeat (first | refine blk_drewN ?_ _ | refine blk_drew ?_ | refine blk_alloc ?_ _)); exact BK172.out)) : gb172 ≠ gb173)); have n6_ := Aside0.mk ((by rw [hg]; exact Nat.ne_of_gt (blk_lt (g := gb172) (o := .cells #[.slice A0_0 l0_0.length c0_0, .slice A0_1 l0_1.length c0_1] 25 (0, 0)) (by (with_reducible repeat (first | refine blk_drewN ?_ _ | refine blk_drew ?_ | refine blk_alloc ?_ _)); exact BK172.out)) : gb173 ≠ gb172)); clear BK172; clear HB; have BK172 := n0_; have HB := n1_; have BK173 := n2_; have GW173 := n3_; have GE173 := n4_; have NB172_173 := n5_; have NB173_172 := n6_; clear n0_ n1_ n2_ n3_ n4_ n5_ n6_; clear hb hbox hg))
  repeat (go_quiet (first | ((with_reducible refine gate_dst (N := 2) rfl ?_); (try (refine gate_guard (by rfl) ?_; dsimp only)); refine box_event ?hg (N := 2) ?hd (cs := #[.slice A0_0 l0_0.length c0_0, .slice A0_1 l0_1.length c0_1]) (t := 25) ?hr ?_; (case hd => rfl); (case hg => rfl); (case hr => first | (go_simp; done) | (go_simp; rfl)); intro gb172 hg w4 hbox hb; have n0_ := Aside0.mk (below_step (by repeat (first | (with_reducible first | exact HB.out | apply below_alloc | apply pw_below_drewN | apply below_drew1) | exact HB.out)) hb); have n1_ := Aside0.mk (hbox); have n2_ := Aside0.mk ((by rw [hg]; exact (below_size (by repeat (first | (with_reducible first | exact HB.out | apply below_alloc | apply pw_below_drewN | apply below_drew1) | exact HB.out))) : w.heap.size ≤ gb172)); have n3_ := Aside0.mk ((by rw [hg]; exact (below_size (by repeat (first | (with_reducible first | exact HB.out | apply below_alloc | apply pw_below_drewN | apply below_drew1) | exact HB.out))) : w.heap.size ≤ gb172)); clear HB; have HB := n0_; have BK172 := n1_; have GW172 := n2_; have GE172 := n3_; clear n0_ n1_ n2_ n3_; clear hb hbox hg) | ((with_reducible refine gate_dst (N := 3) rfl ?_); (try (refine gate_guard (by rfl) ?_; dsimp only)); refine box_event ?hg (N := 3) ?hd (cs := #[.slice A1_0 l1_0.length c1_0, .slice A1_1 l1_1.length c1_1]) (t := 25) ?hr ?_; (case hd => rfl); (case hg => rfl); (case hr => first | (go_simp; done) | (go_simp; rfl)); intro gb173 hg w5 hbox hb; have n0_ := Aside0.mk (blk_below (g := gb172) (o := .cells #[.slice A0_0 l0_0.length c0_0, .slice A0_1 l0_1.length c0_1] 25 (0, 0)) (by (with_reducible repeat (first | refine blk_drewN ?_ _ | refine blk_drew ?_ | refine blk_alloc ?_ _)); exact BK172.out) hb); have n1_ := Aside0.mk (below_step (by repeat (first | (with_reducible first | exact HB.out | apply below_alloc | apply pw_below_drewN | apply below_drew1 | refine below_set ?_ GE172.out) | exact HB.out)) hb); have n2_ := Aside0.mk (hbox); have n3_ := Aside0.mk ((by rw [hg]; exact (below_size (by repeat (first | (with_reducible first | exact HB.out | apply below_alloc | apply pw_below_drewN | apply below_drew1 | refine below_set ?_ GE172.out) | exact HB.out))) : w.heap.size ≤ gb173)); have n4_ := Aside0.mk ((by rw [hg]; exact (below_size (by repeat (first | (with_reducible first | exact HB.out | apply below_alloc | apply pw_below_drewN | apply below_drew1 | refine below_set ?_ GE172.out) | exact HB.out))) : w.heap.size ≤ gb173)); have n5_ := Aside0.mk ((by rw [hg]; exact Nat.ne_of_lt (blk_lt (g := gb172) (o := .cells #[.slice A0_0 l0_0.length c0_0, .slice A0_1 l0_1.length c0_1] 25 (0, 0)) (by (with_reducible repeat (first | refine blk_drewN ?_ _ | refine blk_drew ?_ | refine blk_alloc ?_ _)); exact BK172.out)) : gb172 ≠ gb173)); have n6_ := Aside0.mk ((by rw [hg]; exact Nat.ne_of_gt (blk_lt (g := gb172) (o := .cells #[.slice A0_0 l0_0.length c0_0, .slice A0_1 l0_1.length c0_1] 25 (0, 0)) (by (with_reducible repeat (first | refine blk_drewN ?_ _ | refine blk_drew ?_ | refine blk_alloc ?_ _)); exact BK172.out)) : gb173 ≠ gb172)); clear BK172; clear HB; have BK172 := n0_; have HB := n1_; have BK173 := n2_; have GW173 := n3_; have GE173 := n4_; have NB172_173 := n5_; have NB173_172 := n6_; clear n0_ n1_ n2_ n3_ n4_ n5_ n6_; clear hb hbox hg)); go_upto_region 1 with (first | ((with_reducible refine gate_dst (N := 2) rfl ?_); (try (refine gate_guard (by rfl) ?_; dsimp only)); refine box_event ?hg (N := 2) ?hd (cs := #[.slice A0_0 l0_0.length c0_0, .slice A0_1 l0_1.length c0_1]) (t := 25) ?hr ?_; (case hd => rfl); (case hg => rfl); (case hr => first | (go_simp; done) | (go_simp; rfl)); intro gb172 hg w4 hbox hb; have n0_ := Aside0.mk (below_step (by repeat (first | (with_reducible first | exact HB.out | apply below_alloc | apply pw_below_drewN | apply below_drew1) | exact HB.out)) hb); have n1_ := Aside0.mk (hbox); have n2_ := Aside0.mk ((by rw [hg]; exact (below_size (by repeat (first | (with_reducible first | exact HB.out | apply below_alloc | apply pw_below_drewN | apply below_drew1) | exact HB.out))) : w.heap.size ≤ gb172)); have n3_ := Aside0.mk ((by rw [hg]; exact (below_size (by repeat (first | (with_reducible first | exact HB.out | apply below_alloc | apply pw_below_drewN | apply below_drew1) | exact HB.out))) : w.heap.size ≤ gb172)); clear HB; have HB := n0_; have BK172 := n1_; have GW172 := n2_; have GE172 := n3_; clear n0_ n1_ n2_ n3_; clear hb hbox hg) | ((with_reducible refine gate_dst (N := 3) rfl ?_); (try (refine gate_guard (by rfl) ?_; dsimp only)); refine box_event ?hg (N := 3) ?hd (cs := #[.slice A1_0 l1_0.length c1_0, .slice A1_1 l1_1.length c1_1]) (t := 25) ?hr ?_; (case hd => rfl); (case hg => rfl); (case hr => first | (go_simp; done) | (go_simp; rfl)); intro gb173 hg w5 hbox hb; have n0_ := Aside0.mk (blk_below (g := gb172) (o := .cells #[.slice A0_0 l0_0.length c0_0, .slice A0_1 l0_1.length c0_1] 25 (0, 0)) (by (with_reducible repeat (first | refine blk_drewN ?_ _ | refine blk_drew ?_ | refine blk_alloc ?_ _)); exact BK172.out) hb); have n1_ := Aside0.mk (below_step (by repeat (first | (with_reducible first | exact HB.out | apply below_alloc | apply pw_below_drewN | apply below_drew1 | refine below_set ?_ GE172.out) | exact HB.out)) hb); have n2_ := Aside0.mk (hbox); have n3_ := Aside0.mk ((by rw [hg]; exact (below_size (by repeat (first | (with_reducible first | exact HB.out | apply below_alloc | apply pw_below_drewN | apply below_drew1 | refine below_set ?_ GE172.out) | exact HB.out))) : w.heap.size ≤ gb173)); have n4_ := Aside0.mk ((by rw [hg]; exact (below_size (by repeat (first | (with_reducible first | exact HB.out | apply below_alloc | apply pw_below_drewN | apply below_drew1 | refine below_set ?_ GE172.out) | exact HB.out))) : w.heap.size ≤ gb173)); have n5_ := Aside0.mk ((by rw [hg]; exact Nat.ne_of_lt (blk_lt (g := gb172) (o := .cells #[.slice A0_0 l0_0.length c0_0, .slice A0_1 l0_1.length c0_1] 25 (0, 0)) (by (with_reducible repeat (first | refine blk_drewN ?_ _ | refine blk_drew ?_ | refine blk_alloc ?_ _)); exact BK172.out)) : gb172 ≠ gb173)); have n6_ := Aside0.mk ((by rw [hg]; exact Nat.ne_of_gt (blk_lt (g := gb172) (o := .cells #[.slice A0_0 l0_0.length c0_0, .slice A0_1 l0_1.length c0_1] 25 (0, 0)) (by (with_reducible repeat (first | refine blk_drewN ?_ _ | refine blk_drew ?_ | refine blk_alloc ?_ _)); exact BK172.out)) : gb173 ≠ gb172)); clear BK172; clear HB; have BK172 := n0_; have HB := n1_; have BK173 := n2_; have GW173 := n3_; have GE173 := n4_; have NB172_173 := n5_; have NB173_172 := n6_; clear n0_ n1_ n2_ n3_ n4_ n5_ n6_; clear hb hbox hg)))
  (try simp only [Act.put, List.setIfInBounds_toArray, List.set_cons_zero, List.set_cons_succ])
  go_cut [21] (fun v21 wc => ∃ (kq : Nat) (x21_2 : Bool), v21 = .bool x21_2 ∧ Aside0 (doorwardref03_Like.j0 kq x21_2 l0_0 l0_1 l1_0 l1_1 = some r) ∧ Aside0 (kq ≤ k) ∧ Aside0 (wc.heap[gb172]? = some (.cells #[(.slice A0_0 l0_0.length c0_0), (.slice A0_1 l0_1.length c0_1)] 25 (0, 0))) ∧ Aside0 (wc.heap[gb173]? = some (.cells #[(.slice A1_0 l1_0.length c1_0), (.slice A1_1 l1_1.length c1_1)] 25 (0, 0))) ∧ Aside0 (Below w.heap.size w wc))
  case first =>
    have H := HC3.out
    clear HC3
    by_cases c6 : (l0_0.length : Int) = (l1_0.length : Int)
    · rw [if_pos c6] at H
      have c6b0 : ((l0_0.length : Int) == (l1_0.length : Int)) = true := beq_iff_eq.mpr c6
      have c6b1 : ((l0_0.length : Int) != (l1_0.length : Int)) = false := bne_eq_false_iff_eq.mpr c6
      have c6b2 : (l0_0.length == l1_0.length) = true := by first | simpa using c6 | (simp at c6 ⊢; omega)
      clear c6
      (first | rw [c6b0] | (simp only [i64_w, i32_w]; rw [c6b0]) | skip)
      have H' := Aside0.mk H
      clear H
      have hnb7 := NB172_173.out
      have hnc7 := NB173_172.out
      have hcz8_0 : w5.cell? ⟨gb172, 0, none⟩ = some (.slice A0_0 l0_0.length c0_0) := (blk_cell BK172.out 0).trans rfl
      have hcz8_1 : w5.cell? ⟨gb172, 1, none⟩ = some (.slice A0_1 l0_1.length c0_1) := (blk_cell BK172.out 1).trans rfl
      have hfz8_0 := blk_frozen BK172.out 0
      have hfz8_1 := blk_frozen BK172.out 1
      have hcz9_0 : w5.cell? ⟨gb173, 0, none⟩ = some (.slice A1_0 l1_0.length c1_0) := (blk_cell BK173.out 0).trans rfl
      have hcz9_1 : w5.cell? ⟨gb173, 1, none⟩ = some (.slice A1_1 l1_1.length c1_1) := (blk_cell BK173.out 1).trans rfl
      have hfz9_0 := blk_frozen BK173.out 0
      have hfz9_1 := blk_frozen BK173.out 1
      go_wp2
      repeat (go_quiet (fail); try go_wp2)
      go_meet
      case rel => exact ⟨_, (((l0_1.length : Int) != (l1_1.length : Int))), (by first | rfl | (simp; done) | (simp [*]; done)), H', ⟨by first | omega | exact Nat.le_refl _⟩, ⟨by (with_reducible repeat (first | refine blk_drewN ?_ _ | refine blk_drew ?_ | refine blk_alloc ?_ _)); exact BK172.out⟩, ⟨by (with_reducible repeat (first | refine blk_drewN ?_ _ | refine blk_drew ?_ | refine blk_alloc ?_ _)); exact BK173.out⟩, ⟨by repeat (first | (with_reducible first | exact HB.out | apply below_alloc | apply pw_below_drewN | apply below_drew1 | refine below_set ?_ GE172.out | refine below_set ?_ GE173.out) | exact HB.out)⟩⟩
    · rw [if_neg c6] at H
      have c6b0 : ((l0_0.length : Int) == (l1_0.length : Int)) = false := beq_eq_false_iff_ne.mpr c6
      have c6b1 : ((l0_0.length : Int) != (l1_0.length : Int)) = true := bne_iff_ne.mpr c6
      have c6b2 : (l0_0.length == l1_0.length) = false := by first | simpa using c6 | (simp at c6 ⊢; omega)
      (first | rw [c6b0] | (simp only [i64_w, i32_w]; rw [c6b0]) | skip)
      have H' := Aside0.mk H
      clear H
      have hnb10 := NB172_173.out
      have hnc10 := NB173_172.out
      have hcz11_0 : w5.cell? ⟨gb172, 0, none⟩ = some (.slice A0_0 l0_0.length c0_0) := (blk_cell BK172.out 0).trans rfl
      have hcz11_1 : w5.cell? ⟨gb172, 1, none⟩ = some (.slice A0_1 l0_1.length c0_1) := (blk_cell BK172.out 1).trans rfl
      have hfz11_0 := blk_frozen BK172.out 0
      have hfz11_1 := blk_frozen BK172.out 1
      have hcz12_0 : w5.cell? ⟨gb173, 0, none⟩ = some (.slice A1_0 l1_0.length c1_0) := (blk_cell BK173.out 0).trans rfl
      have hcz12_1 : w5.cell? ⟨gb173, 1, none⟩ = some (.slice A1_1 l1_1.length c1_1) := (blk_cell BK173.out 1).trans rfl
      have hfz12_0 := blk_frozen BK173.out 0
      have hfz12_1 := blk_frozen BK173.out 1
      go_wp2
      repeat (go_quiet (fail); try go_wp2)
      go_meet
      case rel => exact ⟨_, (true), (by first | rfl | (simp; done) | (simp [*]; done)), H', ⟨by first | omega | exact Nat.le_refl _⟩, ⟨by (with_reducible repeat (first | refine blk_drewN ?_ _ | refine blk_drew ?_ | refine blk_alloc ?_ _)); exact BK172.out⟩, ⟨by (with_reducible repeat (first | refine blk_drewN ?_ _ | refine blk_drew ?_ | refine blk_alloc ?_ _)); exact BK173.out⟩, ⟨by repeat (first | (with_reducible first | exact HB.out | apply below_alloc | apply pw_below_drewN | apply below_drew1 | refine below_set ?_ GE172.out | refine below_set ?_ GE173.out) | exact HB.out)⟩⟩
  case rest =>
    clear HC3
    try clear c1
    try clear c2
    try clear p2
    try clear c6
    try clear c6b0
    try clear c6b1
    try clear c6b2
    try clear c7
    try clear c10
    try clear hcz11_0
    try clear hcz11_1
    try clear hcz12_0
    try clear hcz12_1
    try clear hcz8_0
    try clear hcz8_1
    try clear hcz9_0
    try clear hcz9_1
    try clear hfz11_0
    try clear hfz11_1
    try clear hfz12_0
    try clear hfz12_1
    try clear hfz8_0
    try clear hfz8_1
    try clear hfz9_0
    try clear hfz9_1
    obtain ⟨kq, x21_2, rfl, HA, HJ2, BK172, BK173, HB⟩ := hcut
    cases kq with
    | zero => exact absurd HA.out (by simp [doorwardref03_Like.j0])
    | succ kj2 =>
      have H := HA.out
      clear HA
      simp only [doorwardref03_Like.j0] at H
      by_cases c13 : x21_2 = true
      · subst c13
        have H1 : (some false) = some r := by rw [if_pos rfl] at H; exact H
        clear H
        have H := H1
        clear H1
        obtain rfl := Option.some.inj H
        go_wp2
        repeat (go_quiet (fail); try go_wp2)
        go_ret
        exact ⟨by first | rfl | (rw [show ∀ n_ : Int, -9223372036854775808 ≤ n_ → n_ < 9223372036854775808 → wrap64 n_ = n_ from fun n_ h1_ h2_ => by unfold wrap64; omega] <;> first | rfl | omega) | (simp [errW_none, errW_some] <;> rfl) | (simp [*, errW_none, errW_some] <;> rfl), by repeat (first | (with_reducible first | exact HB.out | apply below_alloc | apply pw_below_drewN | apply below_drew1 | refine below_set ?_ GE172.out | refine below_set ?_ GE173.out) | exact HB.out)⟩
      · replace c13 := Bool.eq_false_iff.mpr c13
        subst c13
        have H1 : (doorwardref03_Like.l0 kj2 (l0_0.length : Int) 0 l0_0 l0_1 l1_0 l1_1) = some r := by rw [if_neg (show ¬ (false = true) by decide)] at H; exact H
        clear H
        have H := H1
        clear H1
        have H' := Aside0.mk H
        clear H
        have hnb14 := NB172_173.out
        have hnc14 := NB173_172.out
        have hcz15_0 : wc.cell? ⟨gb172, 0, none⟩ = some (.slice A0_0 l0_0.length c0_0) := (blk_cell BK172.out 0).trans rfl
        have hcz15_1 : wc.cell? ⟨gb172, 1, none⟩ = some (.slice A0_1 l0_1.length c0_1) := (blk_cell BK172.out 1).trans rfl
        have hfz15_0 := blk_frozen BK172.out 0
        have hfz15_1 := blk_frozen BK172.out 1
        go_wp2
        repeat (go_quiet (fail); try go_wp2)
        go_loopg [25] kj2 (fun kq v25 w' => ∃ (x25_2 : Int), v25 = .int .i64 x25_2 ∧ Aside0 (doorwardref03_Like.l0 kq (l0_0.length : Int) x25_2 l0_0 l0_1 l1_0 l1_1 = some r) ∧ Aside0 (kq ≤ kj2) ∧ Aside0 (w'.heap[gb172]? = some (.cells #[(.slice A0_0 l0_0.length c0_0), (.slice A0_1 l0_1.length c0_1)] 25 (0, 0))) ∧ Aside0 (w'.heap[gb173]? = some (.cells #[(.slice A1_0 l1_0.length c1_0), (.slice A1_1 l1_1.length c1_1)] 25 (0, 0))) ∧ Aside0 (Below w.heap.size w w'))
        case atStart => exact ⟨(0), (by first | rfl | (simp; done) | (simp [*]; done)), H', ⟨Nat.le_refl _⟩, ⟨by (with_reducible repeat (first | refine blk_drewN ?_ _ | refine blk_drew ?_ | refine blk_alloc ?_ _)); exact BK172.out⟩, ⟨by (with_reducible repeat (first | refine blk_drewN ?_ _ | refine blk_drew ?_ | refine blk_alloc ?_ _)); exact BK173.out⟩, ⟨by repeat (first | (with_reducible first | exact HB.out | apply below_alloc | apply pw_below_drewN | apply below_drew1 | refine below_set ?_ GE172.out | refine below_set ?_ GE173.out) | exact HB.out)⟩⟩
        case round =>
          clear H'
          try clear c1
          try clear c2
          try clear p2
          try clear c6
          try clear c6b0
          try clear c6b1
          try clear c6b2
          try clear c7
          try clear c10
          try clear c13
          try clear c14
          try clear hcz11_0
          try clear hcz11_1
          try clear hcz12_0
          try clear hcz12_1
          try clear hcz15_0
          try clear hcz15_1
          try clear hcz8_0
          try clear hcz8_1
          try clear hcz9_0
          try clear hcz9_1
          try clear hfz11_0
          try clear hfz11_1
          try clear hfz12_0
          try clear hfz12_1
          try clear hfz15_0
          try clear hfz15_1
          try clear hfz8_0
          try clear hfz8_1
          try clear hfz9_0
          try clear hfz9_1
          try clear p2
          obtain ⟨x25_2, rfl, HA, HK2, BK172, BK173, HB⟩ := hrel
          cases gk with
          | zero => exact absurd HA.out (by simp [doorwardref03_Like.l0])
          | succ k2 =>
            have H := HA.out
            clear HA
            simp only [doorwardref03_Like.l0] at H
            by_cases c16 : x25_2 < (l0_0.length : Int)
            · rw [if_pos c16] at H
              have c16b0 : decide (x25_2 < (l0_0.length : Int)) = true := decide_eq_true c16
              clear c16
              by_cases c17 : 0 ≤ x25_2
              · rw [if_pos c17] at H
                have c17b0 : decide (0 ≤ x25_2) = true := decide_eq_true c17
                clear c17
                by_cases c18 : x25_2 < (l0_0.length : Int)
                · rw [if_pos c18] at H
                  have c18b0 : decide (x25_2 < (l0_0.length : Int)) = true := decide_eq_true c18
                  clear c18
                  by_cases c19 : x25_2 < (l1_0.length : Int)
                  · rw [if_pos c19] at H
                    have c19b0 : decide (x25_2 < (l1_0.length : Int)) = true := decide_eq_true c19
                    clear c19
                    by_cases c20 : (rdOf ByteArray.empty l0_0 x25_2).toList = (rdOf ByteArray.empty l1_0 x25_2).toList
                    · rw [if_pos c20] at H
                      have c20b0 : ((rdOf ByteArray.empty l0_0 x25_2).toList == (rdOf ByteArray.empty l1_0 x25_2).toList) = true := beq_iff_eq.mpr c20
                      have c20b1 : ((rdOf ByteArray.empty l0_0 x25_2).toList != (rdOf ByteArray.empty l1_0 x25_2).toList) = false := bne_eq_false_iff_eq.mpr c20
                      clear c20
                      have H' := Aside0.mk H
                      clear H
                      have hnb21 := NB172_173.out
                      have hnc21 := NB173_172.out
                      have hcz22_0 : wr.cell? ⟨gb172, 0, none⟩ = some (.slice A0_0 l0_0.length c0_0) := (blk_cell BK172.out 0).trans rfl
                      have hcz22_1 : wr.cell? ⟨gb172, 1, none⟩ = some (.slice A0_1 l0_1.length c0_1) := (blk_cell BK172.out 1).trans rfl
                      have hfz22_0 := blk_frozen BK172.out 0
                      have hfz22_1 := blk_frozen BK172.out 1
                      have p174 : 0 ≤ (x25_2 : Int) := of_decide_eq_true (by first | (with_reducible assumption) | assumption)
                      have q174 : x25_2 < (l0_0.length : Int) := of_decide_eq_true (by first | (with_reducible assumption) | assumption)
                      obtain ⟨ad174, e174, hx174_0⟩ := Kd.at_string HR0_0.out x25_2 p174 q174
                      cases e174
                      replace hx174_0 := (HB.out.cell (World.block_lt_of_cell? w _ hx174_0)).trans hx174_0
                      replace p174 := eq_true p174
                      replace q174 := eq_true q174
                      have hcz23_0 : wr.cell? ⟨gb173, 0, none⟩ = some (.slice A1_0 l1_0.length c1_0) := (blk_cell BK173.out 0).trans rfl
                      have hcz23_1 : wr.cell? ⟨gb173, 1, none⟩ = some (.slice A1_1 l1_1.length c1_1) := (blk_cell BK173.out 1).trans rfl
                      have hfz23_0 := blk_frozen BK173.out 0
                      have hfz23_1 := blk_frozen BK173.out 1
                      have p175 : 0 ≤ (x25_2 : Int) := of_decide_eq_true (by first | (with_reducible assumption) | assumption)
                      have q175 : x25_2 < (l1_0.length : Int) := of_decide_eq_true (by first | (with_reducible assumption) | assumption)
                      obtain ⟨ad175, e175, hx175_0⟩ := Kd.at_string HR1_0.out x25_2 p175 q175
                      cases e175
                      replace hx175_0 := (HB.out.cell (World.block_lt_of_cell? w _ hx175_0)).trans hx175_0
                      replace p175 := eq_true p175
                      replace q175 := eq_true q175
                      go_wp2
                      repeat (go_quiet (fail); try go_wp2)
                      go_roundg k2
                      case measure => have := HJ2.out; have := HK2.out; omega
                      case rel => exact ⟨(wrap64 (x25_2 + 1)), (by first | rfl | (simp; done) | (simp [*]; done)), H', ⟨by have := HJ2.out; have := HK2.out; omega⟩, ⟨by (with_reducible repeat (first | refine blk_drewN ?_ _ | refine blk_drew ?_ | refine blk_alloc ?_ _)); exact BK172.out⟩, ⟨by (with_reducible repeat (first | refine blk_drewN ?_ _ | refine blk_drew ?_ | refine blk_alloc ?_ _)); exact BK173.out⟩, ⟨by repeat (first | (with_reducible first | exact HB.out | apply below_alloc | apply pw_below_drewN | apply below_drew1 | refine below_set ?_ GE172.out | refine below_set ?_ GE173.out) | exact HB.out)⟩⟩
                    · rw [if_neg c20] at H
                      have c20b0 : ((rdOf ByteArray.empty l0_0 x25_2).toList == (rdOf ByteArray.empty l1_0 x25_2).toList) = false := beq_eq_false_iff_ne.mpr c20
                      have c20b1 : ((rdOf ByteArray.empty l0_0 x25_2).toList != (rdOf ByteArray.empty l1_0 x25_2).toList) = true := bne_iff_ne.mpr c20
                      obtain rfl := Option.some.inj H
                      have hnb24 := NB172_173.out
                      have hnc24 := NB173_172.out
                      have hcz25_0 : wr.cell? ⟨gb172, 0, none⟩ = some (.slice A0_0 l0_0.length c0_0) := (blk_cell BK172.out 0).trans rfl
                      have hcz25_1 : wr.cell? ⟨gb172, 1, none⟩ = some (.slice A0_1 l0_1.length c0_1) := (blk_cell BK172.out 1).trans rfl
                      have hfz25_0 := blk_frozen BK172.out 0
                      have hfz25_1 := blk_frozen BK172.out 1
                      have p174 : 0 ≤ (x25_2 : Int) := of_decide_eq_true (by first | (with_reducible assumption) | assumption)
                      have q174 : x25_2 < (l0_0.length : Int) := of_decide_eq_true (by first | (with_reducible assumption) | assumption)
                      obtain ⟨ad174, e174, hx174_0⟩ := Kd.at_string HR0_0.out x25_2 p174 q174
                      cases e174
                      replace hx174_0 := (HB.out.cell (World.block_lt_of_cell? w _ hx174_0)).trans hx174_0
                      replace p174 := eq_true p174
                      replace q174 := eq_true q174
                      have hcz26_0 : wr.cell? ⟨gb173, 0, none⟩ = some (.slice A1_0 l1_0.length c1_0) := (blk_cell BK173.out 0).trans rfl
                      have hcz26_1 : wr.cell? ⟨gb173, 1, none⟩ = some (.slice A1_1 l1_1.length c1_1) := (blk_cell BK173.out 1).trans rfl
                      have hfz26_0 := blk_frozen BK173.out 0
                      have hfz26_1 := blk_frozen BK173.out 1
                      have p175 : 0 ≤ (x25_2 : Int) := of_decide_eq_true (by first | (with_reducible assumption) | assumption)
                      have q175 : x25_2 < (l1_0.length : Int) := of_decide_eq_true (by first | (with_reducible assumption) | assumption)
                      obtain ⟨ad175, e175, hx175_0⟩ := Kd.at_string HR1_0.out x25_2 p175 q175
                      cases e175
                      replace hx175_0 := (HB.out.cell (World.block_lt_of_cell? w _ hx175_0)).trans hx175_0
                      replace p175 := eq_true p175
                      replace q175 := eq_true q175
                      go_wp2
                      repeat (go_quiet (fail); try go_wp2)
                      go_ret
                      exact ⟨by first | rfl | (rw [show ∀ n_ : Int, -9223372036854775808 ≤ n_ → n_ < 9223372036854775808 → wrap64 n_ = n_ from fun n_ h1_ h2_ => by unfold wrap64; omega] <;> first | rfl | omega) | (simp [errW_none, errW_some] <;> rfl) | (simp [*, errW_none, errW_some] <;> rfl), by repeat (first | (with_reducible first | exact HB.out | apply below_alloc | apply pw_below_drewN | apply below_drew1 | refine below_set ?_ GE172.out | refine below_set ?_ GE173.out) | exact HB.out)⟩
                  · rw [if_neg c19] at H
                    exact absurd H (by simp)
                · rw [if_neg c18] at H
                  exact absurd H (by simp)
              · rw [if_neg c17] at H
                exact absurd H (by simp)
            · rw [if_neg c16] at H
              have c16b0 : decide (x25_2 < (l0_0.length : Int)) = false := decide_eq_false c16
              clear c16
              replace H := Option.bind_eq_some_iff.mp H
              obtain ⟨t176, A270, H⟩ := H
              replace H : (some t176) = some r := H
              have A27 := Aside0.mk A270
              clear A270
              obtain rfl := Option.some.inj H
              have hnb28 := NB172_173.out
              have hnc28 := NB173_172.out
              have hcz29_0 : wr.cell? ⟨gb172, 0, none⟩ = some (.slice A0_0 l0_0.length c0_0) := (blk_cell BK172.out 0).trans rfl
              have hcz29_1 : wr.cell? ⟨gb172, 1, none⟩ = some (.slice A0_1 l0_1.length c0_1) := (blk_cell BK172.out 1).trans rfl
              have hfz29_0 := blk_frozen BK172.out 0
              have hfz29_1 := blk_frozen BK172.out 1
              have hcz30_0 : wr.cell? ⟨gb173, 0, none⟩ = some (.slice A1_0 l1_0.length c1_0) := (blk_cell BK173.out 0).trans rfl
              have hcz30_1 : wr.cell? ⟨gb173, 1, none⟩ = some (.slice A1_1 l1_1.length c1_1) := (blk_cell BK173.out 1).trans rfl
              have hfz30_0 := blk_frozen BK173.out 0
              have hfz30_1 := blk_frozen BK173.out 1
              go_wp2_with (first | (go_at_call 55; (first | (with_reducible refine (doorwardref03_LikeWrites.calls k2 _ _ l0_1 _ _ l1_1 t176 _ ?side1 ?side2 ?side3 ?side4 A27.out).mono ?_) | (refine calls_of_args ?hfit_ ((doorwardref03_LikeWrites.calls k2 _ _ l0_1 _ _ l1_1 t176 _ ?side1 ?side2 ?side3 ?side4 A27.out).mono ?_); (case hfit_ => (first | rfl | (simp; done) | (simp [*]; done) | (simp; omega) | (simp [ByteArray.size_extract]; omega))))); (case side1 => repeat (first | exact (Kd.C_below HR0_1.out HB.out) | (with_reducible refine Kd.C_alloc ?_ _) | (with_reducible refine Kd.C_drewN ?_ _) | (with_reducible refine Kd.C_drew ?_))); (case side2 => exact HC0_1.out); (case side3 => repeat (first | exact (Kd.C_below HR1_1.out HB.out) | (with_reducible refine Kd.C_alloc ?_ _) | (with_reducible refine Kd.C_drewN ?_ _) | (with_reducible refine Kd.C_drew ?_))); (case side4 => exact HC1_1.out); rintro e w' ⟨rfl, ⟨nd, rfl⟩⟩; (try first | exact ⟨rfl, _, World.drewN_drewN _ _ _⟩ | exact ⟨rfl, _, Eq.trans (World.drewN_drewN _ _ _) (congrArg (World.drewN _) (Nat.add_assoc _ _ _))⟩)))
              repeat (go_quiet (first | (go_at_call 55; (first | (with_reducible refine (doorwardref03_LikeWrites.calls k2 _ _ l0_1 _ _ l1_1 t176 _ ?side1 ?side2 ?side3 ?side4 A27.out).mono ?_) | (refine calls_of_args ?hfit_ ((doorwardref03_LikeWrites.calls k2 _ _ l0_1 _ _ l1_1 t176 _ ?side1 ?side2 ?side3 ?side4 A27.out).mono ?_); (case hfit_ => (first | rfl | (simp; done) | (simp [*]; done) | (simp; omega) | (simp [ByteArray.size_extract]; omega))))); (case side1 => repeat (first | exact (Kd.C_below HR0_1.out HB.out) | (with_reducible refine Kd.C_alloc ?_ _) | (with_reducible refine Kd.C_drewN ?_ _) | (with_reducible refine Kd.C_drew ?_))); (case side2 => exact HC0_1.out); (case side3 => repeat (first | exact (Kd.C_below HR1_1.out HB.out) | (with_reducible refine Kd.C_alloc ?_ _) | (with_reducible refine Kd.C_drewN ?_ _) | (with_reducible refine Kd.C_drew ?_))); (case side4 => exact HC1_1.out); rintro e w' ⟨rfl, ⟨nd, rfl⟩⟩; (try first | exact ⟨rfl, _, World.drewN_drewN _ _ _⟩ | exact ⟨rfl, _, Eq.trans (World.drewN_drewN _ _ _) (congrArg (World.drewN _) (Nat.add_assoc _ _ _))⟩))); try go_wp2_with (first | (go_at_call 55; (first | (with_reducible refine (doorwardref03_LikeWrites.calls k2 _ _ l0_1 _ _ l1_1 t176 _ ?side1 ?side2 ?side3 ?side4 A27.out).mono ?_) | (refine calls_of_args ?hfit_ ((doorwardref03_LikeWrites.calls k2 _ _ l0_1 _ _ l1_1 t176 _ ?side1 ?side2 ?side3 ?side4 A27.out).mono ?_); (case hfit_ => (first | rfl | (simp; done) | (simp [*]; done) | (simp; omega) | (simp [ByteArray.size_extract]; omega))))); (case side1 => repeat (first | exact (Kd.C_below HR0_1.out HB.out) | (with_reducible refine Kd.C_alloc ?_ _) | (with_reducible refine Kd.C_drewN ?_ _) | (with_reducible refine Kd.C_drew ?_))); (case side2 => exact HC0_1.out); (case side3 => repeat (first | exact (Kd.C_below HR1_1.out HB.out) | (with_reducible refine Kd.C_alloc ?_ _) | (with_reducible refine Kd.C_drewN ?_ _) | (with_reducible refine Kd.C_drew ?_))); (case side4 => exact HC1_1.out); rintro e w' ⟨rfl, ⟨nd, rfl⟩⟩; (try first | exact ⟨rfl, _, World.drewN_drewN _ _ _⟩ | exact ⟨rfl, _, Eq.trans (World.drewN_drewN _ _ _) (congrArg (World.drewN _) (Nat.add_assoc _ _ _))⟩))))
              go_ret
              exact ⟨by first | rfl | (rw [show ∀ n_ : Int, -9223372036854775808 ≤ n_ → n_ < 9223372036854775808 → wrap64 n_ = n_ from fun n_ h1_ h2_ => by unfold wrap64; omega] <;> first | rfl | omega) | (simp [errW_none, errW_some] <;> rfl) | (simp [*, errW_none, errW_some] <;> rfl), by repeat (first | (with_reducible first | exact HB.out | apply below_alloc | apply pw_below_drewN | apply below_drew1 | refine below_set ?_ GE172.out | refine below_set ?_ GE173.out) | exact HB.out)⟩

end Go.Proofs.YtniplmjbligmlaaDoor.Q

/-! disk.Crash in plain words: the kept writes, one behind the other. -/
namespace Go.Proofs.YtniplmjbligmlaaDoor.Q
open Go.RowKit Go.Proofs.YtniplmjbligmlaaDoorW.PrintWords Go.Proofs.YtniplmjbligmlaaDoorW.PrintLast Go.Proofs.YtniplmjbligmlaaDoorW.PrintMore Go.Proofs.YtniplmjbligmlaaDoor.Base
set_option linter.unusedVariables false
def crashL : List S42 → List Bool → List ByteArray → List ByteArray
  | [], _, s => s
  | _ :: _, [], s => s
  | x :: xs, b :: bs, s => crashL xs bs (if b = true then s.set x.f0.toNat x.f1 else s)
theorem crashL_length : ∀ (xs : List S42) (bs : List Bool) (s : List ByteArray), (crashL xs bs s).length = s.length
  | [], _, _ => rfl
  | _ :: _, [], _ => rfl
  | x :: xs, b :: bs, s => by
    unfold crashL; rw [crashL_length xs bs]; split <;> simp
theorem not_bad {n : Nat} {x : S42} (h : badW n x = false) : 0 ≤ x.f0 ∧ x.f0 < (n : Int) ∧ standsB x.f1 = true := by
  unfold badW hasB at h
  simp only [Bool.or_eq_false_iff, Bool.not_eq_false', Bool.and_eq_true, decide_eq_true_eq] at h
  exact ⟨h.1.1, h.1.2, h.2⟩
theorem right_parts {l0 : List ByteArray} {l1 : List S42} (h : rightB l0 l1 = true) : 1 ≤ l0.length ∧ l0.length ≤ 256 ∧ (∀ s ∈ l0, standsB s = true) ∧ ∀ x ∈ l1, badW l0.length x = false := by
  unfold rightB at h
  simp only [Bool.and_eq_true, decide_eq_true_eq, Bool.not_eq_true', List.all_eq_true, List.any_eq_false] at h
  exact ⟨h.1.1.1, h.1.1.2, h.1.2, fun x hx => by simpa using h.2 x hx⟩
theorem rdB_at (l : List Bool) (k : Nat) (h : k < l.length) : rdOf false l (k : Int) = l[k] := by
  simp [rdOf, List.getD_eq_getElem?_getD, List.getElem?_eq_getElem h]
theorem crash_l0 (n : Nat) : ∀ (k i : Nat) (l1 : List S42) (keep : List Bool) (s : List ByteArray), l1.length - i = n → i ≤ l1.length → l1.length ≤ 4294967295 → (∀ x ∈ l1, badW s.length x = false) → n < k →
    disk_Crash.l0 k keep l1 (l1.length : Int) (i : Int) s = some (crashL (l1.drop i) (keep.drop i) s, [], 0) := by
  induction n with
  | zero =>
    intro k i l1 keep s hn hi hl hb hk
    obtain ⟨k, rfl⟩ : ∃ m, k = m + 1 := ⟨k - 1, by omega⟩
    simp only [disk_Crash.l0]
    rw [if_neg (by omega), (List.drop_eq_nil_of_le (by omega) : l1.drop i = [])]
    rfl
  | succ n ih =>
    intro k i l1 keep s hn hi hl hb hk
    obtain ⟨k, rfl⟩ : ∃ m, k = m + 1 := ⟨k - 1, by omega⟩
    have hlt : i < l1.length := by omega
    have hw : wrap64 ((i : Int) + 1) = ((i + 1 : Nat) : Int) := by rw [wrap64_id (by omega) (by omega)]; omega
    have hx := hb _ (List.getElem_mem hlt)
    obtain ⟨h0, h1, _⟩ := not_bad hx
    simp only [disk_Crash.l0]
    rw [if_pos (by omega), if_pos (by omega), if_pos (by omega), hw, rd_at l1 i hlt, List.drop_eq_getElem_cons hlt]
    by_cases hk2 : i < keep.length
    · rw [if_pos (by omega), List.drop_eq_getElem_cons hk2, rdB_at keep i hk2]
      unfold crashL
      by_cases hb2 : keep[i] = true
      · rw [if_pos hb2, if_pos hb2, if_pos h0, if_pos h1]
        exact ih k (i + 1) l1 keep _ (by omega) (by omega) hl (by rw [List.length_set]; exact hb) (by omega)
      · rw [if_neg hb2, if_neg hb2]
        exact ih k (i + 1) l1 keep _ (by omega) (by omega) hl hb (by omega)
    · rw [if_neg (by omega), (List.drop_eq_nil_of_le (by omega) : keep.drop i = [])]
      have h := ih k (i + 1) l1 keep s (by omega) (by omega) hl hb (by omega)
      rw [(List.drop_eq_nil_of_le (by omega) : keep.drop (i + 1) = [])] at h
      rw [h]
      cases hd : l1.drop (i + 1) <;> rfl
theorem crash_right (k : Nat) (l0 : List ByteArray) (l1 : List S42) (keep : List Bool) (h : rightB l0 l1 = true) (hl : l1.length ≤ 4294967295) (hk : l1.length < k) : disk_Crash.f k l0 l1 keep = some (crashL l1 keep l0, [], 0) := by
  obtain ⟨h1, h2, _, h4⟩ := right_parts h
  unfold disk_Crash.f disk_Right.f
  rw [h]
  simp only [Option.bind_some, if_true]
  unfold slices_Clone_string_string.f
  rw [if_pos (by omega)]
  exact crash_l0 l1.length k 0 l1 keep l0 (by omega) (by omega) hl h4 hk
theorem crash_wrong (k : Nat) (l0 : List ByteArray) (l1 : List S42) (keep : List Bool) (h : rightB l0 l1 = false) : disk_Crash.f k l0 l1 keep = some ([], [], 1) := by
  unfold disk_Crash.f disk_Right.f
  rw [h]
  rfl
end Go.Proofs.YtniplmjbligmlaaDoor.Q

/-! slices.Repeat of a row of one 'true': as many as are asked. math/bits.Mul: both halves of a product. -/
namespace Go.Proofs.YtniplmjbligmlaaDoor.Q
open Go.RowKit Go.Proofs.YtniplmjbligmlaaDoorW.PrintWords Go.Proofs.YtniplmjbligmlaaDoorW.PrintLast Go.Proofs.YtniplmjbligmlaaDoorW.PrintMore Go.Proofs.YtniplmjbligmlaaDoor.Base
set_option linter.unusedVariables false
set_option linter.unusedSimpArgs false

theorem hr_info : (Tryd.prog.info? 4).map (fun i => (i.zero, i.size, i.bytes)) = some (some (.bool false), 1, 1) := by kernel_rfl
set_option maxHeartbeats 4000000 in
set_option maxRecDepth 100000 in
theorem bits_Mul64_calls (x y : Nat) (hx : x < 18446744073709551616) (hy : y < 18446744073709551616) (w : World) :
    Calls Tryd.prog 88 #[.int .u64 x, .int .u64 y] w fun e w' => e = .returned (.tuple #[.int .u64 ((x * y / 18446744073709551616 : Nat) : Int), .int .u64 ((x * y % 18446744073709551616 : Nat) : Int)]) ∧ w' = w := by
  obtain ⟨bd, bt, bw, hhi⟩ := Lib.mul64_hi x y hx hy
  have ba := Lib.half_mul_le (a := x / 4294967296) (b := y / 4294967296) (by omega) (by omega)
  have bb := Lib.half_mul_le (a := x / 4294967296) (b := y % 4294967296) (by omega) (by omega)
  have bc := Lib.half_mul_le (a := x % 4294967296) (b := y / 4294967296) (by omega) (by omega)
  have ba' : x / 4294967296 * (y / 4294967296) < 18446744073709551616 := by omega
  have bb' : x / 4294967296 * (y % 4294967296) < 18446744073709551616 := by omega
  have bc' : x % 4294967296 * (y / 4294967296) < 18446744073709551616 := by omega
  have bh1 : x / 4294967296 * (y / 4294967296) + (x / 4294967296 * (y % 4294967296) + x % 4294967296 * (y % 4294967296) / 4294967296) / 4294967296 < 18446744073709551616 := by omega
  have bh : x / 4294967296 * (y / 4294967296) + (x / 4294967296 * (y % 4294967296) + x % 4294967296 * (y % 4294967296) / 4294967296) / 4294967296 + ((x / 4294967296 * (y % 4294967296) + x % 4294967296 * (y % 4294967296) / 4294967296) % 4294967296 + x % 4294967296 * (y / 4294967296)) / 4294967296 < 18446744073709551616 := by omega
  go_enter Tryd.func88, Tryd.ntmps88
  go_wp2
  simp only [Mul64.maskN x hx, Mul64.maskN y hy, Mul64.divN, Mul64.mulN, Mul64.addN, Mul64.wrapN _ bd, Mul64.wrapN _ bb', Mul64.wrapN _ bt, Mul64.maskN _ bt, Mul64.wrapN _ bc', Mul64.wrapN _ bw, Mul64.wrapN _ ba', Mul64.wrapN _ bh1, Mul64.wrapN _ bh, Mul64.wrapM (x * y)]
  rw [hhi]
  go_ret2
  exact ⟨rfl, rfl⟩

set_option maxHeartbeats 4000000 in
set_option maxRecDepth 100000 in
theorem bits_Mul_calls (x y : Nat) (hx : x < 18446744073709551616) (hy : y < 18446744073709551616) (w : World) :
    Calls Tryd.prog 76 #[.int .u64 x, .int .u64 y] w fun e w' => e = .returned (.tuple #[.int .u64 ((x * y / 18446744073709551616 : Nat) : Int), .int .u64 ((x * y % 18446744073709551616 : Nat) : Int)]) ∧ w' = w := by
  have c64 := bits_Mul64_calls x y hx hy w
  go_enter Tryd.func76, Tryd.ntmps76
  go_wp2_with (go_at_call 88; refine c64.mono ?_; rintro e w' ⟨rfl, hw⟩; rw [hw])
  go_ret2
  exact ⟨rfl, rfl⟩


def trues (k n : Nat) : List Value := List.replicate k (.bool true) ++ List.replicate (n - k) (.bool false)
theorem trues_length (k n : Nat) (h : k ≤ n) : (trues k n).length = n := by simp [trues]; omega
theorem trues_splice (k m n : Nat) (h : k + m ≤ n) : splice (trues k n) k (List.replicate m (.bool true)) = trues (k + m) n := by
  unfold splice trues
  have e1 : (List.replicate k (Value.bool true) ++ List.replicate (n - k) (Value.bool false)).take k = List.replicate k (Value.bool true) := by
    rw [List.take_append_of_le_length (by simp)]; simp
  have e2 : (List.replicate k (Value.bool true) ++ List.replicate (n - k) (Value.bool false)).drop (k + (List.replicate m (Value.bool true)).length) = List.replicate (n - (k + m)) (Value.bool false) := by
    rw [List.drop_append]; simp; omega
  rw [e1, e2, ← List.append_assoc, List.replicate_append_replicate]
theorem trues_get (k n j : Nat) (hj : j < k) : (trues k n)[j]? = some (.bool true) := by
  unfold trues
  rw [List.getElem?_append_left (by simpa using hj)]
  simp [hj]
theorem trues_R {w' : World} {b g n : Nat} (hb : b ≤ g) (h : w'.heap[g]? = some (.cells (trues n n).toArray 4 (0, 0))) (hn : n ≤ 4294967295) : Kd.R Kd.bool 4 w' b (fun _ => True) (.slice (some ⟨g, 0, none⟩) n n) (List.replicate n true) := by
  refine Kd.R_of_own ⟨by simp [encs], .inr ⟨g, n, _, by simp, hb, h, by simp, by unfold maxLen; omega, by simp [trues], ?_⟩⟩ (fun _ _ => trivial)
  simp [trues, encs]
theorem one_src {W : World} {g n : Nat} {X1 : List Value} {j : Nat} {v : Value} (h : W.heap[g]? = some (.cells #[.bool true] 4 (0, 0))) (hX : X1 = List.replicate (min 1 n) (Value.bool true)) (hj : X1[j]? = some v) : W.cell? ((⟨g, 0, none⟩ : Addr).add j) = some v := by
  subst hX
  obtain ⟨h1, h2⟩ := List.getElem?_eq_some_iff.1 hj
  have : j = 0 := by simp at h1; omega
  subst this
  rw [Addr.add_lit, blk_cell h]
  simp at h2
  subst h2
  rfl
theorem two_src {W : World} {g k n m : Nat} {X2 : List Value} {j : Nat} {v : Value} (h : W.heap[g]? = some (.cells (trues k n).toArray 4 (0, 0))) (hX : X2 = List.replicate (min k m) (Value.bool true)) (hj : X2[j]? = some v) : W.cell? ((⟨g, 0, none⟩ : Addr).add j) = some v := by
  subst hX
  obtain ⟨h1, h2⟩ := List.getElem?_eq_some_iff.1 hj
  simp at h2
  subst h2
  rw [Addr.add_lit, blk_cell h, Nat.zero_add, List.getElem?_toArray, trues_get k n j (by simp at h1; omega)]
theorem wrap_add (k m n : Nat) (h : k + m ≤ n) (hn : n ≤ 4294967295) : wrap64 ((k : Int) + (m : Int)) = ((k + m : Nat) : Int) := by
  rw [wrap64_id (by omega) (by omega)]; omega
theorem one_cells {m : Nat} {X1 : List Value} (hX : X1 = List.replicate m (Value.bool true)) : ∀ v ∈ X1, v.oneCell' = true := by
  subst hX
  intro v hv
  rw [List.eq_of_mem_replicate hv]
  rfl
theorem size_bool : (Tryd.prog.info? 4).map (·.size) = some 1 := by kernel_rfl
section
variable {P : Program} {ops : Array Oper} {rest : List Oper} {o : Oper} {a : Act} {Q : Exit → Act → World → Prop} {W : World}
theorem make_bools (hgd : o.guard = none) (t e : TypeId) (x y : Operand) (ho : o.op = .makeSlice t x y) (n : Nat) (hx : a.eval x = .int .i64 n) (hy : a.eval y = .int .i64 n) (ht : P.underlying t = some (.slice e))
    (hinfo : (P.info? e).map (fun i => (i.zero, i.size, i.bytes)) = some (some (.bool false), 1, 1)) (hn : n ≤ 4294967295)
    (h : ∀ g w1, g = W.heap.size → w1.heap[g]? = some (.cells (trues 0 n).toArray e (0, 0)) → Below W.heap.size W w1 → wpList P ops Q rest (a.put o.dst (.slice (some ⟨g, 0, none⟩) n n)) w1) : wpList P ops Q (o :: rest) a W := by
  obtain ⟨i0, hi, hzz⟩ := Option.map_eq_some_iff.1 hinfo
  simp only [Prod.mk.injEq] at hzz
  obtain ⟨hz0, hz1, hz2⟩ := hzz
  have hr := run_make (P := P) (w := W) t e i0 (.bool false) ht hi hz0 .i64 .i64 (n : Int) (n : Int) (by omega) (by omega) (by rw [hz2]; omega) (by omega)
  simp only [Int.toNat_natCast] at hr
  rw [hz1] at hr
  have hm : (madeCells (Value.bool false).cells (n * 1)) = (trues 0 n).toArray := by
    apply Array.ext
    · simp [trues, size_madeCells]
    · intro i h1 h2
      simp [trues, madeCells, Value.cells, Nat.mod_one]
  rw [hm] at hr
  refine Kd.event_run (v := .slice (some ⟨W.heap.size, 0, none⟩) n n) (w1 := W.alloc (.cells (trues 0 n).toArray e)) hgd (by simp [execOp, ho, hx, hy, hr]) ?_
  exact h _ _ rfl (blk_new W _) (below_alloc (Below.refl _ _) _)
end

set_option maxHeartbeats 4000000 in
set_option maxRecDepth 100000 in
theorem repeat_true (g n : Nat) (w : World) (hg : w.heap[g]? = some (.cells #[.bool true] 4 (0, 0))) (hn : n ≤ 4294967295) :
    Calls Tryd.prog 65 #[.slice (some ⟨g, 0, none⟩) 1 1, .int .i64 n] w fun e w' => ∃ v : Value, e = .returned v ∧ Kd.R Kd.bool 4 w' w.heap.size (fun _ => True) v (List.replicate n true) ∧ Below w.heap.size w w' := by
  have HG := Aside0.mk hg
  have e1 : (n : Int) % 18446744073709551616 = n := by omega
  have e2 : (0 : Int) ≤ n := by omega
  have e3 : ((1 * n / 18446744073709551616 : Nat) : Int) = 0 := by have : 1 * n / 18446744073709551616 = 0 := Nat.div_eq_of_lt (by omega); rw [this]; rfl
  have e4 : ((1 * n % 18446744073709551616 : Nat) : Int) = n := by have : 1 * n % 18446744073709551616 = n := by rw [Nat.one_mul]; exact Nat.mod_eq_of_lt (by omega)
                                                                   rw [this]
  have e5 : ¬ ((n : Int) > 9223372036854775807) := by omega
  have e6 : ¬ ((n : Int) < 0) := by omega
  clear hg
  go_enter Tryd.func65, Tryd.ntmps65
  obtain ⟨X1, hX1⟩ : ∃ X1, X1 = List.replicate (min 1 n) (Value.bool true) := ⟨_, rfl⟩
  have HX1 := Aside0.mk hX1
  have LX1 := Aside0.mk (show X1.length = min 1 n by rw [hX1]; simp)
  clear hX1
  go_wp2_with (first
    | (go_at_call 76; refine (bits_Mul_calls 1 n (by omega) (by omega) _).mono ?_; rintro e w' ⟨rfl, hw⟩; rw [hw, e3, e4])
    | ((with_reducible refine gate_dst (N := 30) rfl ?_); refine make_bools rfl 33 4 _ _ rfl n rfl rfl Tryd.underlying33 hr_info hn ?_; intro gn w1 hgn hn1 hb1; have HN := Aside0.mk hn1; have HGN := Aside0.mk (Nat.le_of_eq hgn.symm); have HB1 := Aside0.mk hb1; have HNE := Aside0.mk (show g ≠ gn by have h1 := blk_lt HG.out; omega); have HG1 := Aside0.mk (blk_below HG.out hb1); clear hgn hn1 hb1)
    | ((with_reducible refine gate_builtin (b := .copy) (xs := #[.tmp 31, .tmp 32]) rfl ?_); refine wpList_copy_splice rfl (.tmp 31) (.tmp 32) 33 33 rfl 4 Tryd.underlying33 size_bool (some ⟨gn, 0, none⟩) (some ⟨g, 0, none⟩) n n 1 1 rfl rfl gn 0 (trues 0 n) 4 HN.out X1 LX1.out (fun _ => ⟨rfl, _, rfl, fun j v hj => one_src HG1.out HX1.out hj⟩) (by rw [LX1.out, trues_length 0 n (by omega)]; omega) (one_cells HX1.out) w.heap.size w HB1.out HGN.out ?_; intro w2 hg2 hb2; have HN2 := Aside0.mk hg2.out; have HB2 := Aside0.mk hb2; clear hg2 hb2))
  go_loopw [8] (fun v wr => ∃ k : Nat, k ≤ n ∧ (0 < n → 0 < k) ∧ v = .int .i64 k ∧ Aside0 (wr.heap[gn]? = some (.cells (trues k n).toArray 4 (0, 0))) ∧ Aside0 (Below w.heap.size w wr)) (fun v _ => n - (intOf v).toNat)
  case atStart =>
    refine ⟨min 1 n, by omega, by omega, by rw [← LX1.out], ⟨?_⟩, HB2⟩
    have h := HN2.out
    rw [HX1.out, trues_splice 0 (min 1 n) n (by omega), Nat.zero_add] at h
    exact h
  case round =>
    obtain ⟨k, hk, hpos, rfl, HK, HW⟩ := hrel
    by_cases hlt : k < n
    · have hk0 : 0 < k := hpos (by omega)
      obtain ⟨X2, hX2⟩ : ∃ X2, X2 = List.replicate (min k (n - k)) (Value.bool true) := ⟨_, rfl⟩
      have HX2 := Aside0.mk hX2
      have LX2 := Aside0.mk (show X2.length = min k (n - k) by rw [hX2]; simp)
      clear hX2
      have h1 : (0 : Int) ≤ (k : Int) := by omega
      have h2 : (k : Int) < (n : Int) := by omega
      have h3 : (k : Int) ≤ (n : Int) := by omega
      have h4 : k ≠ n := by omega
      have h5 : ¬ n = k := by omega
      go_wp2
      refine start_ (n := 10) (S := fun _ => True) (ds := []) #[false, false, false, false, false, false, false, false, false, false] (by kernel_rfl) rfl rfl trivial (fun hHeld => ?_)
      refine pure_ (i := 0) (N := some 38) (v := ?_) (a' := ?_) #[true, false, false, false, false, false, false, false, false, false] rfl rfl (by kernel_rfl) (fun _ _ _ h => h) (Or.inl ⟨by rfl, ?_⟩) ?_ ?_
      rotate_left
      · intro w'; go_simp; with_reducible rfl
      rotate_left
      · simp only [Act.put, List.setIfInBounds_toArray, List.set_cons_zero, List.set_cons_succ, i64_w, i32_w]; rfl
      refine pure_ (i := 1) (N := some 39) (v := ?_) (a' := ?_) #[true, true, false, false, false, false, false, false, false, false] rfl rfl (by kernel_rfl) (fun _ _ _ h => h) (Or.inl ⟨by rfl, ?_⟩) ?_ ?_
      rotate_left
      · intro w'; go_simp; with_reducible rfl
      rotate_left
      · simp only [Act.put, List.setIfInBounds_toArray, List.set_cons_zero, List.set_cons_succ, i64_w, i32_w]; rfl
      refine pure_ (i := 2) (N := some 40) (v := ?_) (a' := ?_) #[true, true, true, false, false, false, false, false, false, false] rfl rfl (by kernel_rfl) (fun _ _ _ h => h) (Or.inl ⟨by rfl, ?_⟩) ?_ ?_
      rotate_left
      · intro w'; go_simp; with_reducible rfl
      rotate_left
      · simp only [Act.put, List.setIfInBounds_toArray, List.set_cons_zero, List.set_cons_succ, i64_w, i32_w]; rfl
      refine pure_ (i := 3) (N := some 41) (v := ?_) (a' := ?_) #[true, true, true, true, false, false, false, false, false, false] rfl rfl (by kernel_rfl) (fun _ _ _ h => h) (Or.inl ⟨by rfl, ?_⟩) ?_ ?_
      rotate_left
      · intro w'; go_simp; with_reducible rfl
      rotate_left
      · simp only [Act.put, List.setIfInBounds_toArray, List.set_cons_zero, List.set_cons_succ, i64_w, i32_w]; rfl
      refine pure_ (i := 4) (N := some 42) (v := ?_) (a' := ?_) #[true, true, true, true, true, false, false, false, false, false] rfl rfl (by kernel_rfl) (fun _ _ _ h => h) (Or.inl ⟨by rfl, ?_⟩) ?_ ?_
      rotate_left
      · intro w'; go_simp; with_reducible rfl
      rotate_left
      · simp only [Act.put, List.setIfInBounds_toArray, List.set_cons_zero, List.set_cons_succ, i64_w, i32_w]; rfl
      refine pure_ (i := 5) (N := some 43) (v := ?_) (a' := ?_) #[true, true, true, true, true, true, false, false, false, false] rfl rfl (by kernel_rfl) (fun _ _ _ h => h) (Or.inl ⟨by rfl, ?_⟩) ?_ ?_
      rotate_left
      · intro w'; go_simp; with_reducible rfl
      rotate_left
      · simp only [Act.put, List.setIfInBounds_toArray, List.set_cons_zero, List.set_cons_succ, i64_w, i32_w]; rfl
      refine pure_ (i := 6) (N := some 44) (v := ?_) (a' := ?_) #[true, true, true, true, true, true, true, false, false, false] rfl rfl (by kernel_rfl) (fun _ _ _ h => h) (Or.inl ⟨by rfl, ?_⟩) ?_ ?_
      rotate_left
      · intro w'; go_simp; with_reducible rfl
      rotate_left
      · simp only [Act.put, List.setIfInBounds_toArray, List.set_cons_zero, List.set_cons_succ, i64_w, i32_w]; rfl
      refine one_ (i := 7) (N := some 45) #[true, true, true, true, true, true, true, true, false, false] rfl rfl (by kernel_rfl) (by decide) (fun K hK => ?_)
      refine step_copy_splice (by rfl) (.tmp 41) (.tmp 44) 33 33 (by rfl) 4 Tryd.underlying33 size_bool _ _ _ _ _ _ (by rfl) (by rfl) gn k (trues k n) 4 (blk_drew HK.out) X2 (by rw [LX2.out]) (fun _ => ⟨rfl, _, rfl, fun j v hj => two_src (blk_drew HK.out) HX2.out hj⟩) (by rw [LX2.out, trues_length k n (by omega)]; omega) (one_cells HX2.out) w.heap.size w (below_drew1 HW.out) HGN.out ?_
      intro w3 hg3 hb3
      have HN3 := Aside0.mk hg3.out
      have HB3 := Aside0.mk hb3
      clear hg3 hb3
      refine hK.out _ _ trivial (fun hHeld => ?_)
      clear hK K
      refine norm_ (a' := ?_) ?_ ?_
      rotate_left
      · show Act.put _ (some 45) _ = _; simp only [Act.put, List.setIfInBounds_toArray, List.set_cons_zero, List.set_cons_succ, i64_w, i32_w]; rfl
      refine pure_ (i := 8) (N := some 46) (v := ?_) (a' := ?_) #[true, true, true, true, true, true, true, true, true, false] rfl rfl (by kernel_rfl) (fun _ _ _ h => h) (Or.inl ⟨by rfl, ?_⟩) ?_ ?_
      rotate_left
      · intro w'; go_simp; with_reducible rfl
      rotate_left
      · simp only [Act.put, List.setIfInBounds_toArray, List.set_cons_zero, List.set_cons_succ, i64_w, i32_w]; rfl
      refine pure_ (i := 9) (N := some 8) (v := ?_) (a' := ?_) #[true, true, true, true, true, true, true, true, true, true] rfl rfl (by kernel_rfl) (fun _ _ _ h => h) (Or.inl ⟨by rfl, ?_⟩) ?_ ?_
      rotate_left
      · intro w'; go_simp; with_reducible rfl
      rotate_left
      · simp only [Act.put, List.setIfInBounds_toArray, List.set_cons_zero, List.set_cons_succ, i64_w, i32_w]; rfl
      refine done_ (by kernel_rfl) ?_
      go_wp2
      go_roundw
      case rel =>
        refine ⟨k + min k (n - k), by omega, by omega, by rw [LX2.out, wrap_add k (min k (n - k)) n (by omega) hn], ⟨?_⟩, HB3⟩
        have h := HN3.out
        rw [HX2.out, trues_splice k (min k (n - k)) n (by omega)] at h
        exact h
      case measure =>
        rw [LX2.out, wrap_add k (min k (n - k)) n (by omega) hn]
        simp only [intOf]
        omega
    · obtain rfl : k = n := by omega
      go_wp2
      go_ret
      exact ⟨_, rfl, trues_R HGN.out HK.out hn, HW.out⟩
end Go.Proofs.YtniplmjbligmlaaDoor.Q

/-! disk.Flush's closure: a crash that keeps all. -/
namespace Go.Proofs.YtniplmjbligmlaaDoor.Q
open Go.RowKit Go.Proofs.YtniplmjbligmlaaDoorW.PrintWords Go.Proofs.YtniplmjbligmlaaDoorW.PrintLast Go.Proofs.YtniplmjbligmlaaDoorW.PrintMore Go.Proofs.YtniplmjbligmlaaDoor.Base
set_option linter.unusedVariables false
set_option linter.unusedSimpArgs false
def flush1F (l0 : List ByteArray) (l1 : List S42) : Option (List ByteArray × List S42 × Int) :=
  if rightB l0 l1 = true then (if l1.length ≤ 4294967295 then some (crashL l1 (List.replicate l1.length true) l0, [], 0) else none) else none

set_option maxHeartbeats 4000000 in
set_option maxRecDepth 100000 in
theorem flush1_does (P0 : Nat → Prop) (A0 : Option Addr) (c0 : Nat) (l0 : List ByteArray) (P1 : Nat → Prop) (A1 : Option Addr) (c1 : Nat) (l1 : List S42) (w : World)
    (hs0 : Kd.V Kd.string 9 w w.heap.size P0 (.slice A0 l0.length c0) l0) (hs1 : Kd.V k42 42 w w.heap.size P1 (.slice A1 l1.length c1) l1) (h1 : rightB l0 l1 = true) (h2 : l1.length ≤ 4294967295) :
    Calls Tryd.prog 64 #[.agg #[.slice A0 l0.length c0, .slice A1 l1.length c1]] w (DiskOut w P0 P1 (crashL l1 (List.replicate l1.length true) l0) [] 0) := by
  have HO0 := Aside0.mk (show Kd.V Kd.string 9 w w.heap.size (fun k_ => ((P0 k_ ∨ P1 k_) ∨ w.heap.size ≤ k_)) (.slice A0 l0.length c0) l0 from Kd.V_mono hs0 (fun k_ hk => .inl (.inl hk)))
  have HO1 := Aside0.mk (show Kd.V k42 42 w w.heap.size (fun k_ => ((P0 k_ ∨ P1 k_) ∨ w.heap.size ≤ k_)) (.slice A1 l1.length c1) l1 from Kd.V_mono hs1 (fun k_ hk => .inl (.inr hk)))
  have HL := Aside0.mk h2
  have HF := Aside0.mk (crash_right (l1.length + 1) l0 l1 (List.replicate l1.length true) h1 h2 (by omega))
  clear hs0 hs1 h1 h2
  go_enter Tryd.func64, Tryd.ntmps64
  go_wp2_with (first
    | ((with_reducible refine gate_dst (N := 1) rfl ?_); refine box_event rfl (N := 1) rfl (cs := #[.slice A0 l0.length c0, .slice A1 l1.length c1]) (t := 25) (by first | (go_simp; done) | (go_simp; rfl)) ?_; intro gb hgb w1 hbox1 hb1; have HX1 := Aside0.mk hbox1; have HB1 := Aside0.mk hb1; have HGB := Aside0.mk hgb; clear hbox1 hb1 hgb)
    | ((with_reducible refine gate_dst (N := 2) rfl ?_); refine box_event rfl (N := 2) rfl (cs := #[.slice none 0 0, .slice none 0 0]) (t := 25) (by first | (go_simp; done) | (go_simp; rfl)) ?_; intro gr hgr w2 hbox2 hb2; have HX := Aside0.mk (blk_below HX1.out hb2); have HY := Aside0.mk hbox2; have HB := Aside0.mk (below_step HB1.out hb2); have HGE := Aside0.mk (show w.heap.size ≤ gr by have h1 := blk_lt HX1.out; have h2 := HGB.out; omega); clear hbox2 hb2 hgr HX1 HB1))
  have q0 : w2.cell? ⟨gb, 0, none⟩ = some (.slice A0 l0.length c0) := (blk_cell HX.out 0).trans rfl
  have q1 : w2.cell? ⟨gb, 1, none⟩ = some (.slice A1 l1.length c1) := (blk_cell HX.out 1).trans rfl
  refine start_ (n := 11) (S := fun w' => w'.cell? ⟨gb, 0, none⟩ = some (.slice A0 l0.length c0) ∧ w'.cell? ⟨gb, 1, none⟩ = some (.slice A1 l1.length c1)) (ds := [9]) #[false, false, false, false, false, false, false, false, false, false, false] (by kernel_rfl) rfl rfl ⟨q0, q1⟩ (fun hHeld => ?_)
  generalize hw4_ : w2.drew = w4 at hHeld ⊢
  have HX' := Aside0.mk (blk_drew HX.out); rw [hw4_] at HX'
  have HY' := Aside0.mk (blk_drew HY.out); rw [hw4_] at HY'
  have HB' := Aside0.mk (below_drew1 HB.out); rw [hw4_] at HB'
  clear HX HY HB q0 q1 hw4_
  refine take_ (i := 0) (N := some 4) (v := ?_) (a' := ?_) #[true, false, false, false, false, false, false, false, false, false, false] rfl rfl (by kernel_rfl) (fun _ _ _ h => h) (Or.inl ⟨by rfl, ?_⟩) hHeld ?_ ?_
  rotate_left
  · rintro w' ⟨s0, s1⟩; go_simp; with_reducible rfl
  rotate_left
  · simp only [Act.put, List.setIfInBounds_toArray, List.set_cons_zero, List.set_cons_succ, i64_w, i32_w]; rfl
  refine pure_ (i := 2) (N := some 6) (v := ?_) (a' := ?_) #[true, false, true, false, false, false, false, false, false, false, false] rfl rfl (by kernel_rfl) (fun _ _ _ h => h) (Or.inl ⟨by rfl, ?_⟩) ?_ ?_
  rotate_left
  · intro w'; go_simp; with_reducible rfl
  rotate_left
  · simp only [Act.put, List.setIfInBounds_toArray, List.set_cons_zero, List.set_cons_succ, i64_w, i32_w]; rfl
  refine take_ (i := 3) (N := some 7) (v := ?_) (a' := ?_) #[true, false, true, true, false, false, false, false, false, false, false] rfl rfl (by kernel_rfl) (fun _ _ _ h => h) (Or.inl ⟨by rfl, ?_⟩) hHeld ?_ ?_
  rotate_left
  · rintro w' ⟨s0, s1⟩; go_simp; with_reducible rfl
  rotate_left
  · simp only [Act.put, List.setIfInBounds_toArray, List.set_cons_zero, List.set_cons_succ, i64_w, i32_w]; rfl
  refine pure_ (i := 4) (N := some 8) (v := ?_) (a' := ?_) #[true, false, true, true, true, false, false, false, false, false, false] rfl rfl (by kernel_rfl) (fun _ _ _ h => h) (Or.inl ⟨by rfl, ?_⟩) ?_ ?_
  rotate_left
  · intro w'; go_simp; with_reducible rfl
  rotate_left
  · simp only [Act.put, List.setIfInBounds_toArray, List.set_cons_zero, List.set_cons_succ, i64_w, i32_w]; rfl
  refine one_ (i := 1) (N := some 5) #[true, true, true, true, true, false, false, false, false, false, false] rfl rfl (by kernel_rfl) (by decide) (fun K hK => ?_)
  refine value_ (w1 := ?_) (v := ?_) (by rfl) rfl ?_ ?_
  rotate_left 2
  · go_simp; constructor; · rfl
    · rfl
  refine hK.out _ _ ⟨(blk_cell (blk_alloc HX'.out _) 0).trans rfl, (blk_cell (blk_alloc HX'.out _) 1).trans rfl⟩ (fun hHeld => ?_)
  clear hK K
  refine norm_ (a' := ?_) ?_ ?_
  rotate_left
  · show Act.put _ (some 5) _ = _; simp only [Act.put, List.setIfInBounds_toArray, List.set_cons_zero, List.set_cons_succ, i64_w, i32_w]; rfl
  refine one_ (i := 5) (N := some 9) #[true, true, true, true, true, true, false, false, false, false, false] rfl rfl (by kernel_rfl) (by decide) (fun K hK => ?_)
  refine goes_ Tryd.func65 (by kernel_rfl) rfl #[.slice (some ⟨w4.heap.size, 0, none⟩) 1 1, .int .i64 l1.length] (by rfl) rfl rfl (by (try simp only [List.map_toArray, List.map_cons, List.map_nil]); first | done | rfl) ?_
  refine (repeat_true w4.heap.size l1.length _ (blk_new w4 _) HL.out).mono ?_
  rintro e w5 ⟨vb, rfl, hRb, hB5⟩
  refine ⟨_, rfl, ?_⟩
  have HX5 := Aside0.mk (blk_below (g := gb) (blk_alloc HX'.out _) hB5)
  have HY5 := Aside0.mk (blk_below (g := gr) (blk_alloc HY'.out _) hB5)
  have HB5 := Aside0.mk (below_step (below_alloc HB'.out _) hB5)
  obtain ⟨Ab, cb, eb, hcb, hCb⟩ := Kd.R_reads hRb
  subst eb
  have hlb : (List.replicate l1.length true).length = l1.length := List.length_replicate
  refine hK.out _ _ ⟨(blk_cell HX5.out 0).trans rfl, (blk_cell HX5.out 1).trans rfl⟩ (fun hHeld => ?_)
  clear hK K
  refine norm_ (a' := ?_) ?_ ?_
  rotate_left
  · show Act.put _ (some 9) _ = _; simp only [Act.put, List.setIfInBounds_toArray, List.set_cons_zero, List.set_cons_succ, i64_w, i32_w]; rfl
  refine one_ (i := 6) (N := some 10) #[true, true, true, true, true, true, true, false, false, false, false] rfl rfl (by kernel_rfl) (by decide) (fun K hK => ?_)
  refine goes_ Tryd.func21 (by kernel_rfl) rfl #[.agg #[.slice A0 l0.length c0, .slice A1 l1.length c1], .slice Ab (List.replicate l1.length true).length cb] (by rfl) rfl rfl (by (try simp only [List.map_toArray, List.map_cons, List.map_nil]); first | done | rfl) ?_
  refine (disk_Crash.calls (l1.length + 1) A0 c0 l0 A1 c1 l1 Ab cb (List.replicate l1.length true) _ _ _ w5 (Kd.C_below (Kd.V_reads' HO0.out).2.2 HB5.out) (Kd.V_reads' HO0.out).2.1 (Kd.C_below (Kd.V_reads' HO1.out).2.2 HB5.out) (Kd.V_reads' HO1.out).2.1 hCb hcb HF.out).mono ?_
  rintro e w6 ⟨v0, v1, rfl, hR0, hR1, hB6⟩
  refine ⟨_, rfl, ?_⟩
  have HX6 := Aside0.mk (blk_below HX5.out hB6)
  have HY6 := Aside0.mk (blk_below HY5.out hB6)
  have HB6 := Aside0.mk (below_step HB5.out hB6)
  have hlt := blk_lt HY5.out
  obtain ⟨A6, c6, rfl⟩ := Kd.R_slice hR0
  obtain ⟨A7, c7, rfl⟩ := Kd.R_slice hR1
  refine hK.out _ _ ⟨(blk_cell HX6.out 0).trans rfl, (blk_cell HX6.out 1).trans rfl⟩ (fun hHeld => ?_)
  clear hK K
  refine norm_ (a' := ?_) ?_ ?_
  rotate_left
  · show Act.put _ (some 10) _ = _; simp only [Act.put, List.setIfInBounds_toArray, List.set_cons_zero, List.set_cons_succ, i64_w, i32_w]; rfl
  refine pure_ (i := 7) (N := some 11) (v := ?_) (a' := ?_) #[true, true, true, true, true, true, true, true, false, false, false] rfl rfl (by kernel_rfl) (fun _ _ _ h => h) (Or.inl ⟨by rfl, ?_⟩) ?_ ?_
  rotate_left
  · intro w'; go_simp; with_reducible rfl
  rotate_left
  · simp only [Act.put, List.setIfInBounds_toArray, List.set_cons_zero, List.set_cons_succ, i64_w, i32_w]; rfl
  refine pure_ (i := 8) (N := some 12) (v := ?_) (a' := ?_) #[true, true, true, true, true, true, true, true, true, false, false] rfl rfl (by kernel_rfl) (fun _ _ _ h => h) (Or.inl ⟨by rfl, ?_⟩) ?_ ?_
  rotate_left
  · intro w'; go_simp; with_reducible rfl
  rotate_left
  · simp only [Act.put, List.setIfInBounds_toArray, List.set_cons_zero, List.set_cons_succ, i64_w, i32_w]; rfl
  refine last_ (i := 9) (N := none) #[true, true, true, true, true, true, true, true, true, true, false] rfl rfl (by kernel_rfl) (by decide) (fun K hK => ?_)
  have p0 := (blk_cell HY6.out 0).trans rfl
  have p1 := (blk_cell HY6.out 1).trans rfl
  have p2 := blk_frozen HY6.out 0
  have p3 := blk_frozen HY6.out 1
  refine skip_ (w1 := ?_) (by rfl) rfl ?_ ?_
  rotate_left
  · go_simp; rfl
  refine hK.out _ _ ?_
  clear hK K
  refine pure_ (i := 10) (N := some 3) (v := ?_) (a' := ?_) #[true, true, true, true, true, true, true, true, true, true, true] rfl rfl (by kernel_rfl) (fun _ _ _ h => h) (Or.inl ⟨by rfl, ?_⟩) ?_ ?_
  rotate_left
  · intro w'; go_simp; with_reducible rfl
  rotate_left
  · simp only [Act.put, List.setIfInBounds_toArray, List.set_cons_zero, List.set_cons_succ, i64_w, i32_w]; rfl
  refine done_ (by kernel_rfl) ?_
  go_wp2
  have e2 := blk_put (cs' := #[.slice A6 (crashL l1 (List.replicate l1.length true) l0).length c6, .slice none 0 0]) HY6.out 0 (.slice A6 (crashL l1 (List.replicate l1.length true) l0).length c6) rfl
  have e3 := blk_put (cs' := #[.slice A6 (crashL l1 (List.replicate l1.length true) l0).length c6, .slice A7 ([] : List S42).length c7]) e2 1 (.slice A7 ([] : List S42).length c7) rfl
  refine bodyPost_ret (results_ct rfl _ _ gr 25 #[.slice A6 (crashL l1 (List.replicate l1.length true) l0).length c6, .slice A7 ([] : List S42).length c7] (0, 0) _ rfl e3 Tryd.underlying25 rfl (by kernel_rfl)) rfl ?_
  have hB8 := below_set (j := 1) (v := .slice A7 ([] : List S42).length c7) (below_set (j := 0) (v := .slice A6 (crashL l1 (List.replicate l1.length true) l0).length c6) HB6.out HGE.out) HGE.out
  have R0 := Kd.R_far (p := ⟨gr, 1, none⟩) (Kd.R_far (p := ⟨gr, 0, none⟩) (Kd.R_mono (Kd.R_bound hR0) (fun k hk => (⟨by have := hk.2.1; omega, Nat.le_trans (below_size HB5.out) hk.2.1⟩ : k ≠ gr ∧ w.heap.size ≤ k))) (fun _ hk => hk.1) (.slice A6 (crashL l1 (List.replicate l1.length true) l0).length c6)) (fun _ hk => hk.1) (.slice A7 ([] : List S42).length c7)
  have R1 := Kd.R_far (p := ⟨gr, 1, none⟩) (Kd.R_far (p := ⟨gr, 0, none⟩) (Kd.R_mono (Kd.R_bound hR1) (fun k hk => (⟨by have := hk.2.1; omega, Nat.le_trans (below_size HB5.out) hk.2.1⟩ : k ≠ gr ∧ w.heap.size ≤ k))) (fun _ hk => hk.1) (.slice A6 (crashL l1 (List.replicate l1.length true) l0).length c6)) (fun _ hk => hk.1) (.slice A7 ([] : List S42).length c7)
  exact ⟨_, _, rfl, Kd.V_mono (Kd.R_V (base' := w.heap.size) R0) (fun _ hk => .inr hk.2), Kd.V_mono (Kd.R_V (base' := w.heap.size) R1) (fun _ hk => .inr hk.2), hB8⟩

theorem flush1_calls (P0 : Nat → Prop) (A0 : Option Addr) (c0 : Nat) (l0 : List ByteArray) (P1 : Nat → Prop) (A1 : Option Addr) (c1 : Nat) (l1 : List S42) (r1 : List ByteArray) (r2 : List S42) (r3 : Int) (w : World)
    (hs0 : Kd.V Kd.string 9 w w.heap.size P0 (.slice A0 l0.length c0) l0) (hs1 : Kd.V k42 42 w w.heap.size P1 (.slice A1 l1.length c1) l1) (hf : flush1F l0 l1 = some (r1, r2, r3)) :
    Calls Tryd.prog 64 #[.agg #[.slice A0 l0.length c0, .slice A1 l1.length c1]] w (DiskOut w P0 P1 r1 r2 r3) := by
  unfold flush1F at hf
  by_cases h1 : rightB l0 l1 = true
  · rw [if_pos h1] at hf
    by_cases h2 : l1.length ≤ 4294967295
    · rw [if_pos h2] at hf; cases hf
      exact flush1_does P0 A0 c0 l0 P1 A1 c1 l1 w hs0 hs1 h1 h2
    · rw [if_neg h2] at hf; cases hf
  · rw [if_neg h1] at hf; cases hf
end Go.Proofs.YtniplmjbligmlaaDoor.Q

/-! disk.call at disk.Flush's closure. -/
namespace Go.Proofs.YtniplmjbligmlaaDoor.Q
open Go.RowKit Go.Proofs.YtniplmjbligmlaaDoorW.PrintWords Go.Proofs.YtniplmjbligmlaaDoorW.PrintLast Go.Proofs.YtniplmjbligmlaaDoorW.PrintMore Go.Proofs.YtniplmjbligmlaaDoor.Base
set_option linter.unusedVariables false
set_option linter.unusedSimpArgs false

set_option maxHeartbeats 4000000 in
set_option maxRecDepth 100000 in
theorem call_f_down (P0 : Nat → Prop) (A0 : Option Addr) (c0 : Nat) (l0 : List ByteArray) (P1 : Nat → Prop) (A1 : Option Addr) (c1 : Nat) (l1 : List S42) (left : Int)  (w : World)
    (hs0 : Kd.V Kd.string 9 w w.heap.size P0 (.slice A0 l0.length c0) l0) (hs1 : Kd.V k42 42 w w.heap.size P1 (.slice A1 l1.length c1) l1)
     (h1 : left = 0) :
    Calls Tryd.prog 57 #[.agg #[.slice A0 l0.length c0, .slice A1 l1.length c1, .int .i64 left], .func (.func 64) #[] #[]] w (PowerOut w P0 P1 l0 l1 left 21) := by
  have HS0 := Aside0.mk hs0
  have HS1 := Aside0.mk hs1
  clear hs0 hs1
  subst h1
  go_enter Tryd.func57, Tryd.ntmps57
  go_wp2_with (first
    | ((with_reducible refine gate_dst (N := 2) rfl ?_); refine box_event rfl (N := 2) rfl (cs := #[.slice A0 l0.length c0, .slice A1 l1.length c1, .int .i64 0]) (t := 46) (by first | (go_simp; done) | (go_simp; rfl)) ?_; intro gb hgb w1 hbox1 hb1; have HX1 := Aside0.mk hbox1; have HB1 := Aside0.mk hb1; have HGB := Aside0.mk (Nat.le_of_eq hgb.symm); clear hbox1 hb1 hgb)
    | ((with_reducible refine gate_dst (N := 4) rfl ?_); refine box_event rfl (N := 4) rfl (cs := #[.slice none 0 0, .slice none 0 0, .int .i64 0]) (t := 46) (by first | (go_simp; done) | (go_simp; rfl)) ?_; intro gr hgr w2 hbox2 hb2; have HX2 := Aside0.mk (blk_below HX1.out hb2); have HY2 := Aside0.mk hbox2; have HB2 := Aside0.mk (below_step HB1.out hb2); have HGE := Aside0.mk (show w.heap.size ≤ gr by have h1 := blk_lt HX1.out; have h2 := HGB.out; omega); have HNE := Aside0.mk (show gb ≠ gr by have h1 := blk_lt HX1.out; omega); have hne1 := HNE.out; have hne2 := hne1.symm; have x0 := (blk_cell HX2.out 0).trans rfl; have x1 := (blk_cell HX2.out 1).trans rfl; have x2 := (blk_cell HX2.out 2).trans rfl; have y0 := (blk_cell HY2.out 0).trans rfl; have y1 := (blk_cell HY2.out 1).trans rfl; have y2 := (blk_cell HY2.out 2).trans rfl; have y3 := blk_frozen HY2.out 0; have y4 := blk_frozen HY2.out 1; have y5 := blk_frozen HY2.out 2; clear hbox2 hb2 hgr HX1 HB1))
  have e0 := blk_put (cs' := #[.slice A0 l0.length c0, .slice none 0 0, .int .i64 0]) HY2.out 0 (.slice A0 l0.length c0) rfl
  have e1 := blk_put (cs' := #[.slice A0 l0.length c0, .slice A1 l1.length c1, .int .i64 0]) e0 1 (.slice A1 l1.length c1) rfl
  have e2 := blk_put (cs' := #[.slice A0 l0.length c0, .slice A1 l1.length c1, .int .i64 0]) e1 2 (.int .i64 0) rfl
  have hB8 := below_set (j := 2) (v := .int .i64 0) (below_set (j := 1) (v := .slice A1 l1.length c1) (below_set (j := 0) (v := .slice A0 l0.length c0) HB2.out HGE.out) HGE.out) HGE.out
  refine bodyPost_ret (results_ct rfl _ _ gr 46 #[.slice A0 l0.length c0, .slice A1 l1.length c1, .int .i64 0] (0, 0) _ rfl e2 Tryd.underlying46 rfl (by kernel_rfl)) rfl ?_
  exact ⟨_, _, rfl, Kd.V_mono (Kd.V_below HS0.out hB8) (fun _ hk => .inl (.inl hk)), Kd.V_mono (Kd.V_below HS1.out hB8) (fun _ hk => .inl (.inr hk)), hB8⟩

set_option maxHeartbeats 4000000 in
set_option maxRecDepth 100000 in
theorem call_f_wrong (P0 : Nat → Prop) (A0 : Option Addr) (c0 : Nat) (l0 : List ByteArray) (P1 : Nat → Prop) (A1 : Option Addr) (c1 : Nat) (l1 : List S42) (left : Int)  (w : World)
    (hs0 : Kd.V Kd.string 9 w w.heap.size P0 (.slice A0 l0.length c0) l0) (hs1 : Kd.V k42 42 w w.heap.size P1 (.slice A1 l1.length c1) l1)
     (h1 : ¬ left = 0) (h2 : rightB l0 l1 = false) :
    Calls Tryd.prog 57 #[.agg #[.slice A0 l0.length c0, .slice A1 l1.length c1, .int .i64 left], .func (.func 64) #[] #[]] w (PowerOut w P0 P1 l0 l1 left 1) := by
  have HS0 := Aside0.mk hs0
  have HS1 := Aside0.mk hs1
  clear hs0 hs1
  have z1 : decide (left = 0) = false := decide_eq_false h1
  have z2 : (left == 0) = false := by simp [h1]
  have HR := Aside0.mk (show disk_Right.f l0 l1 = some false by unfold disk_Right.f; rw [h2])
  clear h2
  go_enter Tryd.func57, Tryd.ntmps57
  go_wp2_with (first
    | ((with_reducible refine gate_dst (N := 2) rfl ?_); refine box_event rfl (N := 2) rfl (cs := #[.slice A0 l0.length c0, .slice A1 l1.length c1, .int .i64 left]) (t := 46) (by first | (go_simp; done) | (go_simp; rfl)) ?_; intro gb hgb w1 hbox1 hb1; have HX1 := Aside0.mk hbox1; have HB1 := Aside0.mk hb1; have HGB := Aside0.mk (Nat.le_of_eq hgb.symm); clear hbox1 hb1 hgb)
    | ((with_reducible refine gate_dst (N := 4) rfl ?_); refine box_event rfl (N := 4) rfl (cs := #[.slice none 0 0, .slice none 0 0, .int .i64 0]) (t := 46) (by first | (go_simp; done) | (go_simp; rfl)) ?_; intro gr hgr w2 hbox2 hb2; have HX2 := Aside0.mk (blk_below HX1.out hb2); have HY2 := Aside0.mk hbox2; have HB2 := Aside0.mk (below_step HB1.out hb2); have HGE := Aside0.mk (show w.heap.size ≤ gr by have h1 := blk_lt HX1.out; have h2 := HGB.out; omega); have HNE := Aside0.mk (show gb ≠ gr by have h1 := blk_lt HX1.out; omega); have hne1 := HNE.out; have hne2 := hne1.symm; have x0 := (blk_cell HX2.out 0).trans rfl; have x1 := (blk_cell HX2.out 1).trans rfl; have x2 := (blk_cell HX2.out 2).trans rfl; have y0 := (blk_cell HY2.out 0).trans rfl; have y1 := (blk_cell HY2.out 1).trans rfl; have y2 := (blk_cell HY2.out 2).trans rfl; have y3 := blk_frozen HY2.out 0; have y4 := blk_frozen HY2.out 1; have y5 := blk_frozen HY2.out 2; clear hbox2 hb2 hgr HX1 HB1)
    | (go_at_call 18; refine (disk_Right.calls A0 c0 l0 A1 c1 l1 _ w2 (Kd.C_below (Kd.V_reads' HS0.out).2.2 HB2.out) (Kd.V_reads' HS0.out).2.1 (Kd.C_below (Kd.V_reads' HS1.out).2.2 HB2.out) (Kd.V_reads' HS1.out).2.1 HR.out).mono ?_; rintro e w3 ⟨rfl, hb3⟩; clear x0 x1 x2 y0 y1 y2 y3 y4 y5; have HX3 := Aside0.mk (blk_below HX2.out hb3); have HY3 := Aside0.mk (blk_below HY2.out hb3); have HB3 := Aside0.mk (below_step HB2.out hb3); have x0 := (blk_cell HX3.out 0).trans rfl; have x1 := (blk_cell HX3.out 1).trans rfl; have x2 := (blk_cell HX3.out 2).trans rfl; have y0 := (blk_cell HY3.out 0).trans rfl; have y1 := (blk_cell HY3.out 1).trans rfl; have y2 := (blk_cell HY3.out 2).trans rfl; have y3 := blk_frozen HY3.out 0; have y4 := blk_frozen HY3.out 1; have y5 := blk_frozen HY3.out 2; clear HX2 HY2 HB2 hb3))
  have e0 := blk_put (cs' := #[.slice A0 l0.length c0, .slice none 0 0, .int .i64 0]) HY3.out 0 (.slice A0 l0.length c0) rfl
  have e1 := blk_put (cs' := #[.slice A0 l0.length c0, .slice A1 l1.length c1, .int .i64 0]) e0 1 (.slice A1 l1.length c1) rfl
  have e2 := blk_put (cs' := #[.slice A0 l0.length c0, .slice A1 l1.length c1, .int .i64 left]) e1 2 (.int .i64 left) rfl
  have hB8 := below_set (j := 2) (v := .int .i64 left) (below_set (j := 1) (v := .slice A1 l1.length c1) (below_set (j := 0) (v := .slice A0 l0.length c0) HB3.out HGE.out) HGE.out) HGE.out
  refine bodyPost_ret (results_ct rfl _ _ gr 46 #[.slice A0 l0.length c0, .slice A1 l1.length c1, .int .i64 left] (0, 0) _ rfl e2 Tryd.underlying46 rfl (by kernel_rfl)) rfl ?_
  exact ⟨_, _, rfl, Kd.V_mono (Kd.V_below HS0.out hB8) (fun _ hk => .inl (.inl hk)), Kd.V_mono (Kd.V_below HS1.out hB8) (fun _ hk => .inl (.inr hk)), hB8⟩

set_option maxHeartbeats 4000000 in
set_option maxRecDepth 100000 in
theorem call_f_bad (P0 : Nat → Prop) (A0 : Option Addr) (c0 : Nat) (l0 : List ByteArray) (P1 : Nat → Prop) (A1 : Option Addr) (c1 : Nat) (l1 : List S42) (left : Int)  (w : World)
    (hs0 : Kd.V Kd.string 9 w w.heap.size P0 (.slice A0 l0.length c0) l0) (hs1 : Kd.V k42 42 w w.heap.size P1 (.slice A1 l1.length c1) l1)
     (r1 : List ByteArray) (r2 : List S42) (r3 : Int) (h1 : ¬ left = 0) (h2 : rightB l0 l1 = true) (hf : flush1F l0 l1 = some (r1, r2, r3)) (h3 : ¬ r3 = 0) :
    Calls Tryd.prog 57 #[.agg #[.slice A0 l0.length c0, .slice A1 l1.length c1, .int .i64 left], .func (.func 64) #[] #[]] w (PowerOut w P0 P1 l0 l1 left r3) := by
  have HS0 := Aside0.mk hs0
  have HS1 := Aside0.mk hs1
  clear hs0 hs1
  have z1 : decide (left = 0) = false := decide_eq_false h1
  have z2 : (left == 0) = false := by simp [h1]
  have z3 : decide (r3 = 0) = false := decide_eq_false h3
  have z4 : (r3 == 0) = false := by simp [h3]
  have z5 : (r3 != 0) = true := by simp [h3]
  have HF := Aside0.mk hf
  clear hf h3
  have HR := Aside0.mk (show disk_Right.f l0 l1 = some true by unfold disk_Right.f; rw [h2])
  clear h2
  go_enter Tryd.func57, Tryd.ntmps57
  go_wp2_with (first
    | ((with_reducible refine gate_dst (N := 2) rfl ?_); refine box_event rfl (N := 2) rfl (cs := #[.slice A0 l0.length c0, .slice A1 l1.length c1, .int .i64 left]) (t := 46) (by first | (go_simp; done) | (go_simp; rfl)) ?_; intro gb hgb w1 hbox1 hb1; have HX1 := Aside0.mk hbox1; have HB1 := Aside0.mk hb1; have HGB := Aside0.mk (Nat.le_of_eq hgb.symm); clear hbox1 hb1 hgb)
    | ((with_reducible refine gate_dst (N := 4) rfl ?_); refine box_event rfl (N := 4) rfl (cs := #[.slice none 0 0, .slice none 0 0, .int .i64 0]) (t := 46) (by first | (go_simp; done) | (go_simp; rfl)) ?_; intro gr hgr w2 hbox2 hb2; have HX2 := Aside0.mk (blk_below HX1.out hb2); have HY2 := Aside0.mk hbox2; have HB2 := Aside0.mk (below_step HB1.out hb2); have HGE := Aside0.mk (show w.heap.size ≤ gr by have h1 := blk_lt HX1.out; have h2 := HGB.out; omega); have HNE := Aside0.mk (show gb ≠ gr by have h1 := blk_lt HX1.out; omega); have hne1 := HNE.out; have hne2 := hne1.symm; have x0 := (blk_cell HX2.out 0).trans rfl; have x1 := (blk_cell HX2.out 1).trans rfl; have x2 := (blk_cell HX2.out 2).trans rfl; have y0 := (blk_cell HY2.out 0).trans rfl; have y1 := (blk_cell HY2.out 1).trans rfl; have y2 := (blk_cell HY2.out 2).trans rfl; have y3 := blk_frozen HY2.out 0; have y4 := blk_frozen HY2.out 1; have y5 := blk_frozen HY2.out 2; clear hbox2 hb2 hgr HX1 HB1)
    | (go_at_call 18; refine (disk_Right.calls A0 c0 l0 A1 c1 l1 _ w2 (Kd.C_below (Kd.V_reads' HS0.out).2.2 HB2.out) (Kd.V_reads' HS0.out).2.1 (Kd.C_below (Kd.V_reads' HS1.out).2.2 HB2.out) (Kd.V_reads' HS1.out).2.1 HR.out).mono ?_; rintro e w3 ⟨rfl, hb3⟩; clear x0 x1 x2 y0 y1 y2 y3 y4 y5; have HX3 := Aside0.mk (blk_below HX2.out hb3); have HY3 := Aside0.mk (blk_below HY2.out hb3); have HB3 := Aside0.mk (below_step HB2.out hb3); have x0 := (blk_cell HX3.out 0).trans rfl; have x1 := (blk_cell HX3.out 1).trans rfl; have x2 := (blk_cell HX3.out 2).trans rfl; have y0 := (blk_cell HY3.out 0).trans rfl; have y1 := (blk_cell HY3.out 1).trans rfl; have y2 := (blk_cell HY3.out 2).trans rfl; have y3 := blk_frozen HY3.out 0; have y4 := blk_frozen HY3.out 1; have y5 := blk_frozen HY3.out 2; clear HX2 HY2 HB2 hb3))
  refine (flush1_calls (fun k => P0 k ∧ k < w.heap.size) A0 c0 l0 (fun k => P1 k ∧ k < w.heap.size) A1 c1 l1 _ _ _ w3 (Kd.V_below (Kd.V_bound HS0.out) HB3.out) (Kd.V_below (Kd.V_bound HS1.out) HB3.out) HF.out).mono ?_; rintro e w4 ⟨v0, v1, rfl, hv0, hv1, hb4⟩; obtain ⟨A2, c2, rfl⟩ := Kd.V_slice hv0; obtain ⟨A3, c3, rfl⟩ := Kd.V_slice hv1; clear x0 x1 x2 y0 y1 y2 y3 y4 y5; have HV0 := Aside0.mk (vq hv0 HGB.out HX3.out HGE.out HY3.out); have HV1 := Aside0.mk (vq hv1 HGB.out HX3.out HGE.out HY3.out); have HX4 := Aside0.mk (blk_below HX3.out hb4); have HY4 := Aside0.mk (blk_below HY3.out hb4); have HB4 := Aside0.mk (below_step HB3.out hb4); clear HX3 HY3 HB3 hb4 hv0 hv1
  go_wp2_with ((with_reducible refine gate_dst (N := 6) rfl ?_); refine box_event rfl (N := 6) rfl (cs := #[.slice none 0 0, .slice none 0 0]) (t := 25) (by first | (go_simp; done) | (go_simp; rfl)) ?_; intro gd hgd w5 hbox5 hb5; have HD5 := Aside0.mk hbox5; have HX5 := Aside0.mk (blk_below HX4.out hb5); have HY5 := Aside0.mk (blk_below HY4.out hb5); have HB5 := Aside0.mk (below_step HB4.out hb5); have hne3 : gb ≠ gd := (by have h1 := blk_lt HX4.out; omega); have hne4 := hne3.symm; have hne5 : gr ≠ gd := (by have h1 := blk_lt HY4.out; omega); have hne6 := hne5.symm; have HGD := Aside0.mk (show w.heap.size ≤ gd by have h1 := below_size HB4.out; omega); have HW0 := Aside0.mk (Kd.V_below (Kd.V_mono HV0.out (fun k hk => (⟨hk.1, hk.2.1, hk.2.2.1, (by have h1 := hk.2.2.2; omega)⟩ : ((P0 k ∨ P1 k) ∨ w.heap.size ≤ k) ∧ k ≠ gb ∧ k ≠ gr ∧ k ≠ gd))) hb5); have HW1 := Aside0.mk (Kd.V_below (Kd.V_mono HV1.out (fun k hk => (⟨hk.1, hk.2.1, hk.2.2.1, (by have h1 := hk.2.2.2; omega)⟩ : ((P0 k ∨ P1 k) ∨ w.heap.size ≤ k) ∧ k ≠ gb ∧ k ≠ gr ∧ k ≠ gd))) hb5); have x0 := (blk_cell HX5.out 0).trans rfl; have x1 := (blk_cell HX5.out 1).trans rfl; have x2 := (blk_cell HX5.out 2).trans rfl; have x3 := blk_frozen HX5.out 0; have x4 := blk_frozen HX5.out 1; have x5 := blk_frozen HX5.out 2; have y0 := (blk_cell HY5.out 0).trans rfl; have y1 := (blk_cell HY5.out 1).trans rfl; have y2 := (blk_cell HY5.out 2).trans rfl; have y3 := blk_frozen HY5.out 0; have y4 := blk_frozen HY5.out 1; have y5 := blk_frozen HY5.out 2; have u0 := (blk_cell HD5.out 0).trans rfl; have u1 := (blk_cell HD5.out 1).trans rfl; have u3 := blk_frozen HD5.out 0; have u4 := blk_frozen HD5.out 1; clear HX4 HY4 HB4 hb5 hbox5 hgd HV0 HV1)
  have q0 := blk_far HY5.out (p := ⟨gd, 0, none⟩) hne5 (.slice A2 r1.length c2)
  have q1 := blk_far q0 (p := ⟨gd, 1, none⟩) hne5 (.slice A3 r2.length c3)
  have q2 := blk_put (cs' := #[.slice A0 l0.length c0, .slice none 0 0, .int .i64 0]) q1 0 (.slice A0 l0.length c0) rfl
  have q3 := blk_put (cs' := #[.slice A0 l0.length c0, .slice A1 l1.length c1, .int .i64 0]) q2 1 (.slice A1 l1.length c1) rfl
  have q4 := blk_put (cs' := #[.slice A0 l0.length c0, .slice A1 l1.length c1, .int .i64 left]) q3 2 (.int .i64 left) rfl
  have hB8 := below_set (j := 2) (v := .int .i64 left) (below_set (j := 1) (v := .slice A1 l1.length c1) (below_set (j := 0) (v := .slice A0 l0.length c0) (below_set (j := 1) (v := .slice A3 r2.length c3) (below_set (j := 0) (v := .slice A2 r1.length c2) (HB5.out) HGD.out) HGD.out) HGE.out) HGE.out) HGE.out
  refine bodyPost_ret (results_ct rfl _ _ gr 46 #[.slice A0 l0.length c0, .slice A1 l1.length c1, .int .i64 left] (0, 0) _ rfl q4 Tryd.underlying46 rfl (by kernel_rfl)) rfl ?_
  exact ⟨_, _, rfl, Kd.V_mono (Kd.V_below HS0.out hB8) (fun _ hk => .inl (.inl hk)), Kd.V_mono (Kd.V_below HS1.out hB8) (fun _ hk => .inl (.inr hk)), hB8⟩

set_option maxHeartbeats 4000000 in
set_option maxRecDepth 100000 in
theorem call_f_okneg (P0 : Nat → Prop) (A0 : Option Addr) (c0 : Nat) (l0 : List ByteArray) (P1 : Nat → Prop) (A1 : Option Addr) (c1 : Nat) (l1 : List S42) (left : Int)  (w : World)
    (hs0 : Kd.V Kd.string 9 w w.heap.size P0 (.slice A0 l0.length c0) l0) (hs1 : Kd.V k42 42 w w.heap.size P1 (.slice A1 l1.length c1) l1)
     (r1 : List ByteArray) (r2 : List S42) (h1 : ¬ left = 0) (h2 : rightB l0 l1 = true) (hf : flush1F l0 l1 = some (r1, r2, 0)) (h3 : ¬ left > 0) :
    Calls Tryd.prog 57 #[.agg #[.slice A0 l0.length c0, .slice A1 l1.length c1, .int .i64 left], .func (.func 64) #[] #[]] w (PowerOut w P0 P1 r1 r2 left 0) := by
  have HS0 := Aside0.mk hs0
  have HS1 := Aside0.mk hs1
  clear hs0 hs1
  have z1 : decide (left = 0) = false := decide_eq_false h1
  have z2 : (left == 0) = false := by simp [h1]
  have z3 : decide (left > 0) = false := decide_eq_false h3
  have z4 : decide (0 < left) = false := decide_eq_false h3
  have HF := Aside0.mk hf
  clear hf h3
  have HR := Aside0.mk (show disk_Right.f l0 l1 = some true by unfold disk_Right.f; rw [h2])
  clear h2
  go_enter Tryd.func57, Tryd.ntmps57
  go_wp2_with (first
    | ((with_reducible refine gate_dst (N := 2) rfl ?_); refine box_event rfl (N := 2) rfl (cs := #[.slice A0 l0.length c0, .slice A1 l1.length c1, .int .i64 left]) (t := 46) (by first | (go_simp; done) | (go_simp; rfl)) ?_; intro gb hgb w1 hbox1 hb1; have HX1 := Aside0.mk hbox1; have HB1 := Aside0.mk hb1; have HGB := Aside0.mk (Nat.le_of_eq hgb.symm); clear hbox1 hb1 hgb)
    | ((with_reducible refine gate_dst (N := 4) rfl ?_); refine box_event rfl (N := 4) rfl (cs := #[.slice none 0 0, .slice none 0 0, .int .i64 0]) (t := 46) (by first | (go_simp; done) | (go_simp; rfl)) ?_; intro gr hgr w2 hbox2 hb2; have HX2 := Aside0.mk (blk_below HX1.out hb2); have HY2 := Aside0.mk hbox2; have HB2 := Aside0.mk (below_step HB1.out hb2); have HGE := Aside0.mk (show w.heap.size ≤ gr by have h1 := blk_lt HX1.out; have h2 := HGB.out; omega); have HNE := Aside0.mk (show gb ≠ gr by have h1 := blk_lt HX1.out; omega); have hne1 := HNE.out; have hne2 := hne1.symm; have x0 := (blk_cell HX2.out 0).trans rfl; have x1 := (blk_cell HX2.out 1).trans rfl; have x2 := (blk_cell HX2.out 2).trans rfl; have y0 := (blk_cell HY2.out 0).trans rfl; have y1 := (blk_cell HY2.out 1).trans rfl; have y2 := (blk_cell HY2.out 2).trans rfl; have y3 := blk_frozen HY2.out 0; have y4 := blk_frozen HY2.out 1; have y5 := blk_frozen HY2.out 2; clear hbox2 hb2 hgr HX1 HB1)
    | (go_at_call 18; refine (disk_Right.calls A0 c0 l0 A1 c1 l1 _ w2 (Kd.C_below (Kd.V_reads' HS0.out).2.2 HB2.out) (Kd.V_reads' HS0.out).2.1 (Kd.C_below (Kd.V_reads' HS1.out).2.2 HB2.out) (Kd.V_reads' HS1.out).2.1 HR.out).mono ?_; rintro e w3 ⟨rfl, hb3⟩; clear x0 x1 x2 y0 y1 y2 y3 y4 y5; have HX3 := Aside0.mk (blk_below HX2.out hb3); have HY3 := Aside0.mk (blk_below HY2.out hb3); have HB3 := Aside0.mk (below_step HB2.out hb3); have x0 := (blk_cell HX3.out 0).trans rfl; have x1 := (blk_cell HX3.out 1).trans rfl; have x2 := (blk_cell HX3.out 2).trans rfl; have y0 := (blk_cell HY3.out 0).trans rfl; have y1 := (blk_cell HY3.out 1).trans rfl; have y2 := (blk_cell HY3.out 2).trans rfl; have y3 := blk_frozen HY3.out 0; have y4 := blk_frozen HY3.out 1; have y5 := blk_frozen HY3.out 2; clear HX2 HY2 HB2 hb3))
  refine (flush1_calls (fun k => P0 k ∧ k < w.heap.size) A0 c0 l0 (fun k => P1 k ∧ k < w.heap.size) A1 c1 l1 _ _ _ w3 (Kd.V_below (Kd.V_bound HS0.out) HB3.out) (Kd.V_below (Kd.V_bound HS1.out) HB3.out) HF.out).mono ?_; rintro e w4 ⟨v0, v1, rfl, hv0, hv1, hb4⟩; obtain ⟨A2, c2, rfl⟩ := Kd.V_slice hv0; obtain ⟨A3, c3, rfl⟩ := Kd.V_slice hv1; clear x0 x1 x2 y0 y1 y2 y3 y4 y5; have HV0 := Aside0.mk (vq hv0 HGB.out HX3.out HGE.out HY3.out); have HV1 := Aside0.mk (vq hv1 HGB.out HX3.out HGE.out HY3.out); have HX4 := Aside0.mk (blk_below HX3.out hb4); have HY4 := Aside0.mk (blk_below HY3.out hb4); have HB4 := Aside0.mk (below_step HB3.out hb4); clear HX3 HY3 HB3 hb4 hv0 hv1
  go_wp2_with ((with_reducible refine gate_dst (N := 6) rfl ?_); refine box_event rfl (N := 6) rfl (cs := #[.slice none 0 0, .slice none 0 0]) (t := 25) (by first | (go_simp; done) | (go_simp; rfl)) ?_; intro gd hgd w5 hbox5 hb5; have HD5 := Aside0.mk hbox5; have HX5 := Aside0.mk (blk_below HX4.out hb5); have HY5 := Aside0.mk (blk_below HY4.out hb5); have HB5 := Aside0.mk (below_step HB4.out hb5); have hne3 : gb ≠ gd := (by have h1 := blk_lt HX4.out; omega); have hne4 := hne3.symm; have hne5 : gr ≠ gd := (by have h1 := blk_lt HY4.out; omega); have hne6 := hne5.symm; have HGD := Aside0.mk (show w.heap.size ≤ gd by have h1 := below_size HB4.out; omega); have HW0 := Aside0.mk (Kd.V_below (Kd.V_mono HV0.out (fun k hk => (⟨hk.1, hk.2.1, hk.2.2.1, (by have h1 := hk.2.2.2; omega)⟩ : ((P0 k ∨ P1 k) ∨ w.heap.size ≤ k) ∧ k ≠ gb ∧ k ≠ gr ∧ k ≠ gd))) hb5); have HW1 := Aside0.mk (Kd.V_below (Kd.V_mono HV1.out (fun k hk => (⟨hk.1, hk.2.1, hk.2.2.1, (by have h1 := hk.2.2.2; omega)⟩ : ((P0 k ∨ P1 k) ∨ w.heap.size ≤ k) ∧ k ≠ gb ∧ k ≠ gr ∧ k ≠ gd))) hb5); have x0 := (blk_cell HX5.out 0).trans rfl; have x1 := (blk_cell HX5.out 1).trans rfl; have x2 := (blk_cell HX5.out 2).trans rfl; have x3 := blk_frozen HX5.out 0; have x4 := blk_frozen HX5.out 1; have x5 := blk_frozen HX5.out 2; have y0 := (blk_cell HY5.out 0).trans rfl; have y1 := (blk_cell HY5.out 1).trans rfl; have y2 := (blk_cell HY5.out 2).trans rfl; have y3 := blk_frozen HY5.out 0; have y4 := blk_frozen HY5.out 1; have y5 := blk_frozen HY5.out 2; have u0 := (blk_cell HD5.out 0).trans rfl; have u1 := (blk_cell HD5.out 1).trans rfl; have u3 := blk_frozen HD5.out 0; have u4 := blk_frozen HD5.out 1; clear HX4 HY4 HB4 hb5 hbox5 hgd HV0 HV1)
  have q0 := blk_far HY5.out (p := ⟨gd, 0, none⟩) hne5 (.slice A2 r1.length c2)
  have q1 := blk_far q0 (p := ⟨gd, 1, none⟩) hne5 (.slice A3 r2.length c3)
  have q2 := blk_far q1 (p := ⟨gb, 0, none⟩) hne2 (.slice A2 r1.length c2)
  have q3 := blk_far q2 (p := ⟨gb, 1, none⟩) hne2 (.slice A3 r2.length c3)
  have q4 := blk_put (cs' := #[.slice A2 r1.length c2, .slice none 0 0, .int .i64 0]) q3 0 (.slice A2 r1.length c2) rfl
  have q5 := blk_put (cs' := #[.slice A2 r1.length c2, .slice A3 r2.length c3, .int .i64 0]) q4 1 (.slice A3 r2.length c3) rfl
  have q6 := blk_put (cs' := #[.slice A2 r1.length c2, .slice A3 r2.length c3, .int .i64 left]) q5 2 (.int .i64 left) rfl
  have hB8 := below_set (j := 2) (v := .int .i64 left) (below_set (j := 1) (v := .slice A3 r2.length c3) (below_set (j := 0) (v := .slice A2 r1.length c2) (below_set (j := 1) (v := .slice A3 r2.length c3) (below_set (j := 0) (v := .slice A2 r1.length c2) (below_set (j := 1) (v := .slice A3 r2.length c3) (below_set (j := 0) (v := .slice A2 r1.length c2) (HB5.out) HGD.out) HGD.out) HGB.out) HGB.out) HGE.out) HGE.out) HGE.out
  refine bodyPost_ret (results_ct rfl _ _ gr 46 #[.slice A2 r1.length c2, .slice A3 r2.length c3, .int .i64 left] (0, 0) _ rfl q6 Tryd.underlying46 rfl (by kernel_rfl)) rfl ?_
  exact ⟨_, _, rfl, Kd.V_mono (Kd.V_far (p := ⟨gr, 2, none⟩) (Kd.V_far (p := ⟨gr, 1, none⟩) (Kd.V_far (p := ⟨gr, 0, none⟩) (Kd.V_far (p := ⟨gb, 1, none⟩) (Kd.V_far (p := ⟨gb, 0, none⟩) (Kd.V_far (p := ⟨gd, 1, none⟩) (Kd.V_far (p := ⟨gd, 0, none⟩) (HW0.out) (fun _ hk => hk.2.2.2) (.slice A2 r1.length c2)) (fun _ hk => hk.2.2.2) (.slice A3 r2.length c3)) (fun _ hk => hk.2.1) (.slice A2 r1.length c2)) (fun _ hk => hk.2.1) (.slice A3 r2.length c3)) (fun _ hk => hk.2.2.1) (.slice A2 r1.length c2)) (fun _ hk => hk.2.2.1) (.slice A3 r2.length c3)) (fun _ hk => hk.2.2.1) (.int .i64 left)) (fun _ hk => hk.1), Kd.V_mono (Kd.V_far (p := ⟨gr, 2, none⟩) (Kd.V_far (p := ⟨gr, 1, none⟩) (Kd.V_far (p := ⟨gr, 0, none⟩) (Kd.V_far (p := ⟨gb, 1, none⟩) (Kd.V_far (p := ⟨gb, 0, none⟩) (Kd.V_far (p := ⟨gd, 1, none⟩) (Kd.V_far (p := ⟨gd, 0, none⟩) (HW1.out) (fun _ hk => hk.2.2.2) (.slice A2 r1.length c2)) (fun _ hk => hk.2.2.2) (.slice A3 r2.length c3)) (fun _ hk => hk.2.1) (.slice A2 r1.length c2)) (fun _ hk => hk.2.1) (.slice A3 r2.length c3)) (fun _ hk => hk.2.2.1) (.slice A2 r1.length c2)) (fun _ hk => hk.2.2.1) (.slice A3 r2.length c3)) (fun _ hk => hk.2.2.1) (.int .i64 left)) (fun _ hk => hk.1), hB8⟩

set_option maxHeartbeats 4000000 in
set_option maxRecDepth 100000 in
theorem call_f_okpos (P0 : Nat → Prop) (A0 : Option Addr) (c0 : Nat) (l0 : List ByteArray) (P1 : Nat → Prop) (A1 : Option Addr) (c1 : Nat) (l1 : List S42) (left : Int)  (w : World)
    (hs0 : Kd.V Kd.string 9 w w.heap.size P0 (.slice A0 l0.length c0) l0) (hs1 : Kd.V k42 42 w w.heap.size P1 (.slice A1 l1.length c1) l1)
     (r1 : List ByteArray) (r2 : List S42) (h1 : ¬ left = 0) (h2 : rightB l0 l1 = true) (hf : flush1F l0 l1 = some (r1, r2, 0)) (h3 : left > 0) :
    Calls Tryd.prog 57 #[.agg #[.slice A0 l0.length c0, .slice A1 l1.length c1, .int .i64 left], .func (.func 64) #[] #[]] w (PowerOut w P0 P1 r1 r2 (wrap64 (left - 1)) 0) := by
  have HS0 := Aside0.mk hs0
  have HS1 := Aside0.mk hs1
  clear hs0 hs1
  have z1 : decide (left = 0) = false := decide_eq_false h1
  have z2 : (left == 0) = false := by simp [h1]
  have z3 : decide (left > 0) = true := decide_eq_true h3
  have z4 : decide (0 < left) = true := decide_eq_true h3
  have HF := Aside0.mk hf
  clear hf h3
  have HR := Aside0.mk (show disk_Right.f l0 l1 = some true by unfold disk_Right.f; rw [h2])
  clear h2
  go_enter Tryd.func57, Tryd.ntmps57
  go_wp2_with (first
    | ((with_reducible refine gate_dst (N := 2) rfl ?_); refine box_event rfl (N := 2) rfl (cs := #[.slice A0 l0.length c0, .slice A1 l1.length c1, .int .i64 left]) (t := 46) (by first | (go_simp; done) | (go_simp; rfl)) ?_; intro gb hgb w1 hbox1 hb1; have HX1 := Aside0.mk hbox1; have HB1 := Aside0.mk hb1; have HGB := Aside0.mk (Nat.le_of_eq hgb.symm); clear hbox1 hb1 hgb)
    | ((with_reducible refine gate_dst (N := 4) rfl ?_); refine box_event rfl (N := 4) rfl (cs := #[.slice none 0 0, .slice none 0 0, .int .i64 0]) (t := 46) (by first | (go_simp; done) | (go_simp; rfl)) ?_; intro gr hgr w2 hbox2 hb2; have HX2 := Aside0.mk (blk_below HX1.out hb2); have HY2 := Aside0.mk hbox2; have HB2 := Aside0.mk (below_step HB1.out hb2); have HGE := Aside0.mk (show w.heap.size ≤ gr by have h1 := blk_lt HX1.out; have h2 := HGB.out; omega); have HNE := Aside0.mk (show gb ≠ gr by have h1 := blk_lt HX1.out; omega); have hne1 := HNE.out; have hne2 := hne1.symm; have x0 := (blk_cell HX2.out 0).trans rfl; have x1 := (blk_cell HX2.out 1).trans rfl; have x2 := (blk_cell HX2.out 2).trans rfl; have y0 := (blk_cell HY2.out 0).trans rfl; have y1 := (blk_cell HY2.out 1).trans rfl; have y2 := (blk_cell HY2.out 2).trans rfl; have y3 := blk_frozen HY2.out 0; have y4 := blk_frozen HY2.out 1; have y5 := blk_frozen HY2.out 2; clear hbox2 hb2 hgr HX1 HB1)
    | (go_at_call 18; refine (disk_Right.calls A0 c0 l0 A1 c1 l1 _ w2 (Kd.C_below (Kd.V_reads' HS0.out).2.2 HB2.out) (Kd.V_reads' HS0.out).2.1 (Kd.C_below (Kd.V_reads' HS1.out).2.2 HB2.out) (Kd.V_reads' HS1.out).2.1 HR.out).mono ?_; rintro e w3 ⟨rfl, hb3⟩; clear x0 x1 x2 y0 y1 y2 y3 y4 y5; have HX3 := Aside0.mk (blk_below HX2.out hb3); have HY3 := Aside0.mk (blk_below HY2.out hb3); have HB3 := Aside0.mk (below_step HB2.out hb3); have x0 := (blk_cell HX3.out 0).trans rfl; have x1 := (blk_cell HX3.out 1).trans rfl; have x2 := (blk_cell HX3.out 2).trans rfl; have y0 := (blk_cell HY3.out 0).trans rfl; have y1 := (blk_cell HY3.out 1).trans rfl; have y2 := (blk_cell HY3.out 2).trans rfl; have y3 := blk_frozen HY3.out 0; have y4 := blk_frozen HY3.out 1; have y5 := blk_frozen HY3.out 2; clear HX2 HY2 HB2 hb3))
  refine (flush1_calls (fun k => P0 k ∧ k < w.heap.size) A0 c0 l0 (fun k => P1 k ∧ k < w.heap.size) A1 c1 l1 _ _ _ w3 (Kd.V_below (Kd.V_bound HS0.out) HB3.out) (Kd.V_below (Kd.V_bound HS1.out) HB3.out) HF.out).mono ?_; rintro e w4 ⟨v0, v1, rfl, hv0, hv1, hb4⟩; obtain ⟨A2, c2, rfl⟩ := Kd.V_slice hv0; obtain ⟨A3, c3, rfl⟩ := Kd.V_slice hv1; clear x0 x1 x2 y0 y1 y2 y3 y4 y5; have HV0 := Aside0.mk (vq hv0 HGB.out HX3.out HGE.out HY3.out); have HV1 := Aside0.mk (vq hv1 HGB.out HX3.out HGE.out HY3.out); have HX4 := Aside0.mk (blk_below HX3.out hb4); have HY4 := Aside0.mk (blk_below HY3.out hb4); have HB4 := Aside0.mk (below_step HB3.out hb4); clear HX3 HY3 HB3 hb4 hv0 hv1
  go_wp2_with ((with_reducible refine gate_dst (N := 6) rfl ?_); refine box_event rfl (N := 6) rfl (cs := #[.slice none 0 0, .slice none 0 0]) (t := 25) (by first | (go_simp; done) | (go_simp; rfl)) ?_; intro gd hgd w5 hbox5 hb5; have HD5 := Aside0.mk hbox5; have HX5 := Aside0.mk (blk_below HX4.out hb5); have HY5 := Aside0.mk (blk_below HY4.out hb5); have HB5 := Aside0.mk (below_step HB4.out hb5); have hne3 : gb ≠ gd := (by have h1 := blk_lt HX4.out; omega); have hne4 := hne3.symm; have hne5 : gr ≠ gd := (by have h1 := blk_lt HY4.out; omega); have hne6 := hne5.symm; have HGD := Aside0.mk (show w.heap.size ≤ gd by have h1 := below_size HB4.out; omega); have HW0 := Aside0.mk (Kd.V_below (Kd.V_mono HV0.out (fun k hk => (⟨hk.1, hk.2.1, hk.2.2.1, (by have h1 := hk.2.2.2; omega)⟩ : ((P0 k ∨ P1 k) ∨ w.heap.size ≤ k) ∧ k ≠ gb ∧ k ≠ gr ∧ k ≠ gd))) hb5); have HW1 := Aside0.mk (Kd.V_below (Kd.V_mono HV1.out (fun k hk => (⟨hk.1, hk.2.1, hk.2.2.1, (by have h1 := hk.2.2.2; omega)⟩ : ((P0 k ∨ P1 k) ∨ w.heap.size ≤ k) ∧ k ≠ gb ∧ k ≠ gr ∧ k ≠ gd))) hb5); have x0 := (blk_cell HX5.out 0).trans rfl; have x1 := (blk_cell HX5.out 1).trans rfl; have x2 := (blk_cell HX5.out 2).trans rfl; have x3 := blk_frozen HX5.out 0; have x4 := blk_frozen HX5.out 1; have x5 := blk_frozen HX5.out 2; have y0 := (blk_cell HY5.out 0).trans rfl; have y1 := (blk_cell HY5.out 1).trans rfl; have y2 := (blk_cell HY5.out 2).trans rfl; have y3 := blk_frozen HY5.out 0; have y4 := blk_frozen HY5.out 1; have y5 := blk_frozen HY5.out 2; have u0 := (blk_cell HD5.out 0).trans rfl; have u1 := (blk_cell HD5.out 1).trans rfl; have u3 := blk_frozen HD5.out 0; have u4 := blk_frozen HD5.out 1; clear HX4 HY4 HB4 hb5 hbox5 hgd HV0 HV1)
  have q0 := blk_far HY5.out (p := ⟨gd, 0, none⟩) hne5 (.slice A2 r1.length c2)
  have q1 := blk_far q0 (p := ⟨gd, 1, none⟩) hne5 (.slice A3 r2.length c3)
  have q2 := blk_far q1 (p := ⟨gb, 0, none⟩) hne2 (.slice A2 r1.length c2)
  have q3 := blk_far q2 (p := ⟨gb, 1, none⟩) hne2 (.slice A3 r2.length c3)
  have q4 := blk_far q3 (p := ⟨gb, 2, none⟩) hne2 (.int .i64 (wrap64 (left - 1)))
  have q5 := blk_put (cs' := #[.slice A2 r1.length c2, .slice none 0 0, .int .i64 0]) q4 0 (.slice A2 r1.length c2) rfl
  have q6 := blk_put (cs' := #[.slice A2 r1.length c2, .slice A3 r2.length c3, .int .i64 0]) q5 1 (.slice A3 r2.length c3) rfl
  have q7 := blk_put (cs' := #[.slice A2 r1.length c2, .slice A3 r2.length c3, .int .i64 (wrap64 (left - 1))]) q6 2 (.int .i64 (wrap64 (left - 1))) rfl
  have hB8 := below_set (j := 2) (v := .int .i64 (wrap64 (left - 1))) (below_set (j := 1) (v := .slice A3 r2.length c3) (below_set (j := 0) (v := .slice A2 r1.length c2) (below_set (j := 2) (v := .int .i64 (wrap64 (left - 1))) (below_set (j := 1) (v := .slice A3 r2.length c3) (below_set (j := 0) (v := .slice A2 r1.length c2) (below_set (j := 1) (v := .slice A3 r2.length c3) (below_set (j := 0) (v := .slice A2 r1.length c2) (HB5.out) HGD.out) HGD.out) HGB.out) HGB.out) HGB.out) HGE.out) HGE.out) HGE.out
  refine bodyPost_ret (results_ct rfl _ _ gr 46 #[.slice A2 r1.length c2, .slice A3 r2.length c3, .int .i64 (wrap64 (left - 1))] (0, 0) _ rfl q7 Tryd.underlying46 rfl (by kernel_rfl)) rfl ?_
  exact ⟨_, _, rfl, Kd.V_mono (Kd.V_far (p := ⟨gr, 2, none⟩) (Kd.V_far (p := ⟨gr, 1, none⟩) (Kd.V_far (p := ⟨gr, 0, none⟩) (Kd.V_far (p := ⟨gb, 2, none⟩) (Kd.V_far (p := ⟨gb, 1, none⟩) (Kd.V_far (p := ⟨gb, 0, none⟩) (Kd.V_far (p := ⟨gd, 1, none⟩) (Kd.V_far (p := ⟨gd, 0, none⟩) (HW0.out) (fun _ hk => hk.2.2.2) (.slice A2 r1.length c2)) (fun _ hk => hk.2.2.2) (.slice A3 r2.length c3)) (fun _ hk => hk.2.1) (.slice A2 r1.length c2)) (fun _ hk => hk.2.1) (.slice A3 r2.length c3)) (fun _ hk => hk.2.1) (.int .i64 (wrap64 (left - 1)))) (fun _ hk => hk.2.2.1) (.slice A2 r1.length c2)) (fun _ hk => hk.2.2.1) (.slice A3 r2.length c3)) (fun _ hk => hk.2.2.1) (.int .i64 (wrap64 (left - 1)))) (fun _ hk => hk.1), Kd.V_mono (Kd.V_far (p := ⟨gr, 2, none⟩) (Kd.V_far (p := ⟨gr, 1, none⟩) (Kd.V_far (p := ⟨gr, 0, none⟩) (Kd.V_far (p := ⟨gb, 2, none⟩) (Kd.V_far (p := ⟨gb, 1, none⟩) (Kd.V_far (p := ⟨gb, 0, none⟩) (Kd.V_far (p := ⟨gd, 1, none⟩) (Kd.V_far (p := ⟨gd, 0, none⟩) (HW1.out) (fun _ hk => hk.2.2.2) (.slice A2 r1.length c2)) (fun _ hk => hk.2.2.2) (.slice A3 r2.length c3)) (fun _ hk => hk.2.1) (.slice A2 r1.length c2)) (fun _ hk => hk.2.1) (.slice A3 r2.length c3)) (fun _ hk => hk.2.1) (.int .i64 (wrap64 (left - 1)))) (fun _ hk => hk.2.2.1) (.slice A2 r1.length c2)) (fun _ hk => hk.2.2.1) (.slice A3 r2.length c3)) (fun _ hk => hk.2.2.1) (.int .i64 (wrap64 (left - 1)))) (fun _ hk => hk.1), hB8⟩

theorem call_f (P0 : Nat → Prop) (A0 : Option Addr) (c0 : Nat) (l0 : List ByteArray) (P1 : Nat → Prop) (A1 : Option Addr) (c1 : Nat) (l1 : List S42) (left : Int)  (w : World)
    (hs0 : Kd.V Kd.string 9 w w.heap.size P0 (.slice A0 l0.length c0) l0) (hs1 : Kd.V k42 42 w w.heap.size P1 (.slice A1 l1.length c1) l1)
     (r1 : List ByteArray) (r2 : List S42) (r3 r4 : Int) (hf : callF l0 l1 left (flush1F l0 l1) = some (r1, r2, r3, r4)) :
    Calls Tryd.prog 57 #[.agg #[.slice A0 l0.length c0, .slice A1 l1.length c1, .int .i64 left], .func (.func 64) #[] #[]] w (PowerOut w P0 P1 r1 r2 r3 r4) := by
  unfold callF at hf
  by_cases h1 : left = 0
  · rw [if_pos h1] at hf; cases hf
    exact call_f_down P0 A0 c0 l0 P1 A1 c1 l1 left w hs0 hs1 h1
  rw [if_neg h1] at hf
  by_cases h2 : rightB l0 l1 = true
  · rw [if_pos h2] at hf
    obtain ⟨⟨x1, x2, x3⟩, hx, hf⟩ := Option.bind_eq_some_iff.1 hf
    dsimp only at hf
    by_cases h3 : x3 = 0
    · subst h3
      rw [if_pos rfl] at hf
      by_cases h4 : left > 0
      · rw [if_pos h4] at hf; cases hf
        exact call_f_okpos P0 A0 c0 l0 P1 A1 c1 l1 left w hs0 hs1 _ _ h1 h2 hx h4
      · rw [if_neg h4] at hf; cases hf
        exact call_f_okneg P0 A0 c0 l0 P1 A1 c1 l1 left w hs0 hs1 _ _ h1 h2 hx h4
    · rw [if_neg h3] at hf; cases hf
      exact call_f_bad P0 A0 c0 l0 P1 A1 c1 l1 left w hs0 hs1 _ _ _ h1 h2 hx h3
  · rw [if_neg h2] at hf; cases hf
    exact call_f_wrong P0 A0 c0 l0 P1 A1 c1 l1 left w hs0 hs1 h1 (by simpa using h2)

end Go.Proofs.YtniplmjbligmlaaDoor.Q

/-! disk.Flush by hand. -/
namespace Go.Proofs.YtniplmjbligmlaaDoor.Q
open Go.RowKit Go.Proofs.YtniplmjbligmlaaDoorW.PrintWords Go.Proofs.YtniplmjbligmlaaDoorW.PrintLast Go.Proofs.YtniplmjbligmlaaDoorW.PrintMore Go.Proofs.YtniplmjbligmlaaDoor.Base
set_option linter.unusedVariables false
set_option linter.unusedSimpArgs false
def disk_Flush.f (l0_0 : List ByteArray) (l0_1 : List (S42)) (a0_2 : Int) : Option (List ByteArray × (List (S42)) × Int × Int) :=
  callF l0_0 l0_1 a0_2 (flush1F l0_0 l0_1)

set_option maxHeartbeats 4000000 in
set_option maxRecDepth 100000 in
theorem disk_Flush.calls (P0_0_ : Nat → Prop) (A0_0 : Option Addr) (c0_0 : Nat) (l0_0 : List ByteArray) (P0_1_ : Nat → Prop) (A0_1 : Option Addr) (c0_1 : Nat) (l0_1 : List (S42)) (a0_2 : Int) (r1 : List ByteArray) (r2 : List (S42)) (r3 : Int) (r4 : Int) (w : World) (hs0_0 : Kd.V Kd.string 9 w w.heap.size (fun k_ => P0_0_ k_) (.slice A0_0 l0_0.length c0_0) l0_0) (hs0_1 : Kd.V k42 42 w w.heap.size (fun k_ => P0_1_ k_) (.slice A0_1 l0_1.length c0_1) l0_1) (h : disk_Flush.f l0_0 l0_1 a0_2 = some (r1, r2, r3, r4)) :
    Calls Tryd.prog 31 #[.agg #[.slice A0_0 l0_0.length c0_0, .slice A0_1 l0_1.length c0_1, .int .i64 a0_2]] w fun e w' => ∃ v0_ v1_ : Value, e = .returned (.tuple #[.agg #[v0_, v1_, .int .i64 r3], .int .i64 r4]) ∧ Kd.V Kd.string 9 w' w.heap.size (fun k_ => ((P0_0_ k_ ∨ P0_1_ k_) ∨ w.heap.size ≤ k_)) v0_ r1 ∧ Kd.V k42 42 w' w.heap.size (fun k_ => ((P0_0_ k_ ∨ P0_1_ k_) ∨ w.heap.size ≤ k_)) v1_ r2 ∧ Below w.heap.size w w' := by
    have HS0 := Aside0.mk hs0_0
    have HS1 := Aside0.mk hs0_1
    unfold disk_Flush.f at h
    have HF := Aside0.mk h
    have HB := Aside0.mk (Below.refl w.heap.size w)
    clear hs0_0 hs0_1 h
    go_enter Tryd.func31, Tryd.ntmps31
    go_wp2_with (first
      | ((with_reducible refine gate_dst (N := 1) rfl ?_); refine box_event rfl (N := 1) rfl (cs := #[.slice A0_0 l0_0.length c0_0, .slice A0_1 l0_1.length c0_1, .int .i64 a0_2]) (t := 46) (by first | (go_simp; done) | (go_simp; rfl)) ?_; intro g3 hg_ w1 hbox_ hb_; have Kg3 := Aside0.mk hbox_; have Gg3 := Aside0.mk (Nat.le_of_eq hg_.symm); have HB' := Aside0.mk (below_step HB.out hb_); clear HB; have HB := HB'; clear HB'; clear hbox_ hb_ hg_)
      | ((with_reducible refine gate_dst (N := 2) rfl ?_); refine box_event rfl (N := 2) rfl (cs := #[.slice none 0 0, .slice none 0 0, .int .i64 0]) (t := 46) (by first | (go_simp; done) | (go_simp; rfl)) ?_; intro g6 hg_ w6 hbox_ hb_; have Kg3' := Aside0.mk (blk_below Kg3.out hb_); clear Kg3; have Kg3 := Kg3'; clear Kg3'; have Kg6 := Aside0.mk hbox_; have Gg6 := Aside0.mk (show w.heap.size ≤ g6 by rw [hg_]; exact below_size HB.out); have HB' := Aside0.mk (below_step HB.out hb_); clear HB; have HB := HB'; clear HB'; have s0 := (blk_cell Kg3.out 0).trans rfl; have s1 := (blk_cell Kg3.out 1).trans rfl; have s2 := (blk_cell Kg3.out 2).trans rfl; clear hbox_ hb_ hg_))
    clear s0 s1 s2
    refine (call_f (fun k => P0_0_ k ∧ k < w.heap.size) A0_0 c0_0 l0_0 (fun k => P0_1_ k ∧ k < w.heap.size) A0_1 c0_1 l0_1 a0_2 w6 (Kd.V_below (Kd.V_bound HS0.out) HB.out) (Kd.V_below (Kd.V_bound HS1.out) HB.out) _ _ _ _ HF.out).mono ?_
    have hW6 := Kg6.out
    have hBW := HB.out
    rintro e w7 ⟨v0, v1, rfl, hv0, hv1, hb7⟩
    obtain ⟨A2, c2, rfl⟩ := Kd.V_slice hv0
    obtain ⟨A3, c3, rfl⟩ := Kd.V_slice hv1
    have hv0' := vq hv0 Gg6.out hW6 Gg6.out hW6
    have hv1' := vq hv1 Gg6.out hW6 Gg6.out hW6
    have K7 := blk_below hW6 hb7
    have hB7 := below_step hBW hb7
    have y0 := (blk_cell K7 0).trans rfl
    have y1 := (blk_cell K7 1).trans rfl
    have y2 := (blk_cell K7 2).trans rfl
    have y3 := blk_frozen K7 0
    have y4 := blk_frozen K7 1
    have y5 := blk_frozen K7 2
    clear hv0 hv1 hb7 hBW
    go_wp2
    have q0 := blk_put (cs' := #[.slice A2 r1.length c2, .slice none 0 0, .int .i64 0]) K7 0 (.slice A2 r1.length c2) rfl
    have q1 := blk_put (cs' := #[.slice A2 r1.length c2, .slice A3 r2.length c3, .int .i64 0]) q0 1 (.slice A3 r2.length c3) rfl
    have q2 := blk_put (cs' := #[.slice A2 r1.length c2, .slice A3 r2.length c3, .int .i64 r3]) q1 2 (.int .i64 r3) rfl
    refine bodyPost_ret (results_ct rfl _ _ g6 46 #[.slice A2 r1.length c2, .slice A3 r2.length c3, .int .i64 r3] (0, 0) _ rfl q2 Tryd.underlying46 rfl (by kernel_rfl)) rfl ?_
    have hB8 := below_set (j := 2) (v := .int .i64 r3) (below_set (j := 1) (v := .slice A3 r2.length c3) (below_set (j := 0) (v := .slice A2 r1.length c2) hB7 Gg6.out) Gg6.out) Gg6.out
    exact ⟨_, _, rfl, Kd.V_mono (Kd.V_far (p := ⟨g6, 2, none⟩) (Kd.V_far (p := ⟨g6, 1, none⟩) (Kd.V_far (p := ⟨g6, 0, none⟩) hv0' (fun _ hk => hk.2.1) _) (fun _ hk => hk.2.1) _) (fun _ hk => hk.2.1) _) (fun _ hk => hk.1), Kd.V_mono (Kd.V_far (p := ⟨g6, 2, none⟩) (Kd.V_far (p := ⟨g6, 1, none⟩) (Kd.V_far (p := ⟨g6, 0, none⟩) hv1' (fun _ hk => hk.2.1) _) (fun _ hk => hk.2.1) _) (fun _ hk => hk.2.1) _) (fun _ hk => hk.1), hB8⟩
end Go.Proofs.YtniplmjbligmlaaDoor.Q

/-! Go functions as Lean functions, each with a proof that the Go code comes to its answers; written by a program of this repository (mk.py, over the printer of the kit). Lean checks it. -/
namespace Go.Proofs.YtniplmjbligmlaaDoor.Q
open Go.RowKit Go.Proofs.YtniplmjbligmlaaDoorW.PrintWords Go.Proofs.YtniplmjbligmlaaDoorW.PrintLast Go.Proofs.YtniplmjbligmlaaDoorW.PrintMore
attribute [local go_sem] max2_int min2_int max_two min_two max_three min_three max_four min_four   -- for this text's walks alone
set_option linter.unusedVariables false
set_option linter.unusedSimpArgs false

/-! ### doorwardlaw03_alive: function 17 -/
def doorwardlaw03_alive.f  : Option (Bool) := (disk_New.f 3).bind fun bt120 => (if bt120.2.2 = 0 then ((disk_Right.f bt120.1 bt120.2.1).bind fun t128 => (if t128 = true then (some ((bt120.1.length : Int) == 3)) else (some false))) else (some false))
set_option maxHeartbeats 8000000 in
set_option maxRecDepth 100000 in
theorem doorwardlaw03_alive.calls  (r : Bool) (w : World) (h : doorwardlaw03_alive.f  = some r) :
    Calls Tryd.prog 17 #[] w fun e w' => e = .returned (.bool r) ∧ Below w.heap.size w w' := by
  have hu25 := Tryd.underlying25
  have HB := Aside0.mk (Below.refl w.heap.size w)
  have H : ((disk_New.f 3).bind fun bt120 => (if bt120.2.2 = 0 then ((disk_Right.f bt120.1 bt120.2.1).bind fun t128 => (if t128 = true then (some ((bt120.1.length : Int) == 3)) else (some false))) else (some false))) = some r := h
  clear h
  replace H := Option.bind_eq_some_iff.mp H
  obtain ⟨⟨t120, t123, t126⟩, A10, H⟩ := H
  replace H : (if t126 = 0 then ((disk_Right.f t120 t123).bind fun t128 => (if t128 = true then (some ((t120.length : Int) == 3)) else (some false))) else (some false)) = some r := H
  have A1 := Aside0.mk A10
  clear A10
  by_cases c2 : t126 = 0
  · rw [if_pos c2] at H
    have c2b0 : (t126 == 0) = true := beq_iff_eq.mpr c2
    have c2b1 : (t126 != 0) = false := bne_eq_false_iff_eq.mpr c2
    clear c2
    replace H := Option.bind_eq_some_iff.mp H
    obtain ⟨t128, A30, H⟩ := H
    replace H : (if t128 = true then (some ((t120.length : Int) == 3)) else (some false)) = some r := H
    have A3 := Aside0.mk A30
    clear A30
    by_cases c4 : t128 = true
    · subst c4
      have H1 : (some ((t120.length : Int) == 3)) = some r := by rw [if_pos rfl] at H; exact H
      clear H
      have H := H1
      clear H1
      obtain rfl := Option.some.inj H
      go_enter Tryd.func17, Tryd.ntmps17
      go_wp2_with (first | ((with_reducible refine gate_callee (f := 16) rfl ?_); refine goesL_ (some 4) rfl rfl Tryd.func16 (by kernel_rfl) rfl #[.int .i64 3] rfl (by (try simp only [List.map_toArray, List.map_cons, List.map_nil]); first | done | rfl | (simp only [List.length_drop, List.length_take]; rfl) | (simp [Act.eval, IntKind.wrap, IntKind.bits, IntKind.signed]; (repeat (first | (rename (decide _ = false) => h_; replace h_ := of_decide_eq_false h_) | (rename (decide _ = true) => h_; replace h_ := of_decide_eq_true h_))); omega)) ?_; (with_reducible refine (disk_New.calls 3 t120 t123 t126 _ A1.out).mono ?_); rintro e w5 ⟨v121, v124, rfl, ho0, ho1, hb⟩; refine ⟨_, rfl, ?_⟩; have n0_ := Aside0.mk (Kd.R_lower ho0 (below_size (by repeat (first | (with_reducible first | exact HB.out | apply below_alloc | apply pw_below_drewN | apply below_drew1) | exact HB.out)))); have n1_ := Aside0.mk (Kd.R_lower ho1 (below_size (by repeat (first | (with_reducible first | exact HB.out | apply below_alloc | apply pw_below_drewN | apply below_drew1) | exact HB.out)))); have n2_ := Aside0.mk (below_step (by repeat (first | (with_reducible first | exact HB.out | apply below_alloc | apply pw_below_drewN | apply below_drew1) | exact HB.out)) hb); clear HB; have HO122 := n0_; have HO125 := n1_; have HB := n2_; clear n0_ n1_ n2_; (try clear hb); (try clear hb2); (try clear hk); (try clear hi); (try clear ho0); (try clear ho1)) | ((with_reducible refine gate_dst (N := 1) rfl ?_); (try (refine gate_guard (by rfl) ?_; dsimp only)); refine box_event ?hg (N := 1) ?hd (cs := #[.slice none 0 0, .slice none 0 0]) (t := 25) ?hr ?_; (case hd => rfl); (case hg => rfl); (case hr => first | (go_simp; done) | (go_simp; rfl)); intro gb127 hg w6 hbox hb; have n0_ := Aside0.mk (Kd.R_below (by (with_reducible repeat (first | apply Kd.R_alloc | apply Kd.R_drewN | apply Kd.R_drew)); exact HO122.out) hb); have n1_ := Aside0.mk (Kd.R_below (by (with_reducible repeat (first | apply Kd.R_alloc | apply Kd.R_drewN | apply Kd.R_drew)); exact HO125.out) hb); have n2_ := Aside0.mk (below_step (by repeat (first | (with_reducible first | exact HB.out | apply below_alloc | apply pw_below_drewN | apply below_drew1) | exact HB.out)) hb); have n3_ := Aside0.mk (hbox); have n4_ := Aside0.mk ((by rw [hg]; exact (below_size (by repeat (first | (with_reducible first | exact HB.out | apply below_alloc | apply pw_below_drewN | apply below_drew1) | exact HB.out))) : w.heap.size ≤ gb127)); have n5_ := Aside0.mk ((by rw [hg]; exact (below_size (by repeat (first | (with_reducible first | exact HB.out | apply below_alloc | apply pw_below_drewN | apply below_drew1) | exact HB.out))) : w.heap.size ≤ gb127)); clear HO122; clear HO125; clear HB; have HO122 := n0_; have HO125 := n1_; have HB := n2_; have BK127 := n3_; have GW127 := n4_; have GE127 := n5_; clear n0_ n1_ n2_ n3_ n4_ n5_; clear hb hbox hg; obtain ⟨Ao7, co7, eo7⟩ := Kd.R_slice HO122.out; subst eo7; have hcz8_0 : w6.cell? ⟨gb127, 0, none⟩ = some (.slice none 0 0) := (blk_cell BK127.out 0).trans rfl; have hcz8_1 : w6.cell? ⟨gb127, 1, none⟩ = some (.slice none 0 0) := (blk_cell BK127.out 1).trans rfl; have hfz8_0 := blk_frozen BK127.out 0; have hfz8_1 := blk_frozen BK127.out 1; obtain ⟨Ao9, co9, eo9⟩ := Kd.R_slice HO125.out; subst eo9) | (go_at_call 18; (first | (with_reducible refine (disk_Right.calls _ _ t120 _ _ t123 true _ ?side1 ?side2 ?side3 ?side4 A3.out).mono ?_) | (refine calls_of_args ?hfit_ ((disk_Right.calls _ _ t120 _ _ t123 true _ ?side1 ?side2 ?side3 ?side4 A3.out).mono ?_); (case hfit_ => (first | rfl | (simp; done) | (simp [*]; done) | (simp; omega) | (simp [ByteArray.size_extract]; omega))))); (case side1 => refine (Kd.R_reads' (e := 9) (base := w.heap.size) (ok := fun k_ => True) (n := t120.length) (c := co7) ?_).2.2; exact (by (with_reducible repeat (first | apply Kd.R_alloc | apply Kd.R_drewN | apply Kd.R_drew)); exact (Kd.R_mono (Kd.R_far (p := ⟨gb127, 1, none⟩) (Kd.R_far (p := ⟨gb127, 0, none⟩) (Kd.R_types HO122.out BK127.out (by decide)) (fun _ hk => hk.2) (.slice Ao7 t120.length co7)) (fun _ hk => hk.2) (.slice Ao9 t123.length co9)) (fun _ h_ => h_.1)))); (case side2 => exact (Kd.R_reads' HO122.out).2.1); (case side3 => refine (Kd.R_reads' (e := 42) (base := w.heap.size) (ok := fun k_ => True) (n := t123.length) (c := co9) ?_).2.2; exact (by (with_reducible repeat (first | apply Kd.R_alloc | apply Kd.R_drewN | apply Kd.R_drew)); exact (Kd.R_mono (Kd.R_far (p := ⟨gb127, 1, none⟩) (Kd.R_far (p := ⟨gb127, 0, none⟩) (Kd.R_types HO125.out BK127.out (by decide)) (fun _ hk => hk.2) (.slice Ao7 t120.length co7)) (fun _ hk => hk.2) (.slice Ao9 t123.length co9)) (fun _ h_ => h_.1)))); (case side4 => exact (Kd.R_reads' HO125.out).2.1); rintro e w10 ⟨rfl, hb⟩; have n0_ := Aside0.mk (Kd.R_below (by (with_reducible repeat (first | apply Kd.R_alloc | apply Kd.R_drewN | apply Kd.R_drew)); exact (Kd.R_mono (Kd.R_far (p := ⟨gb127, 1, none⟩) (Kd.R_far (p := ⟨gb127, 0, none⟩) (Kd.R_types HO122.out BK127.out (by decide)) (fun _ hk => hk.2) (.slice Ao7 t120.length co7)) (fun _ hk => hk.2) (.slice Ao9 t123.length co9)) (fun _ h_ => h_.1))) hb); have n1_ := Aside0.mk (Kd.R_below (by (with_reducible repeat (first | apply Kd.R_alloc | apply Kd.R_drewN | apply Kd.R_drew)); exact (Kd.R_mono (Kd.R_far (p := ⟨gb127, 1, none⟩) (Kd.R_far (p := ⟨gb127, 0, none⟩) (Kd.R_types HO125.out BK127.out (by decide)) (fun _ hk => hk.2) (.slice Ao7 t120.length co7)) (fun _ hk => hk.2) (.slice Ao9 t123.length co9)) (fun _ h_ => h_.1))) hb); have n2_ := Aside0.mk (blk_below (g := gb127) (o := .cells #[.slice Ao7 t120.length co7, .slice Ao9 t123.length co9] 25 (0, 0)) (by (with_reducible repeat (first | refine blk_drewN ?_ _ | refine blk_drew ?_ | refine blk_alloc ?_ _)); refine blk_put (cs := #[.slice Ao7 t120.length co7, .slice none 0 0]) ?_ 1 _ rfl; (with_reducible repeat (first | refine blk_drewN ?_ _ | refine blk_drew ?_ | refine blk_alloc ?_ _)); refine blk_put (cs := #[.slice none 0 0, .slice none 0 0]) ?_ 0 _ rfl; (with_reducible repeat (first | refine blk_drewN ?_ _ | refine blk_drew ?_ | refine blk_alloc ?_ _)); exact BK127.out) hb); have n3_ := Aside0.mk (below_step (by repeat (first | (with_reducible first | exact HB.out | apply below_alloc | apply pw_below_drewN | apply below_drew1 | refine below_set ?_ GE127.out) | exact HB.out)) hb); clear HO122; clear HO125; clear BK127; clear HB; have HO122 := n0_; have HO125 := n1_; have BK127 := n2_; have HB := n3_; clear n0_ n1_ n2_ n3_; (try clear hb); (try clear hb2); (try clear hk); (try clear hi); have hcz11_0 : w10.cell? ⟨gb127, 0, none⟩ = some (.slice Ao7 t120.length co7) := (blk_cell BK127.out 0).trans rfl; have hcz11_1 : w10.cell? ⟨gb127, 1, none⟩ = some (.slice Ao9 t123.length co9) := (blk_cell BK127.out 1).trans rfl; have hfz11_0 := blk_frozen BK127.out 0; have hfz11_1 := blk_frozen BK127.out 1))
      go_ret
      exact ⟨by first | rfl | (rw [show ∀ n_ : Int, -9223372036854775808 ≤ n_ → n_ < 9223372036854775808 → wrap64 n_ = n_ from fun n_ h1_ h2_ => by unfold wrap64; omega] <;> first | rfl | omega) | (simp [errW_none, errW_some] <;> rfl) | (simp [*, errW_none, errW_some] <;> rfl), by repeat (first | (with_reducible first | exact HB.out | apply below_alloc | apply pw_below_drewN | apply below_drew1 | refine below_set ?_ GE127.out) | exact HB.out)⟩
    · replace c4 := Bool.eq_false_iff.mpr c4
      subst c4
      have H1 : (some false) = some r := by rw [if_neg (show ¬ (false = true) by decide)] at H; exact H
      clear H
      have H := H1
      clear H1
      obtain rfl := Option.some.inj H
      go_enter Tryd.func17, Tryd.ntmps17
      go_wp2_with (first | ((with_reducible refine gate_callee (f := 16) rfl ?_); refine goesL_ (some 4) rfl rfl Tryd.func16 (by kernel_rfl) rfl #[.int .i64 3] rfl (by (try simp only [List.map_toArray, List.map_cons, List.map_nil]); first | done | rfl | (simp only [List.length_drop, List.length_take]; rfl) | (simp [Act.eval, IntKind.wrap, IntKind.bits, IntKind.signed]; (repeat (first | (rename (decide _ = false) => h_; replace h_ := of_decide_eq_false h_) | (rename (decide _ = true) => h_; replace h_ := of_decide_eq_true h_))); omega)) ?_; (with_reducible refine (disk_New.calls 3 t120 t123 t126 _ A1.out).mono ?_); rintro e w12 ⟨v121, v124, rfl, ho0, ho1, hb⟩; refine ⟨_, rfl, ?_⟩; have n0_ := Aside0.mk (Kd.R_lower ho0 (below_size (by repeat (first | (with_reducible first | exact HB.out | apply below_alloc | apply pw_below_drewN | apply below_drew1) | exact HB.out)))); have n1_ := Aside0.mk (Kd.R_lower ho1 (below_size (by repeat (first | (with_reducible first | exact HB.out | apply below_alloc | apply pw_below_drewN | apply below_drew1) | exact HB.out)))); have n2_ := Aside0.mk (below_step (by repeat (first | (with_reducible first | exact HB.out | apply below_alloc | apply pw_below_drewN | apply below_drew1) | exact HB.out)) hb); clear HB; have HO122 := n0_; have HO125 := n1_; have HB := n2_; clear n0_ n1_ n2_; (try clear hb); (try clear hb2); (try clear hk); (try clear hi); (try clear ho0); (try clear ho1)) | ((with_reducible refine gate_dst (N := 1) rfl ?_); (try (refine gate_guard (by rfl) ?_; dsimp only)); refine box_event ?hg (N := 1) ?hd (cs := #[.slice none 0 0, .slice none 0 0]) (t := 25) ?hr ?_; (case hd => rfl); (case hg => rfl); (case hr => first | (go_simp; done) | (go_simp; rfl)); intro gb127 hg w13 hbox hb; have n0_ := Aside0.mk (Kd.R_below (by (with_reducible repeat (first | apply Kd.R_alloc | apply Kd.R_drewN | apply Kd.R_drew)); exact HO122.out) hb); have n1_ := Aside0.mk (Kd.R_below (by (with_reducible repeat (first | apply Kd.R_alloc | apply Kd.R_drewN | apply Kd.R_drew)); exact HO125.out) hb); have n2_ := Aside0.mk (below_step (by repeat (first | (with_reducible first | exact HB.out | apply below_alloc | apply pw_below_drewN | apply below_drew1) | exact HB.out)) hb); have n3_ := Aside0.mk (hbox); have n4_ := Aside0.mk ((by rw [hg]; exact (below_size (by repeat (first | (with_reducible first | exact HB.out | apply below_alloc | apply pw_below_drewN | apply below_drew1) | exact HB.out))) : w.heap.size ≤ gb127)); have n5_ := Aside0.mk ((by rw [hg]; exact (below_size (by repeat (first | (with_reducible first | exact HB.out | apply below_alloc | apply pw_below_drewN | apply below_drew1) | exact HB.out))) : w.heap.size ≤ gb127)); clear HO122; clear HO125; clear HB; have HO122 := n0_; have HO125 := n1_; have HB := n2_; have BK127 := n3_; have GW127 := n4_; have GE127 := n5_; clear n0_ n1_ n2_ n3_ n4_ n5_; clear hb hbox hg; obtain ⟨Ao14, co14, eo14⟩ := Kd.R_slice HO122.out; subst eo14; have hcz15_0 : w13.cell? ⟨gb127, 0, none⟩ = some (.slice none 0 0) := (blk_cell BK127.out 0).trans rfl; have hcz15_1 : w13.cell? ⟨gb127, 1, none⟩ = some (.slice none 0 0) := (blk_cell BK127.out 1).trans rfl; have hfz15_0 := blk_frozen BK127.out 0; have hfz15_1 := blk_frozen BK127.out 1; obtain ⟨Ao16, co16, eo16⟩ := Kd.R_slice HO125.out; subst eo16) | (go_at_call 18; (first | (with_reducible refine (disk_Right.calls _ _ t120 _ _ t123 false _ ?side1 ?side2 ?side3 ?side4 A3.out).mono ?_) | (refine calls_of_args ?hfit_ ((disk_Right.calls _ _ t120 _ _ t123 false _ ?side1 ?side2 ?side3 ?side4 A3.out).mono ?_); (case hfit_ => (first | rfl | (simp; done) | (simp [*]; done) | (simp; omega) | (simp [ByteArray.size_extract]; omega))))); (case side1 => refine (Kd.R_reads' (e := 9) (base := w.heap.size) (ok := fun k_ => True) (n := t120.length) (c := co14) ?_).2.2; exact (by (with_reducible repeat (first | apply Kd.R_alloc | apply Kd.R_drewN | apply Kd.R_drew)); exact (Kd.R_mono (Kd.R_far (p := ⟨gb127, 1, none⟩) (Kd.R_far (p := ⟨gb127, 0, none⟩) (Kd.R_types HO122.out BK127.out (by decide)) (fun _ hk => hk.2) (.slice Ao14 t120.length co14)) (fun _ hk => hk.2) (.slice Ao16 t123.length co16)) (fun _ h_ => h_.1)))); (case side2 => exact (Kd.R_reads' HO122.out).2.1); (case side3 => refine (Kd.R_reads' (e := 42) (base := w.heap.size) (ok := fun k_ => True) (n := t123.length) (c := co16) ?_).2.2; exact (by (with_reducible repeat (first | apply Kd.R_alloc | apply Kd.R_drewN | apply Kd.R_drew)); exact (Kd.R_mono (Kd.R_far (p := ⟨gb127, 1, none⟩) (Kd.R_far (p := ⟨gb127, 0, none⟩) (Kd.R_types HO125.out BK127.out (by decide)) (fun _ hk => hk.2) (.slice Ao14 t120.length co14)) (fun _ hk => hk.2) (.slice Ao16 t123.length co16)) (fun _ h_ => h_.1)))); (case side4 => exact (Kd.R_reads' HO125.out).2.1); rintro e w17 ⟨rfl, hb⟩; have n0_ := Aside0.mk (Kd.R_below (by (with_reducible repeat (first | apply Kd.R_alloc | apply Kd.R_drewN | apply Kd.R_drew)); exact (Kd.R_mono (Kd.R_far (p := ⟨gb127, 1, none⟩) (Kd.R_far (p := ⟨gb127, 0, none⟩) (Kd.R_types HO122.out BK127.out (by decide)) (fun _ hk => hk.2) (.slice Ao14 t120.length co14)) (fun _ hk => hk.2) (.slice Ao16 t123.length co16)) (fun _ h_ => h_.1))) hb); have n1_ := Aside0.mk (Kd.R_below (by (with_reducible repeat (first | apply Kd.R_alloc | apply Kd.R_drewN | apply Kd.R_drew)); exact (Kd.R_mono (Kd.R_far (p := ⟨gb127, 1, none⟩) (Kd.R_far (p := ⟨gb127, 0, none⟩) (Kd.R_types HO125.out BK127.out (by decide)) (fun _ hk => hk.2) (.slice Ao14 t120.length co14)) (fun _ hk => hk.2) (.slice Ao16 t123.length co16)) (fun _ h_ => h_.1))) hb); have n2_ := Aside0.mk (blk_below (g := gb127) (o := .cells #[.slice Ao14 t120.length co14, .slice Ao16 t123.length co16] 25 (0, 0)) (by (with_reducible repeat (first | refine blk_drewN ?_ _ | refine blk_drew ?_ | refine blk_alloc ?_ _)); refine blk_put (cs := #[.slice Ao14 t120.length co14, .slice none 0 0]) ?_ 1 _ rfl; (with_reducible repeat (first | refine blk_drewN ?_ _ | refine blk_drew ?_ | refine blk_alloc ?_ _)); refine blk_put (cs := #[.slice none 0 0, .slice none 0 0]) ?_ 0 _ rfl; (with_reducible repeat (first | refine blk_drewN ?_ _ | refine blk_drew ?_ | refine blk_alloc ?_ _)); exact BK127.out) hb); have n3_ := Aside0.mk (below_step (by repeat (first | (with_reducible first | exact HB.out | apply below_alloc | apply pw_below_drewN | apply below_drew1 | refine below_set ?_ GE127.out) | exact HB.out)) hb); clear HO122; clear HO125; clear BK127; clear HB; have HO122 := n0_; have HO125 := n1_; have BK127 := n2_; have HB := n3_; clear n0_ n1_ n2_ n3_; (try clear hb); (try clear hb2); (try clear hk); (try clear hi)))
      go_ret
      exact ⟨by first | rfl | (rw [show ∀ n_ : Int, -9223372036854775808 ≤ n_ → n_ < 9223372036854775808 → wrap64 n_ = n_ from fun n_ h1_ h2_ => by unfold wrap64; omega] <;> first | rfl | omega) | (simp [errW_none, errW_some] <;> rfl) | (simp [*, errW_none, errW_some] <;> rfl), by repeat (first | (with_reducible first | exact HB.out | apply below_alloc | apply pw_below_drewN | apply below_drew1 | refine below_set ?_ GE127.out) | exact HB.out)⟩
  · rw [if_neg c2] at H
    have c2b0 : (t126 == 0) = false := beq_eq_false_iff_ne.mpr c2
    have c2b1 : (t126 != 0) = true := bne_iff_ne.mpr c2
    obtain rfl := Option.some.inj H
    go_enter Tryd.func17, Tryd.ntmps17
    go_wp2_with (first | ((with_reducible refine gate_callee (f := 16) rfl ?_); refine goesL_ (some 4) rfl rfl Tryd.func16 (by kernel_rfl) rfl #[.int .i64 3] rfl (by (try simp only [List.map_toArray, List.map_cons, List.map_nil]); first | done | rfl | (simp only [List.length_drop, List.length_take]; rfl) | (simp [Act.eval, IntKind.wrap, IntKind.bits, IntKind.signed]; (repeat (first | (rename (decide _ = false) => h_; replace h_ := of_decide_eq_false h_) | (rename (decide _ = true) => h_; replace h_ := of_decide_eq_true h_))); omega)) ?_; (with_reducible refine (disk_New.calls 3 t120 t123 t126 _ A1.out).mono ?_); rintro e w18 ⟨v121, v124, rfl, ho0, ho1, hb⟩; refine ⟨_, rfl, ?_⟩; have n0_ := Aside0.mk (Kd.R_lower ho0 (below_size (by repeat (first | (with_reducible first | exact HB.out | apply below_alloc | apply pw_below_drewN | apply below_drew1) | exact HB.out)))); have n1_ := Aside0.mk (Kd.R_lower ho1 (below_size (by repeat (first | (with_reducible first | exact HB.out | apply below_alloc | apply pw_below_drewN | apply below_drew1) | exact HB.out)))); have n2_ := Aside0.mk (below_step (by repeat (first | (with_reducible first | exact HB.out | apply below_alloc | apply pw_below_drewN | apply below_drew1) | exact HB.out)) hb); clear HB; have HO122 := n0_; have HO125 := n1_; have HB := n2_; clear n0_ n1_ n2_; (try clear hb); (try clear hb2); (try clear hk); (try clear hi); (try clear ho0); (try clear ho1)) | ((with_reducible refine gate_dst (N := 1) rfl ?_); (try (refine gate_guard (by rfl) ?_; dsimp only)); refine box_event ?hg (N := 1) ?hd (cs := #[.slice none 0 0, .slice none 0 0]) (t := 25) ?hr ?_; (case hd => rfl); (case hg => rfl); (case hr => first | (go_simp; done) | (go_simp; rfl)); intro gb127 hg w19 hbox hb; have n0_ := Aside0.mk (Kd.R_below (by (with_reducible repeat (first | apply Kd.R_alloc | apply Kd.R_drewN | apply Kd.R_drew)); exact HO122.out) hb); have n1_ := Aside0.mk (Kd.R_below (by (with_reducible repeat (first | apply Kd.R_alloc | apply Kd.R_drewN | apply Kd.R_drew)); exact HO125.out) hb); have n2_ := Aside0.mk (below_step (by repeat (first | (with_reducible first | exact HB.out | apply below_alloc | apply pw_below_drewN | apply below_drew1) | exact HB.out)) hb); have n3_ := Aside0.mk (hbox); have n4_ := Aside0.mk ((by rw [hg]; exact (below_size (by repeat (first | (with_reducible first | exact HB.out | apply below_alloc | apply pw_below_drewN | apply below_drew1) | exact HB.out))) : w.heap.size ≤ gb127)); have n5_ := Aside0.mk ((by rw [hg]; exact (below_size (by repeat (first | (with_reducible first | exact HB.out | apply below_alloc | apply pw_below_drewN | apply below_drew1) | exact HB.out))) : w.heap.size ≤ gb127)); clear HO122; clear HO125; clear HB; have HO122 := n0_; have HO125 := n1_; have HB := n2_; have BK127 := n3_; have GW127 := n4_; have GE127 := n5_; clear n0_ n1_ n2_ n3_ n4_ n5_; clear hb hbox hg; obtain ⟨Ao20, co20, eo20⟩ := Kd.R_slice HO122.out; subst eo20; have hcz21_0 : w19.cell? ⟨gb127, 0, none⟩ = some (.slice none 0 0) := (blk_cell BK127.out 0).trans rfl; have hcz21_1 : w19.cell? ⟨gb127, 1, none⟩ = some (.slice none 0 0) := (blk_cell BK127.out 1).trans rfl; have hfz21_0 := blk_frozen BK127.out 0; have hfz21_1 := blk_frozen BK127.out 1; obtain ⟨Ao22, co22, eo22⟩ := Kd.R_slice HO125.out; subst eo22))
    go_ret
    exact ⟨by first | rfl | (rw [show ∀ n_ : Int, -9223372036854775808 ≤ n_ → n_ < 9223372036854775808 → wrap64 n_ = n_ from fun n_ h1_ h2_ => by unfold wrap64; omega] <;> first | rfl | omega) | (simp [errW_none, errW_some] <;> rfl) | (simp [*, errW_none, errW_some] <;> rfl), by repeat (first | (with_reducible first | exact HB.out | apply below_alloc | apply pw_below_drewN | apply below_drew1 | refine below_set ?_ GE127.out) | exact HB.out)⟩

/-! ### doorwardref01_Trim: function 41 -/
def doorwardref01_Trim.l0 : Nat → ByteArray → Int → Option (ByteArray)
  | 0, _, _ => none
  | k + 1, x0, x3 => if x3 > 0 then (if 0 ≤ (wrap64 (x3 - 1)) then (if (wrap64 (x3 - 1)) < (x0.size : Int) then (if (bt x0 (wrap64 (x3 - 1))) = 0 then (doorwardref01_Trim.l0 k x0 (wrap64 (x3 - 1))) else (if 0 ≤ x3 then (if x3 ≤ (x0.size : Int) then (some (x0.extract 0 (x3 : Int).toNat)) else (none)) else (none))) else (none)) else (none)) else (if 0 ≤ x3 then (if x3 ≤ (x0.size : Int) then (some (x0.extract 0 (x3 : Int).toNat)) else (none)) else (none))
def doorwardref01_Trim.f (k : Nat) (a0 : ByteArray) : Option (ByteArray) := doorwardref01_Trim.l0 k a0 (a0.size : Int)
theorem doorwardref01_Trim.mono_l : ∀ k, (∀ y0 y1, LeO (doorwardref01_Trim.l0 k y0 y1) (doorwardref01_Trim.l0 (k + 1) y0 y1))
  | 0 => fun _ _ r h => by simp [doorwardref01_Trim.l0] at h
  | k + 1 => by
    have ih0 := doorwardref01_Trim.mono_l k
    · intro y0 y1
      unfold doorwardref01_Trim.l0
      repeat' first
      | (with_reducible exact ih0 _ _)
      | (with_reducible exact LeO.refl _)
      | (with_reducible exact LeO.none _)
      | (with_reducible refine LeO.ite ?_ ?_)
      | (with_reducible refine LeO.bind ?_ (fun _ => ?_))
      | exact ih0 _ _
      | exact LeO.none _
      | refine LeO.ite ?_ ?_
      | refine LeO.bind ?_ (fun _ => ?_)
theorem doorwardref01_Trim.mono : ∀ a0 k, LeO (doorwardref01_Trim.f k a0) (doorwardref01_Trim.f (k + 1) a0) := by
  intro a0 k
  have ih0 := doorwardref01_Trim.mono_l k
  unfold doorwardref01_Trim.f
  repeat' first
      | (with_reducible exact ih0 _ _)
      | (with_reducible exact LeO.refl _)
      | (with_reducible exact LeO.none _)
      | (with_reducible refine LeO.ite ?_ ?_)
      | (with_reducible refine LeO.bind ?_ (fun _ => ?_))
      | exact ih0 _ _
      | exact LeO.none _
      | refine LeO.ite ?_ ?_
      | refine LeO.bind ?_ (fun _ => ?_)
set_option maxHeartbeats 8000000 in
set_option maxRecDepth 100000 in
theorem doorwardref01_Trim.calls (k : Nat) (a0 : ByteArray) (r : ByteArray) (w : World) (h : doorwardref01_Trim.f k a0 = some r) :
    Calls Tryd.prog 41 #[.string a0] w fun e w' => e = .returned (.string r) ∧ Drawn0 w w' := by
  have H : (doorwardref01_Trim.l0 k a0 (a0.size : Int)) = some r := h
  clear h
  have H' := Aside0.mk H
  clear H
  go_enter Tryd.func41, Tryd.ntmps41
  go_wp2
  go_loopg [3] k (fun kq v3 w' => ∃ (x3_1 : Int), v3 = .int .i64 x3_1 ∧ Aside0 (doorwardref01_Trim.l0 kq a0 x3_1 = some r) ∧ Aside0 (kq ≤ k) ∧ Drawn0 w w')
  case atStart => exact ⟨((a0.size : Int)), (by first | rfl | (simp; done) | (simp [*]; done)), H', ⟨Nat.le_refl _⟩, by repeat (first | exact Drawn0.refl _ | apply Drawn0.step)⟩
  case round =>
    clear H'
    obtain ⟨x3_1, rfl, HA, HK1, ⟨m1, rfl⟩⟩ := hrel
    cases gk with
    | zero => exact absurd HA.out (by simp [doorwardref01_Trim.l0])
    | succ k1 =>
      have H := HA.out
      clear HA
      simp only [doorwardref01_Trim.l0] at H
      by_cases c2 : x3_1 > 0
      · rw [if_pos c2] at H
        have c2b0 : decide (0 < x3_1) = true := decide_eq_true c2
        clear c2
        obtain ⟨ji3, hji3⟩ : ∃ j_ : Int, (wrap64 (x3_1 - 1)) = j_ := ⟨_, rfl⟩
        replace H : (if 0 ≤ (ji3) then (if (ji3) < (a0.size : Int) then (if (bt a0 (ji3)) = 0 then (doorwardref01_Trim.l0 k1 a0 ji3) else (if 0 ≤ x3_1 then (if x3_1 ≤ (a0.size : Int) then (some (a0.extract 0 (x3_1 : Int).toNat)) else (none)) else (none))) else (none)) else (none)) = some r := by first | (rw [hji3] at H; exact H) | (simp only [hji3] at H ⊢; exact H)
        have hji3w : (IntKind.i64.wrap (x3_1 - 1)) = ji3 := (i64_w _).trans hji3
        by_cases c4 : 0 ≤ (ji3)
        · rw [if_pos c4] at H
          have c4b0 : decide (0 ≤ (ji3)) = true := decide_eq_true c4
          clear c4
          by_cases c5 : (ji3) < (a0.size : Int)
          · rw [if_pos c5] at H
            have c5b0 : decide ((ji3) < (a0.size : Int)) = true := decide_eq_true c5
            clear c5
            by_cases c7 : (bt a0 (ji3)) = 0
            · rw [if_pos c7] at H
              have c7b0 : ((bt a0 (ji3)) == 0) = true := beq_iff_eq.mpr c7
              have c7b1 : ((bt a0 (ji3)) != 0) = false := bne_eq_false_iff_eq.mpr c7
              clear c7
              have H' := Aside0.mk H
              clear H
              have p6 : 0 ≤ ((ji3) : Int) := of_decide_eq_true (by first | (with_reducible assumption) | assumption)
              have q6 : (ji3) < (a0.size : Int) := of_decide_eq_true (by first | (with_reducible assumption) | assumption)
              have hx6 := bt_at a0 (ji3)
              replace p6 := eq_true p6
              replace q6 := eq_true q6
              go_wp2
              go_roundg k1
              case measure => have := HK1.out; omega
              case rel => exact ⟨(ji3), (by first | rfl | (simp; done) | (simp only [← hji3] <;> (first | rfl | simp)) | (simp [*]; done)), H', ⟨by have := HK1.out; omega⟩, by repeat (first | exact Drawn0.refl _ | apply Drawn0.step)⟩
            · rw [if_neg c7] at H
              have c7b0 : ((bt a0 (ji3)) == 0) = false := beq_eq_false_iff_ne.mpr c7
              have c7b1 : ((bt a0 (ji3)) != 0) = true := bne_iff_ne.mpr c7
              by_cases c8 : 0 ≤ x3_1
              · rw [if_pos c8] at H
                have c8b0 := eq_true c8
                have c8b1 : decide (0 ≤ x3_1) = true := decide_eq_true c8
                clear c8
                by_cases c9 : x3_1 ≤ (a0.size : Int)
                · rw [if_pos c9] at H
                  have c9b0 := eq_true c9
                  have c9b1 : decide (x3_1 ≤ (a0.size : Int)) = true := decide_eq_true c9
                  clear c9
                  obtain rfl := Option.some.inj H
                  have p6 : 0 ≤ ((ji3) : Int) := of_decide_eq_true (by first | (with_reducible assumption) | assumption)
                  have q6 : (ji3) < (a0.size : Int) := of_decide_eq_true (by first | (with_reducible assumption) | assumption)
                  have hx6 := bt_at a0 (ji3)
                  replace p6 := eq_true p6
                  replace q6 := eq_true q6
                  go_wp2
                  go_ret
                  exact ⟨by first | rfl | (simp; done) | (simp only [← hji3] <;> (first | rfl | simp)) | (simp [*]; done), by repeat (first | exact Drawn0.refl _ | apply Drawn0.step)⟩
                · rw [if_neg c9] at H
                  exact absurd H (by simp)
              · rw [if_neg c8] at H
                exact absurd H (by simp)
          · rw [if_neg c5] at H
            exact absurd H (by simp)
        · rw [if_neg c4] at H
          exact absurd H (by simp)
      · rw [if_neg c2] at H
        have c2b0 : decide (0 < x3_1) = false := decide_eq_false c2
        clear c2
        by_cases c10 : 0 ≤ x3_1
        · rw [if_pos c10] at H
          have c10b0 := eq_true c10
          have c10b1 : decide (0 ≤ x3_1) = true := decide_eq_true c10
          clear c10
          by_cases c11 : x3_1 ≤ (a0.size : Int)
          · rw [if_pos c11] at H
            have c11b0 := eq_true c11
            have c11b1 : decide (x3_1 ≤ (a0.size : Int)) = true := decide_eq_true c11
            clear c11
            obtain rfl := Option.some.inj H
            go_wp2
            go_ret
            exact ⟨by first | rfl | (simp; done) | (simp [*]; done), by repeat (first | exact Drawn0.refl _ | apply Drawn0.step)⟩
          · rw [if_neg c11] at H
            exact absurd H (by simp)
        · rw [if_neg c10] at H
          exact absurd H (by simp)

/-! ### doorwardref03_Stands: function 52 -/
def doorwardref03_Stands.f (k : Nat) (a0 : ByteArray) : Option (Bool) := if (a0.size : Int) ≤ 512 then ((doorwardref01_Trim.f k a0).bind fun t129 => (some (t129.toList == a0.toList))) else (some false)
theorem doorwardref03_Stands.mono : ∀ a0 k, LeO (doorwardref03_Stands.f k a0) (doorwardref03_Stands.f (k + 1) a0) := by
  intro a0 k
  unfold doorwardref03_Stands.f
  repeat' first
      | (with_reducible exact doorwardref01_Trim.mono _ _)
      | (with_reducible exact LeO.refl _)
      | (with_reducible exact LeO.none _)
      | (with_reducible refine LeO.ite ?_ ?_)
      | (with_reducible refine LeO.bind ?_ (fun _ => ?_))
      | exact doorwardref01_Trim.mono _ _
      | exact LeO.none _
      | refine LeO.ite ?_ ?_
      | refine LeO.bind ?_ (fun _ => ?_)
set_option maxHeartbeats 8000000 in
set_option maxRecDepth 100000 in
theorem doorwardref03_Stands.calls (k : Nat) (a0 : ByteArray) (r : Bool) (w : World) (h : doorwardref03_Stands.f k a0 = some r) :
    Calls Tryd.prog 52 #[.string a0] w fun e w' => e = .returned (.bool r) ∧ Drawn0 w w' := by
  have H : (if (a0.size : Int) ≤ 512 then ((doorwardref01_Trim.f k a0).bind fun t129 => (some (t129.toList == a0.toList))) else (some false)) = some r := h
  clear h
  by_cases c2 : (a0.size : Int) ≤ 512
  · rw [if_pos c2] at H
    have c2b0 : decide ((a0.size : Int) ≤ 512) = true := decide_eq_true c2
    have c2b1 : decide (a0.size ≤ 512) = true := decide_eq_true (by omega)
    clear c2
    replace H := Option.bind_eq_some_iff.mp H
    obtain ⟨t129, A30, H⟩ := H
    replace H : (some (t129.toList == a0.toList)) = some r := H
    have A3 := Aside0.mk A30
    clear A30
    obtain rfl := Option.some.inj H
    go_enter Tryd.func52, Tryd.ntmps52
    go_wp2_with (first | (go_at_call 41; (first | (with_reducible refine (doorwardref01_Trim.calls k a0 t129 _ A3.out).mono ?_) | (refine calls_of_args ?hfit_ ((doorwardref01_Trim.calls k a0 t129 _ A3.out).mono ?_); (case hfit_ => (first | rfl | (simp; done) | (simp [*]; done) | (simp; omega) | (simp [ByteArray.size_extract]; omega))))); rintro e w' ⟨rfl, ⟨nd, rfl⟩⟩))
    go_ret
    exact ⟨by first | rfl | (simp; done) | (simp [*]; done), by repeat (first | exact Drawn0.refl _ | apply Drawn0.step)⟩
  · rw [if_neg c2] at H
    have c2b0 : decide ((a0.size : Int) ≤ 512) = false := decide_eq_false c2
    have c2b1 : decide (a0.size ≤ 512) = false := decide_eq_false (by omega)
    clear c2
    obtain rfl := Option.some.inj H
    go_enter Tryd.func52, Tryd.ntmps52
    go_wp2
    go_ret
    exact ⟨by first | rfl | (simp; done) | (simp [*]; done), by repeat (first | exact Drawn0.refl _ | apply Drawn0.step)⟩

/-! ### doorwardref03_Right: function 19 -/
mutual
def doorwardref03_Right.j0 : Nat → Int → Bool → List ByteArray → List (S42) → Option (Bool)
  | 0, _, _, _, _ => none
  | k + 1, x3, x16, x131000, x131001 => if x16 = true then (some false) else (doorwardref03_Right.l0 k x3 x131000 (x131000.length : Int) 0 x131000 x131001)
def doorwardref03_Right.l0 : Nat → Int → List ByteArray → Int → Int → List ByteArray → List (S42) → Option (Bool)
  | 0, _, _, _, _, _, _ => none
  | k + 1, x3, x18, x19, x20, x131000, x131001 => if x20 < x19 then (if 0 ≤ x20 then (if x20 < (x18.length : Int) then ((doorwardref03_Stands.f k (rdOf ByteArray.empty x18 x20)).bind fun t132 => (if t132 = true then (doorwardref03_Right.l0 k x3 x18 x19 (wrap64 (x20 + 1)) x131000 x131001) else (some false))) else (none)) else (none)) else (doorwardref03_Right.l1 k x3 x131001 (x131001.length : Int) 0)
def doorwardref03_Right.l1 : Nat → Int → List (S42) → Int → Int → Option (Bool)
  | 0, _, _, _, _ => none
  | k + 1, x3, x29, x30, x31 => if x31 < x30 then (if 0 ≤ x31 then (if x31 < (x29.length : Int) then (if ((rd_T42 x29 x31).f0) < 0 then (some false) else (if ((rd_T42 x29 x31).f0) ≥ x3 then (some false) else ((doorwardref03_Stands.f k ((rd_T42 x29 x31).f1)).bind fun t135 => (if t135 = true then (doorwardref03_Right.l1 k x3 x29 x30 (wrap64 (x31 + 1))) else (some false))))) else (none)) else (none)) else (some true)
end
def doorwardref03_Right.f (k : Nat) (l0_0 : List ByteArray) (l0_1 : List (S42)) : Option (Bool) := if (l0_0.length : Int) < 1 then (doorwardref03_Right.j0 k (l0_0.length : Int) true l0_0 l0_1) else (doorwardref03_Right.j0 k (l0_0.length : Int) (decide ((l0_0.length : Int) > 256)) l0_0 l0_1)
theorem doorwardref03_Right.mono_l : ∀ k, (∀ y0 y1 y2 y3, LeO (doorwardref03_Right.j0 k y0 y1 y2 y3) (doorwardref03_Right.j0 (k + 1) y0 y1 y2 y3)) ∧ (∀ y0 y1 y2 y3 y4 y5, LeO (doorwardref03_Right.l0 k y0 y1 y2 y3 y4 y5) (doorwardref03_Right.l0 (k + 1) y0 y1 y2 y3 y4 y5)) ∧ (∀ y0 y1 y2 y3, LeO (doorwardref03_Right.l1 k y0 y1 y2 y3) (doorwardref03_Right.l1 (k + 1) y0 y1 y2 y3))
  | 0 => ⟨fun _ _ _ _ r h => by simp [doorwardref03_Right.j0] at h, fun _ _ _ _ _ _ r h => by simp [doorwardref03_Right.l0] at h, fun _ _ _ _ r h => by simp [doorwardref03_Right.l1] at h⟩
  | k + 1 => by
    obtain ⟨ih0, ih1, ih2⟩ := doorwardref03_Right.mono_l k
    refine ⟨?_, ?_, ?_⟩
    · intro y0 y1 y2 y3
      unfold doorwardref03_Right.j0
      repeat' first
      | (with_reducible exact ih0 _ _ _ _)
      | (with_reducible exact ih1 _ _ _ _ _ _)
      | (with_reducible exact ih2 _ _ _ _)
      | (with_reducible exact doorwardref03_Stands.mono _ _)
      | (with_reducible exact LeO.refl _)
      | (with_reducible exact LeO.none _)
      | (with_reducible refine LeO.ite ?_ ?_)
      | (with_reducible refine LeO.bind ?_ (fun _ => ?_))
      | exact ih0 _ _ _ _
      | exact ih1 _ _ _ _ _ _
      | exact ih2 _ _ _ _
      | exact doorwardref03_Stands.mono _ _
      | exact LeO.none _
      | refine LeO.ite ?_ ?_
      | refine LeO.bind ?_ (fun _ => ?_)
    · intro y0 y1 y2 y3 y4 y5
      unfold doorwardref03_Right.l0
      repeat' first
      | (with_reducible exact ih0 _ _ _ _)
      | (with_reducible exact ih1 _ _ _ _ _ _)
      | (with_reducible exact ih2 _ _ _ _)
      | (with_reducible exact doorwardref03_Stands.mono _ _)
      | (with_reducible exact LeO.refl _)
      | (with_reducible exact LeO.none _)
      | (with_reducible refine LeO.ite ?_ ?_)
      | (with_reducible refine LeO.bind ?_ (fun _ => ?_))
      | exact ih0 _ _ _ _
      | exact ih1 _ _ _ _ _ _
      | exact ih2 _ _ _ _
      | exact doorwardref03_Stands.mono _ _
      | exact LeO.none _
      | refine LeO.ite ?_ ?_
      | refine LeO.bind ?_ (fun _ => ?_)
    · intro y0 y1 y2 y3
      unfold doorwardref03_Right.l1
      repeat' first
      | (with_reducible exact ih0 _ _ _ _)
      | (with_reducible exact ih1 _ _ _ _ _ _)
      | (with_reducible exact ih2 _ _ _ _)
      | (with_reducible exact doorwardref03_Stands.mono _ _)
      | (with_reducible exact LeO.refl _)
      | (with_reducible exact LeO.none _)
      | (with_reducible refine LeO.ite ?_ ?_)
      | (with_reducible refine LeO.bind ?_ (fun _ => ?_))
      | exact ih0 _ _ _ _
      | exact ih1 _ _ _ _ _ _
      | exact ih2 _ _ _ _
      | exact doorwardref03_Stands.mono _ _
      | exact LeO.none _
      | refine LeO.ite ?_ ?_
      | refine LeO.bind ?_ (fun _ => ?_)
theorem doorwardref03_Right.mono : ∀ a0 a1 k, LeO (doorwardref03_Right.f k a0 a1) (doorwardref03_Right.f (k + 1) a0 a1) := by
  intro a0 a1 k
  obtain ⟨ih0, ih1, ih2⟩ := doorwardref03_Right.mono_l k
  unfold doorwardref03_Right.f
  repeat' first
      | (with_reducible exact ih0 _ _ _ _)
      | (with_reducible exact ih1 _ _ _ _ _ _)
      | (with_reducible exact ih2 _ _ _ _)
      | (with_reducible exact doorwardref03_Stands.mono _ _)
      | (with_reducible exact LeO.refl _)
      | (with_reducible exact LeO.none _)
      | (with_reducible refine LeO.ite ?_ ?_)
      | (with_reducible refine LeO.bind ?_ (fun _ => ?_))
      | exact ih0 _ _ _ _
      | exact ih1 _ _ _ _ _ _
      | exact ih2 _ _ _ _
      | exact doorwardref03_Stands.mono _ _
      | exact LeO.none _
      | refine LeO.ite ?_ ?_
      | refine LeO.bind ?_ (fun _ => ?_)
set_option maxHeartbeats 8000000 in
set_option maxRecDepth 100000 in
theorem doorwardref03_Right.calls (k : Nat) (A0_0 : Option Addr) (c0_0 : Nat) (l0_0 : List ByteArray) (A0_1 : Option Addr) (c0_1 : Nat) (l0_1 : List (S42)) (r : Bool) (w : World) (hr0_0 : Kd.C Kd.string w A0_0 l0_0.length l0_0) (hc0_0 : l0_0.length ≤ c0_0) (hr0_1 : Kd.C k42 w A0_1 l0_1.length l0_1) (hc0_1 : l0_1.length ≤ c0_1) (h : doorwardref03_Right.f k l0_0 l0_1 = some r) :
    Calls Tryd.prog 19 #[.agg #[.slice A0_0 l0_0.length c0_0, .slice A0_1 l0_1.length c0_1]] w fun e w' => e = .returned (.bool r) ∧ Below w.heap.size w w' := by
  have hu25 := Tryd.underlying25
  have hu42 := Tryd.underlying42
  have HR0_0 := Aside0.mk hr0_0
  have HC0_0 := Aside0.mk hc0_0
  clear hr0_0 hc0_0
  have HR0_1 := Aside0.mk hr0_1
  have HC0_1 := Aside0.mk hc0_1
  clear hr0_1 hc0_1
  have HB := Aside0.mk (Below.refl w.heap.size w)
  have H : (if (l0_0.length : Int) < 1 then (doorwardref03_Right.j0 k (l0_0.length : Int) true l0_0 l0_1) else (doorwardref03_Right.j0 k (l0_0.length : Int) (decide ((l0_0.length : Int) > 256)) l0_0 l0_1)) = some r := h
  clear h
  have HC2 := Aside0.mk H
  clear H
  go_enter Tryd.func19, Tryd.ntmps19
  go_upto_region 2 with (first | ((with_reducible refine gate_dst (N := 1) rfl ?_); refine box_event ?hg (N := 1) ?hd (cs := #[.slice A0_0 l0_0.length c0_0, .slice A0_1 l0_1.length c0_1]) (t := 25) ?hr ?_; (case hd => rfl); (case hg => rfl); (case hr => first | (go_simp; done) | (go_simp; rfl)); intro gb130 hg w3 hbox hb; have n0_ := Aside0.mk (below_step (by repeat (first | (with_reducible first | exact HB.out | apply below_alloc | apply pw_below_drewN | apply below_drew1) | exact HB.out)) hb); have n1_ := Aside0.mk (hbox); have n2_ := Aside0.mk ((by rw [hg]; exact (below_size (by repeat (first | (with_reducible first | exact HB.out | apply below_alloc | apply pw_below_drewN | apply below_drew1) | exact HB.out))) : w.heap.size ≤ gb130)); have n3_ := Aside0.mk ((by rw [hg]; exact (below_size (by repeat (first | (with_reducible first | exact HB.out | apply below_alloc | apply pw_below_drewN | apply below_drew1) | exact HB.out))) : w.heap.size ≤ gb130)); clear HB; have HB := n0_; have BK130 := n1_; have GW130 := n2_; have GE130 := n3_; clear n0_ n1_ n2_ n3_; clear hb hbox hg; have hcz4_0 : w3.cell? ⟨gb130, 0, none⟩ = some (.slice A0_0 l0_0.length c0_0) := (blk_cell BK130.out 0).trans rfl; have hcz4_1 : w3.cell? ⟨gb130, 1, none⟩ = some (.slice A0_1 l0_1.length c0_1) := (blk_cell BK130.out 1).trans rfl; have hfz4_0 := blk_frozen BK130.out 0; have hfz4_1 := blk_frozen BK130.out 1))
  (try simp only [Act.put, List.setIfInBounds_toArray, List.set_cons_zero, List.set_cons_succ])
  go_cut [16] (fun v16 wc => ∃ (kq : Nat) (x16_1 : Bool), v16 = .bool x16_1 ∧ Aside0 (doorwardref03_Right.j0 kq (l0_0.length : Int) x16_1 l0_0 l0_1 = some r) ∧ Aside0 (kq ≤ k) ∧ Aside0 (wc.heap[gb130]? = some (.cells #[(.slice A0_0 l0_0.length c0_0), (.slice A0_1 l0_1.length c0_1)] 25 (0, 0))) ∧ Aside0 (Below w.heap.size w wc))
  case first =>
    have H := HC2.out
    clear HC2
    by_cases c5 : (l0_0.length : Int) < 1
    · rw [if_pos c5] at H
      have c5b0 : decide ((l0_0.length : Int) < 1) = true := decide_eq_true c5
      have c5b1 : decide (l0_0.length < 1) = true := decide_eq_true (by omega)
      clear c5
      (first | rw [c5b0] | (simp only [i64_w, i32_w]; rw [c5b0]) | skip)
      have H' := Aside0.mk H
      clear H
      go_wp2
      go_meet
      case rel => exact ⟨_, (true), (by first | rfl | (simp; done) | (simp [*]; done)), H', ⟨by first | omega | exact Nat.le_refl _⟩, ⟨by (with_reducible repeat (first | refine blk_drewN ?_ _ | refine blk_drew ?_ | refine blk_alloc ?_ _)); exact BK130.out⟩, ⟨by repeat (first | (with_reducible first | exact HB.out | apply below_alloc | apply pw_below_drewN | apply below_drew1 | refine below_set ?_ GE130.out) | exact HB.out)⟩⟩
    · rw [if_neg c5] at H
      have c5b0 : decide ((l0_0.length : Int) < 1) = false := decide_eq_false c5
      have c5b1 : decide (l0_0.length < 1) = false := decide_eq_false (by omega)
      clear c5
      (first | rw [c5b0] | (simp only [i64_w, i32_w]; rw [c5b0]) | skip)
      have H' := Aside0.mk H
      clear H
      go_wp2
      go_meet
      case rel => exact ⟨_, (decide ((l0_0.length : Int) > 256)), (by first | rfl | (simp; done) | (simp [*]; done)), H', ⟨by first | omega | exact Nat.le_refl _⟩, ⟨by (with_reducible repeat (first | refine blk_drewN ?_ _ | refine blk_drew ?_ | refine blk_alloc ?_ _)); exact BK130.out⟩, ⟨by repeat (first | (with_reducible first | exact HB.out | apply below_alloc | apply pw_below_drewN | apply below_drew1 | refine below_set ?_ GE130.out) | exact HB.out)⟩⟩
  case rest =>
    clear HC2
    try clear c1
    try clear p2
    try clear c5
    try clear c5b0
    try clear c5b1
    try clear hcz4_0
    try clear hcz4_1
    try clear hfz4_0
    try clear hfz4_1
    obtain ⟨kq, x16_1, rfl, HA, HJ1, BK130, HB⟩ := hcut
    cases kq with
    | zero => exact absurd HA.out (by simp [doorwardref03_Right.j0])
    | succ kj1 =>
      have H := HA.out
      clear HA
      simp only [doorwardref03_Right.j0] at H
      by_cases c6 : x16_1 = true
      · subst c6
        have H1 : (some false) = some r := by rw [if_pos rfl] at H; exact H
        clear H
        have H := H1
        clear H1
        obtain rfl := Option.some.inj H
        go_wp2
        go_ret
        exact ⟨by first | rfl | (rw [show ∀ n_ : Int, -9223372036854775808 ≤ n_ → n_ < 9223372036854775808 → wrap64 n_ = n_ from fun n_ h1_ h2_ => by unfold wrap64; omega] <;> first | rfl | omega) | (simp [errW_none, errW_some] <;> rfl) | (simp [*, errW_none, errW_some] <;> rfl), by repeat (first | (with_reducible first | exact HB.out | apply below_alloc | apply pw_below_drewN | apply below_drew1 | refine below_set ?_ GE130.out) | exact HB.out)⟩
      · replace c6 := Bool.eq_false_iff.mpr c6
        subst c6
        have H1 : (doorwardref03_Right.l0 kj1 (l0_0.length : Int) l0_0 (l0_0.length : Int) 0 l0_0 l0_1) = some r := by rw [if_neg (show ¬ (false = true) by decide)] at H; exact H
        clear H
        have H := H1
        clear H1
        have H' := Aside0.mk H
        clear H
        have hcz7_0 : wc.cell? ⟨gb130, 0, none⟩ = some (.slice A0_0 l0_0.length c0_0) := (blk_cell BK130.out 0).trans rfl
        have hcz7_1 : wc.cell? ⟨gb130, 1, none⟩ = some (.slice A0_1 l0_1.length c0_1) := (blk_cell BK130.out 1).trans rfl
        have hfz7_0 := blk_frozen BK130.out 0
        have hfz7_1 := blk_frozen BK130.out 1
        go_wp2
        go_loopg [20] kj1 (fun kq v20 w' => ∃ (x20_2 : Int), v20 = .int .i64 x20_2 ∧ Aside0 (doorwardref03_Right.l0 kq (l0_0.length : Int) l0_0 (l0_0.length : Int) x20_2 l0_0 l0_1 = some r) ∧ Aside0 (kq ≤ kj1) ∧ Aside0 (w'.heap[gb130]? = some (.cells #[(.slice A0_0 l0_0.length c0_0), (.slice A0_1 l0_1.length c0_1)] 25 (0, 0))) ∧ Aside0 (Below w.heap.size w w'))
        case atStart => exact ⟨(0), (by first | rfl | (simp; done) | (simp [*]; done)), H', ⟨Nat.le_refl _⟩, ⟨by (with_reducible repeat (first | refine blk_drewN ?_ _ | refine blk_drew ?_ | refine blk_alloc ?_ _)); exact BK130.out⟩, ⟨by repeat (first | (with_reducible first | exact HB.out | apply below_alloc | apply pw_below_drewN | apply below_drew1 | refine below_set ?_ GE130.out) | exact HB.out)⟩⟩
        case round =>
          clear H'
          try clear c1
          try clear p2
          try clear c5
          try clear c5b0
          try clear c5b1
          try clear c6
          try clear hcz4_0
          try clear hcz4_1
          try clear hcz7_0
          try clear hcz7_1
          try clear hfz4_0
          try clear hfz4_1
          try clear hfz7_0
          try clear hfz7_1
          try clear p2
          obtain ⟨x20_2, rfl, HA, HK2, BK130, HB⟩ := hrel
          cases gk with
          | zero => exact absurd HA.out (by simp [doorwardref03_Right.l0])
          | succ k2 =>
            have H := HA.out
            clear HA
            simp only [doorwardref03_Right.l0] at H
            by_cases c8 : x20_2 < (l0_0.length : Int)
            · rw [if_pos c8] at H
              have c8b0 : decide (x20_2 < (l0_0.length : Int)) = true := decide_eq_true c8
              clear c8
              by_cases c9 : 0 ≤ x20_2
              · rw [if_pos c9] at H
                have c9b0 : decide (0 ≤ x20_2) = true := decide_eq_true c9
                clear c9
                by_cases c10 : x20_2 < (l0_0.length : Int)
                · rw [if_pos c10] at H
                  have c10b0 : decide (x20_2 < (l0_0.length : Int)) = true := decide_eq_true c10
                  clear c10
                  replace H := Option.bind_eq_some_iff.mp H
                  obtain ⟨t132, A110, H⟩ := H
                  replace H : (if t132 = true then (doorwardref03_Right.l0 k2 (l0_0.length : Int) l0_0 (l0_0.length : Int) (wrap64 (x20_2 + 1)) l0_0 l0_1) else (some false)) = some r := H
                  have A11 := Aside0.mk A110
                  clear A110
                  by_cases c12 : t132 = true
                  · subst c12
                    have H1 : (doorwardref03_Right.l0 k2 (l0_0.length : Int) l0_0 (l0_0.length : Int) (wrap64 (x20_2 + 1)) l0_0 l0_1) = some r := by rw [if_pos rfl] at H; exact H
                    clear H
                    have H := H1
                    clear H1
                    have H' := Aside0.mk H
                    clear H
                    have p131 : 0 ≤ (x20_2 : Int) := of_decide_eq_true (by first | (with_reducible assumption) | assumption)
                    have q131 : x20_2 < (l0_0.length : Int) := of_decide_eq_true (by first | (with_reducible assumption) | assumption)
                    obtain ⟨ad131, e131, hx131_0⟩ := Kd.at_string HR0_0.out x20_2 p131 q131
                    cases e131
                    replace hx131_0 := (HB.out.cell (World.block_lt_of_cell? w _ hx131_0)).trans hx131_0
                    replace p131 := eq_true p131
                    replace q131 := eq_true q131
                    go_wp2_with (first | ((with_reducible refine gate_callee (f := 52) rfl ?_); refine goesL_ (some 25) rfl rfl Tryd.func52 (by kernel_rfl) rfl #[.string (rdOf ByteArray.empty l0_0 x20_2)] rfl (by (try simp only [List.map_toArray, List.map_cons, List.map_nil]); first | done | rfl | (simp only [List.length_drop, List.length_take]; rfl) | (simp [Act.eval, IntKind.wrap, IntKind.bits, IntKind.signed]; (repeat (first | (rename (decide _ = false) => h_; replace h_ := of_decide_eq_false h_) | (rename (decide _ = true) => h_; replace h_ := of_decide_eq_true h_))); omega)) ?_; (with_reducible refine (doorwardref03_Stands.calls k2 (rdOf ByteArray.empty l0_0 x20_2) true _ A11.out).mono ?_); rintro e w' ⟨rfl, ⟨nd, rfl⟩⟩; refine ⟨_, rfl, ?_⟩))
                    go_roundg k2
                    case measure => have := HJ1.out; have := HK2.out; omega
                    case rel => exact ⟨(wrap64 (x20_2 + 1)), (by first | rfl | (simp; done) | (simp [*]; done)), H', ⟨by have := HJ1.out; have := HK2.out; omega⟩, ⟨by (with_reducible repeat (first | refine blk_drewN ?_ _ | refine blk_drew ?_ | refine blk_alloc ?_ _)); exact BK130.out⟩, ⟨by repeat (first | (with_reducible first | exact HB.out | apply below_alloc | apply pw_below_drewN | apply below_drew1 | refine below_set ?_ GE130.out) | exact HB.out)⟩⟩
                  · replace c12 := Bool.eq_false_iff.mpr c12
                    subst c12
                    have H1 : (some false) = some r := by rw [if_neg (show ¬ (false = true) by decide)] at H; exact H
                    clear H
                    have H := H1
                    clear H1
                    obtain rfl := Option.some.inj H
                    have p131 : 0 ≤ (x20_2 : Int) := of_decide_eq_true (by first | (with_reducible assumption) | assumption)
                    have q131 : x20_2 < (l0_0.length : Int) := of_decide_eq_true (by first | (with_reducible assumption) | assumption)
                    obtain ⟨ad131, e131, hx131_0⟩ := Kd.at_string HR0_0.out x20_2 p131 q131
                    cases e131
                    replace hx131_0 := (HB.out.cell (World.block_lt_of_cell? w _ hx131_0)).trans hx131_0
                    replace p131 := eq_true p131
                    replace q131 := eq_true q131
                    go_wp2_with (first | ((with_reducible refine gate_callee (f := 52) rfl ?_); refine goesL_ (some 25) rfl rfl Tryd.func52 (by kernel_rfl) rfl #[.string (rdOf ByteArray.empty l0_0 x20_2)] rfl (by (try simp only [List.map_toArray, List.map_cons, List.map_nil]); first | done | rfl | (simp only [List.length_drop, List.length_take]; rfl) | (simp [Act.eval, IntKind.wrap, IntKind.bits, IntKind.signed]; (repeat (first | (rename (decide _ = false) => h_; replace h_ := of_decide_eq_false h_) | (rename (decide _ = true) => h_; replace h_ := of_decide_eq_true h_))); omega)) ?_; (with_reducible refine (doorwardref03_Stands.calls k2 (rdOf ByteArray.empty l0_0 x20_2) false _ A11.out).mono ?_); rintro e w' ⟨rfl, ⟨nd, rfl⟩⟩; refine ⟨_, rfl, ?_⟩))
                    go_ret
                    exact ⟨by first | rfl | (rw [show ∀ n_ : Int, -9223372036854775808 ≤ n_ → n_ < 9223372036854775808 → wrap64 n_ = n_ from fun n_ h1_ h2_ => by unfold wrap64; omega] <;> first | rfl | omega) | (simp [errW_none, errW_some] <;> rfl) | (simp [*, errW_none, errW_some] <;> rfl), by repeat (first | (with_reducible first | exact HB.out | apply below_alloc | apply pw_below_drewN | apply below_drew1 | refine below_set ?_ GE130.out) | exact HB.out)⟩
                · rw [if_neg c10] at H
                  exact absurd H (by simp)
              · rw [if_neg c9] at H
                exact absurd H (by simp)
            · rw [if_neg c8] at H
              have c8b0 : decide (x20_2 < (l0_0.length : Int)) = false := decide_eq_false c8
              clear c8
              have H' := Aside0.mk H
              clear H
              have hcz13_0 : wr.cell? ⟨gb130, 0, none⟩ = some (.slice A0_0 l0_0.length c0_0) := (blk_cell BK130.out 0).trans rfl
              have hcz13_1 : wr.cell? ⟨gb130, 1, none⟩ = some (.slice A0_1 l0_1.length c0_1) := (blk_cell BK130.out 1).trans rfl
              have hfz13_0 := blk_frozen BK130.out 0
              have hfz13_1 := blk_frozen BK130.out 1
              go_wp2
              go_loopg [31] k2 (fun kq v31 w' => ∃ (x31_3 : Int), v31 = .int .i64 x31_3 ∧ Aside0 (doorwardref03_Right.l1 kq (l0_0.length : Int) l0_1 (l0_1.length : Int) x31_3 = some r) ∧ Aside0 (kq ≤ k2) ∧ Aside0 (w'.heap[gb130]? = some (.cells #[(.slice A0_0 l0_0.length c0_0), (.slice A0_1 l0_1.length c0_1)] 25 (0, 0))) ∧ Aside0 (Below w.heap.size w w'))
              case atStart => exact ⟨(0), (by first | rfl | (simp; done) | (simp [*]; done)), H', ⟨Nat.le_refl _⟩, ⟨by (with_reducible repeat (first | refine blk_drewN ?_ _ | refine blk_drew ?_ | refine blk_alloc ?_ _)); exact BK130.out⟩, ⟨by repeat (first | (with_reducible first | exact HB.out | apply below_alloc | apply pw_below_drewN | apply below_drew1 | refine below_set ?_ GE130.out) | exact HB.out)⟩⟩
              case round =>
                clear H'
                try clear c1
                try clear p1
                try clear q1
                try clear hx1
                try clear p2
                try clear c5
                try clear c5b0
                try clear c5b1
                try clear c6
                try clear p6
                try clear c8
                try clear c8b0
                try clear c9
                try clear c9b0
                try clear c10
                try clear c10b0
                try clear c12
                try clear p13
                try clear q13
                try clear hx13
                try clear hcz13_0
                try clear hcz13_1
                try clear hcz4_0
                try clear hcz4_1
                try clear hcz7_0
                try clear hcz7_1
                try clear hfz13_0
                try clear hfz13_1
                try clear hfz4_0
                try clear hfz4_1
                try clear hfz7_0
                try clear hfz7_1
                try clear hx131_0
                try clear p131
                try clear p2
                try clear q131
                obtain ⟨x31_3, rfl, HA, HK3, BK130, HB⟩ := hrel
                cases gk with
                | zero => exact absurd HA.out (by simp [doorwardref03_Right.l1])
                | succ k3 =>
                  have H := HA.out
                  clear HA
                  simp only [doorwardref03_Right.l1] at H
                  by_cases c14 : x31_3 < (l0_1.length : Int)
                  · rw [if_pos c14] at H
                    have c14b0 : decide (x31_3 < (l0_1.length : Int)) = true := decide_eq_true c14
                    clear c14
                    by_cases c15 : 0 ≤ x31_3
                    · rw [if_pos c15] at H
                      have c15b0 : decide (0 ≤ x31_3) = true := decide_eq_true c15
                      clear c15
                      by_cases c16 : x31_3 < (l0_1.length : Int)
                      · rw [if_pos c16] at H
                        have c16b0 : decide (x31_3 < (l0_1.length : Int)) = true := decide_eq_true c16
                        clear c16
                        by_cases c17 : ((rd_T42 l0_1 x31_3).f0) < 0
                        · rw [if_pos c17] at H
                          have c17b0 : decide (((rd_T42 l0_1 x31_3).f0) < 0) = true := decide_eq_true c17
                          clear c17
                          obtain rfl := Option.some.inj H
                          have p133 : 0 ≤ (x31_3 : Int) := of_decide_eq_true (by first | (with_reducible assumption) | assumption)
                          have q133 : x31_3 < (l0_1.length : Int) := of_decide_eq_true (by first | (with_reducible assumption) | assumption)
                          obtain ⟨ad133, e133, hx133_0, hx133_1⟩ := at_T42 HR0_1.out x31_3 p133 q133
                          cases e133
                          replace hx133_0 := (HB.out.cell (World.block_lt_of_cell? w _ hx133_0)).trans hx133_0
                          replace hx133_1 := (HB.out.cell (World.block_lt_of_cell? w _ hx133_1)).trans hx133_1
                          replace p133 := eq_true p133
                          replace q133 := eq_true q133
                          go_wp2_with (first | ((with_reducible refine gate_dst (N := 7) rfl ?_); refine box_event ?hg (N := 7) ?hd (cs := #[.int .i64 0, .string (⟨#[]⟩ : ByteArray)]) (t := 42) ?hr ?_; (case hd => rfl); (case hg => rfl); (case hr => first | (go_simp; done) | (go_simp; rfl)); intro gb134 hg w18 hbox hb; have n0_ := Aside0.mk (blk_below (g := gb130) (o := .cells #[.slice A0_0 l0_0.length c0_0, .slice (some ad133) l0_1.length c0_1] 25 (0, 0)) (by (with_reducible repeat (first | refine blk_drewN ?_ _ | refine blk_drew ?_ | refine blk_alloc ?_ _)); exact BK130.out) hb); have n1_ := Aside0.mk (below_step (by repeat (first | (with_reducible first | exact HB.out | apply below_alloc | apply pw_below_drewN | apply below_drew1 | refine below_set ?_ GE130.out) | exact HB.out)) hb); have n2_ := Aside0.mk (hbox); have n3_ := Aside0.mk ((by rw [hg]; exact (below_size (by repeat (first | (with_reducible first | exact HB.out | apply below_alloc | apply pw_below_drewN | apply below_drew1 | refine below_set ?_ GE130.out) | exact HB.out))) : w.heap.size ≤ gb134)); have n4_ := Aside0.mk ((by rw [hg]; exact (below_size (by repeat (first | (with_reducible first | exact HB.out | apply below_alloc | apply pw_below_drewN | apply below_drew1 | refine below_set ?_ GE130.out) | exact HB.out))) : w.heap.size ≤ gb134)); have n5_ := Aside0.mk ((by rw [hg]; exact Nat.ne_of_lt (blk_lt (g := gb130) (o := .cells #[.slice A0_0 l0_0.length c0_0, .slice (some ad133) l0_1.length c0_1] 25 (0, 0)) (by (with_reducible repeat (first | refine blk_drewN ?_ _ | refine blk_drew ?_ | refine blk_alloc ?_ _)); exact BK130.out)) : gb130 ≠ gb134)); have n6_ := Aside0.mk ((by rw [hg]; exact Nat.ne_of_gt (blk_lt (g := gb130) (o := .cells #[.slice A0_0 l0_0.length c0_0, .slice (some ad133) l0_1.length c0_1] 25 (0, 0)) (by (with_reducible repeat (first | refine blk_drewN ?_ _ | refine blk_drew ?_ | refine blk_alloc ?_ _)); exact BK130.out)) : gb134 ≠ gb130)); clear BK130; clear HB; have BK130 := n0_; have HB := n1_; have BK134 := n2_; have GW134 := n3_; have GE134 := n4_; have NB130_134 := n5_; have NB134_130 := n6_; clear n0_ n1_ n2_ n3_ n4_ n5_ n6_; clear hb hbox hg; have hnb19 := NB134_130.out; have hnc19 := NB130_134.out; have hcz20_0 : w18.cell? ⟨gb134, 0, none⟩ = some (.int .i64 0) := (blk_cell BK134.out 0).trans rfl; have hcz20_1 : w18.cell? ⟨gb134, 1, none⟩ = some (.string (⟨#[]⟩ : ByteArray)) := (blk_cell BK134.out 1).trans rfl; have hfz20_0 := blk_frozen BK134.out 0; have hfz20_1 := blk_frozen BK134.out 1))
                          go_ret
                          exact ⟨by first | rfl | (rw [show ∀ n_ : Int, -9223372036854775808 ≤ n_ → n_ < 9223372036854775808 → wrap64 n_ = n_ from fun n_ h1_ h2_ => by unfold wrap64; omega] <;> first | rfl | omega) | (simp [errW_none, errW_some] <;> rfl) | (simp [*, errW_none, errW_some] <;> rfl), by repeat (first | (with_reducible first | exact HB.out | apply below_alloc | apply pw_below_drewN | apply below_drew1 | refine below_set ?_ GE130.out | refine below_set ?_ GE134.out) | exact HB.out)⟩
                        · rw [if_neg c17] at H
                          have c17b0 : decide (((rd_T42 l0_1 x31_3).f0) < 0) = false := decide_eq_false c17
                          clear c17
                          by_cases c21 : ((rd_T42 l0_1 x31_3).f0) ≥ (l0_0.length : Int)
                          · rw [if_pos c21] at H
                            have c21b0 : decide ((l0_0.length : Int) ≤ ((rd_T42 l0_1 x31_3).f0)) = true := decide_eq_true c21
                            clear c21
                            obtain rfl := Option.some.inj H
                            have p133 : 0 ≤ (x31_3 : Int) := of_decide_eq_true (by first | (with_reducible assumption) | assumption)
                            have q133 : x31_3 < (l0_1.length : Int) := of_decide_eq_true (by first | (with_reducible assumption) | assumption)
                            obtain ⟨ad133, e133, hx133_0, hx133_1⟩ := at_T42 HR0_1.out x31_3 p133 q133
                            cases e133
                            replace hx133_0 := (HB.out.cell (World.block_lt_of_cell? w _ hx133_0)).trans hx133_0
                            replace hx133_1 := (HB.out.cell (World.block_lt_of_cell? w _ hx133_1)).trans hx133_1
                            replace p133 := eq_true p133
                            replace q133 := eq_true q133
                            go_wp2_with (first | ((with_reducible refine gate_dst (N := 7) rfl ?_); refine box_event ?hg (N := 7) ?hd (cs := #[.int .i64 0, .string (⟨#[]⟩ : ByteArray)]) (t := 42) ?hr ?_; (case hd => rfl); (case hg => rfl); (case hr => first | (go_simp; done) | (go_simp; rfl)); intro gb134 hg w22 hbox hb; have n0_ := Aside0.mk (blk_below (g := gb130) (o := .cells #[.slice A0_0 l0_0.length c0_0, .slice (some ad133) l0_1.length c0_1] 25 (0, 0)) (by (with_reducible repeat (first | refine blk_drewN ?_ _ | refine blk_drew ?_ | refine blk_alloc ?_ _)); exact BK130.out) hb); have n1_ := Aside0.mk (below_step (by repeat (first | (with_reducible first | exact HB.out | apply below_alloc | apply pw_below_drewN | apply below_drew1 | refine below_set ?_ GE130.out) | exact HB.out)) hb); have n2_ := Aside0.mk (hbox); have n3_ := Aside0.mk ((by rw [hg]; exact (below_size (by repeat (first | (with_reducible first | exact HB.out | apply below_alloc | apply pw_below_drewN | apply below_drew1 | refine below_set ?_ GE130.out) | exact HB.out))) : w.heap.size ≤ gb134)); have n4_ := Aside0.mk ((by rw [hg]; exact (below_size (by repeat (first | (with_reducible first | exact HB.out | apply below_alloc | apply pw_below_drewN | apply below_drew1 | refine below_set ?_ GE130.out) | exact HB.out))) : w.heap.size ≤ gb134)); have n5_ := Aside0.mk ((by rw [hg]; exact Nat.ne_of_lt (blk_lt (g := gb130) (o := .cells #[.slice A0_0 l0_0.length c0_0, .slice (some ad133) l0_1.length c0_1] 25 (0, 0)) (by (with_reducible repeat (first | refine blk_drewN ?_ _ | refine blk_drew ?_ | refine blk_alloc ?_ _)); exact BK130.out)) : gb130 ≠ gb134)); have n6_ := Aside0.mk ((by rw [hg]; exact Nat.ne_of_gt (blk_lt (g := gb130) (o := .cells #[.slice A0_0 l0_0.length c0_0, .slice (some ad133) l0_1.length c0_1] 25 (0, 0)) (by (with_reducible repeat (first | refine blk_drewN ?_ _ | refine blk_drew ?_ | refine blk_alloc ?_ _)); exact BK130.out)) : gb134 ≠ gb130)); clear BK130; clear HB; have BK130 := n0_; have HB := n1_; have BK134 := n2_; have GW134 := n3_; have GE134 := n4_; have NB130_134 := n5_; have NB134_130 := n6_; clear n0_ n1_ n2_ n3_ n4_ n5_ n6_; clear hb hbox hg; have hnb23 := NB134_130.out; have hnc23 := NB130_134.out; have hcz24_0 : w22.cell? ⟨gb134, 0, none⟩ = some (.int .i64 0) := (blk_cell BK134.out 0).trans rfl; have hcz24_1 : w22.cell? ⟨gb134, 1, none⟩ = some (.string (⟨#[]⟩ : ByteArray)) := (blk_cell BK134.out 1).trans rfl; have hfz24_0 := blk_frozen BK134.out 0; have hfz24_1 := blk_frozen BK134.out 1))
                            go_ret
                            exact ⟨by first | rfl | (rw [show ∀ n_ : Int, -9223372036854775808 ≤ n_ → n_ < 9223372036854775808 → wrap64 n_ = n_ from fun n_ h1_ h2_ => by unfold wrap64; omega] <;> first | rfl | omega) | (simp [errW_none, errW_some] <;> rfl) | (simp [*, errW_none, errW_some] <;> rfl), by repeat (first | (with_reducible first | exact HB.out | apply below_alloc | apply pw_below_drewN | apply below_drew1 | refine below_set ?_ GE130.out | refine below_set ?_ GE134.out) | exact HB.out)⟩
                          · rw [if_neg c21] at H
                            have c21b0 : decide ((l0_0.length : Int) ≤ ((rd_T42 l0_1 x31_3).f0)) = false := decide_eq_false c21
                            clear c21
                            replace H := Option.bind_eq_some_iff.mp H
                            obtain ⟨t135, A250, H⟩ := H
                            replace H : (if t135 = true then (doorwardref03_Right.l1 k3 (l0_0.length : Int) l0_1 (l0_1.length : Int) (wrap64 (x31_3 + 1))) else (some false)) = some r := H
                            have A25 := Aside0.mk A250
                            clear A250
                            by_cases c26 : t135 = true
                            · subst c26
                              have H1 : (doorwardref03_Right.l1 k3 (l0_0.length : Int) l0_1 (l0_1.length : Int) (wrap64 (x31_3 + 1))) = some r := by rw [if_pos rfl] at H; exact H
                              clear H
                              have H := H1
                              clear H1
                              have H' := Aside0.mk H
                              clear H
                              have p133 : 0 ≤ (x31_3 : Int) := of_decide_eq_true (by first | (with_reducible assumption) | assumption)
                              have q133 : x31_3 < (l0_1.length : Int) := of_decide_eq_true (by first | (with_reducible assumption) | assumption)
                              obtain ⟨ad133, e133, hx133_0, hx133_1⟩ := at_T42 HR0_1.out x31_3 p133 q133
                              cases e133
                              replace hx133_0 := (HB.out.cell (World.block_lt_of_cell? w _ hx133_0)).trans hx133_0
                              replace hx133_1 := (HB.out.cell (World.block_lt_of_cell? w _ hx133_1)).trans hx133_1
                              replace p133 := eq_true p133
                              replace q133 := eq_true q133
                              go_wp2_with (first | ((with_reducible refine gate_dst (N := 7) rfl ?_); refine box_event ?hg (N := 7) ?hd (cs := #[.int .i64 0, .string (⟨#[]⟩ : ByteArray)]) (t := 42) ?hr ?_; (case hd => rfl); (case hg => rfl); (case hr => first | (go_simp; done) | (go_simp; rfl)); intro gb134 hg w27 hbox hb; have n0_ := Aside0.mk (blk_below (g := gb130) (o := .cells #[.slice A0_0 l0_0.length c0_0, .slice (some ad133) l0_1.length c0_1] 25 (0, 0)) (by (with_reducible repeat (first | refine blk_drewN ?_ _ | refine blk_drew ?_ | refine blk_alloc ?_ _)); exact BK130.out) hb); have n1_ := Aside0.mk (below_step (by repeat (first | (with_reducible first | exact HB.out | apply below_alloc | apply pw_below_drewN | apply below_drew1 | refine below_set ?_ GE130.out) | exact HB.out)) hb); have n2_ := Aside0.mk (hbox); have n3_ := Aside0.mk ((by rw [hg]; exact (below_size (by repeat (first | (with_reducible first | exact HB.out | apply below_alloc | apply pw_below_drewN | apply below_drew1 | refine below_set ?_ GE130.out) | exact HB.out))) : w.heap.size ≤ gb134)); have n4_ := Aside0.mk ((by rw [hg]; exact (below_size (by repeat (first | (with_reducible first | exact HB.out | apply below_alloc | apply pw_below_drewN | apply below_drew1 | refine below_set ?_ GE130.out) | exact HB.out))) : w.heap.size ≤ gb134)); have n5_ := Aside0.mk ((by rw [hg]; exact Nat.ne_of_lt (blk_lt (g := gb130) (o := .cells #[.slice A0_0 l0_0.length c0_0, .slice (some ad133) l0_1.length c0_1] 25 (0, 0)) (by (with_reducible repeat (first | refine blk_drewN ?_ _ | refine blk_drew ?_ | refine blk_alloc ?_ _)); exact BK130.out)) : gb130 ≠ gb134)); have n6_ := Aside0.mk ((by rw [hg]; exact Nat.ne_of_gt (blk_lt (g := gb130) (o := .cells #[.slice A0_0 l0_0.length c0_0, .slice (some ad133) l0_1.length c0_1] 25 (0, 0)) (by (with_reducible repeat (first | refine blk_drewN ?_ _ | refine blk_drew ?_ | refine blk_alloc ?_ _)); exact BK130.out)) : gb134 ≠ gb130)); clear BK130; clear HB; have BK130 := n0_; have HB := n1_; have BK134 := n2_; have GW134 := n3_; have GE134 := n4_; have NB130_134 := n5_; have NB134_130 := n6_; clear n0_ n1_ n2_ n3_ n4_ n5_ n6_; clear hb hbox hg; have hnb28 := NB134_130.out; have hnc28 := NB130_134.out; have hcz29_0 : w27.cell? ⟨gb134, 0, none⟩ = some (.int .i64 0) := (blk_cell BK134.out 0).trans rfl; have hcz29_1 : w27.cell? ⟨gb134, 1, none⟩ = some (.string (⟨#[]⟩ : ByteArray)) := (blk_cell BK134.out 1).trans rfl; have hfz29_0 := blk_frozen BK134.out 0; have hfz29_1 := blk_frozen BK134.out 1) | (go_at_call 52; (first | (with_reducible refine (doorwardref03_Stands.calls k3 ((rd_T42 l0_1 x31_3).f1) true _ A25.out).mono ?_) | (refine calls_of_args ?hfit_ ((doorwardref03_Stands.calls k3 ((rd_T42 l0_1 x31_3).f1) true _ A25.out).mono ?_); (case hfit_ => (first | rfl | (simp; done) | (simp [*]; done) | (simp; omega) | (simp [ByteArray.size_extract]; omega))))); rintro e w' ⟨rfl, ⟨nd, rfl⟩⟩))
                              go_roundg k3
                              case measure => have := HJ1.out; have := HK2.out; have := HK3.out; omega
                              case rel => exact ⟨(wrap64 (x31_3 + 1)), (by first | rfl | (simp; done) | (simp [*]; done)), H', ⟨by have := HJ1.out; have := HK2.out; have := HK3.out; omega⟩, ⟨by (with_reducible repeat (first | refine blk_drewN ?_ _ | refine blk_drew ?_ | refine blk_alloc ?_ _)); refine blk_far ?_ NB130_134.out _; (with_reducible repeat (first | refine blk_drewN ?_ _ | refine blk_drew ?_ | refine blk_alloc ?_ _)); refine blk_far ?_ NB130_134.out _; (with_reducible repeat (first | refine blk_drewN ?_ _ | refine blk_drew ?_ | refine blk_alloc ?_ _)); exact BK130.out⟩, ⟨by repeat (first | (with_reducible first | exact HB.out | apply below_alloc | apply pw_below_drewN | apply below_drew1 | refine below_set ?_ GE130.out | refine below_set ?_ GE134.out) | exact HB.out)⟩⟩
                            · replace c26 := Bool.eq_false_iff.mpr c26
                              subst c26
                              have H1 : (some false) = some r := by rw [if_neg (show ¬ (false = true) by decide)] at H; exact H
                              clear H
                              have H := H1
                              clear H1
                              obtain rfl := Option.some.inj H
                              have p133 : 0 ≤ (x31_3 : Int) := of_decide_eq_true (by first | (with_reducible assumption) | assumption)
                              have q133 : x31_3 < (l0_1.length : Int) := of_decide_eq_true (by first | (with_reducible assumption) | assumption)
                              obtain ⟨ad133, e133, hx133_0, hx133_1⟩ := at_T42 HR0_1.out x31_3 p133 q133
                              cases e133
                              replace hx133_0 := (HB.out.cell (World.block_lt_of_cell? w _ hx133_0)).trans hx133_0
                              replace hx133_1 := (HB.out.cell (World.block_lt_of_cell? w _ hx133_1)).trans hx133_1
                              replace p133 := eq_true p133
                              replace q133 := eq_true q133
                              go_wp2_with (first | ((with_reducible refine gate_dst (N := 7) rfl ?_); refine box_event ?hg (N := 7) ?hd (cs := #[.int .i64 0, .string (⟨#[]⟩ : ByteArray)]) (t := 42) ?hr ?_; (case hd => rfl); (case hg => rfl); (case hr => first | (go_simp; done) | (go_simp; rfl)); intro gb134 hg w30 hbox hb; have n0_ := Aside0.mk (blk_below (g := gb130) (o := .cells #[.slice A0_0 l0_0.length c0_0, .slice (some ad133) l0_1.length c0_1] 25 (0, 0)) (by (with_reducible repeat (first | refine blk_drewN ?_ _ | refine blk_drew ?_ | refine blk_alloc ?_ _)); exact BK130.out) hb); have n1_ := Aside0.mk (below_step (by repeat (first | (with_reducible first | exact HB.out | apply below_alloc | apply pw_below_drewN | apply below_drew1 | refine below_set ?_ GE130.out) | exact HB.out)) hb); have n2_ := Aside0.mk (hbox); have n3_ := Aside0.mk ((by rw [hg]; exact (below_size (by repeat (first | (with_reducible first | exact HB.out | apply below_alloc | apply pw_below_drewN | apply below_drew1 | refine below_set ?_ GE130.out) | exact HB.out))) : w.heap.size ≤ gb134)); have n4_ := Aside0.mk ((by rw [hg]; exact (below_size (by repeat (first | (with_reducible first | exact HB.out | apply below_alloc | apply pw_below_drewN | apply below_drew1 | refine below_set ?_ GE130.out) | exact HB.out))) : w.heap.size ≤ gb134)); have n5_ := Aside0.mk ((by rw [hg]; exact Nat.ne_of_lt (blk_lt (g := gb130) (o := .cells #[.slice A0_0 l0_0.length c0_0, .slice (some ad133) l0_1.length c0_1] 25 (0, 0)) (by (with_reducible repeat (first | refine blk_drewN ?_ _ | refine blk_drew ?_ | refine blk_alloc ?_ _)); exact BK130.out)) : gb130 ≠ gb134)); have n6_ := Aside0.mk ((by rw [hg]; exact Nat.ne_of_gt (blk_lt (g := gb130) (o := .cells #[.slice A0_0 l0_0.length c0_0, .slice (some ad133) l0_1.length c0_1] 25 (0, 0)) (by (with_reducible repeat (first | refine blk_drewN ?_ _ | refine blk_drew ?_ | refine blk_alloc ?_ _)); exact BK130.out)) : gb134 ≠ gb130)); clear BK130; clear HB; have BK130 := n0_; have HB := n1_; have BK134 := n2_; have GW134 := n3_; have GE134 := n4_; have NB130_134 := n5_; have NB134_130 := n6_; clear n0_ n1_ n2_ n3_ n4_ n5_ n6_; clear hb hbox hg; have hnb31 := NB134_130.out; have hnc31 := NB130_134.out; have hcz32_0 : w30.cell? ⟨gb134, 0, none⟩ = some (.int .i64 0) := (blk_cell BK134.out 0).trans rfl; have hcz32_1 : w30.cell? ⟨gb134, 1, none⟩ = some (.string (⟨#[]⟩ : ByteArray)) := (blk_cell BK134.out 1).trans rfl; have hfz32_0 := blk_frozen BK134.out 0; have hfz32_1 := blk_frozen BK134.out 1) | (go_at_call 52; (first | (with_reducible refine (doorwardref03_Stands.calls k3 ((rd_T42 l0_1 x31_3).f1) false _ A25.out).mono ?_) | (refine calls_of_args ?hfit_ ((doorwardref03_Stands.calls k3 ((rd_T42 l0_1 x31_3).f1) false _ A25.out).mono ?_); (case hfit_ => (first | rfl | (simp; done) | (simp [*]; done) | (simp; omega) | (simp [ByteArray.size_extract]; omega))))); rintro e w' ⟨rfl, ⟨nd, rfl⟩⟩))
                              go_ret
                              exact ⟨by first | rfl | (rw [show ∀ n_ : Int, -9223372036854775808 ≤ n_ → n_ < 9223372036854775808 → wrap64 n_ = n_ from fun n_ h1_ h2_ => by unfold wrap64; omega] <;> first | rfl | omega) | (simp [errW_none, errW_some] <;> rfl) | (simp [*, errW_none, errW_some] <;> rfl), by repeat (first | (with_reducible first | exact HB.out | apply below_alloc | apply pw_below_drewN | apply below_drew1 | refine below_set ?_ GE130.out | refine below_set ?_ GE134.out) | exact HB.out)⟩
                      · rw [if_neg c16] at H
                        exact absurd H (by simp)
                    · rw [if_neg c15] at H
                      exact absurd H (by simp)
                  · rw [if_neg c14] at H
                    have c14b0 : decide (x31_3 < (l0_1.length : Int)) = false := decide_eq_false c14
                    clear c14
                    obtain rfl := Option.some.inj H
                    go_wp2
                    go_ret
                    exact ⟨by first | rfl | (rw [show ∀ n_ : Int, -9223372036854775808 ≤ n_ → n_ < 9223372036854775808 → wrap64 n_ = n_ from fun n_ h1_ h2_ => by unfold wrap64; omega] <;> first | rfl | omega) | (simp [errW_none, errW_some] <;> rfl) | (simp [*, errW_none, errW_some] <;> rfl), by repeat (first | (with_reducible first | exact HB.out | apply below_alloc | apply pw_below_drewN | apply below_drew1 | refine below_set ?_ GE130.out) | exact HB.out)⟩

end Go.Proofs.YtniplmjbligmlaaDoor.Q

/-! Each proved contract as one step on a memory told whole (printed by slgen.py, a program of this repository). -/
namespace Go.Proofs.YtniplmjbligmlaaDoor.Q
open Go.RowKit Go.Proofs.YtniplmjbligmlaaDoorW.PrintWords Go.Proofs.YtniplmjbligmlaaDoorW.PrintLast Go.Proofs.YtniplmjbligmlaaDoorW.PrintMore Go.Proofs.YtniplmjbligmlaaDoor.SL
set_option linter.unusedVariables false
theorem sl_doorwardlaw03_few {A0_0 : Option Addr} {c0_0 : Nat} {l0_0 : List ByteArray} {A0_1 : Option Addr} {c0_1 : Nat} {l0_1 : List (S42)} {r1 : List ByteArray} {r2 : List (S42)} {M F0 F : Nat → Prop} {w0 w : World} {B : List Box} {R : List (World → Prop)} (H : St M F0 w0 F B R w) (h : doorwardlaw03_few.f l0_0 l0_1 = some (r1, r2)) {K : Ending → World → Prop} (k_K : ∀ (A0_ : Option Addr) (c0_ : Nat) (A1_ : Option Addr) (c1_ : Nat) (F'_ : Nat → Prop) (w'_ : World), St M F0 w0 F'_ B (rdc Kd.string A0_ r1 :: rdc k42 A1_ r2 :: R) w'_ → Cap r1.length c0_ → Cap r2.length c1_ → K (.returned (.agg #[(.slice A0_ r1.length c0_), (.slice A1_ r2.length c1_)])) w'_) (hs0_0 : rdc Kd.string A0_0 l0_0 ∈ R := by (repeat (first | with_reducible exact List.mem_cons_self | apply List.mem_cons_of_mem))) (hs0_0_c : Cap l0_0.length c0_0 := by with_reducible assumption) (hs0_1 : rdc k42 A0_1 l0_1 ∈ R := by (repeat (first | with_reducible exact List.mem_cons_self | apply List.mem_cons_of_mem))) (hs0_1_c : Cap l0_1.length c0_1 := by with_reducible assumption) : Calls Tryd.prog 15 #[.agg #[.slice A0_0 l0_0.length c0_0, .slice A0_1 l0_1.length c0_1]] w K := by
  refine (doorwardlaw03_few.calls F A0_0 c0_0 l0_0 F A0_1 c0_1 l0_1 r1 r2 w (Kd.V_mk hs0_0_c.le (H.get hs0_0)) (Kd.V_mk hs0_1_c.le (H.get hs0_1)) h).mono ?_
  rintro e w' ⟨v0_, v1_, rfl, g0, g1, hb⟩
  obtain ⟨F', hF1, hF2, hF3, H'⟩ := H.call hb
  obtain ⟨A1_, c1_, rfl, hl1_, gf1_⟩ := g1
  replace H' := H'.fact (Foot.mono (Foot.bound gf1_) (fun k hk => (show F k ∨ w.heap.size ≤ k by simpa using hk.1).elim (hF1 k) (fun h_ => hF2 k h_ hk.2)))
  obtain ⟨A0_, c0_, rfl, hl0_, gf0_⟩ := g0
  replace H' := H'.fact (Foot.mono (Foot.bound gf0_) (fun k hk => (show F k ∨ w.heap.size ≤ k by simpa using hk.1).elim (hF1 k) (fun h_ => hF2 k h_ hk.2)))
  exact k_K A0_ c0_ A1_ c1_ F' w' H' ⟨hl0_⟩ ⟨hl1_⟩
theorem sl_doorwardlaw03_alive {r : Bool} {M F0 F : Nat → Prop} {w0 w : World} {B : List Box} {R : List (World → Prop)} (H : St M F0 w0 F B R w) (h : doorwardlaw03_alive.f  = some r) {K : Ending → World → Prop} (k_K : ∀  (F'_ : Nat → Prop) (w'_ : World), St M F0 w0 F'_ B (R) w'_ → K (.returned (.bool r)) w'_)  : Calls Tryd.prog 17 #[] w K := by
  refine (doorwardlaw03_alive.calls r w h).mono ?_
  rintro e w' ⟨rfl, hb⟩
  obtain ⟨F', hF1, hF2, hF3, H'⟩ := H.call hb
  exact k_K  F' w' H' 
theorem sl_doorwardref03_Right {k : Nat} {A0_0 : Option Addr} {c0_0 : Nat} {l0_0 : List ByteArray} {A0_1 : Option Addr} {c0_1 : Nat} {l0_1 : List (S42)} {r : Bool} {M F0 F : Nat → Prop} {w0 w : World} {B : List Box} {R : List (World → Prop)} (H : St M F0 w0 F B R w) (h : doorwardref03_Right.f k l0_0 l0_1 = some r) {K : Ending → World → Prop} (k_K : ∀  (F'_ : Nat → Prop) (w'_ : World), St M F0 w0 F'_ B (R) w'_ → K (.returned (.bool r)) w'_) (hr0_0 : rdc Kd.string A0_0 l0_0 ∈ R := by (repeat (first | with_reducible exact List.mem_cons_self | apply List.mem_cons_of_mem))) (hc0_0 : Cap (l0_0.length) (c0_0) := by with_reducible assumption) (hr0_1 : rdc k42 A0_1 l0_1 ∈ R := by (repeat (first | with_reducible exact List.mem_cons_self | apply List.mem_cons_of_mem))) (hc0_1 : Cap (l0_1.length) (c0_1) := by with_reducible assumption) : Calls Tryd.prog 19 #[.agg #[.slice A0_0 l0_0.length c0_0, .slice A0_1 l0_1.length c0_1]] w K := by
  refine (doorwardref03_Right.calls k A0_0 c0_0 l0_0 A0_1 c0_1 l0_1 r w (H.get hr0_0).now hc0_0.le (H.get hr0_1).now hc0_1.le h).mono ?_
  rintro e w' ⟨rfl, hb⟩
  obtain ⟨F', hF1, hF2, hF3, H'⟩ := H.call hb
  exact k_K  F' w' H' 
theorem sl_disk_New {a0 : Int} {r1 : List ByteArray} {r2 : List (S42)} {r3 : Int} {M F0 F : Nat → Prop} {w0 w : World} {B : List Box} {R : List (World → Prop)} (H : St M F0 w0 F B R w) (h : disk_New.f a0 = some (r1, r2, r3)) {K : Ending → World → Prop} (k_K : ∀ (A0_ : Option Addr) (c0_ : Nat) (A1_ : Option Addr) (c1_ : Nat) (F'_ : Nat → Prop) (w'_ : World), St M F0 w0 F'_ B (rdc Kd.string A0_ r1 :: rdc k42 A1_ r2 :: R) w'_ → Cap r1.length c0_ → Cap r2.length c1_ → K (.returned (.tuple #[.agg #[(.slice A0_ r1.length c0_), (.slice A1_ r2.length c1_)], .int .i64 r3])) w'_)  : Calls Tryd.prog 16 #[.int .i64 a0] w K := by
  refine (disk_New.calls a0 r1 r2 r3 w h).mono ?_
  rintro e w' ⟨v0_, v1_, rfl, g0, g1, hb⟩
  obtain ⟨F', hF1, hF2, hF3, H'⟩ := H.call hb
  obtain ⟨A1_, c1_, rfl, hl1_, gf1_⟩ := own_foot g1
  replace H' := H'.fact (Foot.mono gf1_ (fun k hk => hF2 k hk.1 hk.2))
  obtain ⟨A0_, c0_, rfl, hl0_, gf0_⟩ := own_foot g0
  replace H' := H'.fact (Foot.mono gf0_ (fun k hk => hF2 k hk.1 hk.2))
  exact k_K A0_ c0_ A1_ c1_ F' w' H' ⟨hl0_⟩ ⟨hl1_⟩
theorem sl_disk_Right {A0_0 : Option Addr} {c0_0 : Nat} {l0_0 : List ByteArray} {A0_1 : Option Addr} {c0_1 : Nat} {l0_1 : List S42} {r : Bool} {M F0 F : Nat → Prop} {w0 w : World} {B : List Box} {R : List (World → Prop)} (H : St M F0 w0 F B R w) (h : disk_Right.f l0_0 l0_1 = some r) {K : Ending → World → Prop} (k_K : ∀  (F'_ : Nat → Prop) (w'_ : World), St M F0 w0 F'_ B (R) w'_ → K (.returned (.bool r)) w'_) (hr0_0 : rdc Kd.string A0_0 l0_0 ∈ R := by (repeat (first | with_reducible exact List.mem_cons_self | apply List.mem_cons_of_mem))) (hc0_0 : Cap (l0_0.length) (c0_0) := by with_reducible assumption) (hr0_1 : rdc k42 A0_1 l0_1 ∈ R := by (repeat (first | with_reducible exact List.mem_cons_self | apply List.mem_cons_of_mem))) (hc0_1 : Cap (l0_1.length) (c0_1) := by with_reducible assumption) : Calls Tryd.prog 18 #[.agg #[.slice A0_0 l0_0.length c0_0, .slice A0_1 l0_1.length c0_1]] w K := by
  refine (disk_Right.calls A0_0 c0_0 l0_0 A0_1 c0_1 l0_1 r w (H.get hr0_0).now hc0_0.le (H.get hr0_1).now hc0_1.le h).mono ?_
  rintro e w' ⟨rfl, hb⟩
  obtain ⟨F', hF1, hF2, hF3, H'⟩ := H.call hb
  exact k_K  F' w' H' 
theorem sl_disk_Read {A0_0 : Option Addr} {c0_0 : Nat} {l0_0 : List ByteArray} {A0_1 : Option Addr} {c0_1 : Nat} {l0_1 : List (S42)} {a1 : Int} {r1 : ByteArray} {r2 : Int} {M F0 F : Nat → Prop} {w0 w : World} {B : List Box} {R : List (World → Prop)} (H : St M F0 w0 F B R w) (h : disk_Read.f l0_0 l0_1 a1 = some (r1, r2)) {K : Ending → World → Prop} (k_K : ∀  (F'_ : Nat → Prop) (w'_ : World), St M F0 w0 F'_ B (R) w'_ → K (.returned (.tuple #[.string r1, .int .i64 r2])) w'_) (hr0_0 : rdc Kd.string A0_0 l0_0 ∈ R := by (repeat (first | with_reducible exact List.mem_cons_self | apply List.mem_cons_of_mem))) (hc0_0 : Cap (l0_0.length) (c0_0) := by with_reducible assumption) (hr0_1 : rdc k42 A0_1 l0_1 ∈ R := by (repeat (first | with_reducible exact List.mem_cons_self | apply List.mem_cons_of_mem))) (hc0_1 : Cap (l0_1.length) (c0_1) := by with_reducible assumption) : Calls Tryd.prog 20 #[.agg #[.slice A0_0 l0_0.length c0_0, .slice A0_1 l0_1.length c0_1], .int .i64 a1] w K := by
  refine (disk_Read.calls A0_0 c0_0 l0_0 A0_1 c0_1 l0_1 a1 r1 r2 w (H.get hr0_0).now hc0_0.le (H.get hr0_1).now hc0_1.le h).mono ?_
  rintro e w' ⟨rfl, hb⟩
  obtain ⟨F', hF1, hF2, hF3, H'⟩ := H.call hb
  exact k_K  F' w' H' 
theorem sl_disk_Crash {k : Nat} {A0_0 : Option Addr} {c0_0 : Nat} {l0_0 : List ByteArray} {A0_1 : Option Addr} {c0_1 : Nat} {l0_1 : List (S42)} {A1 : Option Addr} {c1 : Nat} {l1 : List Bool} {r1 : List ByteArray} {r2 : List (S42)} {r3 : Int} {M F0 F : Nat → Prop} {w0 w : World} {B : List Box} {R : List (World → Prop)} (H : St M F0 w0 F B R w) (h : disk_Crash.f k l0_0 l0_1 l1 = some (r1, r2, r3)) {K : Ending → World → Prop} (k_K : ∀ (A0_ : Option Addr) (c0_ : Nat) (A1_ : Option Addr) (c1_ : Nat) (F'_ : Nat → Prop) (w'_ : World), St M F0 w0 F'_ B (rdc Kd.string A0_ r1 :: rdc k42 A1_ r2 :: R) w'_ → Cap r1.length c0_ → Cap r2.length c1_ → K (.returned (.tuple #[.agg #[(.slice A0_ r1.length c0_), (.slice A1_ r2.length c1_)], .int .i64 r3])) w'_) (hr0_0 : rdc Kd.string A0_0 l0_0 ∈ R := by (repeat (first | with_reducible exact List.mem_cons_self | apply List.mem_cons_of_mem))) (hc0_0 : Cap (l0_0.length) (c0_0) := by with_reducible assumption) (hr0_1 : rdc k42 A0_1 l0_1 ∈ R := by (repeat (first | with_reducible exact List.mem_cons_self | apply List.mem_cons_of_mem))) (hc0_1 : Cap (l0_1.length) (c0_1) := by with_reducible assumption) (hr1 : rdc Kd.bool A1 l1 ∈ R := by (repeat (first | with_reducible exact List.mem_cons_self | apply List.mem_cons_of_mem))) (hc1 : Cap (l1.length) (c1) := by with_reducible assumption) : Calls Tryd.prog 21 #[.agg #[.slice A0_0 l0_0.length c0_0, .slice A0_1 l0_1.length c0_1], .slice A1 l1.length c1] w K := by
  refine (disk_Crash.calls k A0_0 c0_0 l0_0 A0_1 c0_1 l0_1 A1 c1 l1 r1 r2 r3 w (H.get hr0_0).now hc0_0.le (H.get hr0_1).now hc0_1.le (H.get hr1).now hc1.le h).mono ?_
  rintro e w' ⟨v0_, v1_, rfl, g0, g1, hb⟩
  obtain ⟨F', hF1, hF2, hF3, H'⟩ := H.call hb
  obtain ⟨A1_, c1_, rfl, hl1_, gf1_⟩ := own_foot g1
  replace H' := H'.fact (Foot.mono gf1_ (fun k hk => hF2 k hk.1 hk.2))
  obtain ⟨A0_, c0_, rfl, hl0_, gf0_⟩ := own_foot g0
  replace H' := H'.fact (Foot.mono gf0_ (fun k hk => hF2 k hk.1 hk.2))
  exact k_K A0_ c0_ A1_ c1_ F' w' H' ⟨hl0_⟩ ⟨hl1_⟩
theorem sl_disk_Write {A0_0 : Option Addr} {c0_0 : Nat} {l0_0 : List ByteArray} {A0_1 : Option Addr} {c0_1 : Nat} {l0_1 : List (S42)} {a0_2 : Int} {a1 : Int} {a2 : ByteArray} {r1 : List ByteArray} {r2 : List (S42)} {r3 : Int} {r4 : Int} {M F0 F : Nat → Prop} {w0 w : World} {B : List Box} {R : List (World → Prop)} (H : St M F0 w0 F B R w) (h : disk_Write.f l0_0 l0_1 a0_2 a1 a2 = some (r1, r2, r3, r4)) {K : Ending → World → Prop} (k_K : ∀ (A0_ : Option Addr) (c0_ : Nat) (A1_ : Option Addr) (c1_ : Nat) (F'_ : Nat → Prop) (w'_ : World), St M F0 w0 F'_ B (rdc Kd.string A0_ r1 :: rdc k42 A1_ r2 :: R) w'_ → Cap r1.length c0_ → Cap r2.length c1_ → K (.returned (.tuple #[.agg #[(.slice A0_ r1.length c0_), (.slice A1_ r2.length c1_), .int .i64 r3], .int .i64 r4])) w'_) (hs0_0 : rdc Kd.string A0_0 l0_0 ∈ R := by (repeat (first | with_reducible exact List.mem_cons_self | apply List.mem_cons_of_mem))) (hs0_0_c : Cap l0_0.length c0_0 := by with_reducible assumption) (hs0_1 : rdc k42 A0_1 l0_1 ∈ R := by (repeat (first | with_reducible exact List.mem_cons_self | apply List.mem_cons_of_mem))) (hs0_1_c : Cap l0_1.length c0_1 := by with_reducible assumption) : Calls Tryd.prog 25 #[.agg #[.slice A0_0 l0_0.length c0_0, .slice A0_1 l0_1.length c0_1, .int .i64 a0_2], .int .i64 a1, .string a2] w K := by
  refine (disk_Write.calls F A0_0 c0_0 l0_0 F A0_1 c0_1 l0_1 a0_2 a1 a2 r1 r2 r3 r4 w (Kd.V_mk hs0_0_c.le (H.get hs0_0)) (Kd.V_mk hs0_1_c.le (H.get hs0_1)) h).mono ?_
  rintro e w' ⟨v0_, v1_, rfl, g0, g1, hb⟩
  obtain ⟨F', hF1, hF2, hF3, H'⟩ := H.call hb
  obtain ⟨A1_, c1_, rfl, hl1_, gf1_⟩ := g1
  replace H' := H'.fact (Foot.mono (Foot.bound gf1_) (fun k hk => (show F k ∨ w.heap.size ≤ k by simpa using hk.1).elim (hF1 k) (fun h_ => hF2 k h_ hk.2)))
  obtain ⟨A0_, c0_, rfl, hl0_, gf0_⟩ := g0
  replace H' := H'.fact (Foot.mono (Foot.bound gf0_) (fun k hk => (show F k ∨ w.heap.size ≤ k by simpa using hk.1).elim (hF1 k) (fun h_ => hF2 k h_ hk.2)))
  exact k_K A0_ c0_ A1_ c1_ F' w' H' ⟨hl0_⟩ ⟨hl1_⟩
theorem sl_disk_Flush {A0_0 : Option Addr} {c0_0 : Nat} {l0_0 : List ByteArray} {A0_1 : Option Addr} {c0_1 : Nat} {l0_1 : List (S42)} {a0_2 : Int} {r1 : List ByteArray} {r2 : List (S42)} {r3 : Int} {r4 : Int} {M F0 F : Nat → Prop} {w0 w : World} {B : List Box} {R : List (World → Prop)} (H : St M F0 w0 F B R w) (h : disk_Flush.f l0_0 l0_1 a0_2 = some (r1, r2, r3, r4)) {K : Ending → World → Prop} (k_K : ∀ (A0_ : Option Addr) (c0_ : Nat) (A1_ : Option Addr) (c1_ : Nat) (F'_ : Nat → Prop) (w'_ : World), St M F0 w0 F'_ B (rdc Kd.string A0_ r1 :: rdc k42 A1_ r2 :: R) w'_ → Cap r1.length c0_ → Cap r2.length c1_ → K (.returned (.tuple #[.agg #[(.slice A0_ r1.length c0_), (.slice A1_ r2.length c1_), .int .i64 r3], .int .i64 r4])) w'_) (hs0_0 : rdc Kd.string A0_0 l0_0 ∈ R := by (repeat (first | with_reducible exact List.mem_cons_self | apply List.mem_cons_of_mem))) (hs0_0_c : Cap l0_0.length c0_0 := by with_reducible assumption) (hs0_1 : rdc k42 A0_1 l0_1 ∈ R := by (repeat (first | with_reducible exact List.mem_cons_self | apply List.mem_cons_of_mem))) (hs0_1_c : Cap l0_1.length c0_1 := by with_reducible assumption) : Calls Tryd.prog 31 #[.agg #[.slice A0_0 l0_0.length c0_0, .slice A0_1 l0_1.length c0_1, .int .i64 a0_2]] w K := by
  refine (disk_Flush.calls F A0_0 c0_0 l0_0 F A0_1 c0_1 l0_1 a0_2 r1 r2 r3 r4 w (Kd.V_mk hs0_0_c.le (H.get hs0_0)) (Kd.V_mk hs0_1_c.le (H.get hs0_1)) h).mono ?_
  rintro e w' ⟨v0_, v1_, rfl, g0, g1, hb⟩
  obtain ⟨F', hF1, hF2, hF3, H'⟩ := H.call hb
  obtain ⟨A1_, c1_, rfl, hl1_, gf1_⟩ := g1
  replace H' := H'.fact (Foot.mono (Foot.bound gf1_) (fun k hk => (show F k ∨ w.heap.size ≤ k by simpa using hk.1).elim (hF1 k) (fun h_ => hF2 k h_ hk.2)))
  obtain ⟨A0_, c0_, rfl, hl0_, gf0_⟩ := g0
  replace H' := H'.fact (Foot.mono (Foot.bound gf0_) (fun k hk => (show F k ∨ w.heap.size ≤ k by simpa using hk.1).elim (hF1 k) (fun h_ => hF2 k h_ hk.2)))
  exact k_K A0_ c0_ A1_ c1_ F' w' H' ⟨hl0_⟩ ⟨hl1_⟩
theorem sl_doorwardref01_Trim {k : Nat} {a0 : ByteArray} {r : ByteArray} {M F0 F : Nat → Prop} {w0 w : World} {B : List Box} {R : List (World → Prop)} (H : St M F0 w0 F B R w) (h : doorwardref01_Trim.f k a0 = some r) {K : Ending → World → Prop} (k_K : ∀ (w'_ : World), St M F0 w0 F B R w'_ → K (.returned (.string r)) w'_)  : Calls Tryd.prog 41 #[.string a0] w K := by
  refine (doorwardref01_Trim.calls k a0 r w h).mono ?_
  rintro e w' ⟨rfl, ⟨n, rfl⟩⟩
  exact k_K _ (H.drew n)
end Go.Proofs.YtniplmjbligmlaaDoor.Q
