/- disk.Right: which disks may be (its closure, and slices.ContainsFunc over it, by hand). -/
import Derived.Test.YtniplmjbligmlaaDoorDiskPlain
import Derived.Test.YtniplmjbligmlaaDoorHTrim
import Derived.Test.YtniplmjbligmlaaDoorQx3
namespace Go.Proofs.YtniplmjbligmlaaDoor.Q
open Go.RowKit Go.Proofs.YtniplmjbligmlaaDoorW.PrintWords Go.Proofs.YtniplmjbligmlaaDoorW.PrintLast Go.Proofs.YtniplmjbligmlaaDoorW.PrintMore Go.Proofs.YtniplmjbligmlaaDoor.Base
attribute [local go_sem] max2_int min2_int max_two min_two max_three min_three max_four min_four
set_option linter.unusedVariables false
theorem stands_eq (s : ByteArray) : disk_stands.f s = some (standsB s) := by
  unfold disk_stands.f standsB
  by_cases h : (s.size : Int) ≤ 512
  · rw [if_pos h]; unfold le_Trim.f strings_TrimRight.f; rw [if_pos ⟨rfl, by omega⟩]
    have h2 : s.size ≤ 512 := by omega
    simp only [Option.bind_some, decide_eq_true h2, Bool.true_and, Option.some.injEq]
    rw [Bool.eq_iff_iff]; simp only [beq_iff_eq, decide_eq_true_eq, toList_L]
    exact ⟨fun e => L_inj e, fun e => by rw [e]⟩
  · rw [if_neg h]; have h2 : ¬ s.size ≤ 512 := by omega
    simp [h2]
theorem has_eq (l0 : List ByteArray) (l1 : List S42) (a : Int) : disk_has.f l0 l1 a = some (hasB l0.length a) := by
  unfold disk_has.f hasB
  by_cases h : a ≥ 0
  · rw [if_pos h]; simp [h]
  · rw [if_neg h]; simp [h]

set_option maxHeartbeats 2000000 in
set_option maxRecDepth 100000 in
theorem disk_Right_1.calls (x : S42) (A0 : Option Addr) (c0 : Nat) (l0 : List ByteArray) (A1 : Option Addr) (c1 : Nat) (l1 : List S42) (g : Nat) (w : World)
    (hb : w.heap[g]? = some (.cells #[.slice A0 l0.length c0, .slice A1 l1.length c1] 25 (0, 0))) (hr0 : Kd.C Kd.string w A0 l0.length l0) (hc0 : l0.length ≤ c0) (hr1 : Kd.C k42 w A1 l1.length l1) (hc1 : l1.length ≤ c1) :
    Calls Tryd.prog 50 #[.agg #[.int .i64 x.f0, .string x.f1], .pointer (some ⟨g, 0, none⟩)] w fun e w' => e = .returned (.bool (badW l0.length x)) ∧ Below w.heap.size w w' := by
  have HR0 := Aside0.mk hr0
  have HR1 := Aside0.mk hr1
  have HC0 := Aside0.mk hc0
  have HC1 := Aside0.mk hc1
  have HB := Aside0.mk hb
  clear hr0 hr1 hc0 hc1 hb
  have hcz0 : w.cell? ⟨g, 0, none⟩ = some (.slice A0 l0.length c0) := (blk_cell HB.out 0).trans rfl
  have hcz1 : w.cell? ⟨g, 1, none⟩ = some (.slice A1 l1.length c1) := (blk_cell HB.out 1).trans rfl
  have hlt : g < w.heap.size := World.block_lt_of_cell? w _ hcz0
  obtain ⟨x0, x1⟩ := x
  have E1 := Aside0.mk (has_eq l0 l1 x0)
  have E2 := Aside0.mk (stands_eq x1)
  have hbad : badW l0.length ⟨x0, x1⟩ = (!(hasB l0.length x0) || !(standsB x1)) := rfl
  rw [hbad]
  clear hbad
  generalize hasB l0.length x0 = b1 at E1 ⊢
  generalize standsB x1 = b2 at E2 ⊢
  cases b1
  · go_enter Tryd.func50, Tryd.ntmps50
    go_wp2_with ((with_reducible refine gate_dst (N := 2) rfl ?_); refine box_event rfl (N := 2) rfl (cs := #[.int .i64 x0, .string x1]) (t := 42) (by first | (go_simp; done) | (go_simp; rfl)) ?_; intro gb hg w1 hbox hb1; clear hg; have HR0' := Aside0.mk (Kd.C_below HR0.out hb1); have HR1' := Aside0.mk (Kd.C_below HR1.out hb1); have hq0 := (hb1.cell (p := ⟨g, 0, none⟩) hlt).trans hcz0; have hq1 := (hb1.cell (p := ⟨g, 1, none⟩) hlt).trans hcz1; have hx0 : w1.cell? ⟨gb, 0, none⟩ = some (.int .i64 x0) := (blk_cell hbox 0).trans rfl; have HX := Aside0.mk hbox; clear hbox; have HB1 := Aside0.mk hb1; clear hb1)
    refine (disk_has.calls A0 c0 l0 A1 c1 l1 x0 _ w1 HR0'.out HC0.out HR1'.out HC1.out E1.out).mono ?_
    rintro e w2 ⟨rfl, hb2⟩
    have HB2 := Aside0.mk (below_step HB1.out hb2)
    clear hb2
    go_wp2
    go_ret
    exact ⟨rfl, HB2.out⟩
  · go_enter Tryd.func50, Tryd.ntmps50
    go_wp2_with ((with_reducible refine gate_dst (N := 2) rfl ?_); refine box_event rfl (N := 2) rfl (cs := #[.int .i64 x0, .string x1]) (t := 42) (by first | (go_simp; done) | (go_simp; rfl)) ?_; intro gb hg w1 hbox hb1; clear hg; have HR0' := Aside0.mk (Kd.C_below HR0.out hb1); have HR1' := Aside0.mk (Kd.C_below HR1.out hb1); have hq0 := (hb1.cell (p := ⟨g, 0, none⟩) hlt).trans hcz0; have hq1 := (hb1.cell (p := ⟨g, 1, none⟩) hlt).trans hcz1; have hx0 : w1.cell? ⟨gb, 0, none⟩ = some (.int .i64 x0) := (blk_cell hbox 0).trans rfl; have HX := Aside0.mk hbox; clear hbox; have HB1 := Aside0.mk hb1; clear hb1)
    refine (disk_has.calls A0 c0 l0 A1 c1 l1 x0 _ w1 HR0'.out HC0.out HR1'.out HC1.out E1.out).mono ?_
    rintro e w2 ⟨rfl, hb2⟩
    have hx1 : w2.cell? ⟨gb, 1, none⟩ = some (.string x1) := (blk_cell (blk_below HX.out hb2) 1).trans rfl
    have HB2 := Aside0.mk (below_step HB1.out hb2)
    clear hb2
    go_wp2_with fail
    refine (disk_stands.calls x1 _ w2 E2.out).mono ?_
    rintro e w3 ⟨rfl, ⟨nd, rfl⟩⟩
    go_wp2
    go_ret
    exact ⟨rfl, pw_below_drewN HB2.out _⟩

def IntBool (b : Bool) (w : World) (e : Ending) (w' : World) : Prop := ∃ n : Int, decide (0 ≤ n) = b ∧ e = .returned (.int .i64 n) ∧ Below w.heap.size w w'
theorem rd_at (l : List S42) (k : Nat) (h : k < l.length) : rd_T42 l (k : Int) = l[k] := by
  simp [rd_T42, List.getD_eq_getElem?_getD, List.getElem?_eq_getElem h]
set_option maxHeartbeats 4000000 in
set_option maxRecDepth 100000 in
theorem index_bad.calls (A0 : Option Addr) (c0 : Nat) (l0 : List ByteArray) (A1 : Option Addr) (c1 : Nat) (l1 : List S42) (g : Nat) (w : World)
    (hb : w.heap[g]? = some (.cells #[.slice A0 l0.length c0, .slice A1 l1.length c1] 25 (0, 0))) (hr0 : Kd.C Kd.string w A0 l0.length l0) (hc0 : l0.length ≤ c0) (hr1 : Kd.C k42 w A1 l1.length l1) (hc1 : l1.length ≤ c1) :
    Calls Tryd.prog 70 #[.slice A1 l1.length c1, .func (.func 50) #[] #[.pointer (some ⟨g, 0, none⟩)]] w (IntBool (l1.any (badW l0.length)) w) := by
  have HR0 := Aside0.mk hr0
  have HR1 := Aside0.mk hr1
  have HC0 := Aside0.mk hc0
  have HC1 := Aside0.mk hc1
  have HB := Aside0.mk hb
  have hmax : l1.length ≤ 9223372036854775807 := hr1.2.1
  clear hr0 hr1 hc0 hc1 hb
  go_enter Tryd.func70, Tryd.ntmps70
  go_wp2
  go_loopw [8] (fun v wr => ∃ k : Nat, k ≤ l1.length ∧ v = .int .i64 k ∧ Aside0 (∀ j, j < k → badW l0.length (rd_T42 l1 (j : Nat)) = false) ∧ Aside0 (Below w.heap.size w wr)) (fun v _ => l1.length - (intOf v).toNat)
  case atStart => exact ⟨0, Nat.zero_le _, rfl, ⟨fun j hj => absurd hj (Nat.not_lt_zero _)⟩, ⟨Below.refl _ _⟩⟩
  case round =>
    obtain ⟨k, hk, rfl, HA, HW⟩ := hrel
    by_cases hlt : k < l1.length
    · obtain ⟨ad, hA, hx0, hx1⟩ := at_T42 (Kd.C_below HR1.out HW.out) (k : Int) (by omega) (by omega)
      subst hA
      simp only [Int.toNat_natCast] at hx0 hx1
      obtain ⟨x, hx⟩ : ∃ x, rd_T42 l1 (k : Int) = x := ⟨_, rfl⟩
      rw [hx] at hx0 hx1
      have HX := Aside0.mk hx
      clear hx
      have h0k : (0 : Int) ≤ k := by omega
      go_wp2_with fail
      refine (disk_Right_1.calls x A0 c0 l0 (some ad) c1 l1 g wr (blk_below HB.out HW.out) (Kd.C_below HR0.out HW.out) HC0.out (Kd.C_below HR1.out HW.out) HC1.out).mono ?_
      rintro e w2 ⟨rfl, hb2⟩
      have HW2 := Aside0.mk (below_step HW.out hb2)
      clear hb2
      obtain ⟨b, hbx⟩ : ∃ b, badW l0.length x = b := ⟨_, rfl⟩
      rw [hbx]
      have HBX := Aside0.mk hbx
      clear hbx
      cases b
      · go_wp2
        go_roundw
        case rel => exact ⟨k + 1, by omega, by go_num, ⟨fun j hj => by
          rcases Nat.lt_or_ge j k with h | h
          · exact HA.out j h
          · obtain rfl : j = k := by omega
            rw [HX.out, HBX.out]⟩, HW2⟩
        case measure => simp [intOf]; omega
      · go_wp2
        go_ret
        refine ⟨k, ?_, rfl, HW2.out⟩
        have h1 := HX.out
        rw [rd_at l1 k hlt] at h1
        have h2 : l1.any (badW l0.length) = true := List.any_eq_true.2 ⟨l1[k], List.getElem_mem _, by rw [h1]; exact HBX.out⟩
        rw [h2]; simp
    · obtain rfl : k = l1.length := by omega
      go_wp2
      go_ret
      refine ⟨-1, ?_, rfl, HW.out⟩
      have h2 : l1.any (badW l0.length) = false := by
        rw [List.any_eq_false]
        intro y hy
        obtain ⟨j, hj, rfl⟩ := List.getElem_of_mem hy
        have := HA.out j hj
        rw [rd_at l1 j hj] at this
        rw [this]; decide
      rw [h2]; rfl
set_option maxHeartbeats 2000000 in
set_option maxRecDepth 100000 in
theorem contains_bad.calls (A0 : Option Addr) (c0 : Nat) (l0 : List ByteArray) (A1 : Option Addr) (c1 : Nat) (l1 : List S42) (g : Nat) (w : World)
    (hb : w.heap[g]? = some (.cells #[.slice A0 l0.length c0, .slice A1 l1.length c1] 25 (0, 0))) (hr0 : Kd.C Kd.string w A0 l0.length l0) (hc0 : l0.length ≤ c0) (hr1 : Kd.C k42 w A1 l1.length l1) (hc1 : l1.length ≤ c1) :
    Calls Tryd.prog 49 #[.slice A1 l1.length c1, .func (.func 50) #[] #[.pointer (some ⟨g, 0, none⟩)]] w fun e w' => e = .returned (.bool (l1.any (badW l0.length))) ∧ Below w.heap.size w w' := by
  have HC := Aside0.mk (index_bad.calls A0 c0 l0 A1 c1 l1 g w hb hr0 hc0 hr1 hc1)
  clear hb hr0 hc0 hr1 hc1
  go_enter Tryd.func49, Tryd.ntmps49
  go_wp2_with fail
  refine HC.out.mono ?_
  rintro e w2 ⟨n, hn, rfl, hb2⟩
  have HB2 := Aside0.mk hb2
  have HN := Aside0.mk hn
  clear hb2 hn
  go_wp2
  go_ret
  exact ⟨by rw [← HN.out]; rfl, HB2.out⟩
def disk_Right.f (l0 : List ByteArray) (l1 : List S42) : Option Bool := some (rightB l0 l1)
set_option maxHeartbeats 4000000 in
set_option maxRecDepth 100000 in
theorem disk_Right.calls (A0_0 : Option Addr) (c0_0 : Nat) (l0_0 : List ByteArray) (A0_1 : Option Addr) (c0_1 : Nat) (l0_1 : List S42) (r : Bool) (w : World)
    (hr0_0 : Kd.C Kd.string w A0_0 l0_0.length l0_0) (hc0_0 : l0_0.length ≤ c0_0) (hr0_1 : Kd.C k42 w A0_1 l0_1.length l0_1) (hc0_1 : l0_1.length ≤ c0_1) (h : disk_Right.f l0_0 l0_1 = some r) :
    Calls Tryd.prog 18 #[.agg #[.slice A0_0 l0_0.length c0_0, .slice A0_1 l0_1.length c0_1]] w fun e w' => e = .returned (.bool r) ∧ Below w.heap.size w w' := by
  obtain rfl := Option.some.inj h
  clear h
  have HR0 := Aside0.mk hr0_0
  have HR1 := Aside0.mk hr0_1
  have HC0 := Aside0.mk hc0_0
  have HC1 := Aside0.mk hc0_1
  have hmax : l0_0.length ≤ 9223372036854775807 := hr0_0.2.1
  clear hr0_0 hr0_1 hc0_0 hc0_1
  have hnil : ∀ b : Bool, b = rightB l0_0 l0_1 → (Ending.returned (.bool b) = Ending.returned (.bool (rightB l0_0 l0_1))) := fun b h => by rw [h]
  by_cases c1 : (l0_0.length : Int) < 1
  · have e1 : decide ((l0_0.length : Int) < 1) = true := decide_eq_true c1
    have e2 : decide (l0_0.length < 1) = true := decide_eq_true (by omega)
    have hr : rightB l0_0 l0_1 = false := by unfold rightB; rw [decide_eq_false (by omega : ¬ 1 ≤ l0_0.length)]; rfl
    rw [hr]
    clear hr hnil c1
    go_enter Tryd.func18, Tryd.ntmps18
    go_wp2
    go_ret
    exact ⟨rfl, below_alloc (Below.refl _ _) _⟩
  have e1 : decide ((l0_0.length : Int) < 1) = false := decide_eq_false c1
  have e2 : decide (l0_0.length < 1) = false := decide_eq_false (by omega)
  have c1' : 1 ≤ l0_0.length := by omega
  clear c1
  by_cases c2 : (l0_0.length : Int) > 256
  · have e3 : decide (256 < (l0_0.length : Int)) = true := decide_eq_true c2
    have e4 : decide (256 < l0_0.length) = true := decide_eq_true (by omega)
    have hr : rightB l0_0 l0_1 = false := by unfold rightB; rw [decide_eq_false (by omega : ¬ l0_0.length ≤ 256)]; simp
    rw [hr]
    clear hr hnil c2 c1'
    go_enter Tryd.func18, Tryd.ntmps18
    go_wp2
    go_ret
    exact ⟨rfl, below_alloc (Below.refl _ _) _⟩
  have e3 : decide (256 < (l0_0.length : Int)) = false := decide_eq_false c2
  have e4 : decide (256 < l0_0.length) = false := decide_eq_false (by omega)
  have c2' : l0_0.length ≤ 256 := by omega
  clear c2
  have hr : rightB l0_0 l0_1 = (l0_0.all standsB && !(l0_1.any (badW l0_0.length))) := by unfold rightB; rw [decide_eq_true c1', decide_eq_true c2']; simp
  rw [hr]
  clear hr hnil
  go_enter Tryd.func18, Tryd.ntmps18
  go_wp2_with ((with_reducible refine gate_dst (N := 1) rfl ?_); refine box_event rfl (N := 1) rfl (cs := #[.slice A0_0 l0_0.length c0_0, .slice A0_1 l0_1.length c0_1]) (t := 25) (by first | (go_simp; done) | (go_simp; rfl)) ?_; intro gb hg w1 hbox hb1; clear hg; have hq0 := (blk_cell hbox 0).trans rfl; have hq1 := (blk_cell hbox 1).trans rfl; have HX := Aside0.mk hbox; have HB1 := Aside0.mk hb1; clear hbox hb1)
  clear e1 e2 e3 e4
  go_loopw [18] (fun v wr => ∃ k : Nat, k ≤ l0_0.length ∧ v = .int .i64 k ∧ Aside0 (∀ j, (h : j < l0_0.length) → j < k → standsB l0_0[j] = true) ∧ Aside0 (wr.heap[gb]? = some (.cells #[.slice A0_0 l0_0.length c0_0, .slice A0_1 l0_1.length c0_1] 25 (0, 0))) ∧ Aside0 (Below w.heap.size w wr)) (fun v _ => l0_0.length - (intOf v).toNat)
  case atStart => exact ⟨0, Nat.zero_le _, rfl, ⟨fun j _ hj => absurd hj (Nat.not_lt_zero _)⟩, HX, HB1⟩
  case round =>
    clear hq0 hq1
    obtain ⟨k, hk, rfl, HA, HX2, HW⟩ := hrel
    by_cases hlt : k < l0_0.length
    · obtain ⟨ad, hA, hx0⟩ := Kd.at_string (Kd.C_below HR0.out HW.out) (k : Int) (by omega) (by omega)
      subst hA
      simp only [Int.toNat_natCast] at hx0
      have hx : rdOf ByteArray.empty l0_0 (k : Int) = l0_0[k] := by simp [rdOf, List.getD_eq_getElem?_getD, List.getElem?_eq_getElem hlt]
      rw [hx] at hx0
      clear hx
      have h0k : (0 : Int) ≤ k := by omega
      have E := Aside0.mk (stands_eq l0_0[k])
      obtain ⟨b, hbx⟩ : ∃ b, standsB l0_0[k] = b := ⟨_, rfl⟩
      rw [hbx] at E
      have HBX := Aside0.mk hbx
      clear hbx
      cases b
      · have hall : l0_0.all standsB = false := by rw [List.all_eq_false]; exact ⟨l0_0[k], List.getElem_mem _, by rw [HBX.out]; decide⟩
        have HALL := Aside0.mk hall
        clear hall
        go_wp2_with (go_at_call 48; refine (disk_stands.calls _ _ _ E.out).mono ?_; rintro e w3 ⟨rfl, ⟨nd, rfl⟩⟩)
        go_ret
        exact ⟨by rw [HALL.out]; rfl, pw_below_drewN HW.out _⟩
      · go_wp2_with (go_at_call 48; refine (disk_stands.calls _ _ _ E.out).mono ?_; rintro e w3 ⟨rfl, ⟨nd, rfl⟩⟩)
        go_roundw
        case rel => exact ⟨k + 1, by omega, by go_num, ⟨fun j hj hjk => by
          rcases Nat.lt_or_ge j k with h | h
          · exact HA.out j hj h
          · obtain rfl : j = k := by omega
            exact HBX.out⟩, ⟨blk_drewN HX2.out _⟩, ⟨pw_below_drewN HW.out _⟩⟩
        case measure => simp [intOf]; omega
    · obtain rfl : k = l0_0.length := by omega
      have hall : l0_0.all standsB = true := by
        rw [List.all_eq_true]
        intro y hy
        obtain ⟨j, hj, rfl⟩ := List.getElem_of_mem hy
        exact HA.out j hj hj
      have HALL := Aside0.mk hall
      clear hall
      have hq0 : wr.cell? ⟨gb, 0, none⟩ = some (.slice A0_0 l0_0.length c0_0) := (blk_cell HX2.out 0).trans rfl
      have hq1 : wr.cell? ⟨gb, 1, none⟩ = some (.slice A0_1 l0_1.length c0_1) := (blk_cell HX2.out 1).trans rfl
      go_wp2_with fail
      refine (contains_bad.calls A0_0 c0_0 l0_0 A0_1 c0_1 l0_1 gb wr HX2.out (Kd.C_below HR0.out HW.out) HC0.out (Kd.C_below HR1.out HW.out) HC1.out).mono ?_
      rintro e w3 ⟨rfl, hb3⟩
      have HW3 := Aside0.mk (below_step HW.out hb3)
      clear hb3
      go_wp2
      go_ret
      exact ⟨by rw [HALL.out]; rfl, HW3.out⟩
end Go.Proofs.YtniplmjbligmlaaDoor.Q
