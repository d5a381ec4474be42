/- The reference's Fill: a text with zero bytes put behind it (its bytes are a conversion's row that is appended to). -/
import Derived.Test.YtnglmibicdjhcaaDoorTrimPlain
import Derived.Test.YtnglmibicdjhcaaDoorRowM
import Derived.Test.YtnglmibicdjhcaaDoorQx0
namespace Go.Proofs.YtnglmibicdjhcaaDoor.Q
open Go.RowKit Go.Proofs.YtnglmibicdjhcaaDoorW.PrintWords Go.Proofs.YtnglmibicdjhcaaDoorW.PrintLast Go.Proofs.YtnglmibicdjhcaaDoorW.PrintMore Go.Proofs.YtnglmibicdjhcaaDoor.Base
set_option linter.unusedVariables false
def doorwardref01_Fill.f (a0 : ByteArray) (a1 : Int) : Option (ByteArray × Int) := if a0.size ≤ 140737488351232 ∧ a1 ≤ 140737488351232 then some (fillS a0 a1) else none
def numsZ (s : ByteArray) (n : Nat) : List Int := ((L s).map fun b => (b.toNat : Int)) ++ List.replicate (n - s.size) 0
theorem numsZ_length (s : ByteArray) (n : Nat) (h : s.size ≤ n) : (numsZ s n).length = n := by
  unfold numsZ; rw [List.length_append, List.length_map, List.length_replicate, ← size_L]; omega
theorem numsZ_succ (s : ByteArray) (n : Nat) (h : s.size ≤ n) : numsZ s n ++ [0] = numsZ s (n + 1) := by
  unfold numsZ; rw [List.append_assoc, ← List.replicate_succ', show n + 1 - s.size = n - s.size + 1 by omega]
theorem numsZ_zero (s : ByteArray) : numsZ s s.size = (L s).map fun b => (b.toNat : Int) := by unfold numsZ; simp
theorem strOf_numsZ (s : ByteArray) (n : Nat) : strOfNums (numsZ s n) = B (L s ++ List.replicate (n - s.size) 0) := by
  apply L_inj; rw [L_strOfNums, L_B]; unfold numsZ
  rw [List.map_append, List.map_map]
  congr 1
  · conv => rhs; rw [← List.map_id (L s)]
    apply List.map_congr_left
    intro b _
    simp
  · simp
theorem info_u8 : (Tryd.prog.info? 5).map (fun i => (i.zero, i.size, i.bytes)) = some (some (.int .u8 0), 1, 1) := by kernel_rfl
set_option maxHeartbeats 4000000 in
set_option maxRecDepth 100000 in
theorem doorwardref01_Fill.calls (a0 : ByteArray) (a1 : Int) (r1 : ByteArray) (r2 : Int) (w : World) (h : doorwardref01_Fill.f a0 a1 = some (r1, r2)) :
    Calls Tryd.prog 8 #[.string a0, .int .i64 a1] w fun e w' => e = .returned (.tuple #[.string r1, .int .i64 r2]) ∧ Below w.heap.size w w' := by
  unfold doorwardref01_Fill.f at h
  split at h
  · rename_i hc
    obtain ⟨hs, ha⟩ := hc
    have h := Option.some.inj h
    unfold fillS at h
    by_cases c : (a0.size : Int) > a1
    · rw [if_pos c] at h
      obtain ⟨rfl, rfl⟩ := Prod.mk.inj h
      have c1 : decide (a1 < (a0.size : Int)) = true := decide_eq_true c
      clear c h
      go_enter Tryd.func8, Tryd.ntmps8
      go_wp2
      go_ret2
      exact ⟨rfl, Below.refl _ _⟩
    · rw [if_neg c] at h
      obtain ⟨rfl, rfl⟩ := Prod.mk.inj h
      have c1 : decide (a1 < (a0.size : Int)) = false := decide_eq_false c
      obtain ⟨m, rfl⟩ : ∃ m : Nat, a1 = m := ⟨a1.toNat, by omega⟩
      have hm : a0.size ≤ m := by omega
      have hm2 : m ≤ 140737488351232 := by omega
      clear c h ha
      obtain ⟨i0, hi, hz0, hz1, hz2⟩ := info_parts info_u8
      have hmade := OwnsM.made w w.heap.size 5 a0 (Nat.le_refl _) (by simp only [maxLen]; omega)
      have hbm := below_made w 5 a0
      rw [← numsZ_zero] at hmade
      have hrun := Lib.run_convert_string_bytes (P := Tryd.prog) w 9 33 5 a0 Tryd.underlying9 Tryd.underlying33 Tryd.underlying5
      obtain ⟨w1, hw1⟩ : ∃ w1, Lib.bytesWorld w 5 a0 = w1 := ⟨_, rfl⟩
      obtain ⟨cap1, hcap1⟩ : ∃ x, grownCap w a0.size 0 5 = x := ⟨_, rfl⟩
      rw [hw1, hcap1] at hmade hrun
      rw [hw1] at hbm
      clear hw1 hcap1
      have HM := Aside0.mk hmade
      have HB := Aside0.mk hbm
      clear hmade hbm
      have Hw : Aside0 (w.heap.size = w.heap.size) := ⟨rfl⟩
      go_enter Tryd.func8, Tryd.ntmps8
      go_wp2
      clear hrun
      go_loopw [6] (fun v wr => ∃ n g cap : Nat, a0.size ≤ n ∧ n ≤ m ∧ v = .slice (some ⟨g, 0, none⟩) n cap ∧ Aside0 (OwnsM wr w.heap.size 5 g cap (numsZ a0 n)) ∧ Aside0 (Below w.heap.size w wr)) (fun v _ => m - slLen v)
      case atStart => exact ⟨a0.size, _, _, Nat.le_refl _, hm, rfl, HM, HB⟩
      case round =>
        obtain ⟨n, g, cap, hn1, hn2, rfl, HO, HW⟩ := hrel
        clear HM HB
        have hl := numsZ_length a0 n hn1
        have Hl := Aside0.mk hl
        clear hl
        by_cases hlt : n < m
        · go_wp2_with (at_builtin; refine wpList_append_M rfl _ _ 33 rfl w.heap.size 5 i0 Tryd.underlying33 hi hz0 hz1 hz2 g cap (numsZ a0 n) (by rw [Hl.out]; rfl) (HO.out.kept (by exact heap_alloc_old _ _ HO.out.lt)) _ 1 0 rfl (by simp) (by rw [Hl.out]; omega) (by have := HW.out.size; simp; omega) ?_; intro g' cap' w2 ho2 hg2; rw [Hl.out]; have HO2 := Aside0.mk ho2; clear ho2; have HG2 := Aside0.mk hg2; clear hg2)
          go_roundw
          case rel => exact ⟨n + 1, g', cap', by omega, by omega, rfl, ⟨by rw [← numsZ_succ _ _ hn1]; exact HO2.out⟩, ⟨Below.grown (Below.alloc HW.out HW.out.size _) HG2.out (by have := HW.out.size; simp; omega) (fun k hk => by cases hk; exact HO.out.1)⟩⟩
          case measure => simp [slLen]; omega
        · obtain rfl : n = m := by omega
          have hconv := string_of_reads (P := Tryd.prog) (w := wr) (c := cap) (xs := numsZ a0 n) Tryd.underlying33 Tryd.underlying5 Tryd.underlying9 (by have := HO.out.reads; rw [Hl.out] at this; exact this)
          rw [strOf_numsZ] at hconv
          have HW2 := HW
          go_wp2
          go_ret2
          exact ⟨rfl, HW.out⟩
  · cases h
end Go.Proofs.YtnglmibicdjhcaaDoor.Q
