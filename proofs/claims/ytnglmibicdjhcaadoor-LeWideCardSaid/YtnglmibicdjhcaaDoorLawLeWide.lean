/- LeWide holds: the Go law answers true for every input, and leaves its arguments alone; no condition but that the listed tables of the library stand as the program's text lays them. -/
import Derived.Test.YtnglmibicdjhcaaDoorCards
import Derived.Test.YtnglmibicdjhcaaDoorTie
import Derived.Test.YtnglmibicdjhcaaDoorStmLeWide
import Derived.Test.YtnglmibicdjhcaaDoorPureLeWide
import Derived.WalkKit
import Derived.ProofKit
import Derived.OpenShut
import Derived.ShutString
import Derived.ChangeOld
import Derived.Below
import Derived.SizedLaws
import Derived.LaidMore
import Derived.Lay
import Derived.SevenTiedAt
import Derived.Stop.Joined
namespace Go.Proofs.YtnglmibicdjhcaaDoor.leWide
open Go.ChangeShapes Go.WideShapes Go.ChangeAt Go.RowKit Go.Proofs.YtnglmibicdjhcaaDoorW.PrintWords Go.Proofs.YtnglmibicdjhcaaDoor.Base Go.Proofs.YtnglmibicdjhcaaDoor.Q
set_option linter.unusedVariables false
theorem own : ownKnob Tryd.prog.godebug = none := by kernel_rfl
theorem laidOut : laidOutB Tryd.prog = true := by kernel_rfl
set_option maxRecDepth 100000 in
theorem lifted (os : Os) (started : os.Started) (H : Type) (enc : TypeId × Value → H) :
    ReturnsInHanded {} Tryd.checked os 5 .any (fun w args => (Rows.leWideSpec.pre enc Tryd.prog Tryd.f5 Rows.leWideRow.domain false w args ∧ laidMetH Tryd.prog Rows.leWideRow.laid w) ∧ sizedMet enc Tryd.prog Tryd.f5 (OpenSpec.ofChange Rows.leWideSpec) false w args) (Rows.leWideSpec.post enc Tryd.prog Tryd.f5 false true false false) := by
  refine returnsInHanded_of_change_and (C := Tryd.checked) (X := fun w _ => laidMetH Tryd.prog Rows.leWideRow.laid w) (fun _ _ _ hh h => h.of_heap hh) own started (by kernel_rfl) Tryd.func5
    (ChangeSpec.witness_shaped (enc := enc) (C := Tryd.checked) (os := os) (X := fun w _ => laidMetH Tryd.prog Rows.leWideRow.laid w) false (World.laidAll Tryd.prog os Rows.leWideRow.laid) #[.int .u64 0, .int .i64 0, .int .i64 0, .string ByteArray.empty, .int .i64 0] 8 (World.laidAll_os _ _ _)
      (World.shaped_of_ZipB (by kernel_rfl) (by kernel_rfl)) (by kernel_rfl) (by kernel_rfl) (by kernel_rfl)
      (by rw [MakeChecks.laidMetH_plain _ _ _ (by kernel_rfl)]; exact laidMet_laidAll _ (by kernel_rfl) (by kernel_rfl))) ?_
  intro W base args ds gs before hval0 hW hcnd hsz0 _ _
  have hsz : (DataW.weightsEach Tryd.prog (Tryd.f5.params.toList ++ Rows.leWideSpec.plain.varTypes Tryd.prog) (ds ++ gs)).all (· ≤ reachBytes) = true := hsz0
  have hval : ∀ (j : Nat) t v, Tryd.f5.params[j]? = some t → args[j]? = some v → Value.okWide Tryd.prog W .any base t v := hval0
  have hW' := hW
  obtain ⟨p, q, hA0, hV, rfl, hfz, hnd⟩ := hW
  have hA : DataW.TrodAll enc Tryd.prog W 0 (fun _ => true) true Tryd.f5.params.toList args.toList ds p := hA0
  rw [Tryd.params5] at hA hval hsz
  obtain ⟨v0, vs0, d0, ds0, p0, q0, hargs, rfl, rfl, h0, r0⟩ := trodAll_cons hA
  obtain ⟨v1, vs1, d1, ds1, p1, q1, rfl, rfl, rfl, h1, r1⟩ := trodAll_cons r0
  obtain ⟨v2, vs2, d2, ds2, p2, q2, rfl, rfl, rfl, h2, r2⟩ := trodAll_cons r1
  obtain ⟨v3, vs3, d3, ds3, p3, q3, rfl, rfl, rfl, h3, r3⟩ := trodAll_cons r2
  obtain ⟨v4, vs4, d4, ds4, p4, q4, rfl, rfl, rfl, h4, r4⟩ := trodAll_cons r3
  obtain ⟨rfl, rfl, rfl⟩ := trodAll_nil r4
  obtain rfl : args = #[v0, v1, v2, v3, v4] := by cases args; simp_all
  obtain ⟨rfl, rfl⟩ := trodVars_none hV
  have k0 := h0
  have lt0 : ∀ x ∈ p0, x.block < W.heap.size := by obtain ⟨m, hm⟩ := k0; exact DataW.trod_lt m _ _ _ hm
  have ok0 : Value.okWide Tryd.prog W .any base 28 v0 := hval 0 28 v0 rfl rfl
  obtain ⟨fuel0, hf0⟩ := h0
  obtain ⟨x0, K0, Z0⟩ := opT28 H enc W 0 _ true fuel0 _ _ _ hf0 (weights_of_each hsz (j := 0) (t := 28) rfl rfl)
  obtain ⟨y0, rfl⟩ := okWide_int Tryd.underlying28 ok0
  obtain rfl := int_open K0
  have k1 := h1
  have lt1 : ∀ x ∈ p1, x.block < W.heap.size := by obtain ⟨m, hm⟩ := k1; exact DataW.trod_lt m _ _ _ hm
  have ok1 : Value.okWide Tryd.prog W .any base 3 v1 := hval 1 3 v1 rfl rfl
  obtain ⟨fuel1, hf1⟩ := h1
  obtain ⟨x1, K1, Z1⟩ := opT3 H enc W 0 _ true fuel1 _ _ _ hf1 (weights_of_each hsz (j := 1) (t := 3) rfl rfl)
  obtain ⟨y1, rfl⟩ := okWide_int Tryd.underlying3 ok1
  obtain rfl := int_open K1
  have k2 := h2
  have lt2 : ∀ x ∈ p2, x.block < W.heap.size := by obtain ⟨m, hm⟩ := k2; exact DataW.trod_lt m _ _ _ hm
  have ok2 : Value.okWide Tryd.prog W .any base 3 v2 := hval 2 3 v2 rfl rfl
  obtain ⟨fuel2, hf2⟩ := h2
  obtain ⟨x2, K2, Z2⟩ := opT3 H enc W 0 _ true fuel2 _ _ _ hf2 (weights_of_each hsz (j := 2) (t := 3) rfl rfl)
  obtain ⟨y2, rfl⟩ := okWide_int Tryd.underlying3 ok2
  obtain rfl := int_open K2
  have k3 := h3
  have lt3 : ∀ x ∈ p3, x.block < W.heap.size := by obtain ⟨m, hm⟩ := k3; exact DataW.trod_lt m _ _ _ hm
  have ok3 : Value.okWide Tryd.prog W .any base 9 v3 := hval 3 9 v3 rfl rfl
  obtain ⟨fuel3, hf3⟩ := h3
  obtain ⟨x3, K3, Z3⟩ := opT9 H enc W 0 _ true fuel3 _ _ _ hf3 (weights_of_each hsz (j := 3) (t := 9) rfl rfl)
  obtain ⟨y3, rfl⟩ := okWide_string Tryd.underlying9 ok3
  obtain rfl := string_open K3
  have k4 := h4
  have lt4 : ∀ x ∈ p4, x.block < W.heap.size := by obtain ⟨m, hm⟩ := k4; exact DataW.trod_lt m _ _ _ hm
  have ok4 : Value.okWide Tryd.prog W .any base 3 v4 := hval 4 3 v4 rfl rfl
  obtain ⟨fuel4, hf4⟩ := h4
  obtain ⟨x4, K4, Z4⟩ := opT3 H enc W 0 _ true fuel4 _ _ _ hf4 (weights_of_each hsz (j := 4) (t := 3) rfl rfl)
  obtain ⟨y4, rfl⟩ := okWide_int Tryd.underlying3 ok4
  obtain rfl := int_open K4
  clear hA0 hval0 hsz0 hsz
  obtain ⟨k, h⟩ := Pure.LeWide x0 x1 x2 x3 x4 Z0 Z1 Z2 Z3 Z4
  refine (doorwardlaw01_LeWide.calls k x0 x1 x2 x3 x4 true W  h).mono fun e W' ⟨he, bel0⟩ => ?_
  have bel : Below W.heap.size W W' := by first | exact bel0 | (obtain ⟨n0, rfl⟩ := bel0; exact Below.drewN (Below.refl _ _) _) | (obtain ⟨n0, rfl⟩ := bel0; repeat (first | exact Below.refl _ _ | apply pw_below_drewN))
  subst he
  exact ⟨_, rfl, _, _, _, [], _, [], hW', trodAll_mk1 (shut_bool Tryd.underlying4 _), (trodAll_cons_mk (Below.trod laidOut (by kernel_rfl) (of_decide_eq_true (by kernel_rfl)) k0 bel lt0) (trodAll_cons_mk (Below.trod laidOut (by kernel_rfl) (of_decide_eq_true (by kernel_rfl)) k1 bel lt1) (trodAll_cons_mk (Below.trod laidOut (by kernel_rfl) (of_decide_eq_true (by kernel_rfl)) k2 bel lt2) (trodAll_cons_mk (Below.trod laidOut (by kernel_rfl) (of_decide_eq_true (by kernel_rfl)) k3 bel lt3) (trodAll_cons_mk (Below.trod laidOut (by kernel_rfl) (of_decide_eq_true (by kernel_rfl)) k4 bel lt4) trodAll_mk0))))), rfl, bel.frame _, fun h => by cases h⟩
theorem over : Rows.leWideRow.holds Tryd.pinned (OpenSpec.ofChange Rows.leWideSpec) :=
  OpenClaim.holds_of_wide 5 Tryd.f5 rfl rfl rfl rfl rfl rfl rfl ⟨rfl, rfl, rfl, rfl, rfl⟩ rfl rfl rfl rfl rfl (by kernel_rfl) Tryd.func5 (by kernel_rfl)
    (of_decide_eq_true (by kernel_rfl)) (by unfold Func.isWrapper; first | (rw [if_pos (by decide +kernel)]; kernel_rfl) | (rw [if_neg (by decide +kernel)]; exact ⟨rfl, rfl⟩))
    (fun os started H enc _ => lifted os started H enc)
theorem proved : Rows.LeWideSaid := over
theorem card : Rows.LeWideCardSaid :=
  Claim7.holds_tied_plain_at .later [] [.data, .pinned] true (true, "da23393bbec2061f2e83ba538b6657b935034242250858068c9c7da63ca32c83") false proved (fun _ h => by cases h) (by kernel_rfl) (fun _ h => by cases h) leWide_row_tie rfl ⟨rfl, rfl⟩ (by kernel_rfl) rfl
    (fun f fn hf hfn => by
      obtain rfl : f = 5 := Option.some.inj ((show Tryd.prog.funcNamed "doorward/doorwardlaw01.LeWide" = some 5 by kernel_rfl).symm.trans hf) |>.symm
      obtain rfl : fn = Tryd.f5 := (Option.some.inj (Tryd.func5.symm.trans hfn)).symm
      exact ⟨by kernel_rfl, fun j t ht => by
        rw [Tryd.params5] at ht
        have hm : t ∈ [28, 3, 3, 9, 3] := by simpa using Array.mem_of_getElem? ht
        have hall : ([28, 3, 3, 9, 3].all fun u => !Tryd.prog.wantsStandIn u) = true := by kernel_rfl
        exact (show Tryd.prog.wantsStandIn t = false by simpa using List.all_eq_true.1 hall t hm)⟩)
    (by kernel_rfl)
end Go.Proofs.YtnglmibicdjhcaaDoor.leWide
namespace Go.Proofs.YtnglmibicdjhcaaDoor
theorem leWide_holds : Rows.LeWideCardSaid := leWide.card
#print axioms leWide_holds
end Go.Proofs.YtnglmibicdjhcaaDoor
