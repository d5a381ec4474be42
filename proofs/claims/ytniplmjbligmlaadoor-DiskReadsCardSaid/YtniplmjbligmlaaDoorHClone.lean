/- slices.Clone of rows of strings and of writes. -/
import Derived.Test.YtniplmjbligmlaaDoorBase
import Derived.Test.YtniplmjbligmlaaDoorQx0
import Derived.Lib.SliceRun
namespace Go.Proofs.YtniplmjbligmlaaDoor.Q
open Go.RowKit Go.Proofs.YtniplmjbligmlaaDoorW.PrintWords Go.Proofs.YtniplmjbligmlaaDoorW.PrintLast Go.Proofs.YtniplmjbligmlaaDoorW.PrintMore Go.Proofs.YtniplmjbligmlaaDoor.Base
set_option linter.unusedVariables false

def slices_Clone_string_string.f (l0 : List ByteArray) : Option (List ByteArray) := if l0.length < 8796093022208 then some l0 else none
set_option maxHeartbeats 2000000 in
set_option maxRecDepth 100000 in
theorem slices_Clone_string_string.calls (A0 : Option Addr) (c0 : Nat) (l0 : List ByteArray) (r : List ByteArray) (w : World) (hr0 : Kd.C Kd.string w A0 l0.length l0) (hc0 : l0.length ≤ c0) (h : slices_Clone_string_string.f l0 = some r) :
    Calls Tryd.prog 54 #[.slice A0 l0.length c0] w fun e w' => ∃ v0_ : Value, e = .returned (v0_) ∧ Kd.R Kd.string 9 w' w.heap.size (fun _ => True) v0_ r ∧ Below w.heap.size w w' := by
  unfold slices_Clone_string_string.f at h
  by_cases hlt : l0.length < 8796093022208
  · rw [if_pos hlt] at h; obtain rfl := Option.some.inj h
    have hnil : ∀ (w : World) (a : Option Addr) (n c n' c' : Nat), (binOp .eql 22 (.slice a n c) (.slice none n' c')).run Tryd.prog w = .ok (.bool a.isNone) w := fun w a n c n' c' => Lib.run_eql_slice_nil w _ _ a n c n' c' Tryd.underlying22
    have HR := Aside0.mk hr0
    have HL := Aside0.mk hlt
    clear hr0 hlt h
    rcases A0 with _ | ad
    · have e0 : l0 = [] := by
        have h1 := HR.out
        rcases Nat.eq_zero_or_pos l0.length with h0 | h0
        · exact List.eq_nil_of_length_eq_zero h0
        · obtain ⟨ad, h, _⟩ := h1.2.2 h0; cases h
      subst e0
      go_enter Tryd.func54, Tryd.ntmps54
      go_wp2
      go_ret
      exact ⟨_, rfl, Kd.R_nil _ _ _ _ _, Below.refl _ _⟩
    · go_enter Tryd.func54, Tryd.ntmps54
      go_wp2_with (first | ((with_reducible refine gate_dst (N := 5) rfl ?_); refine Kd.R_lit (Kd.string) (w0 := w) w.heap.size 9 ?hg (N := 5) ?hd (xs := ([] : List (ByteArray))) (inner := []) (ok := fun _ => True) (okp := fun _ => True) ?hr ?hp (fun _ hk => hk) trivial (Below.refl _ _) (Nat.le_refl _) (by simp) ?_; (case hd => rfl); (case hg => rfl); (case hr => first | (go_simp; done) | (go_simp; rfl)); (case hp => exact (Reps.none _ _)); intro v1 w1 hR1 hB1 hG1 _; have HR1 := Aside0.mk hR1; have HB1 := Aside0.mk hB1; have HC1 := Aside0.mk (Kd.C_below HR.out hB1); clear hR1 hB1 hG1) | ((with_reducible refine gate_builtin (b := .append) (xs := #[.tmp 5, .tmp 6]) rfl ?_); at_builtin; refine Kd.R_append_rows Kd.string (w0 := w) w.heap.size rfl (.tmp 5) (.tmp 6) 22 9 (.string ⟨#[]⟩) 16 rfl Tryd.underlying22 info9 rfl (by decide) (by omega) v1 ([] : List (ByteArray)) l0 _ _ _ (fun _ => True) (fun _ => False) rfl rfl HR1.out HC1.out (fun _ _ h => h) (fun _ h => h.elim) (fun _ _ => trivial) HB1.out (below_size HB1.out) (by have := HL.out; simp only [List.length_nil]; omega) ?_; intro v2 w2 hR2 hB2 _ _; have HR2 := Aside0.mk hR2; have HB2 := Aside0.mk hB2; clear hR2 hB2))
      go_wp2
      go_ret
      exact ⟨_, rfl, HR2.out, HB2.out⟩
  · rw [if_neg hlt] at h; cases h

def api_Write.f (l0 : List S42) : Option (List S42) := if l0.length < 5864062014805 then some l0 else none
set_option maxHeartbeats 2000000 in
set_option maxRecDepth 100000 in
theorem api_Write.calls (A0 : Option Addr) (c0 : Nat) (l0 : List S42) (r : List S42) (w : World) (hr0 : Kd.C k42 w A0 l0.length l0) (hc0 : l0.length ≤ c0) (h : api_Write.f l0 = some r) :
    Calls Tryd.prog 59 #[.slice A0 l0.length c0] w fun e w' => ∃ v0_ : Value, e = .returned (v0_) ∧ Kd.R k42 42 w' w.heap.size (fun _ => True) v0_ r ∧ Below w.heap.size w w' := by
  unfold api_Write.f at h
  by_cases hlt : l0.length < 5864062014805
  · rw [if_pos hlt] at h; obtain rfl := Option.some.inj h
    have hnil : ∀ (w : World) (a : Option Addr) (n c n' c' : Nat), (binOp .eql 23 (.slice a n c) (.slice none n' c')).run Tryd.prog w = .ok (.bool a.isNone) w := fun w a n c n' c' => Lib.run_eql_slice_nil w _ _ a n c n' c' Tryd.underlying23
    have HR := Aside0.mk hr0
    have HL := Aside0.mk hlt
    clear hr0 hlt h
    rcases A0 with _ | ad
    · have e0 : l0 = [] := by
        have h1 := HR.out
        rcases Nat.eq_zero_or_pos l0.length with h0 | h0
        · exact List.eq_nil_of_length_eq_zero h0
        · obtain ⟨ad, h, _⟩ := h1.2.2 h0; cases h
      subst e0
      go_enter Tryd.func59, Tryd.ntmps59
      go_wp2
      go_ret
      exact ⟨_, rfl, Kd.R_nil _ _ _ _ _, Below.refl _ _⟩
    · go_enter Tryd.func59, Tryd.ntmps59
      go_wp2_with (first | ((with_reducible refine gate_dst (N := 5) rfl ?_); refine Kd.R_lit (k42) (w0 := w) w.heap.size 42 ?hg (N := 5) ?hd (xs := ([] : List (S42))) (inner := []) (ok := fun _ => True) (okp := fun _ => True) ?hr ?hp (fun _ hk => hk) trivial (Below.refl _ _) (Nat.le_refl _) (by simp) ?_; (case hd => rfl); (case hg => rfl); (case hr => first | (go_simp; done) | (go_simp; rfl)); (case hp => exact (Reps.none _ _)); intro v1 w1 hR1 hB1 hG1 _; have HR1 := Aside0.mk hR1; have HB1 := Aside0.mk hB1; have HC1 := Aside0.mk (Kd.C_below HR.out hB1); clear hR1 hB1 hG1) | ((with_reducible refine gate_builtin (b := .append) (xs := #[.tmp 5, .tmp 6]) rfl ?_); at_builtin; refine Kd.R_append_rows k42 (w0 := w) w.heap.size rfl (.tmp 5) (.tmp 6) 23 42 (.agg #[(.int .i64 0), (.string ⟨#[]⟩)]) 24 rfl Tryd.underlying23 info42 rfl (by decide) (by omega) v1 ([] : List (S42)) l0 _ _ _ (fun _ => True) (fun _ => False) rfl rfl HR1.out HC1.out (fun _ _ h => h) (fun _ h => h.elim) (fun _ _ => trivial) HB1.out (below_size HB1.out) (by have := HL.out; simp only [List.length_nil]; omega) ?_; intro v2 w2 hR2 hB2 _ _; have HR2 := Aside0.mk hR2; have HB2 := Aside0.mk hB2; clear hR2 hB2))
      go_wp2
      go_ret
      exact ⟨_, rfl, HR2.out, HB2.out⟩
  · rw [if_neg hlt] at h; cases h
end Go.Proofs.YtniplmjbligmlaaDoor.Q
