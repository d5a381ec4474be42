/- The kinds of the statements' parameters: what a row's data read as, type by type. -/
import Derived.Test.YtniplmjbligmlaaDoorOpen
import Derived.Test.YtniplmjbligmlaaDoorQx0
namespace Go.Proofs.YtniplmjbligmlaaDoor.Q
open Go.RowKit Go.Proofs.YtniplmjbligmlaaDoorW.PrintWords Go.Proofs.YtniplmjbligmlaaDoorW.PrintLast Go.Proofs.YtniplmjbligmlaaDoorW.PrintMore Go.Proofs.YtniplmjbligmlaaDoor.Base
set_option linter.unusedVariables false
def zT3 : Int → Prop := fun n => (Lit.int .i64 n).wf = true
theorem opT3 : Opens Tryd.prog 3 (Kd.int .i64) zT3 := opens_int Tryd.underlying3
def zT9 : ByteArray → Prop := fun s => s.size ≤ 140737488351232
theorem opT9 : Opens Tryd.prog 9 Kd.string zT9 := opens_string Tryd.underlying9
def zT22 : List ByteArray → Prop := fun l => l.length * 16 ≤ 140737488351232 ∧ ∀ x ∈ l, zT9 x
theorem opT22 : Opens Tryd.prog 22 (Kd.slice 9 Kd.string) zT22 := opens_slice Tryd.underlying22 (by kernel_rfl) 16 (by kernel_rfl) opT9
def zT42 : S42 → Prop := fun x => zT3 x.f0 ∧ zT9 x.f1
theorem opT42 : Opens Tryd.prog 42 k42 zT42 := opens_iso (f := fun x : S42 => (x.f0, x.f1)) (fun a => ⟨a.1, a.2⟩) (fun a => rfl) (opens_struct Tryd.underlying42 (by kernel_rfl) (opensF_cons (by kernel_rfl) (by kernel_rfl) opT3 (opensF_one (by kernel_rfl) opT9)))
def zT23 : List (S42) → Prop := fun l => l.length * 24 ≤ 140737488351232 ∧ ∀ x ∈ l, zT42 x
theorem opT23 : Opens Tryd.prog 23 (Kd.slice 42 k42) zT23 := opens_slice Tryd.underlying23 (by kernel_rfl) 24 (by kernel_rfl) opT42
def zT25 : S25 → Prop := fun x => zT22 x.f0 ∧ zT23 x.f1
theorem opT25 : Opens Tryd.prog 25 k25 zT25 := opens_iso (f := fun x : S25 => (x.f0, x.f1)) (fun a => ⟨a.1, a.2⟩) (fun a => rfl) (opens_struct Tryd.underlying25 (by kernel_rfl) (opensF_cons (by kernel_rfl) (by kernel_rfl) opT22 (opensF_one (by kernel_rfl) opT23)))
def zT4 : Bool → Prop := fun _ => True
theorem opT4 : Opens Tryd.prog 4 Kd.bool zT4 := opens_bool Tryd.underlying4
def zT33 : List Bool → Prop := fun l => l.length * 1 ≤ 140737488351232 ∧ ∀ x ∈ l, zT4 x
theorem opT33 : Opens Tryd.prog 33 (Kd.slice 4 Kd.bool) zT33 := opens_slice Tryd.underlying33 (by kernel_rfl) 1 (by kernel_rfl) opT4
def zT46 : S46 → Prop := fun x => zT25 x.f0 ∧ zT3 x.f1
theorem opT46 : Opens Tryd.prog 46 k46 zT46 := opens_iso (f := fun x : S46 => (x.f0, x.f1)) (fun a => ⟨a.1, a.2⟩) (fun a => rfl) (opens_struct Tryd.underlying46 (by kernel_rfl) (opensF_cons (by kernel_rfl) (by kernel_rfl) opT25 (opensF_one (by kernel_rfl) opT3)))
end Go.Proofs.YtniplmjbligmlaaDoor.Q
