-- Written by program (a turned copy of the kit's print) for this seat: functions, contracts. Lean checks it.
import Derived.Test.YtlanodnbdgiihaaFnx0
import Derived.Test.YtlanodnbdgiihaaOpen
import Derived.KernelRfl
namespace Go.Proofs.Ytlanodnbdgiihaa.Fn
open Go.RowKit Go.Proofs.YtlanodnbdgiihaaW.PrintWords Go.Proofs.YtlanodnbdgiihaaW.PrintLast Go.Proofs.YtlanodnbdgiihaaW.PrintMore
attribute [local go_sem] max2_int min2_int max_two min_two max_three min_three max_four min_four   -- for this text's walks alone
set_option linter.unusedVariables false
set_option linter.unusedSimpArgs false

open Go.Proofs.Ytlanodnbdgiihaa.Opn
def ok23 (x : S23) : Prop := (x.f0.size ≤ 140737488351232) ∧ ((Lit.int .i64 x.f1).wf = true)
theorem opens23 : Opens Try.prog 23 k23 ok23 := opens_struct (fun x : S23 => (x.f0, x.f1)) (fun p => ⟨p.1, p.2⟩) (fun _ => rfl) Try.underlying23 (by kernel_rfl) (opens_cons rfl (by kernel_rfl) (opens_string Try.underlying9) (opens_last rfl (by kernel_rfl) (opens_int Try.underlying3)))
def ok45 (x : S45) : Prop := (ok23 x.f0) ∧ (x.f1.size ≤ 140737488351232) ∧ (x.f2.size ≤ 140737488351232) ∧ (x.f3.length ≤ maxLen ∧ x.f3.length * 8 ≤ 140737488351232 ∧ ∀ x_ ∈ x.f3, (Lit.int .i64 x_).wf = true)
theorem opens45 : Opens Try.prog 45 k45 ok45 := opens_struct (fun x : S45 => (x.f0, x.f1, x.f2, x.f3)) (fun p => ⟨p.1, p.2.1, p.2.2.1, p.2.2.2⟩) (fun _ => rfl) Try.underlying45 (by kernel_rfl) (opens_cons rfl (by kernel_rfl) opens23 (opens_cons rfl (by kernel_rfl) (opens_string Try.underlying9) (opens_cons rfl (by kernel_rfl) (opens_string Try.underlying9) (opens_last rfl (by kernel_rfl) (opens_slice Try.underlying24 (by kernel_rfl) (by kernel_rfl) (opens_int Try.underlying3))))))
def ok49 (x : S49) : Prop := (x.f0.length ≤ maxLen ∧ x.f0.length * 8 ≤ 140737488351232 ∧ ∀ x_ ∈ x.f0, (Lit.int .i64 x_).wf = true) ∧ ((Lit.int .i64 x.f1).wf = true)
theorem opens49 : Opens Try.prog 49 k49 ok49 := opens_struct (fun x : S49 => (x.f0, x.f1)) (fun p => ⟨p.1, p.2⟩) (fun _ => rfl) Try.underlying49 (by kernel_rfl) (opens_cons rfl (by kernel_rfl) (opens_slice Try.underlying24 (by kernel_rfl) (by kernel_rfl) (opens_int Try.underlying3)) (opens_last rfl (by kernel_rfl) (opens_int Try.underlying3)))
def ok57 (x : S57) : Prop := (ok49 x.f0) ∧ (ok23 x.f1) ∧ (x.f2.length ≤ maxLen ∧ x.f2.length * 8 ≤ 140737488351232 ∧ ∀ x_ ∈ x.f2, (Lit.int .i64 x_).wf = true) ∧ ((Lit.int .u8 x.f3).wf = true) ∧ ((Lit.int .u8 x.f4).wf = true)
theorem opens57 : Opens Try.prog 57 k57 ok57 := opens_struct (fun x : S57 => (x.f0, x.f1, x.f2, x.f3, x.f4)) (fun p => ⟨p.1, p.2.1, p.2.2.1, p.2.2.2.1, p.2.2.2.2⟩) (fun _ => rfl) Try.underlying57 (by kernel_rfl) (opens_cons rfl (by kernel_rfl) opens49 (opens_cons rfl (by kernel_rfl) opens23 (opens_cons rfl (by kernel_rfl) (opens_slice Try.underlying24 (by kernel_rfl) (by kernel_rfl) (opens_int Try.underlying3)) (opens_cons rfl (by kernel_rfl) (opens_int Try.underlying5) (opens_last rfl (by kernel_rfl) (opens_int Try.underlying5))))))
end Go.Proofs.Ytlanodnbdgiihaa.Fn
