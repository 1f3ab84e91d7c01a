-- Written by program (a turned copy of the kit's print) for this seat: functions, contracts. Lean checks it.
import Derived.Test.YtjamociekniepaaFnx0
import Derived.Test.YtjamociekniepaaOpen
import Derived.KernelRfl
namespace Go.Proofs.Ytjamociekniepaa.Fn
open Go.RowKit Go.Proofs.YtjamociekniepaaW.PrintWords Go.Proofs.YtjamociekniepaaW.PrintLast Go.Proofs.YtjamociekniepaaW.PrintMore
attribute [local go_sem] max2_int min2_int max_two min_two max_three min_three max_four min_four   -- for this text's walks alone
set_option linter.unusedVariables false
set_option linter.unusedSimpArgs false

open Go.Proofs.Ytjamociekniepaa.Opn
def ok26 (x : S26) : Prop := ((Lit.int .u64 x.f0).wf = true) ∧ ((Lit.int .i64 x.f1).wf = true)
theorem opens26 : Opens Try.prog 26 k26 ok26 := opens_struct (fun x : S26 => (x.f0, x.f1)) (fun p => ⟨p.1, p.2⟩) (fun _ => rfl) Try.underlying26 (by kernel_rfl) (opens_cons rfl (by kernel_rfl) (opens_int Try.underlying24) (opens_last rfl (by kernel_rfl) (opens_int Try.underlying3)))
def ok47 (x : S47) : Prop := (x.f0.length ≤ maxLen ∧ x.f0.length * 16 ≤ 140737488351232 ∧ ∀ x_ ∈ x.f0, ok26 x_) ∧ (x.f1.length ≤ maxLen ∧ x.f1.length * 16 ≤ 140737488351232 ∧ ∀ x_ ∈ x.f1, ok26 x_) ∧ (x.f2.length ≤ maxLen ∧ x.f2.length * 1 ≤ 140737488351232 ∧ ∀ x_ ∈ x.f2, (Lit.int .u8 x_).wf = true) ∧ (x.f3.length ≤ maxLen ∧ x.f3.length * 1 ≤ 140737488351232 ∧ ∀ x_ ∈ x.f3, (Lit.int .u8 x_).wf = true)
theorem opens47 : Opens Try.prog 47 k47 ok47 := opens_struct (fun x : S47 => (x.f0, x.f1, x.f2, x.f3)) (fun p => ⟨p.1, p.2.1, p.2.2.1, p.2.2.2⟩) (fun _ => rfl) Try.underlying47 (by kernel_rfl) (opens_cons rfl (by kernel_rfl) (opens_slice Try.underlying22 (by kernel_rfl) (by kernel_rfl) opens26) (opens_cons rfl (by kernel_rfl) (opens_slice Try.underlying22 (by kernel_rfl) (by kernel_rfl) opens26) (opens_cons rfl (by kernel_rfl) (opens_slice Try.underlying40 (by kernel_rfl) (by kernel_rfl) (opens_int Try.underlying5)) (opens_last rfl (by kernel_rfl) (opens_slice Try.underlying40 (by kernel_rfl) (by kernel_rfl) (opens_int Try.underlying5))))))
def ok69 (x : S69) : Prop := (x.f0.length ≤ maxLen ∧ x.f0.length * 16 ≤ 140737488351232 ∧ ∀ x_ ∈ x.f0, ok26 x_) ∧ (x.f1.length ≤ maxLen ∧ x.f1.length * 16 ≤ 140737488351232 ∧ ∀ x_ ∈ x.f1, ok26 x_) ∧ ((Lit.int .i64 x.f2).wf = true) ∧ (ok26 x.f3)
theorem opens69 : Opens Try.prog 69 k69 ok69 := opens_struct (fun x : S69 => (x.f0, x.f1, x.f2, x.f3)) (fun p => ⟨p.1, p.2.1, p.2.2.1, p.2.2.2⟩) (fun _ => rfl) Try.underlying69 (by kernel_rfl) (opens_cons rfl (by kernel_rfl) (opens_slice Try.underlying22 (by kernel_rfl) (by kernel_rfl) opens26) (opens_cons rfl (by kernel_rfl) (opens_slice Try.underlying22 (by kernel_rfl) (by kernel_rfl) opens26) (opens_cons rfl (by kernel_rfl) (opens_int Try.underlying3) (opens_last rfl (by kernel_rfl) opens26))))
end Go.Proofs.Ytjamociekniepaa.Fn
