-- Written by program (a turned copy of the kit's print) for this seat: functions, contracts. Lean checks it.
import Derived.Test.YtgfblogneggpmaaFnx0
import Derived.Test.YtgfblogneggpmaaOpen
import Derived.KernelRfl
namespace Go.Proofs.Ytgfblogneggpmaa.Fn
open Go.RowKit Go.Proofs.YtgfblogneggpmaaW.PrintWords Go.Proofs.YtgfblogneggpmaaW.PrintLast Go.Proofs.YtgfblogneggpmaaW.PrintMore
attribute [local go_sem] max2_int min2_int max_two min_two max_three min_three max_four min_four   -- for this text's walks alone
set_option linter.unusedVariables false
set_option linter.unusedSimpArgs false

open Go.Proofs.Ytgfblogneggpmaa.Opn
def ok23 (x : S23) : Prop := ((Lit.int .i64 x.f0).wf = true) ∧ ((Lit.int .i64 x.f1).wf = true) ∧ ((Lit.int .i64 x.f2).wf = true)
theorem opens23 : Opens Try.prog 23 k23 ok23 := opens_struct (fun x : S23 => (x.f0, x.f1, x.f2)) (fun p => ⟨p.1, p.2.1, p.2.2⟩) (fun _ => rfl) Try.underlying23 (by kernel_rfl) (opens_cons rfl (by kernel_rfl) (opens_int Try.underlying2) (opens_cons rfl (by kernel_rfl) (opens_int Try.underlying2) (opens_last rfl (by kernel_rfl) (opens_int Try.underlying2))))
def ok36 (x : S36) : Prop := ((Lit.int .u8 x.f0).wf = true) ∧ ((Lit.int .u8 x.f1).wf = true) ∧ ((Lit.int .u8 x.f2).wf = true) ∧ (True)
def ok38 (x : S38) : Prop := ((Lit.int .u64 x.f0).wf = true) ∧ ((Lit.int .i64 x.f1).wf = true) ∧ ((Lit.int .i64 x.f2).wf = true) ∧ ((Lit.int .i64 x.f3).wf = true)
def ok40 (x : S40) : Prop := (ok23 x.f0) ∧ (ok38 x.f1) ∧ ((Lit.int .i64 x.f2).wf = true) ∧ ((Lit.int .u64 x.f3).wf = true) ∧ ((Lit.int .i64 x.f4).wf = true)
def ok52 (x : S52) : Prop := ((Lit.int .u64 x.f0).wf = true) ∧ (x.f1.length ≤ maxLen ∧ x.f1.length * 8 ≤ 140737488351232 ∧ ∀ x_ ∈ x.f1, (Lit.int .i64 x_).wf = true)
def ok54 (x : S54) : Prop := (ok23 x.f0) ∧ (ok52 x.f1) ∧ ((Lit.int .i64 x.f2).wf = true) ∧ ((Lit.int .u64 x.f3).wf = true) ∧ ((Lit.int .i64 x.f4).wf = true) ∧ ((Lit.int .i64 x.f5).wf = true)
end Go.Proofs.Ytgfblogneggpmaa.Fn
