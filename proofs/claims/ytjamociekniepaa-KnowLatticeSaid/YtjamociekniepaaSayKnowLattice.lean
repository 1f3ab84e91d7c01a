/- What the Go function KnowLattice comes to, as one statement over numbers and lists; no condition but the kinds' own ranges and the form's reach. -/
import Derived.Test.YtjamociekniepaaFnx8
import Derived.Test.YtjamociekniepaaFnxok
namespace Go.Proofs.Ytjamociekniepaa.Fn
open Go.RowKit Go.Proofs.YtjamociekniepaaW.PrintWords Go.Proofs.YtjamociekniepaaW.PrintLast Go.Proofs.YtjamociekniepaaW.PrintMore
attribute [local go_sem] max2_int min2_int max_two min_two max_three min_three max_four min_four   -- for this text's walks alone
set_option linter.unusedVariables false
set_option linter.unusedSimpArgs false

def tattlelaw05_KnowLattice.Pure : Prop := ∀ (a0_0 : Int) (a0_1 : Int) (a1_0 : Int) (a1_1 : Int) (a2_0 : Int) (a2_1 : Int), ((Lit.int .u64 a0_0).wf = true) → ((Lit.int .i64 a0_1).wf = true) → ((Lit.int .u64 a1_0).wf = true) → ((Lit.int .i64 a1_1).wf = true) → ((Lit.int .u64 a2_0).wf = true) → ((Lit.int .i64 a2_1).wf = true) → ∃ k, tattlelaw05_KnowLattice.f k a0_0 a0_1 a1_0 a1_1 a2_0 a2_1 = some true
end Go.Proofs.Ytjamociekniepaa.Fn
