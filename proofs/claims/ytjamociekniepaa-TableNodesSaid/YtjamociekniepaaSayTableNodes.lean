/- What the Go function TableNodes comes to, as one statement over numbers and lists; no condition but the kinds' own ranges and the form's reach. -/
import Derived.Test.YtjamociekniepaaFnx22
import Derived.Test.YtjamociekniepaaFnxok
namespace Go.Proofs.Ytjamociekniepaa.Fn
open Go.RowKit Go.Proofs.YtjamociekniepaaW.PrintWords Go.Proofs.YtjamociekniepaaW.PrintLast Go.Proofs.YtjamociekniepaaW.PrintMore
attribute [local go_sem] max2_int min2_int max_two min_two max_three min_three max_four min_four   -- for this text's walks alone
set_option linter.unusedVariables false
set_option linter.unusedSimpArgs false

def tattlelaw06_TableNodes.Pure : Prop := ∀ (a0 : Int) (a1 : Int), ((Lit.int .u8 a0).wf = true) → ((Lit.int .u8 a1).wf = true) → ∃ k, tattlelaw06_TableNodes.f k a0 a1 = some true
end Go.Proofs.Ytjamociekniepaa.Fn
