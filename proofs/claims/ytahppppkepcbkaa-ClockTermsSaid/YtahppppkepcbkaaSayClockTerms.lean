/- What the Go function ClockTerms comes to, as one statement over numbers and lists; no condition but the kinds' own ranges and the form's reach. -/
import Derived.Test.YtahppppkepcbkaaFnx9
import Derived.Test.YtahppppkepcbkaaFnxok
namespace Go.Proofs.Ytahppppkepcbkaa.Fn
open Go.RowKit Go.Proofs.YtahppppkepcbkaaW.PrintWords Go.Proofs.YtahppppkepcbkaaW.PrintLast Go.Proofs.YtahppppkepcbkaaW.PrintMore
attribute [local go_sem] max2_int min2_int max_two min_two max_three min_three max_four min_four   -- for this text's walks alone
set_option linter.unusedVariables false
set_option linter.unusedSimpArgs false

def tattlelaw04_ClockTerms.Pure : Prop := ∀ (a0_0 : Int) (a0_1 : Int) (a0_2 : Int) (a0_3 : Int), ((Lit.int .u16 a0_0).wf = true) → ((Lit.int .u16 a0_1).wf = true) → ((Lit.int .u16 a0_2).wf = true) → ((Lit.int .u8 a0_3).wf = true) → tattlelaw04_ClockTerms.f a0_0 a0_1 a0_2 a0_3 = some true
end Go.Proofs.Ytahppppkepcbkaa.Fn
