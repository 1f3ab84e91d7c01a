/- What the Go function TimerDrops comes to, as one statement over numbers and lists; no condition but the kinds' own ranges and the form's reach. -/
import Derived.Test.YtahppppkepcbkaaFnx35
import Derived.Test.YtahppppkepcbkaaFnxok
namespace Go.Proofs.Ytahppppkepcbkaa.Fn
open Go.RowKit Go.Proofs.YtahppppkepcbkaaW.PrintWords Go.Proofs.YtahppppkepcbkaaW.PrintLast Go.Proofs.YtahppppkepcbkaaW.PrintMore
attribute [local go_sem] max2_int min2_int max_two min_two max_three min_three max_four min_four   -- for this text's walks alone
set_option linter.unusedVariables false
set_option linter.unusedSimpArgs false

def tattlelaw03_TimerDrops.Pure : Prop := ∀ (l0 : List (S52)) (a1 : Int), (l0.length ≤ maxLen ∧ l0.length * 32 ≤ 140737488351232 ∧ ∀ x_ ∈ l0, ok52 x_) → ((Lit.int .u8 a1).wf = true) → ∃ k, tattlelaw03_TimerDrops.f k l0 a1 = some true
end Go.Proofs.Ytahppppkepcbkaa.Fn
