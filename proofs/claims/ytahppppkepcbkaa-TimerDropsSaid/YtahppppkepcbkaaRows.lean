/-
  No cell of these rows narrows 'for every input' (looked for: loops, veiled, ifaces, maps, wideKeys, modest, calm, conditions, laid).
  DERIVED. THE GIVEN ROWS OF THIS SEAT. 11 by the template 'for every input the law returns true; each argument reads behind the call as it read before'; 0 by the template 'total and deterministic' (their statements: YtahppppkepcbkaaTotals.lean).
  GIVEN WITH THE SEED: the statements are not yours to turn. If you find one false, say at which input.
  Laid BY PROGRAM, IN A SANDBOX (cutbox-rows.mjs): the forced cells as the released guide's own fill.sh prints them over the translation b0cd819dac995cfd… (all of the seat's roots in one cut). By AI agents, Wed Nov 11 2026. No macro, syntax, notation, axiom, sorry.
-/
import Derived.Test.YtahppppkepcbkaaChecked
import GoSem.Claim
import GoSem.ClaimJoined
import GoSem.ClaimMapViews
import Derived.JoinedTies
import Derived.KernelRfl
namespace Go.Proofs.Ytahppppkepcbkaa
/- THE CELL 'sum', in the pinned program and in every row, IS THE sha256 OF THE DUMP (.gsa) THAT YtahppppkepcbkaaProg.lean LOADS. Nothing in Lean hashes anything: it is a label: what it is worth is what the hold of that sum in a sandbox is worth. -/
noncomputable def Try.pinned : Pinned := { name := "ytahppppkepcbkaa", sum := "b0cd819dac995cfd089b89fe22abb504d18ad60172029e658832629d48966b84", checked := Try.checked }
namespace Rows
def none {H : Type} : Left H := { results := [], args := [] }

/-- 'tattlelaw04.ClockGuards': WHATEVER THE INPUT: true; the input reads as it did. -/
def clockGuardsSpec : ChangeSpec := { name := "clockGuards", fn := fun _ => fun
  | [d1, d2, d3] => { results := [.lit (.bool true)], args := [d1, d2, d3] }
  | _ => none }
def clockGuardsRow : OpenClaim := { program := "ytahppppkepcbkaa", sum := "b0cd819dac995cfd089b89fe22abb504d18ad60172029e658832629d48966b84", func := "tattle/tattlelaw04.ClockGuards", spec := "clockGuards", unfollowed := true, recurses := true, apart := false }
def ClockGuardsSaid : Prop := clockGuardsRow.holds Try.pinned (OpenSpec.ofChange clockGuardsSpec)

/-- ITS FALSE NEIGHBOUR: 'it returns false'. Refute it at one input. -/
def clockGuardsWrong : ChangeSpec := { name := "clockGuards", fn := fun _ => fun
  | [d1, d2, d3] => { results := [.lit (.bool false)], args := [d1, d2, d3] }
  | _ => none }
def ClockGuardsWrongFalsely : Prop := clockGuardsRow.holds Try.pinned (OpenSpec.ofChange clockGuardsWrong)

/-- 'tattlelaw04.ClockStays': WHATEVER THE INPUT: true; the input reads as it did. -/
def clockStaysSpec : ChangeSpec := { name := "clockStays", fn := fun _ => fun
  | [d1, d2, d3] => { results := [.lit (.bool true)], args := [d1, d2, d3] }
  | _ => none }
def clockStaysRow : OpenClaim := { program := "ytahppppkepcbkaa", sum := "b0cd819dac995cfd089b89fe22abb504d18ad60172029e658832629d48966b84", func := "tattle/tattlelaw04.ClockStays", spec := "clockStays", unfollowed := true, recurses := true, apart := false }
def ClockStaysSaid : Prop := clockStaysRow.holds Try.pinned (OpenSpec.ofChange clockStaysSpec)

/-- ITS FALSE NEIGHBOUR: 'it returns false'. Refute it at one input. -/
def clockStaysWrong : ChangeSpec := { name := "clockStays", fn := fun _ => fun
  | [d1, d2, d3] => { results := [.lit (.bool false)], args := [d1, d2, d3] }
  | _ => none }
def ClockStaysWrongFalsely : Prop := clockStaysRow.holds Try.pinned (OpenSpec.ofChange clockStaysWrong)

/-- 'tattlelaw04.ClockTerms': WHATEVER THE INPUT: true; the input reads as it did. -/
def clockTermsSpec : ChangeSpec := { name := "clockTerms", fn := fun _ => fun
  | [d] => { results := [.lit (.bool true)], args := [d] }
  | _ => none }
def clockTermsRow : OpenClaim := { program := "ytahppppkepcbkaa", sum := "b0cd819dac995cfd089b89fe22abb504d18ad60172029e658832629d48966b84", func := "tattle/tattlelaw04.ClockTerms", spec := "clockTerms", unfollowed := true, recurses := true, apart := false }
def ClockTermsSaid : Prop := clockTermsRow.holds Try.pinned (OpenSpec.ofChange clockTermsSpec)

/-- ITS FALSE NEIGHBOUR: 'it returns false'. Refute it at one input. -/
def clockTermsWrong : ChangeSpec := { name := "clockTerms", fn := fun _ => fun
  | [d] => { results := [.lit (.bool false)], args := [d] }
  | _ => none }
def ClockTermsWrongFalsely : Prop := clockTermsRow.holds Try.pinned (OpenSpec.ofChange clockTermsWrong)

/-- 'tattlelaw04.ClockCovers': WHATEVER THE INPUT: true; the input reads as it did. -/
def clockCoversSpec : ChangeSpec := { name := "clockCovers", fn := fun _ => fun
  | [d1, d2] => { results := [.lit (.bool true)], args := [d1, d2] }
  | _ => none }
def clockCoversRow : OpenClaim := { program := "ytahppppkepcbkaa", sum := "b0cd819dac995cfd089b89fe22abb504d18ad60172029e658832629d48966b84", func := "tattle/tattlelaw04.ClockCovers", spec := "clockCovers", unfollowed := true, recurses := true, apart := false }
def ClockCoversSaid : Prop := clockCoversRow.holds Try.pinned (OpenSpec.ofChange clockCoversSpec)

/-- ITS FALSE NEIGHBOUR: 'it returns false'. Refute it at one input. -/
def clockCoversWrong : ChangeSpec := { name := "clockCovers", fn := fun _ => fun
  | [d1, d2] => { results := [.lit (.bool false)], args := [d1, d2] }
  | _ => none }
def ClockCoversWrongFalsely : Prop := clockCoversRow.holds Try.pinned (OpenSpec.ofChange clockCoversWrong)

/-- 'tattlelaw04.ClockSplits': WHATEVER THE INPUT: true; the input reads as it did. -/
def clockSplitsSpec : ChangeSpec := { name := "clockSplits", fn := fun _ => fun
  | [d1, d2] => { results := [.lit (.bool true)], args := [d1, d2] }
  | _ => none }
def clockSplitsRow : OpenClaim := { program := "ytahppppkepcbkaa", sum := "b0cd819dac995cfd089b89fe22abb504d18ad60172029e658832629d48966b84", func := "tattle/tattlelaw04.ClockSplits", spec := "clockSplits", unfollowed := true, recurses := true, apart := false }
def ClockSplitsSaid : Prop := clockSplitsRow.holds Try.pinned (OpenSpec.ofChange clockSplitsSpec)

/-- ITS FALSE NEIGHBOUR: 'it returns false'. Refute it at one input. -/
def clockSplitsWrong : ChangeSpec := { name := "clockSplits", fn := fun _ => fun
  | [d1, d2] => { results := [.lit (.bool false)], args := [d1, d2] }
  | _ => none }
def ClockSplitsWrongFalsely : Prop := clockSplitsRow.holds Try.pinned (OpenSpec.ofChange clockSplitsWrong)

/-- 'tattlelaw04.ClockTells': WHATEVER THE INPUT: true; the input reads as it did. -/
def clockTellsSpec : ChangeSpec := { name := "clockTells", fn := fun _ => fun
  | [d] => { results := [.lit (.bool true)], args := [d] }
  | _ => none }
def clockTellsRow : OpenClaim := { program := "ytahppppkepcbkaa", sum := "b0cd819dac995cfd089b89fe22abb504d18ad60172029e658832629d48966b84", func := "tattle/tattlelaw04.ClockTells", spec := "clockTells", unfollowed := true, recurses := true, apart := false }
def ClockTellsSaid : Prop := clockTellsRow.holds Try.pinned (OpenSpec.ofChange clockTellsSpec)

/-- ITS FALSE NEIGHBOUR: 'it returns false'. Refute it at one input. -/
def clockTellsWrong : ChangeSpec := { name := "clockTells", fn := fun _ => fun
  | [d] => { results := [.lit (.bool false)], args := [d] }
  | _ => none }
def ClockTellsWrongFalsely : Prop := clockTellsRow.holds Try.pinned (OpenSpec.ofChange clockTellsWrong)

/-- 'tattlelaw03.TimerOrders': WHATEVER THE INPUT: true; the input reads as it did. -/
def timerOrdersSpec : ChangeSpec := { name := "timerOrders", fn := fun _ => fun
  | [d1, d2, d3] => { results := [.lit (.bool true)], args := [d1, d2, d3] }
  | _ => none }
def timerOrdersRow : OpenClaim := { program := "ytahppppkepcbkaa", sum := "b0cd819dac995cfd089b89fe22abb504d18ad60172029e658832629d48966b84", func := "tattle/tattlelaw03.TimerOrders", spec := "timerOrders", unfollowed := true, recurses := true, apart := false }
def TimerOrdersSaid : Prop := timerOrdersRow.holds Try.pinned (OpenSpec.ofChange timerOrdersSpec)

/-- ITS FALSE NEIGHBOUR: 'it returns false'. Refute it at one input. -/
def timerOrdersWrong : ChangeSpec := { name := "timerOrders", fn := fun _ => fun
  | [d1, d2, d3] => { results := [.lit (.bool false)], args := [d1, d2, d3] }
  | _ => none }
def TimerOrdersWrongFalsely : Prop := timerOrdersRow.holds Try.pinned (OpenSpec.ofChange timerOrdersWrong)

/-- 'tattlelaw03.TimerSorts': WHATEVER THE INPUT: true; the input reads as it did. -/
def timerSortsSpec : ChangeSpec := { name := "timerSorts", fn := fun _ => fun
  | [d1, d2] => { results := [.lit (.bool true)], args := [d1, d2] }
  | _ => none }
def timerSortsRow : OpenClaim := { program := "ytahppppkepcbkaa", sum := "b0cd819dac995cfd089b89fe22abb504d18ad60172029e658832629d48966b84", func := "tattle/tattlelaw03.TimerSorts", spec := "timerSorts", unfollowed := true, recurses := true, apart := false }
def TimerSortsSaid : Prop := timerSortsRow.holds Try.pinned (OpenSpec.ofChange timerSortsSpec)

/-- ITS FALSE NEIGHBOUR: 'it returns false'. Refute it at one input. -/
def timerSortsWrong : ChangeSpec := { name := "timerSorts", fn := fun _ => fun
  | [d1, d2] => { results := [.lit (.bool false)], args := [d1, d2] }
  | _ => none }
def TimerSortsWrongFalsely : Prop := timerSortsRow.holds Try.pinned (OpenSpec.ofChange timerSortsWrong)

/-- 'tattlelaw03.TimerParts': WHATEVER THE INPUT: true; the input reads as it did. -/
def timerPartsSpec : ChangeSpec := { name := "timerParts", fn := fun _ => fun
  | [d1, d2] => { results := [.lit (.bool true)], args := [d1, d2] }
  | _ => none }
def timerPartsRow : OpenClaim := { program := "ytahppppkepcbkaa", sum := "b0cd819dac995cfd089b89fe22abb504d18ad60172029e658832629d48966b84", func := "tattle/tattlelaw03.TimerParts", spec := "timerParts", unfollowed := true, recurses := true, apart := false }
def TimerPartsSaid : Prop := timerPartsRow.holds Try.pinned (OpenSpec.ofChange timerPartsSpec)

/-- ITS FALSE NEIGHBOUR: 'it returns false'. Refute it at one input. -/
def timerPartsWrong : ChangeSpec := { name := "timerParts", fn := fun _ => fun
  | [d1, d2] => { results := [.lit (.bool false)], args := [d1, d2] }
  | _ => none }
def TimerPartsWrongFalsely : Prop := timerPartsRow.holds Try.pinned (OpenSpec.ofChange timerPartsWrong)

/-- 'tattlelaw03.TimerTakes': WHATEVER THE INPUT: true; the input reads as it did. -/
def timerTakesSpec : ChangeSpec := { name := "timerTakes", fn := fun _ => fun
  | [d] => { results := [.lit (.bool true)], args := [d] }
  | _ => none }
def timerTakesRow : OpenClaim := { program := "ytahppppkepcbkaa", sum := "b0cd819dac995cfd089b89fe22abb504d18ad60172029e658832629d48966b84", func := "tattle/tattlelaw03.TimerTakes", spec := "timerTakes", unfollowed := true, recurses := true, apart := false }
def TimerTakesSaid : Prop := timerTakesRow.holds Try.pinned (OpenSpec.ofChange timerTakesSpec)

/-- ITS FALSE NEIGHBOUR: 'it returns false'. Refute it at one input. -/
def timerTakesWrong : ChangeSpec := { name := "timerTakes", fn := fun _ => fun
  | [d] => { results := [.lit (.bool false)], args := [d] }
  | _ => none }
def TimerTakesWrongFalsely : Prop := timerTakesRow.holds Try.pinned (OpenSpec.ofChange timerTakesWrong)

/-- 'tattlelaw03.TimerDrops': WHATEVER THE INPUT: true; the input reads as it did. -/
def timerDropsSpec : ChangeSpec := { name := "timerDrops", fn := fun _ => fun
  | [d1, d2] => { results := [.lit (.bool true)], args := [d1, d2] }
  | _ => none }
def timerDropsRow : OpenClaim := { program := "ytahppppkepcbkaa", sum := "b0cd819dac995cfd089b89fe22abb504d18ad60172029e658832629d48966b84", func := "tattle/tattlelaw03.TimerDrops", spec := "timerDrops", unfollowed := true, recurses := true, apart := false }
def TimerDropsSaid : Prop := timerDropsRow.holds Try.pinned (OpenSpec.ofChange timerDropsSpec)

/-- ITS FALSE NEIGHBOUR: 'it returns false'. Refute it at one input. -/
def timerDropsWrong : ChangeSpec := { name := "timerDrops", fn := fun _ => fun
  | [d1, d2] => { results := [.lit (.bool false)], args := [d1, d2] }
  | _ => none }
def TimerDropsWrongFalsely : Prop := timerDropsRow.holds Try.pinned (OpenSpec.ofChange timerDropsWrong)

/- THE SECOND FORM. 'bulk': how many values and letters a reading holds, each counted each time it is reached (what is shared counts as often as it is met; a slice's spare places count too). A statement '..UptoSaid' is the law's where the arguments, and the package variables that the reading takes, are together of bulk at most 1048576: NARROWER than '..Said'. Prove '..Said' where nothing that the law and all that it calls make is longer than what came in: it says more and counts as full. Else prove '..UptoSaid'. A law counts once. -/
mutual
def uptoBulk {H : Type} : DataW H → Nat
  | .lit (.string bytes) => bytes.length + 1
  | .lit _ => 1
  | .nil => 1
  | .ptr d => uptoBulk d + 1
  | .slice elems spare => uptoBulkAll elems + uptoBulkAll spare + 1
  | .agg parts => uptoBulkAll parts + 1
  | .iface _ d => uptoBulk d + 1
  | .map entries => uptoBulkEntries entries + 1
  | .held _ => 1
def uptoBulkAll {H : Type} : List (DataW H) → Nat
  | [] => 0
  | d :: r => uptoBulk d + uptoBulkAll r
def uptoBulkEntries {H : Type} : List (Lit × DataW H) → Nat
  | [] => 0
  | x :: r => uptoBulkEntry x + uptoBulkEntries r
def uptoBulkEntry {H : Type} : Lit × DataW H → Nat
  | (.string bytes, d) => bytes.length + uptoBulk d + 1
  | (_, d) => uptoBulk d + 1
 end
def uptoSmall : (H : Type) → List (DataW H) → Bool := fun _ ds => decide (uptoBulkAll ds ≤ 1048576)
def OpenSpec.upto (s : _root_.Go.ChangeSpec) : _root_.Go.OpenSpec := { _root_.Go.OpenSpec.ofChange s with cond := some uptoSmall }

/-- 'tattlelaw04.ClockGuards', WHERE WHAT IT READS IS OF BULK AT MOST 1048576: true; the input reads as it did. -/
def clockGuardsUptoRow : OpenClaim := { program := "ytahppppkepcbkaa", sum := "b0cd819dac995cfd089b89fe22abb504d18ad60172029e658832629d48966b84", func := "tattle/tattlelaw04.ClockGuards", spec := "clockGuards", unfollowed := true, recurses := true, apart := false, narrowed := true }
def ClockGuardsUptoSaid : Prop := clockGuardsUptoRow.holds Try.pinned (OpenSpec.upto clockGuardsSpec)

/-- 'tattlelaw04.ClockStays', WHERE WHAT IT READS IS OF BULK AT MOST 1048576: true; the input reads as it did. -/
def clockStaysUptoRow : OpenClaim := { program := "ytahppppkepcbkaa", sum := "b0cd819dac995cfd089b89fe22abb504d18ad60172029e658832629d48966b84", func := "tattle/tattlelaw04.ClockStays", spec := "clockStays", unfollowed := true, recurses := true, apart := false, narrowed := true }
def ClockStaysUptoSaid : Prop := clockStaysUptoRow.holds Try.pinned (OpenSpec.upto clockStaysSpec)

/-- 'tattlelaw04.ClockTerms', WHERE WHAT IT READS IS OF BULK AT MOST 1048576: true; the input reads as it did. -/
def clockTermsUptoRow : OpenClaim := { program := "ytahppppkepcbkaa", sum := "b0cd819dac995cfd089b89fe22abb504d18ad60172029e658832629d48966b84", func := "tattle/tattlelaw04.ClockTerms", spec := "clockTerms", unfollowed := true, recurses := true, apart := false, narrowed := true }
def ClockTermsUptoSaid : Prop := clockTermsUptoRow.holds Try.pinned (OpenSpec.upto clockTermsSpec)

/-- 'tattlelaw04.ClockCovers', WHERE WHAT IT READS IS OF BULK AT MOST 1048576: true; the input reads as it did. -/
def clockCoversUptoRow : OpenClaim := { program := "ytahppppkepcbkaa", sum := "b0cd819dac995cfd089b89fe22abb504d18ad60172029e658832629d48966b84", func := "tattle/tattlelaw04.ClockCovers", spec := "clockCovers", unfollowed := true, recurses := true, apart := false, narrowed := true }
def ClockCoversUptoSaid : Prop := clockCoversUptoRow.holds Try.pinned (OpenSpec.upto clockCoversSpec)

/-- 'tattlelaw04.ClockSplits', WHERE WHAT IT READS IS OF BULK AT MOST 1048576: true; the input reads as it did. -/
def clockSplitsUptoRow : OpenClaim := { program := "ytahppppkepcbkaa", sum := "b0cd819dac995cfd089b89fe22abb504d18ad60172029e658832629d48966b84", func := "tattle/tattlelaw04.ClockSplits", spec := "clockSplits", unfollowed := true, recurses := true, apart := false, narrowed := true }
def ClockSplitsUptoSaid : Prop := clockSplitsUptoRow.holds Try.pinned (OpenSpec.upto clockSplitsSpec)

/-- 'tattlelaw04.ClockTells', WHERE WHAT IT READS IS OF BULK AT MOST 1048576: true; the input reads as it did. -/
def clockTellsUptoRow : OpenClaim := { program := "ytahppppkepcbkaa", sum := "b0cd819dac995cfd089b89fe22abb504d18ad60172029e658832629d48966b84", func := "tattle/tattlelaw04.ClockTells", spec := "clockTells", unfollowed := true, recurses := true, apart := false, narrowed := true }
def ClockTellsUptoSaid : Prop := clockTellsUptoRow.holds Try.pinned (OpenSpec.upto clockTellsSpec)

/-- 'tattlelaw03.TimerOrders', WHERE WHAT IT READS IS OF BULK AT MOST 1048576: true; the input reads as it did. -/
def timerOrdersUptoRow : OpenClaim := { program := "ytahppppkepcbkaa", sum := "b0cd819dac995cfd089b89fe22abb504d18ad60172029e658832629d48966b84", func := "tattle/tattlelaw03.TimerOrders", spec := "timerOrders", unfollowed := true, recurses := true, apart := false, narrowed := true }
def TimerOrdersUptoSaid : Prop := timerOrdersUptoRow.holds Try.pinned (OpenSpec.upto timerOrdersSpec)

/-- 'tattlelaw03.TimerSorts', WHERE WHAT IT READS IS OF BULK AT MOST 1048576: true; the input reads as it did. -/
def timerSortsUptoRow : OpenClaim := { program := "ytahppppkepcbkaa", sum := "b0cd819dac995cfd089b89fe22abb504d18ad60172029e658832629d48966b84", func := "tattle/tattlelaw03.TimerSorts", spec := "timerSorts", unfollowed := true, recurses := true, apart := false, narrowed := true }
def TimerSortsUptoSaid : Prop := timerSortsUptoRow.holds Try.pinned (OpenSpec.upto timerSortsSpec)

/-- 'tattlelaw03.TimerParts', WHERE WHAT IT READS IS OF BULK AT MOST 1048576: true; the input reads as it did. -/
def timerPartsUptoRow : OpenClaim := { program := "ytahppppkepcbkaa", sum := "b0cd819dac995cfd089b89fe22abb504d18ad60172029e658832629d48966b84", func := "tattle/tattlelaw03.TimerParts", spec := "timerParts", unfollowed := true, recurses := true, apart := false, narrowed := true }
def TimerPartsUptoSaid : Prop := timerPartsUptoRow.holds Try.pinned (OpenSpec.upto timerPartsSpec)

/-- 'tattlelaw03.TimerTakes', WHERE WHAT IT READS IS OF BULK AT MOST 1048576: true; the input reads as it did. -/
def timerTakesUptoRow : OpenClaim := { program := "ytahppppkepcbkaa", sum := "b0cd819dac995cfd089b89fe22abb504d18ad60172029e658832629d48966b84", func := "tattle/tattlelaw03.TimerTakes", spec := "timerTakes", unfollowed := true, recurses := true, apart := false, narrowed := true }
def TimerTakesUptoSaid : Prop := timerTakesUptoRow.holds Try.pinned (OpenSpec.upto timerTakesSpec)

/-- 'tattlelaw03.TimerDrops', WHERE WHAT IT READS IS OF BULK AT MOST 1048576: true; the input reads as it did. -/
def timerDropsUptoRow : OpenClaim := { program := "ytahppppkepcbkaa", sum := "b0cd819dac995cfd089b89fe22abb504d18ad60172029e658832629d48966b84", func := "tattle/tattlelaw03.TimerDrops", spec := "timerDrops", unfollowed := true, recurses := true, apart := false, narrowed := true }
def TimerDropsUptoSaid : Prop := timerDropsUptoRow.holds Try.pinned (OpenSpec.upto timerDropsSpec)

end Rows
end Go.Proofs.Ytahppppkepcbkaa
