/-
  No cell of these rows narrows 'for every input' (looked for: loops, veiled, ifaces, maps, wideKeys, modest, calm, conditions, laid).
  DERIVED. THE GIVEN ROWS OF THIS SEAT. 12 by the template 'for every input the law returns true; each argument reads behind the call as it read before'; 0 by the template 'total and deterministic' (their statements: YtgfblogneggpmaaTotals.lean).
  GIVEN WITH THE SEED: the statements are not yours to turn. If you find one false, say at which input.
  Laid BY PROGRAM, IN A SANDBOX (cutbox-rows.mjs): the forced cells as the released guide's own fill.sh prints them over the translation 8c0de55ea117a7f6… (all of the seat's roots in one cut). By AI agents, Wed Nov 11 2026. No macro, syntax, notation, axiom, sorry.
-/
import Derived.Test.YtgfblogneggpmaaChecked
import GoSem.Claim
import GoSem.ClaimJoined
import GoSem.ClaimMapViews
import Derived.JoinedTies
import Derived.KernelRfl
namespace Go.Proofs.Ytgfblogneggpmaa
/- THE CELL 'sum', in the pinned program and in every row, IS THE sha256 OF THE DUMP (.gsa) THAT YtgfblogneggpmaaProg.lean LOADS. Nothing in Lean hashes anything: it is a label: what it is worth is what the hold of that sum in a sandbox is worth. -/
noncomputable def Try.pinned : Pinned := { name := "ytgfblogneggpmaa", sum := "8c0de55ea117a7f6378475081c9db59abc23fee9b5e6232646cd546392a4a7bb", checked := Try.checked }
namespace Rows
def none {H : Type} : Left H := { results := [], args := [] }

/-- 'tattlelaw17.VoteOnce': WHATEVER THE INPUT: true; the input reads as it did. -/
def voteOnceSpec : ChangeSpec := { name := "voteOnce", fn := fun _ => fun
  | [d1, d2] => { results := [.lit (.bool true)], args := [d1, d2] }
  | _ => none }
def voteOnceRow : OpenClaim := { program := "ytgfblogneggpmaa", sum := "8c0de55ea117a7f6378475081c9db59abc23fee9b5e6232646cd546392a4a7bb", func := "tattle/tattlelaw17.VoteOnce", spec := "voteOnce", unfollowed := true, recurses := true, apart := false }
def VoteOnceSaid : Prop := voteOnceRow.holds Try.pinned (OpenSpec.ofChange voteOnceSpec)

/-- ITS FALSE NEIGHBOUR: 'it returns false'. Refute it at one input. -/
def voteOnceWrong : ChangeSpec := { name := "voteOnce", fn := fun _ => fun
  | [d1, d2] => { results := [.lit (.bool false)], args := [d1, d2] }
  | _ => none }
def VoteOnceWrongFalsely : Prop := voteOnceRow.holds Try.pinned (OpenSpec.ofChange voteOnceWrong)

/-- 'tattlelaw17.VoteEpochs': WHATEVER THE INPUT: true; the input reads as it did. -/
def voteEpochsSpec : ChangeSpec := { name := "voteEpochs", fn := fun _ => fun
  | [d1, d2] => { results := [.lit (.bool true)], args := [d1, d2] }
  | _ => none }
def voteEpochsRow : OpenClaim := { program := "ytgfblogneggpmaa", sum := "8c0de55ea117a7f6378475081c9db59abc23fee9b5e6232646cd546392a4a7bb", func := "tattle/tattlelaw17.VoteEpochs", spec := "voteEpochs", unfollowed := true, recurses := true, apart := false }
def VoteEpochsSaid : Prop := voteEpochsRow.holds Try.pinned (OpenSpec.ofChange voteEpochsSpec)

/-- ITS FALSE NEIGHBOUR: 'it returns false'. Refute it at one input. -/
def voteEpochsWrong : ChangeSpec := { name := "voteEpochs", fn := fun _ => fun
  | [d1, d2] => { results := [.lit (.bool false)], args := [d1, d2] }
  | _ => none }
def VoteEpochsWrongFalsely : Prop := voteEpochsRow.holds Try.pinned (OpenSpec.ofChange voteEpochsWrong)

/-- 'tattlelaw17.VoteWaits': WHATEVER THE INPUT: true; the input reads as it did. -/
def voteWaitsSpec : ChangeSpec := { name := "voteWaits", fn := fun _ => fun
  | [d1, d2] => { results := [.lit (.bool true)], args := [d1, d2] }
  | _ => none }
def voteWaitsRow : OpenClaim := { program := "ytgfblogneggpmaa", sum := "8c0de55ea117a7f6378475081c9db59abc23fee9b5e6232646cd546392a4a7bb", func := "tattle/tattlelaw17.VoteWaits", spec := "voteWaits", unfollowed := true, recurses := true, apart := false }
def VoteWaitsSaid : Prop := voteWaitsRow.holds Try.pinned (OpenSpec.ofChange voteWaitsSpec)

/-- ITS FALSE NEIGHBOUR: 'it returns false'. Refute it at one input. -/
def voteWaitsWrong : ChangeSpec := { name := "voteWaits", fn := fun _ => fun
  | [d1, d2] => { results := [.lit (.bool false)], args := [d1, d2] }
  | _ => none }
def VoteWaitsWrongFalsely : Prop := voteWaitsRow.holds Try.pinned (OpenSpec.ofChange voteWaitsWrong)

/-- 'tattlelaw17.VoteGives': WHATEVER THE INPUT: true; the input reads as it did. -/
def voteGivesSpec : ChangeSpec := { name := "voteGives", fn := fun _ => fun
  | [d] => { results := [.lit (.bool true)], args := [d] }
  | _ => none }
def voteGivesRow : OpenClaim := { program := "ytgfblogneggpmaa", sum := "8c0de55ea117a7f6378475081c9db59abc23fee9b5e6232646cd546392a4a7bb", func := "tattle/tattlelaw17.VoteGives", spec := "voteGives", unfollowed := true, recurses := true, apart := false }
def VoteGivesSaid : Prop := voteGivesRow.holds Try.pinned (OpenSpec.ofChange voteGivesSpec)

/-- ITS FALSE NEIGHBOUR: 'it returns false'. Refute it at one input. -/
def voteGivesWrong : ChangeSpec := { name := "voteGives", fn := fun _ => fun
  | [d] => { results := [.lit (.bool false)], args := [d] }
  | _ => none }
def VoteGivesWrongFalsely : Prop := voteGivesRow.holds Try.pinned (OpenSpec.ofChange voteGivesWrong)

/-- 'tattlelaw17.VoteSame': WHATEVER THE INPUT: true; the input reads as it did. -/
def voteSameSpec : ChangeSpec := { name := "voteSame", fn := fun _ => fun
  | [d1, d2] => { results := [.lit (.bool true)], args := [d1, d2] }
  | _ => none }
def voteSameRow : OpenClaim := { program := "ytgfblogneggpmaa", sum := "8c0de55ea117a7f6378475081c9db59abc23fee9b5e6232646cd546392a4a7bb", func := "tattle/tattlelaw17.VoteSame", spec := "voteSame", unfollowed := true, recurses := true, apart := false }
def VoteSameSaid : Prop := voteSameRow.holds Try.pinned (OpenSpec.ofChange voteSameSpec)

/-- ITS FALSE NEIGHBOUR: 'it returns false'. Refute it at one input. -/
def voteSameWrong : ChangeSpec := { name := "voteSame", fn := fun _ => fun
  | [d1, d2] => { results := [.lit (.bool false)], args := [d1, d2] }
  | _ => none }
def VoteSameWrongFalsely : Prop := voteSameRow.holds Try.pinned (OpenSpec.ofChange voteSameWrong)

/-- 'tattlelaw17.VoteHolds': WHATEVER THE INPUT: true; the input reads as it did. -/
def voteHoldsSpec : ChangeSpec := { name := "voteHolds", fn := fun _ => fun
  | [d1, d2] => { results := [.lit (.bool true)], args := [d1, d2] }
  | _ => none }
def voteHoldsRow : OpenClaim := { program := "ytgfblogneggpmaa", sum := "8c0de55ea117a7f6378475081c9db59abc23fee9b5e6232646cd546392a4a7bb", func := "tattle/tattlelaw17.VoteHolds", spec := "voteHolds", unfollowed := true, recurses := true, apart := false }
def VoteHoldsSaid : Prop := voteHoldsRow.holds Try.pinned (OpenSpec.ofChange voteHoldsSpec)

/-- ITS FALSE NEIGHBOUR: 'it returns false'. Refute it at one input. -/
def voteHoldsWrong : ChangeSpec := { name := "voteHolds", fn := fun _ => fun
  | [d1, d2] => { results := [.lit (.bool false)], args := [d1, d2] }
  | _ => none }
def VoteHoldsWrongFalsely : Prop := voteHoldsRow.holds Try.pinned (OpenSpec.ofChange voteHoldsWrong)

/-- 'tattlelaw18.LeadMore': WHATEVER THE INPUT: true; the input reads as it did. -/
def leadMoreSpec : ChangeSpec := { name := "leadMore", fn := fun _ => fun
  | [d1, d2] => { results := [.lit (.bool true)], args := [d1, d2] }
  | _ => none }
def leadMoreRow : OpenClaim := { program := "ytgfblogneggpmaa", sum := "8c0de55ea117a7f6378475081c9db59abc23fee9b5e6232646cd546392a4a7bb", func := "tattle/tattlelaw18.LeadMore", spec := "leadMore", unfollowed := true, recurses := true, apart := false }
def LeadMoreSaid : Prop := leadMoreRow.holds Try.pinned (OpenSpec.ofChange leadMoreSpec)

/-- ITS FALSE NEIGHBOUR: 'it returns false'. Refute it at one input. -/
def leadMoreWrong : ChangeSpec := { name := "leadMore", fn := fun _ => fun
  | [d1, d2] => { results := [.lit (.bool false)], args := [d1, d2] }
  | _ => none }
def LeadMoreWrongFalsely : Prop := leadMoreRow.holds Try.pinned (OpenSpec.ofChange leadMoreWrong)

/-- 'tattlelaw18.LeadMet': WHATEVER THE INPUT: true; the input reads as it did. -/
def leadMetSpec : ChangeSpec := { name := "leadMet", fn := fun _ => fun
  | [d1, d2] => { results := [.lit (.bool true)], args := [d1, d2] }
  | _ => none }
def leadMetRow : OpenClaim := { program := "ytgfblogneggpmaa", sum := "8c0de55ea117a7f6378475081c9db59abc23fee9b5e6232646cd546392a4a7bb", func := "tattle/tattlelaw18.LeadMet", spec := "leadMet", unfollowed := true, recurses := true, apart := false }
def LeadMetSaid : Prop := leadMetRow.holds Try.pinned (OpenSpec.ofChange leadMetSpec)

/-- ITS FALSE NEIGHBOUR: 'it returns false'. Refute it at one input. -/
def leadMetWrong : ChangeSpec := { name := "leadMet", fn := fun _ => fun
  | [d1, d2] => { results := [.lit (.bool false)], args := [d1, d2] }
  | _ => none }
def LeadMetWrongFalsely : Prop := leadMetRow.holds Try.pinned (OpenSpec.ofChange leadMetWrong)

/-- 'tattlelaw18.LeadStarts': WHATEVER THE INPUT: true; the input reads as it did. -/
def leadStartsSpec : ChangeSpec := { name := "leadStarts", fn := fun _ => fun
  | [d1, d2] => { results := [.lit (.bool true)], args := [d1, d2] }
  | _ => none }
def leadStartsRow : OpenClaim := { program := "ytgfblogneggpmaa", sum := "8c0de55ea117a7f6378475081c9db59abc23fee9b5e6232646cd546392a4a7bb", func := "tattle/tattlelaw18.LeadStarts", spec := "leadStarts", unfollowed := true, recurses := true, apart := false }
def LeadStartsSaid : Prop := leadStartsRow.holds Try.pinned (OpenSpec.ofChange leadStartsSpec)

/-- ITS FALSE NEIGHBOUR: 'it returns false'. Refute it at one input. -/
def leadStartsWrong : ChangeSpec := { name := "leadStarts", fn := fun _ => fun
  | [d1, d2] => { results := [.lit (.bool false)], args := [d1, d2] }
  | _ => none }
def LeadStartsWrongFalsely : Prop := leadStartsRow.holds Try.pinned (OpenSpec.ofChange leadStartsWrong)

/-- 'tattlelaw18.LeadDue': WHATEVER THE INPUT: true; the input reads as it did. -/
def leadDueSpec : ChangeSpec := { name := "leadDue", fn := fun _ => fun
  | [d1, d2] => { results := [.lit (.bool true)], args := [d1, d2] }
  | _ => none }
def leadDueRow : OpenClaim := { program := "ytgfblogneggpmaa", sum := "8c0de55ea117a7f6378475081c9db59abc23fee9b5e6232646cd546392a4a7bb", func := "tattle/tattlelaw18.LeadDue", spec := "leadDue", unfollowed := true, recurses := true, apart := false }
def LeadDueSaid : Prop := leadDueRow.holds Try.pinned (OpenSpec.ofChange leadDueSpec)

/-- ITS FALSE NEIGHBOUR: 'it returns false'. Refute it at one input. -/
def leadDueWrong : ChangeSpec := { name := "leadDue", fn := fun _ => fun
  | [d1, d2] => { results := [.lit (.bool false)], args := [d1, d2] }
  | _ => none }
def LeadDueWrongFalsely : Prop := leadDueRow.holds Try.pinned (OpenSpec.ofChange leadDueWrong)

/-- 'tattlelaw18.LeadOnce': WHATEVER THE INPUT: true; the input reads as it did. -/
def leadOnceSpec : ChangeSpec := { name := "leadOnce", fn := fun _ => fun
  | [d1, d2, d3] => { results := [.lit (.bool true)], args := [d1, d2, d3] }
  | _ => none }
def leadOnceRow : OpenClaim := { program := "ytgfblogneggpmaa", sum := "8c0de55ea117a7f6378475081c9db59abc23fee9b5e6232646cd546392a4a7bb", func := "tattle/tattlelaw18.LeadOnce", spec := "leadOnce", unfollowed := true, recurses := true, apart := false }
def LeadOnceSaid : Prop := leadOnceRow.holds Try.pinned (OpenSpec.ofChange leadOnceSpec)

/-- ITS FALSE NEIGHBOUR: 'it returns false'. Refute it at one input. -/
def leadOnceWrong : ChangeSpec := { name := "leadOnce", fn := fun _ => fun
  | [d1, d2, d3] => { results := [.lit (.bool false)], args := [d1, d2, d3] }
  | _ => none }
def LeadOnceWrongFalsely : Prop := leadOnceRow.holds Try.pinned (OpenSpec.ofChange leadOnceWrong)

/-- 'tattlelaw18.LeadOne': WHATEVER THE INPUT: true; the input reads as it did. -/
def leadOneSpec : ChangeSpec := { name := "leadOne", fn := fun _ => fun
  | [d1, d2, d3] => { results := [.lit (.bool true)], args := [d1, d2, d3] }
  | _ => none }
def leadOneRow : OpenClaim := { program := "ytgfblogneggpmaa", sum := "8c0de55ea117a7f6378475081c9db59abc23fee9b5e6232646cd546392a4a7bb", func := "tattle/tattlelaw18.LeadOne", spec := "leadOne", unfollowed := true, recurses := true, apart := false }
def LeadOneSaid : Prop := leadOneRow.holds Try.pinned (OpenSpec.ofChange leadOneSpec)

/-- ITS FALSE NEIGHBOUR: 'it returns false'. Refute it at one input. -/
def leadOneWrong : ChangeSpec := { name := "leadOne", fn := fun _ => fun
  | [d1, d2, d3] => { results := [.lit (.bool false)], args := [d1, d2, d3] }
  | _ => none }
def LeadOneWrongFalsely : Prop := leadOneRow.holds Try.pinned (OpenSpec.ofChange leadOneWrong)

/- THE SECOND FORM. 'bulk': how many values and letters a reading holds, each counted each time it is reached (what is shared counts as often as it is met; a slice's spare places count too). A statement '..UptoSaid' is the law's where the arguments, and the package variables that the reading takes, are together of bulk at most 1048576: NARROWER than '..Said'. Prove '..Said' where nothing that the law and all that it calls make is longer than what came in: it says more and counts as full. Else prove '..UptoSaid'. A law counts once. -/
mutual
def uptoBulk {H : Type} : DataW H → Nat
  | .lit (.string bytes) => bytes.length + 1
  | .lit _ => 1
  | .nil => 1
  | .ptr d => uptoBulk d + 1
  | .slice elems spare => uptoBulkAll elems + uptoBulkAll spare + 1
  | .agg parts => uptoBulkAll parts + 1
  | .iface _ d => uptoBulk d + 1
  | .map entries => uptoBulkEntries entries + 1
  | .held _ => 1
def uptoBulkAll {H : Type} : List (DataW H) → Nat
  | [] => 0
  | d :: r => uptoBulk d + uptoBulkAll r
def uptoBulkEntries {H : Type} : List (Lit × DataW H) → Nat
  | [] => 0
  | x :: r => uptoBulkEntry x + uptoBulkEntries r
def uptoBulkEntry {H : Type} : Lit × DataW H → Nat
  | (.string bytes, d) => bytes.length + uptoBulk d + 1
  | (_, d) => uptoBulk d + 1
 end
def uptoSmall : (H : Type) → List (DataW H) → Bool := fun _ ds => decide (uptoBulkAll ds ≤ 1048576)
def OpenSpec.upto (s : _root_.Go.ChangeSpec) : _root_.Go.OpenSpec := { _root_.Go.OpenSpec.ofChange s with cond := some uptoSmall }

/-- 'tattlelaw17.VoteOnce', WHERE WHAT IT READS IS OF BULK AT MOST 1048576: true; the input reads as it did. -/
def voteOnceUptoRow : OpenClaim := { program := "ytgfblogneggpmaa", sum := "8c0de55ea117a7f6378475081c9db59abc23fee9b5e6232646cd546392a4a7bb", func := "tattle/tattlelaw17.VoteOnce", spec := "voteOnce", unfollowed := true, recurses := true, apart := false, narrowed := true }
def VoteOnceUptoSaid : Prop := voteOnceUptoRow.holds Try.pinned (OpenSpec.upto voteOnceSpec)

/-- 'tattlelaw17.VoteEpochs', WHERE WHAT IT READS IS OF BULK AT MOST 1048576: true; the input reads as it did. -/
def voteEpochsUptoRow : OpenClaim := { program := "ytgfblogneggpmaa", sum := "8c0de55ea117a7f6378475081c9db59abc23fee9b5e6232646cd546392a4a7bb", func := "tattle/tattlelaw17.VoteEpochs", spec := "voteEpochs", unfollowed := true, recurses := true, apart := false, narrowed := true }
def VoteEpochsUptoSaid : Prop := voteEpochsUptoRow.holds Try.pinned (OpenSpec.upto voteEpochsSpec)

/-- 'tattlelaw17.VoteWaits', WHERE WHAT IT READS IS OF BULK AT MOST 1048576: true; the input reads as it did. -/
def voteWaitsUptoRow : OpenClaim := { program := "ytgfblogneggpmaa", sum := "8c0de55ea117a7f6378475081c9db59abc23fee9b5e6232646cd546392a4a7bb", func := "tattle/tattlelaw17.VoteWaits", spec := "voteWaits", unfollowed := true, recurses := true, apart := false, narrowed := true }
def VoteWaitsUptoSaid : Prop := voteWaitsUptoRow.holds Try.pinned (OpenSpec.upto voteWaitsSpec)

/-- 'tattlelaw17.VoteGives', WHERE WHAT IT READS IS OF BULK AT MOST 1048576: true; the input reads as it did. -/
def voteGivesUptoRow : OpenClaim := { program := "ytgfblogneggpmaa", sum := "8c0de55ea117a7f6378475081c9db59abc23fee9b5e6232646cd546392a4a7bb", func := "tattle/tattlelaw17.VoteGives", spec := "voteGives", unfollowed := true, recurses := true, apart := false, narrowed := true }
def VoteGivesUptoSaid : Prop := voteGivesUptoRow.holds Try.pinned (OpenSpec.upto voteGivesSpec)

/-- 'tattlelaw17.VoteSame', WHERE WHAT IT READS IS OF BULK AT MOST 1048576: true; the input reads as it did. -/
def voteSameUptoRow : OpenClaim := { program := "ytgfblogneggpmaa", sum := "8c0de55ea117a7f6378475081c9db59abc23fee9b5e6232646cd546392a4a7bb", func := "tattle/tattlelaw17.VoteSame", spec := "voteSame", unfollowed := true, recurses := true, apart := false, narrowed := true }
def VoteSameUptoSaid : Prop := voteSameUptoRow.holds Try.pinned (OpenSpec.upto voteSameSpec)

/-- 'tattlelaw17.VoteHolds', WHERE WHAT IT READS IS OF BULK AT MOST 1048576: true; the input reads as it did. -/
def voteHoldsUptoRow : OpenClaim := { program := "ytgfblogneggpmaa", sum := "8c0de55ea117a7f6378475081c9db59abc23fee9b5e6232646cd546392a4a7bb", func := "tattle/tattlelaw17.VoteHolds", spec := "voteHolds", unfollowed := true, recurses := true, apart := false, narrowed := true }
def VoteHoldsUptoSaid : Prop := voteHoldsUptoRow.holds Try.pinned (OpenSpec.upto voteHoldsSpec)

/-- 'tattlelaw18.LeadMore', WHERE WHAT IT READS IS OF BULK AT MOST 1048576: true; the input reads as it did. -/
def leadMoreUptoRow : OpenClaim := { program := "ytgfblogneggpmaa", sum := "8c0de55ea117a7f6378475081c9db59abc23fee9b5e6232646cd546392a4a7bb", func := "tattle/tattlelaw18.LeadMore", spec := "leadMore", unfollowed := true, recurses := true, apart := false, narrowed := true }
def LeadMoreUptoSaid : Prop := leadMoreUptoRow.holds Try.pinned (OpenSpec.upto leadMoreSpec)

/-- 'tattlelaw18.LeadMet', WHERE WHAT IT READS IS OF BULK AT MOST 1048576: true; the input reads as it did. -/
def leadMetUptoRow : OpenClaim := { program := "ytgfblogneggpmaa", sum := "8c0de55ea117a7f6378475081c9db59abc23fee9b5e6232646cd546392a4a7bb", func := "tattle/tattlelaw18.LeadMet", spec := "leadMet", unfollowed := true, recurses := true, apart := false, narrowed := true }
def LeadMetUptoSaid : Prop := leadMetUptoRow.holds Try.pinned (OpenSpec.upto leadMetSpec)

/-- 'tattlelaw18.LeadStarts', WHERE WHAT IT READS IS OF BULK AT MOST 1048576: true; the input reads as it did. -/
def leadStartsUptoRow : OpenClaim := { program := "ytgfblogneggpmaa", sum := "8c0de55ea117a7f6378475081c9db59abc23fee9b5e6232646cd546392a4a7bb", func := "tattle/tattlelaw18.LeadStarts", spec := "leadStarts", unfollowed := true, recurses := true, apart := false, narrowed := true }
def LeadStartsUptoSaid : Prop := leadStartsUptoRow.holds Try.pinned (OpenSpec.upto leadStartsSpec)

/-- 'tattlelaw18.LeadDue', WHERE WHAT IT READS IS OF BULK AT MOST 1048576: true; the input reads as it did. -/
def leadDueUptoRow : OpenClaim := { program := "ytgfblogneggpmaa", sum := "8c0de55ea117a7f6378475081c9db59abc23fee9b5e6232646cd546392a4a7bb", func := "tattle/tattlelaw18.LeadDue", spec := "leadDue", unfollowed := true, recurses := true, apart := false, narrowed := true }
def LeadDueUptoSaid : Prop := leadDueUptoRow.holds Try.pinned (OpenSpec.upto leadDueSpec)

/-- 'tattlelaw18.LeadOnce', WHERE WHAT IT READS IS OF BULK AT MOST 1048576: true; the input reads as it did. -/
def leadOnceUptoRow : OpenClaim := { program := "ytgfblogneggpmaa", sum := "8c0de55ea117a7f6378475081c9db59abc23fee9b5e6232646cd546392a4a7bb", func := "tattle/tattlelaw18.LeadOnce", spec := "leadOnce", unfollowed := true, recurses := true, apart := false, narrowed := true }
def LeadOnceUptoSaid : Prop := leadOnceUptoRow.holds Try.pinned (OpenSpec.upto leadOnceSpec)

/-- 'tattlelaw18.LeadOne', WHERE WHAT IT READS IS OF BULK AT MOST 1048576: true; the input reads as it did. -/
def leadOneUptoRow : OpenClaim := { program := "ytgfblogneggpmaa", sum := "8c0de55ea117a7f6378475081c9db59abc23fee9b5e6232646cd546392a4a7bb", func := "tattle/tattlelaw18.LeadOne", spec := "leadOne", unfollowed := true, recurses := true, apart := false, narrowed := true }
def LeadOneUptoSaid : Prop := leadOneUptoRow.holds Try.pinned (OpenSpec.upto leadOneSpec)

end Rows
end Go.Proofs.Ytgfblogneggpmaa
