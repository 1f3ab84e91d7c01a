/-
  No cell of these rows narrows 'for every input' (looked for: loops, veiled, ifaces, maps, wideKeys, modest, calm, conditions, laid).
  DERIVED. THE GIVEN ROWS OF THIS SEAT. 11 by the template 'for every input the law returns true; each argument reads behind the call as it read before'; 0 by the template 'total and deterministic' (their statements: YtlanodnbdgiihaaTotals.lean).
  GIVEN WITH THE SEED: the statements are not yours to turn. If you find one false, say at which input.
  Laid BY PROGRAM, IN A SANDBOX (cutbox-rows.mjs): the forced cells as the released guide's own fill.sh prints them over the translation d45a61bb5076551d… (all of the seat's roots in one cut). By AI agents, Wed Nov 11 2026. No macro, syntax, notation, axiom, sorry.
-/
import Derived.Test.YtlanodnbdgiihaaChecked
import GoSem.Claim
import GoSem.ClaimJoined
import GoSem.ClaimMapViews
import Derived.JoinedTies
import Derived.KernelRfl
namespace Go.Proofs.Ytlanodnbdgiihaa
/- THE CELL 'sum', in the pinned program and in every row, IS THE sha256 OF THE DUMP (.gsa) THAT YtlanodnbdgiihaaProg.lean LOADS. Nothing in Lean hashes anything: it is a label: what it is worth is what the hold of that sum in a sandbox is worth. -/
noncomputable def Try.pinned : Pinned := { name := "ytlanodnbdgiihaa", sum := "d45a61bb5076551d725d33dbad0b6aebc3ed67d4bd3249c98f40bf04e5e778e5", checked := Try.checked }
namespace Rows
def none {H : Type} : Left H := { results := [], args := [] }

/-- 'tattlelaw02.DiceDraws': WHATEVER THE INPUT: true; the input reads as it did. -/
def diceDrawsSpec : ChangeSpec := { name := "diceDraws", fn := fun _ => fun
  | [d1, d2, d3] => { results := [.lit (.bool true)], args := [d1, d2, d3] }
  | _ => none }
def diceDrawsRow : OpenClaim := { program := "ytlanodnbdgiihaa", sum := "d45a61bb5076551d725d33dbad0b6aebc3ed67d4bd3249c98f40bf04e5e778e5", func := "tattle/tattlelaw02.DiceDraws", spec := "diceDraws", unfollowed := true, recurses := true, apart := false }
def DiceDrawsSaid : Prop := diceDrawsRow.holds Try.pinned (OpenSpec.ofChange diceDrawsSpec)

/-- ITS FALSE NEIGHBOUR: 'it returns false'. Refute it at one input. -/
def diceDrawsWrong : ChangeSpec := { name := "diceDraws", fn := fun _ => fun
  | [d1, d2, d3] => { results := [.lit (.bool false)], args := [d1, d2, d3] }
  | _ => none }
def DiceDrawsWrongFalsely : Prop := diceDrawsRow.holds Try.pinned (OpenSpec.ofChange diceDrawsWrong)

/-- 'tattlelaw02.DiceKeeps': WHATEVER THE INPUT: true; the input reads as it did. -/
def diceKeepsSpec : ChangeSpec := { name := "diceKeeps", fn := fun _ => fun
  | [d1, d2, d3] => { results := [.lit (.bool true)], args := [d1, d2, d3] }
  | _ => none }
def diceKeepsRow : OpenClaim := { program := "ytlanodnbdgiihaa", sum := "d45a61bb5076551d725d33dbad0b6aebc3ed67d4bd3249c98f40bf04e5e778e5", func := "tattle/tattlelaw02.DiceKeeps", spec := "diceKeeps", unfollowed := true, recurses := true, apart := false }
def DiceKeepsSaid : Prop := diceKeepsRow.holds Try.pinned (OpenSpec.ofChange diceKeepsSpec)

/-- ITS FALSE NEIGHBOUR: 'it returns false'. Refute it at one input. -/
def diceKeepsWrong : ChangeSpec := { name := "diceKeeps", fn := fun _ => fun
  | [d1, d2, d3] => { results := [.lit (.bool false)], args := [d1, d2, d3] }
  | _ => none }
def DiceKeepsWrongFalsely : Prop := diceKeepsRow.holds Try.pinned (OpenSpec.ofChange diceKeepsWrong)

/-- 'tattlelaw02.DiceBehind': WHATEVER THE INPUT: true; the input reads as it did. -/
def diceBehindSpec : ChangeSpec := { name := "diceBehind", fn := fun _ => fun
  | [d] => { results := [.lit (.bool true)], args := [d] }
  | _ => none }
def diceBehindRow : OpenClaim := { program := "ytlanodnbdgiihaa", sum := "d45a61bb5076551d725d33dbad0b6aebc3ed67d4bd3249c98f40bf04e5e778e5", func := "tattle/tattlelaw02.DiceBehind", spec := "diceBehind", unfollowed := true, recurses := true, apart := false }
def DiceBehindSaid : Prop := diceBehindRow.holds Try.pinned (OpenSpec.ofChange diceBehindSpec)

/-- ITS FALSE NEIGHBOUR: 'it returns false'. Refute it at one input. -/
def diceBehindWrong : ChangeSpec := { name := "diceBehind", fn := fun _ => fun
  | [d] => { results := [.lit (.bool false)], args := [d] }
  | _ => none }
def DiceBehindWrongFalsely : Prop := diceBehindRow.holds Try.pinned (OpenSpec.ofChange diceBehindWrong)

/-- 'tattlelaw02.DiceEnds': WHATEVER THE INPUT: true; the input reads as it did. -/
def diceEndsSpec : ChangeSpec := { name := "diceEnds", fn := fun _ => fun
  | [d1, d2] => { results := [.lit (.bool true)], args := [d1, d2] }
  | _ => none }
def diceEndsRow : OpenClaim := { program := "ytlanodnbdgiihaa", sum := "d45a61bb5076551d725d33dbad0b6aebc3ed67d4bd3249c98f40bf04e5e778e5", func := "tattle/tattlelaw02.DiceEnds", spec := "diceEnds", unfollowed := true, recurses := true, apart := false }
def DiceEndsSaid : Prop := diceEndsRow.holds Try.pinned (OpenSpec.ofChange diceEndsSpec)

/-- ITS FALSE NEIGHBOUR: 'it returns false'. Refute it at one input. -/
def diceEndsWrong : ChangeSpec := { name := "diceEnds", fn := fun _ => fun
  | [d1, d2] => { results := [.lit (.bool false)], args := [d1, d2] }
  | _ => none }
def DiceEndsWrongFalsely : Prop := diceEndsRow.holds Try.pinned (OpenSpec.ofChange diceEndsWrong)

/-- 'tattlelaw02.DiceParts': WHATEVER THE INPUT: true; the input reads as it did. -/
def dicePartsSpec : ChangeSpec := { name := "diceParts", fn := fun _ => fun
  | [d1, d2, d3] => { results := [.lit (.bool true)], args := [d1, d2, d3] }
  | _ => none }
def dicePartsRow : OpenClaim := { program := "ytlanodnbdgiihaa", sum := "d45a61bb5076551d725d33dbad0b6aebc3ed67d4bd3249c98f40bf04e5e778e5", func := "tattle/tattlelaw02.DiceParts", spec := "diceParts", unfollowed := true, recurses := true, apart := false }
def DicePartsSaid : Prop := dicePartsRow.holds Try.pinned (OpenSpec.ofChange dicePartsSpec)

/-- ITS FALSE NEIGHBOUR: 'it returns false'. Refute it at one input. -/
def dicePartsWrong : ChangeSpec := { name := "diceParts", fn := fun _ => fun
  | [d1, d2, d3] => { results := [.lit (.bool false)], args := [d1, d2, d3] }
  | _ => none }
def DicePartsWrongFalsely : Prop := dicePartsRow.holds Try.pinned (OpenSpec.ofChange dicePartsWrong)

/-- 'tattlelaw08.TurnAll': WHATEVER THE INPUT: true; the input reads as it did. -/
def turnAllSpec : ChangeSpec := { name := "turnAll", fn := fun _ => fun
  | [d1, d2, d3] => { results := [.lit (.bool true)], args := [d1, d2, d3] }
  | _ => none }
def turnAllRow : OpenClaim := { program := "ytlanodnbdgiihaa", sum := "d45a61bb5076551d725d33dbad0b6aebc3ed67d4bd3249c98f40bf04e5e778e5", func := "tattle/tattlelaw08.TurnAll", spec := "turnAll", unfollowed := true, recurses := true, apart := false }
def TurnAllSaid : Prop := turnAllRow.holds Try.pinned (OpenSpec.ofChange turnAllSpec)

/-- ITS FALSE NEIGHBOUR: 'it returns false'. Refute it at one input. -/
def turnAllWrong : ChangeSpec := { name := "turnAll", fn := fun _ => fun
  | [d1, d2, d3] => { results := [.lit (.bool false)], args := [d1, d2, d3] }
  | _ => none }
def TurnAllWrongFalsely : Prop := turnAllRow.holds Try.pinned (OpenSpec.ofChange turnAllWrong)

/-- 'tattlelaw08.TurnOnce': WHATEVER THE INPUT: true; the input reads as it did. -/
def turnOnceSpec : ChangeSpec := { name := "turnOnce", fn := fun _ => fun
  | [d1, d2] => { results := [.lit (.bool true)], args := [d1, d2] }
  | _ => none }
def turnOnceRow : OpenClaim := { program := "ytlanodnbdgiihaa", sum := "d45a61bb5076551d725d33dbad0b6aebc3ed67d4bd3249c98f40bf04e5e778e5", func := "tattle/tattlelaw08.TurnOnce", spec := "turnOnce", unfollowed := true, recurses := true, apart := false }
def TurnOnceSaid : Prop := turnOnceRow.holds Try.pinned (OpenSpec.ofChange turnOnceSpec)

/-- ITS FALSE NEIGHBOUR: 'it returns false'. Refute it at one input. -/
def turnOnceWrong : ChangeSpec := { name := "turnOnce", fn := fun _ => fun
  | [d1, d2] => { results := [.lit (.bool false)], args := [d1, d2] }
  | _ => none }
def TurnOnceWrongFalsely : Prop := turnOnceRow.holds Try.pinned (OpenSpec.ofChange turnOnceWrong)

/-- 'tattlelaw08.TurnGone': WHATEVER THE INPUT: true; the input reads as it did. -/
def turnGoneSpec : ChangeSpec := { name := "turnGone", fn := fun _ => fun
  | [d] => { results := [.lit (.bool true)], args := [d] }
  | _ => none }
def turnGoneRow : OpenClaim := { program := "ytlanodnbdgiihaa", sum := "d45a61bb5076551d725d33dbad0b6aebc3ed67d4bd3249c98f40bf04e5e778e5", func := "tattle/tattlelaw08.TurnGone", spec := "turnGone", unfollowed := true, recurses := true, apart := false }
def TurnGoneSaid : Prop := turnGoneRow.holds Try.pinned (OpenSpec.ofChange turnGoneSpec)

/-- ITS FALSE NEIGHBOUR: 'it returns false'. Refute it at one input. -/
def turnGoneWrong : ChangeSpec := { name := "turnGone", fn := fun _ => fun
  | [d] => { results := [.lit (.bool false)], args := [d] }
  | _ => none }
def TurnGoneWrongFalsely : Prop := turnGoneRow.holds Try.pinned (OpenSpec.ofChange turnGoneWrong)

/-- 'tattlelaw08.TurnStays': WHATEVER THE INPUT: true; the input reads as it did. -/
def turnStaysSpec : ChangeSpec := { name := "turnStays", fn := fun _ => fun
  | [d1, d2, d3] => { results := [.lit (.bool true)], args := [d1, d2, d3] }
  | _ => none }
def turnStaysRow : OpenClaim := { program := "ytlanodnbdgiihaa", sum := "d45a61bb5076551d725d33dbad0b6aebc3ed67d4bd3249c98f40bf04e5e778e5", func := "tattle/tattlelaw08.TurnStays", spec := "turnStays", unfollowed := true, recurses := true, apart := false }
def TurnStaysSaid : Prop := turnStaysRow.holds Try.pinned (OpenSpec.ofChange turnStaysSpec)

/-- ITS FALSE NEIGHBOUR: 'it returns false'. Refute it at one input. -/
def turnStaysWrong : ChangeSpec := { name := "turnStays", fn := fun _ => fun
  | [d1, d2, d3] => { results := [.lit (.bool false)], args := [d1, d2, d3] }
  | _ => none }
def TurnStaysWrongFalsely : Prop := turnStaysRow.holds Try.pinned (OpenSpec.ofChange turnStaysWrong)

/-- 'tattlelaw08.TurnShuffles': WHATEVER THE INPUT: true; the input reads as it did. -/
def turnShufflesSpec : ChangeSpec := { name := "turnShuffles", fn := fun _ => fun
  | [d1, d2] => { results := [.lit (.bool true)], args := [d1, d2] }
  | _ => none }
def turnShufflesRow : OpenClaim := { program := "ytlanodnbdgiihaa", sum := "d45a61bb5076551d725d33dbad0b6aebc3ed67d4bd3249c98f40bf04e5e778e5", func := "tattle/tattlelaw08.TurnShuffles", spec := "turnShuffles", unfollowed := true, recurses := true, apart := false }
def TurnShufflesSaid : Prop := turnShufflesRow.holds Try.pinned (OpenSpec.ofChange turnShufflesSpec)

/-- ITS FALSE NEIGHBOUR: 'it returns false'. Refute it at one input. -/
def turnShufflesWrong : ChangeSpec := { name := "turnShuffles", fn := fun _ => fun
  | [d1, d2] => { results := [.lit (.bool false)], args := [d1, d2] }
  | _ => none }
def TurnShufflesWrongFalsely : Prop := turnShufflesRow.holds Try.pinned (OpenSpec.ofChange turnShufflesWrong)

/-- 'tattlelaw08.TurnTells': WHATEVER THE INPUT: true; the input reads as it did. -/
def turnTellsSpec : ChangeSpec := { name := "turnTells", fn := fun _ => fun
  | [d1, d2, d3] => { results := [.lit (.bool true)], args := [d1, d2, d3] }
  | _ => none }
def turnTellsRow : OpenClaim := { program := "ytlanodnbdgiihaa", sum := "d45a61bb5076551d725d33dbad0b6aebc3ed67d4bd3249c98f40bf04e5e778e5", func := "tattle/tattlelaw08.TurnTells", spec := "turnTells", unfollowed := true, recurses := true, apart := false }
def TurnTellsSaid : Prop := turnTellsRow.holds Try.pinned (OpenSpec.ofChange turnTellsSpec)

/-- ITS FALSE NEIGHBOUR: 'it returns false'. Refute it at one input. -/
def turnTellsWrong : ChangeSpec := { name := "turnTells", fn := fun _ => fun
  | [d1, d2, d3] => { results := [.lit (.bool false)], args := [d1, d2, d3] }
  | _ => none }
def TurnTellsWrongFalsely : Prop := turnTellsRow.holds Try.pinned (OpenSpec.ofChange turnTellsWrong)

/- THE SECOND FORM. 'bulk': how many values and letters a reading holds, each counted each time it is reached (what is shared counts as often as it is met; a slice's spare places count too). A statement '..UptoSaid' is the law's where the arguments, and the package variables that the reading takes, are together of bulk at most 1048576: NARROWER than '..Said'. Prove '..Said' where nothing that the law and all that it calls make is longer than what came in: it says more and counts as full. Else prove '..UptoSaid'. A law counts once. -/
mutual
def uptoBulk {H : Type} : DataW H → Nat
  | .lit (.string bytes) => bytes.length + 1
  | .lit _ => 1
  | .nil => 1
  | .ptr d => uptoBulk d + 1
  | .slice elems spare => uptoBulkAll elems + uptoBulkAll spare + 1
  | .agg parts => uptoBulkAll parts + 1
  | .iface _ d => uptoBulk d + 1
  | .map entries => uptoBulkEntries entries + 1
  | .held _ => 1
def uptoBulkAll {H : Type} : List (DataW H) → Nat
  | [] => 0
  | d :: r => uptoBulk d + uptoBulkAll r
def uptoBulkEntries {H : Type} : List (Lit × DataW H) → Nat
  | [] => 0
  | x :: r => uptoBulkEntry x + uptoBulkEntries r
def uptoBulkEntry {H : Type} : Lit × DataW H → Nat
  | (.string bytes, d) => bytes.length + uptoBulk d + 1
  | (_, d) => uptoBulk d + 1
 end
def uptoSmall : (H : Type) → List (DataW H) → Bool := fun _ ds => decide (uptoBulkAll ds ≤ 1048576)
def OpenSpec.upto (s : _root_.Go.ChangeSpec) : _root_.Go.OpenSpec := { _root_.Go.OpenSpec.ofChange s with cond := some uptoSmall }

/-- 'tattlelaw02.DiceDraws', WHERE WHAT IT READS IS OF BULK AT MOST 1048576: true; the input reads as it did. -/
def diceDrawsUptoRow : OpenClaim := { program := "ytlanodnbdgiihaa", sum := "d45a61bb5076551d725d33dbad0b6aebc3ed67d4bd3249c98f40bf04e5e778e5", func := "tattle/tattlelaw02.DiceDraws", spec := "diceDraws", unfollowed := true, recurses := true, apart := false, narrowed := true }
def DiceDrawsUptoSaid : Prop := diceDrawsUptoRow.holds Try.pinned (OpenSpec.upto diceDrawsSpec)

/-- 'tattlelaw02.DiceKeeps', WHERE WHAT IT READS IS OF BULK AT MOST 1048576: true; the input reads as it did. -/
def diceKeepsUptoRow : OpenClaim := { program := "ytlanodnbdgiihaa", sum := "d45a61bb5076551d725d33dbad0b6aebc3ed67d4bd3249c98f40bf04e5e778e5", func := "tattle/tattlelaw02.DiceKeeps", spec := "diceKeeps", unfollowed := true, recurses := true, apart := false, narrowed := true }
def DiceKeepsUptoSaid : Prop := diceKeepsUptoRow.holds Try.pinned (OpenSpec.upto diceKeepsSpec)

/-- 'tattlelaw02.DiceBehind', WHERE WHAT IT READS IS OF BULK AT MOST 1048576: true; the input reads as it did. -/
def diceBehindUptoRow : OpenClaim := { program := "ytlanodnbdgiihaa", sum := "d45a61bb5076551d725d33dbad0b6aebc3ed67d4bd3249c98f40bf04e5e778e5", func := "tattle/tattlelaw02.DiceBehind", spec := "diceBehind", unfollowed := true, recurses := true, apart := false, narrowed := true }
def DiceBehindUptoSaid : Prop := diceBehindUptoRow.holds Try.pinned (OpenSpec.upto diceBehindSpec)

/-- 'tattlelaw02.DiceEnds', WHERE WHAT IT READS IS OF BULK AT MOST 1048576: true; the input reads as it did. -/
def diceEndsUptoRow : OpenClaim := { program := "ytlanodnbdgiihaa", sum := "d45a61bb5076551d725d33dbad0b6aebc3ed67d4bd3249c98f40bf04e5e778e5", func := "tattle/tattlelaw02.DiceEnds", spec := "diceEnds", unfollowed := true, recurses := true, apart := false, narrowed := true }
def DiceEndsUptoSaid : Prop := diceEndsUptoRow.holds Try.pinned (OpenSpec.upto diceEndsSpec)

/-- 'tattlelaw02.DiceParts', WHERE WHAT IT READS IS OF BULK AT MOST 1048576: true; the input reads as it did. -/
def dicePartsUptoRow : OpenClaim := { program := "ytlanodnbdgiihaa", sum := "d45a61bb5076551d725d33dbad0b6aebc3ed67d4bd3249c98f40bf04e5e778e5", func := "tattle/tattlelaw02.DiceParts", spec := "diceParts", unfollowed := true, recurses := true, apart := false, narrowed := true }
def DicePartsUptoSaid : Prop := dicePartsUptoRow.holds Try.pinned (OpenSpec.upto dicePartsSpec)

/-- 'tattlelaw08.TurnAll', WHERE WHAT IT READS IS OF BULK AT MOST 1048576: true; the input reads as it did. -/
def turnAllUptoRow : OpenClaim := { program := "ytlanodnbdgiihaa", sum := "d45a61bb5076551d725d33dbad0b6aebc3ed67d4bd3249c98f40bf04e5e778e5", func := "tattle/tattlelaw08.TurnAll", spec := "turnAll", unfollowed := true, recurses := true, apart := false, narrowed := true }
def TurnAllUptoSaid : Prop := turnAllUptoRow.holds Try.pinned (OpenSpec.upto turnAllSpec)

/-- 'tattlelaw08.TurnOnce', WHERE WHAT IT READS IS OF BULK AT MOST 1048576: true; the input reads as it did. -/
def turnOnceUptoRow : OpenClaim := { program := "ytlanodnbdgiihaa", sum := "d45a61bb5076551d725d33dbad0b6aebc3ed67d4bd3249c98f40bf04e5e778e5", func := "tattle/tattlelaw08.TurnOnce", spec := "turnOnce", unfollowed := true, recurses := true, apart := false, narrowed := true }
def TurnOnceUptoSaid : Prop := turnOnceUptoRow.holds Try.pinned (OpenSpec.upto turnOnceSpec)

/-- 'tattlelaw08.TurnGone', WHERE WHAT IT READS IS OF BULK AT MOST 1048576: true; the input reads as it did. -/
def turnGoneUptoRow : OpenClaim := { program := "ytlanodnbdgiihaa", sum := "d45a61bb5076551d725d33dbad0b6aebc3ed67d4bd3249c98f40bf04e5e778e5", func := "tattle/tattlelaw08.TurnGone", spec := "turnGone", unfollowed := true, recurses := true, apart := false, narrowed := true }
def TurnGoneUptoSaid : Prop := turnGoneUptoRow.holds Try.pinned (OpenSpec.upto turnGoneSpec)

/-- 'tattlelaw08.TurnStays', WHERE WHAT IT READS IS OF BULK AT MOST 1048576: true; the input reads as it did. -/
def turnStaysUptoRow : OpenClaim := { program := "ytlanodnbdgiihaa", sum := "d45a61bb5076551d725d33dbad0b6aebc3ed67d4bd3249c98f40bf04e5e778e5", func := "tattle/tattlelaw08.TurnStays", spec := "turnStays", unfollowed := true, recurses := true, apart := false, narrowed := true }
def TurnStaysUptoSaid : Prop := turnStaysUptoRow.holds Try.pinned (OpenSpec.upto turnStaysSpec)

/-- 'tattlelaw08.TurnShuffles', WHERE WHAT IT READS IS OF BULK AT MOST 1048576: true; the input reads as it did. -/
def turnShufflesUptoRow : OpenClaim := { program := "ytlanodnbdgiihaa", sum := "d45a61bb5076551d725d33dbad0b6aebc3ed67d4bd3249c98f40bf04e5e778e5", func := "tattle/tattlelaw08.TurnShuffles", spec := "turnShuffles", unfollowed := true, recurses := true, apart := false, narrowed := true }
def TurnShufflesUptoSaid : Prop := turnShufflesUptoRow.holds Try.pinned (OpenSpec.upto turnShufflesSpec)

/-- 'tattlelaw08.TurnTells', WHERE WHAT IT READS IS OF BULK AT MOST 1048576: true; the input reads as it did. -/
def turnTellsUptoRow : OpenClaim := { program := "ytlanodnbdgiihaa", sum := "d45a61bb5076551d725d33dbad0b6aebc3ed67d4bd3249c98f40bf04e5e778e5", func := "tattle/tattlelaw08.TurnTells", spec := "turnTells", unfollowed := true, recurses := true, apart := false, narrowed := true }
def TurnTellsUptoSaid : Prop := turnTellsUptoRow.holds Try.pinned (OpenSpec.upto turnTellsSpec)

end Rows
end Go.Proofs.Ytlanodnbdgiihaa
