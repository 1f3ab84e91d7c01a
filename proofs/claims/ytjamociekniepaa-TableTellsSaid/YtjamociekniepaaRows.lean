/-
  No cell of these rows narrows 'for every input' (looked for: loops, veiled, ifaces, maps, wideKeys, modest, calm, conditions, laid).
  DERIVED. THE GIVEN ROWS OF THIS SEAT. 12 by the template 'for every input the law returns true; each argument reads behind the call as it read before'; 0 by the template 'total and deterministic' (their statements: YtjamociekniepaaTotals.lean).
  GIVEN WITH THE SEED: the statements are not yours to turn. If you find one false, say at which input.
  Laid BY PROGRAM, IN A SANDBOX (cutbox-rows.mjs): the forced cells as the released guide's own fill.sh prints them over the translation 573296e50bc0897a… (all of the seat's roots in one cut). By AI agents, Wed Nov 11 2026. No macro, syntax, notation, axiom, sorry.
-/
import Derived.Test.YtjamociekniepaaChecked
import GoSem.Claim
import GoSem.ClaimJoined
import GoSem.ClaimMapViews
import Derived.JoinedTies
import Derived.KernelRfl
namespace Go.Proofs.Ytjamociekniepaa
/- THE CELL 'sum', in the pinned program and in every row, IS THE sha256 OF THE DUMP (.gsa) THAT YtjamociekniepaaProg.lean LOADS. Nothing in Lean hashes anything: it is a label: what it is worth is what the hold of that sum in a sandbox is worth. -/
noncomputable def Try.pinned : Pinned := { name := "ytjamociekniepaa", sum := "573296e50bc0897a6476f7e60bc35a42adf320c15a01695866bc8bf629753036", checked := Try.checked }
namespace Rows
def none {H : Type} : Left H := { results := [], args := [] }

/-- 'tattlelaw05.KnowJoins': WHATEVER THE INPUT: true; the input reads as it did. -/
def knowJoinsSpec : ChangeSpec := { name := "knowJoins", fn := fun _ => fun
  | [d] => { results := [.lit (.bool true)], args := [d] }
  | _ => none }
def knowJoinsRow : OpenClaim := { program := "ytjamociekniepaa", sum := "573296e50bc0897a6476f7e60bc35a42adf320c15a01695866bc8bf629753036", func := "tattle/tattlelaw05.KnowJoins", spec := "knowJoins", apart := false }
def KnowJoinsSaid : Prop := knowJoinsRow.holds Try.pinned (OpenSpec.ofChange knowJoinsSpec)

/-- ITS FALSE NEIGHBOUR: 'it returns false'. Refute it at one input. -/
def knowJoinsWrong : ChangeSpec := { name := "knowJoins", fn := fun _ => fun
  | [d] => { results := [.lit (.bool false)], args := [d] }
  | _ => none }
def KnowJoinsWrongFalsely : Prop := knowJoinsRow.holds Try.pinned (OpenSpec.ofChange knowJoinsWrong)

/-- 'tattlelaw05.KnowLattice': WHATEVER THE INPUT: true; the input reads as it did. -/
def knowLatticeSpec : ChangeSpec := { name := "knowLattice", fn := fun _ => fun
  | [d1, d2, d3] => { results := [.lit (.bool true)], args := [d1, d2, d3] }
  | _ => none }
def knowLatticeRow : OpenClaim := { program := "ytjamociekniepaa", sum := "573296e50bc0897a6476f7e60bc35a42adf320c15a01695866bc8bf629753036", func := "tattle/tattlelaw05.KnowLattice", spec := "knowLattice", apart := false }
def KnowLatticeSaid : Prop := knowLatticeRow.holds Try.pinned (OpenSpec.ofChange knowLatticeSpec)

/-- ITS FALSE NEIGHBOUR: 'it returns false'. Refute it at one input. -/
def knowLatticeWrong : ChangeSpec := { name := "knowLattice", fn := fun _ => fun
  | [d1, d2, d3] => { results := [.lit (.bool false)], args := [d1, d2, d3] }
  | _ => none }
def KnowLatticeWrongFalsely : Prop := knowLatticeRow.holds Try.pinned (OpenSpec.ofChange knowLatticeWrong)

/-- 'tattlelaw05.KnowRefutes': WHATEVER THE INPUT: true; the input reads as it did. -/
def knowRefutesSpec : ChangeSpec := { name := "knowRefutes", fn := fun _ => fun
  | [d1, d2] => { results := [.lit (.bool true)], args := [d1, d2] }
  | _ => none }
def knowRefutesRow : OpenClaim := { program := "ytjamociekniepaa", sum := "573296e50bc0897a6476f7e60bc35a42adf320c15a01695866bc8bf629753036", func := "tattle/tattlelaw05.KnowRefutes", spec := "knowRefutes", apart := false }
def KnowRefutesSaid : Prop := knowRefutesRow.holds Try.pinned (OpenSpec.ofChange knowRefutesSpec)

/-- ITS FALSE NEIGHBOUR: 'it returns false'. Refute it at one input. -/
def knowRefutesWrong : ChangeSpec := { name := "knowRefutes", fn := fun _ => fun
  | [d1, d2] => { results := [.lit (.bool false)], args := [d1, d2] }
  | _ => none }
def KnowRefutesWrongFalsely : Prop := knowRefutesRow.holds Try.pinned (OpenSpec.ofChange knowRefutesWrong)

/-- 'tattlelaw05.KnowGrows': WHATEVER THE INPUT: true; the input reads as it did. -/
def knowGrowsSpec : ChangeSpec := { name := "knowGrows", fn := fun _ => fun
  | [d1, d2] => { results := [.lit (.bool true)], args := [d1, d2] }
  | _ => none }
def knowGrowsRow : OpenClaim := { program := "ytjamociekniepaa", sum := "573296e50bc0897a6476f7e60bc35a42adf320c15a01695866bc8bf629753036", func := "tattle/tattlelaw05.KnowGrows", spec := "knowGrows", apart := false }
def KnowGrowsSaid : Prop := knowGrowsRow.holds Try.pinned (OpenSpec.ofChange knowGrowsSpec)

/-- ITS FALSE NEIGHBOUR: 'it returns false'. Refute it at one input. -/
def knowGrowsWrong : ChangeSpec := { name := "knowGrows", fn := fun _ => fun
  | [d1, d2] => { results := [.lit (.bool false)], args := [d1, d2] }
  | _ => none }
def KnowGrowsWrongFalsely : Prop := knowGrowsRow.holds Try.pinned (OpenSpec.ofChange knowGrowsWrong)

/-- 'tattlelaw05.KnowTells': WHATEVER THE INPUT: true; the input reads as it did. -/
def knowTellsSpec : ChangeSpec := { name := "knowTells", fn := fun _ => fun
  | [d1, d2, d3] => { results := [.lit (.bool true)], args := [d1, d2, d3] }
  | _ => none }
def knowTellsRow : OpenClaim := { program := "ytjamociekniepaa", sum := "573296e50bc0897a6476f7e60bc35a42adf320c15a01695866bc8bf629753036", func := "tattle/tattlelaw05.KnowTells", spec := "knowTells", apart := false }
def KnowTellsSaid : Prop := knowTellsRow.holds Try.pinned (OpenSpec.ofChange knowTellsSpec)

/-- ITS FALSE NEIGHBOUR: 'it returns false'. Refute it at one input. -/
def knowTellsWrong : ChangeSpec := { name := "knowTells", fn := fun _ => fun
  | [d1, d2, d3] => { results := [.lit (.bool false)], args := [d1, d2, d3] }
  | _ => none }
def KnowTellsWrongFalsely : Prop := knowTellsRow.holds Try.pinned (OpenSpec.ofChange knowTellsWrong)

/-- 'tattlelaw05.KnowDies': WHATEVER THE INPUT: true; the input reads as it did. -/
def knowDiesSpec : ChangeSpec := { name := "knowDies", fn := fun _ => fun
  | [d1, d2, d3] => { results := [.lit (.bool true)], args := [d1, d2, d3] }
  | _ => none }
def knowDiesRow : OpenClaim := { program := "ytjamociekniepaa", sum := "573296e50bc0897a6476f7e60bc35a42adf320c15a01695866bc8bf629753036", func := "tattle/tattlelaw05.KnowDies", spec := "knowDies", apart := false }
def KnowDiesSaid : Prop := knowDiesRow.holds Try.pinned (OpenSpec.ofChange knowDiesSpec)

/-- ITS FALSE NEIGHBOUR: 'it returns false'. Refute it at one input. -/
def knowDiesWrong : ChangeSpec := { name := "knowDies", fn := fun _ => fun
  | [d1, d2, d3] => { results := [.lit (.bool false)], args := [d1, d2, d3] }
  | _ => none }
def KnowDiesWrongFalsely : Prop := knowDiesRow.holds Try.pinned (OpenSpec.ofChange knowDiesWrong)

/-- 'tattlelaw06.TableOrders': WHATEVER THE INPUT: true; the input reads as it did. -/
def tableOrdersSpec : ChangeSpec := { name := "tableOrders", fn := fun _ => fun
  | [d] => { results := [.lit (.bool true)], args := [d] }
  | _ => none }
def tableOrdersRow : OpenClaim := { program := "ytjamociekniepaa", sum := "573296e50bc0897a6476f7e60bc35a42adf320c15a01695866bc8bf629753036", func := "tattle/tattlelaw06.TableOrders", spec := "tableOrders", unfollowed := true, recurses := true, apart := false }
def TableOrdersSaid : Prop := tableOrdersRow.holds Try.pinned (OpenSpec.ofChange tableOrdersSpec)

/-- ITS FALSE NEIGHBOUR: 'it returns false'. Refute it at one input. -/
def tableOrdersWrong : ChangeSpec := { name := "tableOrders", fn := fun _ => fun
  | [d] => { results := [.lit (.bool false)], args := [d] }
  | _ => none }
def TableOrdersWrongFalsely : Prop := tableOrdersRow.holds Try.pinned (OpenSpec.ofChange tableOrdersWrong)

/-- 'tattlelaw06.TableParts': WHATEVER THE INPUT: true; the input reads as it did. -/
def tablePartsSpec : ChangeSpec := { name := "tableParts", fn := fun _ => fun
  | [d1, d2] => { results := [.lit (.bool true)], args := [d1, d2] }
  | _ => none }
def tablePartsRow : OpenClaim := { program := "ytjamociekniepaa", sum := "573296e50bc0897a6476f7e60bc35a42adf320c15a01695866bc8bf629753036", func := "tattle/tattlelaw06.TableParts", spec := "tableParts", unfollowed := true, recurses := true, apart := false }
def TablePartsSaid : Prop := tablePartsRow.holds Try.pinned (OpenSpec.ofChange tablePartsSpec)

/-- ITS FALSE NEIGHBOUR: 'it returns false'. Refute it at one input. -/
def tablePartsWrong : ChangeSpec := { name := "tableParts", fn := fun _ => fun
  | [d1, d2] => { results := [.lit (.bool false)], args := [d1, d2] }
  | _ => none }
def TablePartsWrongFalsely : Prop := tablePartsRow.holds Try.pinned (OpenSpec.ofChange tablePartsWrong)

/-- 'tattlelaw06.TableNodes': WHATEVER THE INPUT: true; the input reads as it did. -/
def tableNodesSpec : ChangeSpec := { name := "tableNodes", fn := fun _ => fun
  | [d1, d2] => { results := [.lit (.bool true)], args := [d1, d2] }
  | _ => none }
def tableNodesRow : OpenClaim := { program := "ytjamociekniepaa", sum := "573296e50bc0897a6476f7e60bc35a42adf320c15a01695866bc8bf629753036", func := "tattle/tattlelaw06.TableNodes", spec := "tableNodes", unfollowed := true, recurses := true, apart := false }
def TableNodesSaid : Prop := tableNodesRow.holds Try.pinned (OpenSpec.ofChange tableNodesSpec)

/-- ITS FALSE NEIGHBOUR: 'it returns false'. Refute it at one input. -/
def tableNodesWrong : ChangeSpec := { name := "tableNodes", fn := fun _ => fun
  | [d1, d2] => { results := [.lit (.bool false)], args := [d1, d2] }
  | _ => none }
def TableNodesWrongFalsely : Prop := tableNodesRow.holds Try.pinned (OpenSpec.ofChange tableNodesWrong)

/-- 'tattlelaw06.TableMerges': WHATEVER THE INPUT: true; the input reads as it did. -/
def tableMergesSpec : ChangeSpec := { name := "tableMerges", fn := fun _ => fun
  | [d1, d2, d3] => { results := [.lit (.bool true)], args := [d1, d2, d3] }
  | _ => none }
def tableMergesRow : OpenClaim := { program := "ytjamociekniepaa", sum := "573296e50bc0897a6476f7e60bc35a42adf320c15a01695866bc8bf629753036", func := "tattle/tattlelaw06.TableMerges", spec := "tableMerges", unfollowed := true, recurses := true, apart := false }
def TableMergesSaid : Prop := tableMergesRow.holds Try.pinned (OpenSpec.ofChange tableMergesSpec)

/-- ITS FALSE NEIGHBOUR: 'it returns false'. Refute it at one input. -/
def tableMergesWrong : ChangeSpec := { name := "tableMerges", fn := fun _ => fun
  | [d1, d2, d3] => { results := [.lit (.bool false)], args := [d1, d2, d3] }
  | _ => none }
def TableMergesWrongFalsely : Prop := tableMergesRow.holds Try.pinned (OpenSpec.ofChange tableMergesWrong)

/-- 'tattlelaw06.TableBehind': WHATEVER THE INPUT: true; the input reads as it did. -/
def tableBehindSpec : ChangeSpec := { name := "tableBehind", fn := fun _ => fun
  | [d1, d2] => { results := [.lit (.bool true)], args := [d1, d2] }
  | _ => none }
def tableBehindRow : OpenClaim := { program := "ytjamociekniepaa", sum := "573296e50bc0897a6476f7e60bc35a42adf320c15a01695866bc8bf629753036", func := "tattle/tattlelaw06.TableBehind", spec := "tableBehind", unfollowed := true, recurses := true, apart := false }
def TableBehindSaid : Prop := tableBehindRow.holds Try.pinned (OpenSpec.ofChange tableBehindSpec)

/-- ITS FALSE NEIGHBOUR: 'it returns false'. Refute it at one input. -/
def tableBehindWrong : ChangeSpec := { name := "tableBehind", fn := fun _ => fun
  | [d1, d2] => { results := [.lit (.bool false)], args := [d1, d2] }
  | _ => none }
def TableBehindWrongFalsely : Prop := tableBehindRow.holds Try.pinned (OpenSpec.ofChange tableBehindWrong)

/-- 'tattlelaw06.TableTells': WHATEVER THE INPUT: true; the input reads as it did. -/
def tableTellsSpec : ChangeSpec := { name := "tableTells", fn := fun _ => fun
  | [d] => { results := [.lit (.bool true)], args := [d] }
  | _ => none }
def tableTellsRow : OpenClaim := { program := "ytjamociekniepaa", sum := "573296e50bc0897a6476f7e60bc35a42adf320c15a01695866bc8bf629753036", func := "tattle/tattlelaw06.TableTells", spec := "tableTells", unfollowed := true, recurses := true, apart := false }
def TableTellsSaid : Prop := tableTellsRow.holds Try.pinned (OpenSpec.ofChange tableTellsSpec)

/-- ITS FALSE NEIGHBOUR: 'it returns false'. Refute it at one input. -/
def tableTellsWrong : ChangeSpec := { name := "tableTells", fn := fun _ => fun
  | [d] => { results := [.lit (.bool false)], args := [d] }
  | _ => none }
def TableTellsWrongFalsely : Prop := tableTellsRow.holds Try.pinned (OpenSpec.ofChange tableTellsWrong)

/- THE SECOND FORM. 'bulk': how many values and letters a reading holds, each counted each time it is reached (what is shared counts as often as it is met; a slice's spare places count too). A statement '..UptoSaid' is the law's where the arguments, and the package variables that the reading takes, are together of bulk at most 1048576: NARROWER than '..Said'. Prove '..Said' where nothing that the law and all that it calls make is longer than what came in: it says more and counts as full. Else prove '..UptoSaid'. A law counts once. -/
mutual
def uptoBulk {H : Type} : DataW H → Nat
  | .lit (.string bytes) => bytes.length + 1
  | .lit _ => 1
  | .nil => 1
  | .ptr d => uptoBulk d + 1
  | .slice elems spare => uptoBulkAll elems + uptoBulkAll spare + 1
  | .agg parts => uptoBulkAll parts + 1
  | .iface _ d => uptoBulk d + 1
  | .map entries => uptoBulkEntries entries + 1
  | .held _ => 1
def uptoBulkAll {H : Type} : List (DataW H) → Nat
  | [] => 0
  | d :: r => uptoBulk d + uptoBulkAll r
def uptoBulkEntries {H : Type} : List (Lit × DataW H) → Nat
  | [] => 0
  | x :: r => uptoBulkEntry x + uptoBulkEntries r
def uptoBulkEntry {H : Type} : Lit × DataW H → Nat
  | (.string bytes, d) => bytes.length + uptoBulk d + 1
  | (_, d) => uptoBulk d + 1
 end
def uptoSmall : (H : Type) → List (DataW H) → Bool := fun _ ds => decide (uptoBulkAll ds ≤ 1048576)
def OpenSpec.upto (s : _root_.Go.ChangeSpec) : _root_.Go.OpenSpec := { _root_.Go.OpenSpec.ofChange s with cond := some uptoSmall }

/-- 'tattlelaw05.KnowJoins', WHERE WHAT IT READS IS OF BULK AT MOST 1048576: true; the input reads as it did. -/
def knowJoinsUptoRow : OpenClaim := { program := "ytjamociekniepaa", sum := "573296e50bc0897a6476f7e60bc35a42adf320c15a01695866bc8bf629753036", func := "tattle/tattlelaw05.KnowJoins", spec := "knowJoins", apart := false, narrowed := true }
def KnowJoinsUptoSaid : Prop := knowJoinsUptoRow.holds Try.pinned (OpenSpec.upto knowJoinsSpec)

/-- 'tattlelaw05.KnowLattice', WHERE WHAT IT READS IS OF BULK AT MOST 1048576: true; the input reads as it did. -/
def knowLatticeUptoRow : OpenClaim := { program := "ytjamociekniepaa", sum := "573296e50bc0897a6476f7e60bc35a42adf320c15a01695866bc8bf629753036", func := "tattle/tattlelaw05.KnowLattice", spec := "knowLattice", apart := false, narrowed := true }
def KnowLatticeUptoSaid : Prop := knowLatticeUptoRow.holds Try.pinned (OpenSpec.upto knowLatticeSpec)

/-- 'tattlelaw05.KnowRefutes', WHERE WHAT IT READS IS OF BULK AT MOST 1048576: true; the input reads as it did. -/
def knowRefutesUptoRow : OpenClaim := { program := "ytjamociekniepaa", sum := "573296e50bc0897a6476f7e60bc35a42adf320c15a01695866bc8bf629753036", func := "tattle/tattlelaw05.KnowRefutes", spec := "knowRefutes", apart := false, narrowed := true }
def KnowRefutesUptoSaid : Prop := knowRefutesUptoRow.holds Try.pinned (OpenSpec.upto knowRefutesSpec)

/-- 'tattlelaw05.KnowGrows', WHERE WHAT IT READS IS OF BULK AT MOST 1048576: true; the input reads as it did. -/
def knowGrowsUptoRow : OpenClaim := { program := "ytjamociekniepaa", sum := "573296e50bc0897a6476f7e60bc35a42adf320c15a01695866bc8bf629753036", func := "tattle/tattlelaw05.KnowGrows", spec := "knowGrows", apart := false, narrowed := true }
def KnowGrowsUptoSaid : Prop := knowGrowsUptoRow.holds Try.pinned (OpenSpec.upto knowGrowsSpec)

/-- 'tattlelaw05.KnowTells', WHERE WHAT IT READS IS OF BULK AT MOST 1048576: true; the input reads as it did. -/
def knowTellsUptoRow : OpenClaim := { program := "ytjamociekniepaa", sum := "573296e50bc0897a6476f7e60bc35a42adf320c15a01695866bc8bf629753036", func := "tattle/tattlelaw05.KnowTells", spec := "knowTells", apart := false, narrowed := true }
def KnowTellsUptoSaid : Prop := knowTellsUptoRow.holds Try.pinned (OpenSpec.upto knowTellsSpec)

/-- 'tattlelaw05.KnowDies', WHERE WHAT IT READS IS OF BULK AT MOST 1048576: true; the input reads as it did. -/
def knowDiesUptoRow : OpenClaim := { program := "ytjamociekniepaa", sum := "573296e50bc0897a6476f7e60bc35a42adf320c15a01695866bc8bf629753036", func := "tattle/tattlelaw05.KnowDies", spec := "knowDies", apart := false, narrowed := true }
def KnowDiesUptoSaid : Prop := knowDiesUptoRow.holds Try.pinned (OpenSpec.upto knowDiesSpec)

/-- 'tattlelaw06.TableOrders', WHERE WHAT IT READS IS OF BULK AT MOST 1048576: true; the input reads as it did. -/
def tableOrdersUptoRow : OpenClaim := { program := "ytjamociekniepaa", sum := "573296e50bc0897a6476f7e60bc35a42adf320c15a01695866bc8bf629753036", func := "tattle/tattlelaw06.TableOrders", spec := "tableOrders", unfollowed := true, recurses := true, apart := false, narrowed := true }
def TableOrdersUptoSaid : Prop := tableOrdersUptoRow.holds Try.pinned (OpenSpec.upto tableOrdersSpec)

/-- 'tattlelaw06.TableParts', WHERE WHAT IT READS IS OF BULK AT MOST 1048576: true; the input reads as it did. -/
def tablePartsUptoRow : OpenClaim := { program := "ytjamociekniepaa", sum := "573296e50bc0897a6476f7e60bc35a42adf320c15a01695866bc8bf629753036", func := "tattle/tattlelaw06.TableParts", spec := "tableParts", unfollowed := true, recurses := true, apart := false, narrowed := true }
def TablePartsUptoSaid : Prop := tablePartsUptoRow.holds Try.pinned (OpenSpec.upto tablePartsSpec)

/-- 'tattlelaw06.TableNodes', WHERE WHAT IT READS IS OF BULK AT MOST 1048576: true; the input reads as it did. -/
def tableNodesUptoRow : OpenClaim := { program := "ytjamociekniepaa", sum := "573296e50bc0897a6476f7e60bc35a42adf320c15a01695866bc8bf629753036", func := "tattle/tattlelaw06.TableNodes", spec := "tableNodes", unfollowed := true, recurses := true, apart := false, narrowed := true }
def TableNodesUptoSaid : Prop := tableNodesUptoRow.holds Try.pinned (OpenSpec.upto tableNodesSpec)

/-- 'tattlelaw06.TableMerges', WHERE WHAT IT READS IS OF BULK AT MOST 1048576: true; the input reads as it did. -/
def tableMergesUptoRow : OpenClaim := { program := "ytjamociekniepaa", sum := "573296e50bc0897a6476f7e60bc35a42adf320c15a01695866bc8bf629753036", func := "tattle/tattlelaw06.TableMerges", spec := "tableMerges", unfollowed := true, recurses := true, apart := false, narrowed := true }
def TableMergesUptoSaid : Prop := tableMergesUptoRow.holds Try.pinned (OpenSpec.upto tableMergesSpec)

/-- 'tattlelaw06.TableBehind', WHERE WHAT IT READS IS OF BULK AT MOST 1048576: true; the input reads as it did. -/
def tableBehindUptoRow : OpenClaim := { program := "ytjamociekniepaa", sum := "573296e50bc0897a6476f7e60bc35a42adf320c15a01695866bc8bf629753036", func := "tattle/tattlelaw06.TableBehind", spec := "tableBehind", unfollowed := true, recurses := true, apart := false, narrowed := true }
def TableBehindUptoSaid : Prop := tableBehindUptoRow.holds Try.pinned (OpenSpec.upto tableBehindSpec)

/-- 'tattlelaw06.TableTells', WHERE WHAT IT READS IS OF BULK AT MOST 1048576: true; the input reads as it did. -/
def tableTellsUptoRow : OpenClaim := { program := "ytjamociekniepaa", sum := "573296e50bc0897a6476f7e60bc35a42adf320c15a01695866bc8bf629753036", func := "tattle/tattlelaw06.TableTells", spec := "tableTells", unfollowed := true, recurses := true, apart := false, narrowed := true }
def TableTellsUptoSaid : Prop := tableTellsUptoRow.holds Try.pinned (OpenSpec.upto tableTellsSpec)

end Rows
end Go.Proofs.Ytjamociekniepaa
