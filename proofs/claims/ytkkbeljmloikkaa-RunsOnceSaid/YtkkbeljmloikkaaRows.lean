/-
  No cell of these rows narrows 'for every input' (looked for: loops, veiled, ifaces, maps, wideKeys, modest, calm, conditions, laid).
  DERIVED. THE GIVEN ROWS OF THIS SEAT. 8 by the template 'for every input the law returns true; each argument reads behind the call as it read before'; 0 by the template 'total and deterministic' (their statements: YtkkbeljmloikkaaTotals.lean).
  GIVEN WITH THE SEED: the statements are not yours to turn. If you find one false, say at which input.
  Laid BY PROGRAM, IN A SANDBOX (cutbox-rows.mjs): the forced cells as the released guide's own fill.sh prints them over the translation f17811e957b1c4d1… (all of the seat's roots in one cut). By AI agents, Wed Nov 11 2026. No macro, syntax, notation, axiom, sorry.
-/
import Derived.Test.YtkkbeljmloikkaaChecked
import GoSem.Claim
import GoSem.ClaimJoined
import GoSem.ClaimMapViews
import Derived.JoinedTies
import Derived.KernelRfl
namespace Go.Proofs.Ytkkbeljmloikkaa
/- THE CELL 'sum', in the pinned program and in every row, IS THE sha256 OF THE DUMP (.gsa) THAT YtkkbeljmloikkaaProg.lean LOADS. Nothing in Lean hashes anything: it is a label: what it is worth is what the hold of that sum in a sandbox is worth. -/
noncomputable def Try.pinned : Pinned := { name := "ytkkbeljmloikkaa", sum := "f17811e957b1c4d1d2a8865876d05e3ae7c90e0b73654fba362cbea45c1a9470", checked := Try.checked }
namespace Rows
def none {H : Type} : Left H := { results := [], args := [] }

/-- 'cartagelaw08.RunsTell': WHATEVER THE INPUT: true; the input reads as it did. -/
def runsTellSpec : ChangeSpec := { name := "runsTell", fn := fun _ => fun
  | [d1, d2, d3] => { results := [.lit (.bool true)], args := [d1, d2, d3] }
  | _ => none }
def runsTellRow : OpenClaim := { program := "ytkkbeljmloikkaa", sum := "f17811e957b1c4d1d2a8865876d05e3ae7c90e0b73654fba362cbea45c1a9470", func := "cartage/cartagelaw08.RunsTell", spec := "runsTell", inPlace := ["math/bits.Add64"], unfollowed := true, recurses := true, apart := false }
def RunsTellSaid : Prop := runsTellRow.holds Try.pinned (OpenSpec.ofChange runsTellSpec)

/-- ITS FALSE NEIGHBOUR: 'it returns false'. Refute it at one input. -/
def runsTellWrong : ChangeSpec := { name := "runsTell", fn := fun _ => fun
  | [d1, d2, d3] => { results := [.lit (.bool false)], args := [d1, d2, d3] }
  | _ => none }
def RunsTellWrongFalsely : Prop := runsTellRow.holds Try.pinned (OpenSpec.ofChange runsTellWrong)

/-- 'cartagelaw08.RunsMerge': WHATEVER THE INPUT: true; the input reads as it did. -/
def runsMergeSpec : ChangeSpec := { name := "runsMerge", fn := fun _ => fun
  | [d1, d2] => { results := [.lit (.bool true)], args := [d1, d2] }
  | _ => none }
def runsMergeRow : OpenClaim := { program := "ytkkbeljmloikkaa", sum := "f17811e957b1c4d1d2a8865876d05e3ae7c90e0b73654fba362cbea45c1a9470", func := "cartage/cartagelaw08.RunsMerge", spec := "runsMerge", inPlace := ["math/bits.Add64"], unfollowed := true, recurses := true, apart := false }
def RunsMergeSaid : Prop := runsMergeRow.holds Try.pinned (OpenSpec.ofChange runsMergeSpec)

/-- ITS FALSE NEIGHBOUR: 'it returns false'. Refute it at one input. -/
def runsMergeWrong : ChangeSpec := { name := "runsMerge", fn := fun _ => fun
  | [d1, d2] => { results := [.lit (.bool false)], args := [d1, d2] }
  | _ => none }
def RunsMergeWrongFalsely : Prop := runsMergeRow.holds Try.pinned (OpenSpec.ofChange runsMergeWrong)

/-- 'cartagelaw08.RunsBudget': WHATEVER THE INPUT: true; the input reads as it did. -/
def runsBudgetSpec : ChangeSpec := { name := "runsBudget", fn := fun _ => fun
  | [d1, d2, d3, d4] => { results := [.lit (.bool true)], args := [d1, d2, d3, d4] }
  | _ => none }
def runsBudgetRow : OpenClaim := { program := "ytkkbeljmloikkaa", sum := "f17811e957b1c4d1d2a8865876d05e3ae7c90e0b73654fba362cbea45c1a9470", func := "cartage/cartagelaw08.RunsBudget", spec := "runsBudget", inPlace := ["math/bits.Add64"], unfollowed := true, recurses := true, apart := false }
def RunsBudgetSaid : Prop := runsBudgetRow.holds Try.pinned (OpenSpec.ofChange runsBudgetSpec)

/-- ITS FALSE NEIGHBOUR: 'it returns false'. Refute it at one input. -/
def runsBudgetWrong : ChangeSpec := { name := "runsBudget", fn := fun _ => fun
  | [d1, d2, d3, d4] => { results := [.lit (.bool false)], args := [d1, d2, d3, d4] }
  | _ => none }
def RunsBudgetWrongFalsely : Prop := runsBudgetRow.holds Try.pinned (OpenSpec.ofChange runsBudgetWrong)

/-- 'cartagelaw08.RunsCombine': WHATEVER THE INPUT: true; the input reads as it did. -/
def runsCombineSpec : ChangeSpec := { name := "runsCombine", fn := fun _ => fun
  | [d1, d2, d3, d4] => { results := [.lit (.bool true)], args := [d1, d2, d3, d4] }
  | _ => none }
def runsCombineRow : OpenClaim := { program := "ytkkbeljmloikkaa", sum := "f17811e957b1c4d1d2a8865876d05e3ae7c90e0b73654fba362cbea45c1a9470", func := "cartage/cartagelaw08.RunsCombine", spec := "runsCombine", inPlace := ["math/bits.Add64"], unfollowed := true, recurses := true, apart := false }
def RunsCombineSaid : Prop := runsCombineRow.holds Try.pinned (OpenSpec.ofChange runsCombineSpec)

/-- ITS FALSE NEIGHBOUR: 'it returns false'. Refute it at one input. -/
def runsCombineWrong : ChangeSpec := { name := "runsCombine", fn := fun _ => fun
  | [d1, d2, d3, d4] => { results := [.lit (.bool false)], args := [d1, d2, d3, d4] }
  | _ => none }
def RunsCombineWrongFalsely : Prop := runsCombineRow.holds Try.pinned (OpenSpec.ofChange runsCombineWrong)

/-- 'cartagelaw08.RunsOnce': WHATEVER THE INPUT: true; the input reads as it did. -/
def runsOnceSpec : ChangeSpec := { name := "runsOnce", fn := fun _ => fun
  | [d1, d2] => { results := [.lit (.bool true)], args := [d1, d2] }
  | _ => none }
def runsOnceRow : OpenClaim := { program := "ytkkbeljmloikkaa", sum := "f17811e957b1c4d1d2a8865876d05e3ae7c90e0b73654fba362cbea45c1a9470", func := "cartage/cartagelaw08.RunsOnce", spec := "runsOnce", inPlace := ["math/bits.Add64"], unfollowed := true, recurses := true, apart := false }
def RunsOnceSaid : Prop := runsOnceRow.holds Try.pinned (OpenSpec.ofChange runsOnceSpec)

/-- ITS FALSE NEIGHBOUR: 'it returns false'. Refute it at one input. -/
def runsOnceWrong : ChangeSpec := { name := "runsOnce", fn := fun _ => fun
  | [d1, d2] => { results := [.lit (.bool false)], args := [d1, d2] }
  | _ => none }
def RunsOnceWrongFalsely : Prop := runsOnceRow.holds Try.pinned (OpenSpec.ofChange runsOnceWrong)

/-- 'cartagelaw08.RunsTotal': WHATEVER THE INPUT: true; the input reads as it did. -/
def runsTotalSpec : ChangeSpec := { name := "runsTotal", fn := fun _ => fun
  | [d] => { results := [.lit (.bool true)], args := [d] }
  | _ => none }
def runsTotalRow : OpenClaim := { program := "ytkkbeljmloikkaa", sum := "f17811e957b1c4d1d2a8865876d05e3ae7c90e0b73654fba362cbea45c1a9470", func := "cartage/cartagelaw08.RunsTotal", spec := "runsTotal", inPlace := ["math/bits.Add64"], unfollowed := true, recurses := true, apart := false }
def RunsTotalSaid : Prop := runsTotalRow.holds Try.pinned (OpenSpec.ofChange runsTotalSpec)

/-- ITS FALSE NEIGHBOUR: 'it returns false'. Refute it at one input. -/
def runsTotalWrong : ChangeSpec := { name := "runsTotal", fn := fun _ => fun
  | [d] => { results := [.lit (.bool false)], args := [d] }
  | _ => none }
def RunsTotalWrongFalsely : Prop := runsTotalRow.holds Try.pinned (OpenSpec.ofChange runsTotalWrong)

/-- 'cartagelaw08.RunsParts': WHATEVER THE INPUT: true; the input reads as it did. -/
def runsPartsSpec : ChangeSpec := { name := "runsParts", fn := fun _ => fun
  | [d1, d2, d3] => { results := [.lit (.bool true)], args := [d1, d2, d3] }
  | _ => none }
def runsPartsRow : OpenClaim := { program := "ytkkbeljmloikkaa", sum := "f17811e957b1c4d1d2a8865876d05e3ae7c90e0b73654fba362cbea45c1a9470", func := "cartage/cartagelaw08.RunsParts", spec := "runsParts", inPlace := ["math/bits.Add64"], unfollowed := true, recurses := true, apart := false }
def RunsPartsSaid : Prop := runsPartsRow.holds Try.pinned (OpenSpec.ofChange runsPartsSpec)

/-- ITS FALSE NEIGHBOUR: 'it returns false'. Refute it at one input. -/
def runsPartsWrong : ChangeSpec := { name := "runsParts", fn := fun _ => fun
  | [d1, d2, d3] => { results := [.lit (.bool false)], args := [d1, d2, d3] }
  | _ => none }
def RunsPartsWrongFalsely : Prop := runsPartsRow.holds Try.pinned (OpenSpec.ofChange runsPartsWrong)

/-- 'cartagelaw08.RunsCuts': WHATEVER THE INPUT: true; the input reads as it did. -/
def runsCutsSpec : ChangeSpec := { name := "runsCuts", fn := fun _ => fun
  | [d1, d2] => { results := [.lit (.bool true)], args := [d1, d2] }
  | _ => none }
def runsCutsRow : OpenClaim := { program := "ytkkbeljmloikkaa", sum := "f17811e957b1c4d1d2a8865876d05e3ae7c90e0b73654fba362cbea45c1a9470", func := "cartage/cartagelaw08.RunsCuts", spec := "runsCuts", inPlace := ["math/bits.Add64"], unfollowed := true, recurses := true, apart := false }
def RunsCutsSaid : Prop := runsCutsRow.holds Try.pinned (OpenSpec.ofChange runsCutsSpec)

/-- ITS FALSE NEIGHBOUR: 'it returns false'. Refute it at one input. -/
def runsCutsWrong : ChangeSpec := { name := "runsCuts", fn := fun _ => fun
  | [d1, d2] => { results := [.lit (.bool false)], args := [d1, d2] }
  | _ => none }
def RunsCutsWrongFalsely : Prop := runsCutsRow.holds Try.pinned (OpenSpec.ofChange runsCutsWrong)

/- THE SECOND FORM. 'bulk': how many values and letters a reading holds, each counted each time it is reached (what is shared counts as often as it is met; a slice's spare places count too). A statement '..UptoSaid' is the law's where the arguments, and the package variables that the reading takes, are together of bulk at most 1048576: NARROWER than '..Said'. Prove '..Said' where nothing that the law and all that it calls make is longer than what came in: it says more and counts as full. Else prove '..UptoSaid'. A law counts once. -/
mutual
def uptoBulk {H : Type} : DataW H → Nat
  | .lit (.string bytes) => bytes.length + 1
  | .lit _ => 1
  | .nil => 1
  | .ptr d => uptoBulk d + 1
  | .slice elems spare => uptoBulkAll elems + uptoBulkAll spare + 1
  | .agg parts => uptoBulkAll parts + 1
  | .iface _ d => uptoBulk d + 1
  | .map entries => uptoBulkEntries entries + 1
  | .held _ => 1
def uptoBulkAll {H : Type} : List (DataW H) → Nat
  | [] => 0
  | d :: r => uptoBulk d + uptoBulkAll r
def uptoBulkEntries {H : Type} : List (Lit × DataW H) → Nat
  | [] => 0
  | x :: r => uptoBulkEntry x + uptoBulkEntries r
def uptoBulkEntry {H : Type} : Lit × DataW H → Nat
  | (.string bytes, d) => bytes.length + uptoBulk d + 1
  | (_, d) => uptoBulk d + 1
 end
def uptoSmall : (H : Type) → List (DataW H) → Bool := fun _ ds => decide (uptoBulkAll ds ≤ 1048576)
def OpenSpec.upto (s : _root_.Go.ChangeSpec) : _root_.Go.OpenSpec := { _root_.Go.OpenSpec.ofChange s with cond := some uptoSmall }

/-- 'cartagelaw08.RunsTell', WHERE WHAT IT READS IS OF BULK AT MOST 1048576: true; the input reads as it did. -/
def runsTellUptoRow : OpenClaim := { program := "ytkkbeljmloikkaa", sum := "f17811e957b1c4d1d2a8865876d05e3ae7c90e0b73654fba362cbea45c1a9470", func := "cartage/cartagelaw08.RunsTell", spec := "runsTell", inPlace := ["math/bits.Add64"], unfollowed := true, recurses := true, apart := false, narrowed := true }
def RunsTellUptoSaid : Prop := runsTellUptoRow.holds Try.pinned (OpenSpec.upto runsTellSpec)

/-- 'cartagelaw08.RunsMerge', WHERE WHAT IT READS IS OF BULK AT MOST 1048576: true; the input reads as it did. -/
def runsMergeUptoRow : OpenClaim := { program := "ytkkbeljmloikkaa", sum := "f17811e957b1c4d1d2a8865876d05e3ae7c90e0b73654fba362cbea45c1a9470", func := "cartage/cartagelaw08.RunsMerge", spec := "runsMerge", inPlace := ["math/bits.Add64"], unfollowed := true, recurses := true, apart := false, narrowed := true }
def RunsMergeUptoSaid : Prop := runsMergeUptoRow.holds Try.pinned (OpenSpec.upto runsMergeSpec)

/-- 'cartagelaw08.RunsBudget', WHERE WHAT IT READS IS OF BULK AT MOST 1048576: true; the input reads as it did. -/
def runsBudgetUptoRow : OpenClaim := { program := "ytkkbeljmloikkaa", sum := "f17811e957b1c4d1d2a8865876d05e3ae7c90e0b73654fba362cbea45c1a9470", func := "cartage/cartagelaw08.RunsBudget", spec := "runsBudget", inPlace := ["math/bits.Add64"], unfollowed := true, recurses := true, apart := false, narrowed := true }
def RunsBudgetUptoSaid : Prop := runsBudgetUptoRow.holds Try.pinned (OpenSpec.upto runsBudgetSpec)

/-- 'cartagelaw08.RunsCombine', WHERE WHAT IT READS IS OF BULK AT MOST 1048576: true; the input reads as it did. -/
def runsCombineUptoRow : OpenClaim := { program := "ytkkbeljmloikkaa", sum := "f17811e957b1c4d1d2a8865876d05e3ae7c90e0b73654fba362cbea45c1a9470", func := "cartage/cartagelaw08.RunsCombine", spec := "runsCombine", inPlace := ["math/bits.Add64"], unfollowed := true, recurses := true, apart := false, narrowed := true }
def RunsCombineUptoSaid : Prop := runsCombineUptoRow.holds Try.pinned (OpenSpec.upto runsCombineSpec)

/-- 'cartagelaw08.RunsOnce', WHERE WHAT IT READS IS OF BULK AT MOST 1048576: true; the input reads as it did. -/
def runsOnceUptoRow : OpenClaim := { program := "ytkkbeljmloikkaa", sum := "f17811e957b1c4d1d2a8865876d05e3ae7c90e0b73654fba362cbea45c1a9470", func := "cartage/cartagelaw08.RunsOnce", spec := "runsOnce", inPlace := ["math/bits.Add64"], unfollowed := true, recurses := true, apart := false, narrowed := true }
def RunsOnceUptoSaid : Prop := runsOnceUptoRow.holds Try.pinned (OpenSpec.upto runsOnceSpec)

/-- 'cartagelaw08.RunsTotal', WHERE WHAT IT READS IS OF BULK AT MOST 1048576: true; the input reads as it did. -/
def runsTotalUptoRow : OpenClaim := { program := "ytkkbeljmloikkaa", sum := "f17811e957b1c4d1d2a8865876d05e3ae7c90e0b73654fba362cbea45c1a9470", func := "cartage/cartagelaw08.RunsTotal", spec := "runsTotal", inPlace := ["math/bits.Add64"], unfollowed := true, recurses := true, apart := false, narrowed := true }
def RunsTotalUptoSaid : Prop := runsTotalUptoRow.holds Try.pinned (OpenSpec.upto runsTotalSpec)

/-- 'cartagelaw08.RunsParts', WHERE WHAT IT READS IS OF BULK AT MOST 1048576: true; the input reads as it did. -/
def runsPartsUptoRow : OpenClaim := { program := "ytkkbeljmloikkaa", sum := "f17811e957b1c4d1d2a8865876d05e3ae7c90e0b73654fba362cbea45c1a9470", func := "cartage/cartagelaw08.RunsParts", spec := "runsParts", inPlace := ["math/bits.Add64"], unfollowed := true, recurses := true, apart := false, narrowed := true }
def RunsPartsUptoSaid : Prop := runsPartsUptoRow.holds Try.pinned (OpenSpec.upto runsPartsSpec)

/-- 'cartagelaw08.RunsCuts', WHERE WHAT IT READS IS OF BULK AT MOST 1048576: true; the input reads as it did. -/
def runsCutsUptoRow : OpenClaim := { program := "ytkkbeljmloikkaa", sum := "f17811e957b1c4d1d2a8865876d05e3ae7c90e0b73654fba362cbea45c1a9470", func := "cartage/cartagelaw08.RunsCuts", spec := "runsCuts", inPlace := ["math/bits.Add64"], unfollowed := true, recurses := true, apart := false, narrowed := true }
def RunsCutsUptoSaid : Prop := runsCutsUptoRow.holds Try.pinned (OpenSpec.upto runsCutsSpec)

end Rows
end Go.Proofs.Ytkkbeljmloikkaa
