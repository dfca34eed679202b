/-
  No cell of these rows narrows 'for every input' (looked for: loops, veiled, ifaces, maps, wideKeys, modest, calm, conditions, laid).
  DERIVED. THE GIVEN ROWS OF THIS SEAT. 7 by the template 'for every input the law returns true; each argument reads behind the call as it read before'; 0 by the template 'total and deterministic' (their statements: YtigkckpjbnflpaaTotals.lean).
  GIVEN WITH THE SEED: the statements are not yours to turn. If you find one false, say at which input.
  Laid BY PROGRAM, IN A SANDBOX (cutbox-rows.mjs): the forced cells as the released guide's own fill.sh prints them over the translation 5e162cfa386da778… (all of the seat's roots in one cut). By AI agents, Wed Nov 11 2026. No macro, syntax, notation, axiom, sorry.
-/
import Derived.Test.YtigkckpjbnflpaaChecked
import GoSem.Claim
import GoSem.ClaimJoined
import GoSem.ClaimMapViews
import Derived.JoinedTies
import Derived.KernelRfl
namespace Go.Proofs.Ytigkckpjbnflpaa
/- THE CELL 'sum', in the pinned program and in every row, IS THE sha256 OF THE DUMP (.gsa) THAT YtigkckpjbnflpaaProg.lean LOADS. Nothing in Lean hashes anything: it is a label: what it is worth is what the hold of that sum in a sandbox is worth. -/
noncomputable def Try.pinned : Pinned := { name := "ytigkckpjbnflpaa", sum := "5e162cfa386da778d54556cc172db71411517e63647687bc22ef2774cd8e97cd", checked := Try.checked }
namespace Rows
def none {H : Type} : Left H := { results := [], args := [] }

/-- 'cartagelaw05.LruTells': WHATEVER THE INPUT: true; the input reads as it did. -/
def lruTellsSpec : ChangeSpec := { name := "lruTells", fn := fun _ => fun
  | [d1, d2, d3] => { results := [.lit (.bool true)], args := [d1, d2, d3] }
  | _ => none }
def lruTellsRow : OpenClaim := { program := "ytigkckpjbnflpaa", sum := "5e162cfa386da778d54556cc172db71411517e63647687bc22ef2774cd8e97cd", func := "cartage/cartagelaw05.LruTells", spec := "lruTells", unfollowed := true, recurses := true, apart := false }
def LruTellsSaid : Prop := lruTellsRow.holds Try.pinned (OpenSpec.ofChange lruTellsSpec)

/-- ITS FALSE NEIGHBOUR: 'it returns false'. Refute it at one input. -/
def lruTellsWrong : ChangeSpec := { name := "lruTells", fn := fun _ => fun
  | [d1, d2, d3] => { results := [.lit (.bool false)], args := [d1, d2, d3] }
  | _ => none }
def LruTellsWrongFalsely : Prop := lruTellsRow.holds Try.pinned (OpenSpec.ofChange lruTellsWrong)

/-- 'cartagelaw05.LruPinned': WHATEVER THE INPUT: true; the input reads as it did. -/
def lruPinnedSpec : ChangeSpec := { name := "lruPinned", fn := fun _ => fun
  | [d1, d2] => { results := [.lit (.bool true)], args := [d1, d2] }
  | _ => none }
def lruPinnedRow : OpenClaim := { program := "ytigkckpjbnflpaa", sum := "5e162cfa386da778d54556cc172db71411517e63647687bc22ef2774cd8e97cd", func := "cartage/cartagelaw05.LruPinned", spec := "lruPinned", unfollowed := true, recurses := true, apart := false }
def LruPinnedSaid : Prop := lruPinnedRow.holds Try.pinned (OpenSpec.ofChange lruPinnedSpec)

/-- ITS FALSE NEIGHBOUR: 'it returns false'. Refute it at one input. -/
def lruPinnedWrong : ChangeSpec := { name := "lruPinned", fn := fun _ => fun
  | [d1, d2] => { results := [.lit (.bool false)], args := [d1, d2] }
  | _ => none }
def LruPinnedWrongFalsely : Prop := lruPinnedRow.holds Try.pinned (OpenSpec.ofChange lruPinnedWrong)

/-- 'cartagelaw05.LruLast': WHATEVER THE INPUT: true; the input reads as it did. -/
def lruLastSpec : ChangeSpec := { name := "lruLast", fn := fun _ => fun
  | [d1, d2] => { results := [.lit (.bool true)], args := [d1, d2] }
  | _ => none }
def lruLastRow : OpenClaim := { program := "ytigkckpjbnflpaa", sum := "5e162cfa386da778d54556cc172db71411517e63647687bc22ef2774cd8e97cd", func := "cartage/cartagelaw05.LruLast", spec := "lruLast", unfollowed := true, recurses := true, apart := false }
def LruLastSaid : Prop := lruLastRow.holds Try.pinned (OpenSpec.ofChange lruLastSpec)

/-- ITS FALSE NEIGHBOUR: 'it returns false'. Refute it at one input. -/
def lruLastWrong : ChangeSpec := { name := "lruLast", fn := fun _ => fun
  | [d1, d2] => { results := [.lit (.bool false)], args := [d1, d2] }
  | _ => none }
def LruLastWrongFalsely : Prop := lruLastRow.holds Try.pinned (OpenSpec.ofChange lruLastWrong)

/-- 'cartagelaw05.LruCounts': WHATEVER THE INPUT: true; the input reads as it did. -/
def lruCountsSpec : ChangeSpec := { name := "lruCounts", fn := fun _ => fun
  | [d] => { results := [.lit (.bool true)], args := [d] }
  | _ => none }
def lruCountsRow : OpenClaim := { program := "ytigkckpjbnflpaa", sum := "5e162cfa386da778d54556cc172db71411517e63647687bc22ef2774cd8e97cd", func := "cartage/cartagelaw05.LruCounts", spec := "lruCounts", unfollowed := true, recurses := true, apart := false }
def LruCountsSaid : Prop := lruCountsRow.holds Try.pinned (OpenSpec.ofChange lruCountsSpec)

/-- ITS FALSE NEIGHBOUR: 'it returns false'. Refute it at one input. -/
def lruCountsWrong : ChangeSpec := { name := "lruCounts", fn := fun _ => fun
  | [d] => { results := [.lit (.bool false)], args := [d] }
  | _ => none }
def LruCountsWrongFalsely : Prop := lruCountsRow.holds Try.pinned (OpenSpec.ofChange lruCountsWrong)

/-- 'cartagelaw05.LruFull': WHATEVER THE INPUT: true; the input reads as it did. -/
def lruFullSpec : ChangeSpec := { name := "lruFull", fn := fun _ => fun
  | [d1, d2] => { results := [.lit (.bool true)], args := [d1, d2] }
  | _ => none }
def lruFullRow : OpenClaim := { program := "ytigkckpjbnflpaa", sum := "5e162cfa386da778d54556cc172db71411517e63647687bc22ef2774cd8e97cd", func := "cartage/cartagelaw05.LruFull", spec := "lruFull", unfollowed := true, recurses := true, apart := false }
def LruFullSaid : Prop := lruFullRow.holds Try.pinned (OpenSpec.ofChange lruFullSpec)

/-- ITS FALSE NEIGHBOUR: 'it returns false'. Refute it at one input. -/
def lruFullWrong : ChangeSpec := { name := "lruFull", fn := fun _ => fun
  | [d1, d2] => { results := [.lit (.bool false)], args := [d1, d2] }
  | _ => none }
def LruFullWrongFalsely : Prop := lruFullRow.holds Try.pinned (OpenSpec.ofChange lruFullWrong)

/-- 'cartagelaw05.LruDrops': WHATEVER THE INPUT: true; the input reads as it did. -/
def lruDropsSpec : ChangeSpec := { name := "lruDrops", fn := fun _ => fun
  | [d1, d2] => { results := [.lit (.bool true)], args := [d1, d2] }
  | _ => none }
def lruDropsRow : OpenClaim := { program := "ytigkckpjbnflpaa", sum := "5e162cfa386da778d54556cc172db71411517e63647687bc22ef2774cd8e97cd", func := "cartage/cartagelaw05.LruDrops", spec := "lruDrops", unfollowed := true, recurses := true, apart := false }
def LruDropsSaid : Prop := lruDropsRow.holds Try.pinned (OpenSpec.ofChange lruDropsSpec)

/-- ITS FALSE NEIGHBOUR: 'it returns false'. Refute it at one input. -/
def lruDropsWrong : ChangeSpec := { name := "lruDrops", fn := fun _ => fun
  | [d1, d2] => { results := [.lit (.bool false)], args := [d1, d2] }
  | _ => none }
def LruDropsWrongFalsely : Prop := lruDropsRow.holds Try.pinned (OpenSpec.ofChange lruDropsWrong)

/-- 'cartagelaw05.LruTwo': WHATEVER THE INPUT: true; the input reads as it did. -/
def lruTwoSpec : ChangeSpec := { name := "lruTwo", fn := fun _ => fun
  | [d1, d2] => { results := [.lit (.bool true)], args := [d1, d2] }
  | _ => none }
def lruTwoRow : OpenClaim := { program := "ytigkckpjbnflpaa", sum := "5e162cfa386da778d54556cc172db71411517e63647687bc22ef2774cd8e97cd", func := "cartage/cartagelaw05.LruTwo", spec := "lruTwo", unfollowed := true, recurses := true, apart := false }
def LruTwoSaid : Prop := lruTwoRow.holds Try.pinned (OpenSpec.ofChange lruTwoSpec)

/-- ITS FALSE NEIGHBOUR: 'it returns false'. Refute it at one input. -/
def lruTwoWrong : ChangeSpec := { name := "lruTwo", fn := fun _ => fun
  | [d1, d2] => { results := [.lit (.bool false)], args := [d1, d2] }
  | _ => none }
def LruTwoWrongFalsely : Prop := lruTwoRow.holds Try.pinned (OpenSpec.ofChange lruTwoWrong)

/- THE SECOND FORM. 'bulk': how many values and letters a reading holds, each counted each time it is reached (what is shared counts as often as it is met; a slice's spare places count too). A statement '..UptoSaid' is the law's where the arguments, and the package variables that the reading takes, are together of bulk at most 1048576: NARROWER than '..Said'. Prove '..Said' where nothing that the law and all that it calls make is longer than what came in: it says more and counts as full. Else prove '..UptoSaid'. A law counts once. -/
mutual
def uptoBulk {H : Type} : DataW H → Nat
  | .lit (.string bytes) => bytes.length + 1
  | .lit _ => 1
  | .nil => 1
  | .ptr d => uptoBulk d + 1
  | .slice elems spare => uptoBulkAll elems + uptoBulkAll spare + 1
  | .agg parts => uptoBulkAll parts + 1
  | .iface _ d => uptoBulk d + 1
  | .map entries => uptoBulkEntries entries + 1
  | .held _ => 1
def uptoBulkAll {H : Type} : List (DataW H) → Nat
  | [] => 0
  | d :: r => uptoBulk d + uptoBulkAll r
def uptoBulkEntries {H : Type} : List (Lit × DataW H) → Nat
  | [] => 0
  | x :: r => uptoBulkEntry x + uptoBulkEntries r
def uptoBulkEntry {H : Type} : Lit × DataW H → Nat
  | (.string bytes, d) => bytes.length + uptoBulk d + 1
  | (_, d) => uptoBulk d + 1
 end
def uptoSmall : (H : Type) → List (DataW H) → Bool := fun _ ds => decide (uptoBulkAll ds ≤ 1048576)
def OpenSpec.upto (s : _root_.Go.ChangeSpec) : _root_.Go.OpenSpec := { _root_.Go.OpenSpec.ofChange s with cond := some uptoSmall }

/-- 'cartagelaw05.LruTells', WHERE WHAT IT READS IS OF BULK AT MOST 1048576: true; the input reads as it did. -/
def lruTellsUptoRow : OpenClaim := { program := "ytigkckpjbnflpaa", sum := "5e162cfa386da778d54556cc172db71411517e63647687bc22ef2774cd8e97cd", func := "cartage/cartagelaw05.LruTells", spec := "lruTells", unfollowed := true, recurses := true, apart := false, narrowed := true }
def LruTellsUptoSaid : Prop := lruTellsUptoRow.holds Try.pinned (OpenSpec.upto lruTellsSpec)

/-- 'cartagelaw05.LruPinned', WHERE WHAT IT READS IS OF BULK AT MOST 1048576: true; the input reads as it did. -/
def lruPinnedUptoRow : OpenClaim := { program := "ytigkckpjbnflpaa", sum := "5e162cfa386da778d54556cc172db71411517e63647687bc22ef2774cd8e97cd", func := "cartage/cartagelaw05.LruPinned", spec := "lruPinned", unfollowed := true, recurses := true, apart := false, narrowed := true }
def LruPinnedUptoSaid : Prop := lruPinnedUptoRow.holds Try.pinned (OpenSpec.upto lruPinnedSpec)

/-- 'cartagelaw05.LruLast', WHERE WHAT IT READS IS OF BULK AT MOST 1048576: true; the input reads as it did. -/
def lruLastUptoRow : OpenClaim := { program := "ytigkckpjbnflpaa", sum := "5e162cfa386da778d54556cc172db71411517e63647687bc22ef2774cd8e97cd", func := "cartage/cartagelaw05.LruLast", spec := "lruLast", unfollowed := true, recurses := true, apart := false, narrowed := true }
def LruLastUptoSaid : Prop := lruLastUptoRow.holds Try.pinned (OpenSpec.upto lruLastSpec)

/-- 'cartagelaw05.LruCounts', WHERE WHAT IT READS IS OF BULK AT MOST 1048576: true; the input reads as it did. -/
def lruCountsUptoRow : OpenClaim := { program := "ytigkckpjbnflpaa", sum := "5e162cfa386da778d54556cc172db71411517e63647687bc22ef2774cd8e97cd", func := "cartage/cartagelaw05.LruCounts", spec := "lruCounts", unfollowed := true, recurses := true, apart := false, narrowed := true }
def LruCountsUptoSaid : Prop := lruCountsUptoRow.holds Try.pinned (OpenSpec.upto lruCountsSpec)

/-- 'cartagelaw05.LruFull', WHERE WHAT IT READS IS OF BULK AT MOST 1048576: true; the input reads as it did. -/
def lruFullUptoRow : OpenClaim := { program := "ytigkckpjbnflpaa", sum := "5e162cfa386da778d54556cc172db71411517e63647687bc22ef2774cd8e97cd", func := "cartage/cartagelaw05.LruFull", spec := "lruFull", unfollowed := true, recurses := true, apart := false, narrowed := true }
def LruFullUptoSaid : Prop := lruFullUptoRow.holds Try.pinned (OpenSpec.upto lruFullSpec)

/-- 'cartagelaw05.LruDrops', WHERE WHAT IT READS IS OF BULK AT MOST 1048576: true; the input reads as it did. -/
def lruDropsUptoRow : OpenClaim := { program := "ytigkckpjbnflpaa", sum := "5e162cfa386da778d54556cc172db71411517e63647687bc22ef2774cd8e97cd", func := "cartage/cartagelaw05.LruDrops", spec := "lruDrops", unfollowed := true, recurses := true, apart := false, narrowed := true }
def LruDropsUptoSaid : Prop := lruDropsUptoRow.holds Try.pinned (OpenSpec.upto lruDropsSpec)

/-- 'cartagelaw05.LruTwo', WHERE WHAT IT READS IS OF BULK AT MOST 1048576: true; the input reads as it did. -/
def lruTwoUptoRow : OpenClaim := { program := "ytigkckpjbnflpaa", sum := "5e162cfa386da778d54556cc172db71411517e63647687bc22ef2774cd8e97cd", func := "cartage/cartagelaw05.LruTwo", spec := "lruTwo", unfollowed := true, recurses := true, apart := false, narrowed := true }
def LruTwoUptoSaid : Prop := lruTwoUptoRow.holds Try.pinned (OpenSpec.upto lruTwoSpec)

end Rows
end Go.Proofs.Ytigkckpjbnflpaa
