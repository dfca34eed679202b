/-
  No cell of these rows narrows 'for every input' (looked for: loops, veiled, ifaces, maps, wideKeys, modest, calm, conditions, laid).
  DERIVED. THE GIVEN ROWS OF THIS SEAT. 5 by the template 'for every input the law returns true; each argument reads behind the call as it read before'; 0 by the template 'total and deterministic' (their statements: YtbhgbhhdpcehbaaTotals.lean).
  GIVEN WITH THE SEED: the statements are not yours to turn. If you find one false, say at which input.
  Laid BY PROGRAM, IN A SANDBOX (cutbox-rows.mjs): the forced cells as the released guide's own fill.sh prints them over the translation ac66bc6605769cb9… (all of the seat's roots in one cut). By AI agents, Wed Nov 11 2026. No macro, syntax, notation, axiom, sorry.
-/
import Derived.Test.YtbhgbhhdpcehbaaChecked
import GoSem.Claim
import GoSem.ClaimJoined
import GoSem.ClaimMapViews
import Derived.JoinedTies
import Derived.KernelRfl
namespace Go.Proofs.Ytbhgbhhdpcehbaa
/- THE CELL 'sum', in the pinned program and in every row, IS THE sha256 OF THE DUMP (.gsa) THAT YtbhgbhhdpcehbaaProg.lean LOADS. Nothing in Lean hashes anything: it is a label: what it is worth is what the hold of that sum in a sandbox is worth. -/
noncomputable def Try.pinned : Pinned := { name := "ytbhgbhhdpcehbaa", sum := "ac66bc6605769cb9f8e61493fe4abbe1f0752f89ffa23c8d0913a533636bd13e", checked := Try.checked }
namespace Rows
def none {H : Type} : Left H := { results := [], args := [] }

/-- 'cartagelaw07.HeapTells': WHATEVER THE INPUT: true; the input reads as it did. -/
def heapTellsSpec : ChangeSpec := { name := "heapTells", fn := fun _ => fun
  | [d1, d2] => { results := [.lit (.bool true)], args := [d1, d2] }
  | _ => none }
def heapTellsRow : OpenClaim := { program := "ytbhgbhhdpcehbaa", sum := "ac66bc6605769cb9f8e61493fe4abbe1f0752f89ffa23c8d0913a533636bd13e", func := "cartage/cartagelaw07.HeapTells", spec := "heapTells", unfollowed := true, recurses := true, apart := false }
def HeapTellsSaid : Prop := heapTellsRow.holds Try.pinned (OpenSpec.ofChange heapTellsSpec)

/-- ITS FALSE NEIGHBOUR: 'it returns false'. Refute it at one input. -/
def heapTellsWrong : ChangeSpec := { name := "heapTells", fn := fun _ => fun
  | [d1, d2] => { results := [.lit (.bool false)], args := [d1, d2] }
  | _ => none }
def HeapTellsWrongFalsely : Prop := heapTellsRow.holds Try.pinned (OpenSpec.ofChange heapTellsWrong)

/-- 'cartagelaw07.HeapSorts': WHATEVER THE INPUT: true; the input reads as it did. -/
def heapSortsSpec : ChangeSpec := { name := "heapSorts", fn := fun _ => fun
  | [d] => { results := [.lit (.bool true)], args := [d] }
  | _ => none }
def heapSortsRow : OpenClaim := { program := "ytbhgbhhdpcehbaa", sum := "ac66bc6605769cb9f8e61493fe4abbe1f0752f89ffa23c8d0913a533636bd13e", func := "cartage/cartagelaw07.HeapSorts", spec := "heapSorts", unfollowed := true, recurses := true, apart := false }
def HeapSortsSaid : Prop := heapSortsRow.holds Try.pinned (OpenSpec.ofChange heapSortsSpec)

/-- ITS FALSE NEIGHBOUR: 'it returns false'. Refute it at one input. -/
def heapSortsWrong : ChangeSpec := { name := "heapSorts", fn := fun _ => fun
  | [d] => { results := [.lit (.bool false)], args := [d] }
  | _ => none }
def HeapSortsWrongFalsely : Prop := heapSortsRow.holds Try.pinned (OpenSpec.ofChange heapSortsWrong)

/-- 'cartagelaw07.HeapTwo': WHATEVER THE INPUT: true; the input reads as it did. -/
def heapTwoSpec : ChangeSpec := { name := "heapTwo", fn := fun _ => fun
  | [d] => { results := [.lit (.bool true)], args := [d] }
  | _ => none }
def heapTwoRow : OpenClaim := { program := "ytbhgbhhdpcehbaa", sum := "ac66bc6605769cb9f8e61493fe4abbe1f0752f89ffa23c8d0913a533636bd13e", func := "cartage/cartagelaw07.HeapTwo", spec := "heapTwo", unfollowed := true, recurses := true, apart := false }
def HeapTwoSaid : Prop := heapTwoRow.holds Try.pinned (OpenSpec.ofChange heapTwoSpec)

/-- ITS FALSE NEIGHBOUR: 'it returns false'. Refute it at one input. -/
def heapTwoWrong : ChangeSpec := { name := "heapTwo", fn := fun _ => fun
  | [d] => { results := [.lit (.bool false)], args := [d] }
  | _ => none }
def HeapTwoWrongFalsely : Prop := heapTwoRow.holds Try.pinned (OpenSpec.ofChange heapTwoWrong)

/-- 'cartagelaw07.HeapLast': WHATEVER THE INPUT: true; the input reads as it did. -/
def heapLastSpec : ChangeSpec := { name := "heapLast", fn := fun _ => fun
  | [d] => { results := [.lit (.bool true)], args := [d] }
  | _ => none }
def heapLastRow : OpenClaim := { program := "ytbhgbhhdpcehbaa", sum := "ac66bc6605769cb9f8e61493fe4abbe1f0752f89ffa23c8d0913a533636bd13e", func := "cartage/cartagelaw07.HeapLast", spec := "heapLast", unfollowed := true, recurses := true, apart := false }
def HeapLastSaid : Prop := heapLastRow.holds Try.pinned (OpenSpec.ofChange heapLastSpec)

/-- ITS FALSE NEIGHBOUR: 'it returns false'. Refute it at one input. -/
def heapLastWrong : ChangeSpec := { name := "heapLast", fn := fun _ => fun
  | [d] => { results := [.lit (.bool false)], args := [d] }
  | _ => none }
def HeapLastWrongFalsely : Prop := heapLastRow.holds Try.pinned (OpenSpec.ofChange heapLastWrong)

/-- 'cartagelaw07.HeapAgain': WHATEVER THE INPUT: true; the input reads as it did. -/
def heapAgainSpec : ChangeSpec := { name := "heapAgain", fn := fun _ => fun
  | [d1, d2] => { results := [.lit (.bool true)], args := [d1, d2] }
  | _ => none }
def heapAgainRow : OpenClaim := { program := "ytbhgbhhdpcehbaa", sum := "ac66bc6605769cb9f8e61493fe4abbe1f0752f89ffa23c8d0913a533636bd13e", func := "cartage/cartagelaw07.HeapAgain", spec := "heapAgain", unfollowed := true, recurses := true, apart := false }
def HeapAgainSaid : Prop := heapAgainRow.holds Try.pinned (OpenSpec.ofChange heapAgainSpec)

/-- ITS FALSE NEIGHBOUR: 'it returns false'. Refute it at one input. -/
def heapAgainWrong : ChangeSpec := { name := "heapAgain", fn := fun _ => fun
  | [d1, d2] => { results := [.lit (.bool false)], args := [d1, d2] }
  | _ => none }
def HeapAgainWrongFalsely : Prop := heapAgainRow.holds Try.pinned (OpenSpec.ofChange heapAgainWrong)

/- THE SECOND FORM. 'bulk': how many values and letters a reading holds, each counted each time it is reached (what is shared counts as often as it is met; a slice's spare places count too). A statement '..UptoSaid' is the law's where the arguments, and the package variables that the reading takes, are together of bulk at most 1048576: NARROWER than '..Said'. Prove '..Said' where nothing that the law and all that it calls make is longer than what came in: it says more and counts as full. Else prove '..UptoSaid'. A law counts once. -/
mutual
def uptoBulk {H : Type} : DataW H → Nat
  | .lit (.string bytes) => bytes.length + 1
  | .lit _ => 1
  | .nil => 1
  | .ptr d => uptoBulk d + 1
  | .slice elems spare => uptoBulkAll elems + uptoBulkAll spare + 1
  | .agg parts => uptoBulkAll parts + 1
  | .iface _ d => uptoBulk d + 1
  | .map entries => uptoBulkEntries entries + 1
  | .held _ => 1
def uptoBulkAll {H : Type} : List (DataW H) → Nat
  | [] => 0
  | d :: r => uptoBulk d + uptoBulkAll r
def uptoBulkEntries {H : Type} : List (Lit × DataW H) → Nat
  | [] => 0
  | x :: r => uptoBulkEntry x + uptoBulkEntries r
def uptoBulkEntry {H : Type} : Lit × DataW H → Nat
  | (.string bytes, d) => bytes.length + uptoBulk d + 1
  | (_, d) => uptoBulk d + 1
 end
def uptoSmall : (H : Type) → List (DataW H) → Bool := fun _ ds => decide (uptoBulkAll ds ≤ 1048576)
def OpenSpec.upto (s : _root_.Go.ChangeSpec) : _root_.Go.OpenSpec := { _root_.Go.OpenSpec.ofChange s with cond := some uptoSmall }

/-- 'cartagelaw07.HeapTells', WHERE WHAT IT READS IS OF BULK AT MOST 1048576: true; the input reads as it did. -/
def heapTellsUptoRow : OpenClaim := { program := "ytbhgbhhdpcehbaa", sum := "ac66bc6605769cb9f8e61493fe4abbe1f0752f89ffa23c8d0913a533636bd13e", func := "cartage/cartagelaw07.HeapTells", spec := "heapTells", unfollowed := true, recurses := true, apart := false, narrowed := true }
def HeapTellsUptoSaid : Prop := heapTellsUptoRow.holds Try.pinned (OpenSpec.upto heapTellsSpec)

/-- 'cartagelaw07.HeapSorts', WHERE WHAT IT READS IS OF BULK AT MOST 1048576: true; the input reads as it did. -/
def heapSortsUptoRow : OpenClaim := { program := "ytbhgbhhdpcehbaa", sum := "ac66bc6605769cb9f8e61493fe4abbe1f0752f89ffa23c8d0913a533636bd13e", func := "cartage/cartagelaw07.HeapSorts", spec := "heapSorts", unfollowed := true, recurses := true, apart := false, narrowed := true }
def HeapSortsUptoSaid : Prop := heapSortsUptoRow.holds Try.pinned (OpenSpec.upto heapSortsSpec)

/-- 'cartagelaw07.HeapTwo', WHERE WHAT IT READS IS OF BULK AT MOST 1048576: true; the input reads as it did. -/
def heapTwoUptoRow : OpenClaim := { program := "ytbhgbhhdpcehbaa", sum := "ac66bc6605769cb9f8e61493fe4abbe1f0752f89ffa23c8d0913a533636bd13e", func := "cartage/cartagelaw07.HeapTwo", spec := "heapTwo", unfollowed := true, recurses := true, apart := false, narrowed := true }
def HeapTwoUptoSaid : Prop := heapTwoUptoRow.holds Try.pinned (OpenSpec.upto heapTwoSpec)

/-- 'cartagelaw07.HeapLast', WHERE WHAT IT READS IS OF BULK AT MOST 1048576: true; the input reads as it did. -/
def heapLastUptoRow : OpenClaim := { program := "ytbhgbhhdpcehbaa", sum := "ac66bc6605769cb9f8e61493fe4abbe1f0752f89ffa23c8d0913a533636bd13e", func := "cartage/cartagelaw07.HeapLast", spec := "heapLast", unfollowed := true, recurses := true, apart := false, narrowed := true }
def HeapLastUptoSaid : Prop := heapLastUptoRow.holds Try.pinned (OpenSpec.upto heapLastSpec)

/-- 'cartagelaw07.HeapAgain', WHERE WHAT IT READS IS OF BULK AT MOST 1048576: true; the input reads as it did. -/
def heapAgainUptoRow : OpenClaim := { program := "ytbhgbhhdpcehbaa", sum := "ac66bc6605769cb9f8e61493fe4abbe1f0752f89ffa23c8d0913a533636bd13e", func := "cartage/cartagelaw07.HeapAgain", spec := "heapAgain", unfollowed := true, recurses := true, apart := false, narrowed := true }
def HeapAgainUptoSaid : Prop := heapAgainUptoRow.holds Try.pinned (OpenSpec.upto heapAgainSpec)

end Rows
end Go.Proofs.Ytbhgbhhdpcehbaa
