/-
  No cell of these rows narrows 'for every input' (looked for: loops, veiled, ifaces, maps, wideKeys, modest, calm, conditions, laid).
  DERIVED. THE GIVEN ROWS OF THIS SEAT. 6 by the template 'for every input the law returns true; each argument reads behind the call as it read before'; 0 by the template 'total and deterministic' (their statements: YtbhaahohaccecaaTotals.lean).
  GIVEN WITH THE SEED: the statements are not yours to turn. If you find one false, say at which input.
  Laid BY PROGRAM, IN A SANDBOX (cutbox-rows.mjs): the forced cells as the released guide's own fill.sh prints them over the translation 9de61e7ce7caf062… (all of the seat's roots in one cut). By AI agents, Wed Nov 11 2026. No macro, syntax, notation, axiom, sorry.
-/
import Derived.Test.YtbhaahohaccecaaChecked
import GoSem.Claim
import GoSem.ClaimJoined
import GoSem.ClaimMapViews
import Derived.JoinedTies
import Derived.KernelRfl
namespace Go.Proofs.Ytbhaahohaccecaa
/- THE CELL 'sum', in the pinned program and in every row, IS THE sha256 OF THE DUMP (.gsa) THAT YtbhaahohaccecaaProg.lean LOADS. Nothing in Lean hashes anything: it is a label: what it is worth is what the hold of that sum in a sandbox is worth. -/
noncomputable def Try.pinned : Pinned := { name := "ytbhaahohaccecaa", sum := "9de61e7ce7caf06201d91bc31247f8edb4fa54eb6a2ae8c0238b1afa44025b2a", checked := Try.checked }
namespace Rows
def none {H : Type} : Left H := { results := [], args := [] }

/-- 'cartagelaw09.RecordReads': WHATEVER THE INPUT: true; the input reads as it did. -/
def recordReadsSpec : ChangeSpec := { name := "recordReads", fn := fun _ => fun
  | [d] => { results := [.lit (.bool true)], args := [d] }
  | _ => none }
def recordReadsRow : OpenClaim := { program := "ytbhaahohaccecaa", sum := "9de61e7ce7caf06201d91bc31247f8edb4fa54eb6a2ae8c0238b1afa44025b2a", func := "cartage/cartagelaw09.RecordReads", spec := "recordReads", inPlace := ["sync/atomic.AddInt64", "sync/atomic.SwapUint32", "sync/atomic.LoadUint32"], unfollowed := true, recurses := true, apart := false }
def RecordReadsSaid : Prop := recordReadsRow.holds Try.pinned (OpenSpec.ofChange recordReadsSpec)

/-- ITS FALSE NEIGHBOUR: 'it returns false'. Refute it at one input. -/
def recordReadsWrong : ChangeSpec := { name := "recordReads", fn := fun _ => fun
  | [d] => { results := [.lit (.bool false)], args := [d] }
  | _ => none }
def RecordReadsWrongFalsely : Prop := recordReadsRow.holds Try.pinned (OpenSpec.ofChange recordReadsWrong)

/-- 'cartagelaw09.RecordOne': WHATEVER THE INPUT: true; the input reads as it did. -/
def recordOneSpec : ChangeSpec := { name := "recordOne", fn := fun _ => fun
  | [d] => { results := [.lit (.bool true)], args := [d] }
  | _ => none }
def recordOneRow : OpenClaim := { program := "ytbhaahohaccecaa", sum := "9de61e7ce7caf06201d91bc31247f8edb4fa54eb6a2ae8c0238b1afa44025b2a", func := "cartage/cartagelaw09.RecordOne", spec := "recordOne", inPlace := ["sync/atomic.AddInt64", "sync/atomic.SwapUint32", "sync/atomic.LoadUint32"], unfollowed := true, recurses := true, apart := false }
def RecordOneSaid : Prop := recordOneRow.holds Try.pinned (OpenSpec.ofChange recordOneSpec)

/-- ITS FALSE NEIGHBOUR: 'it returns false'. Refute it at one input. -/
def recordOneWrong : ChangeSpec := { name := "recordOne", fn := fun _ => fun
  | [d] => { results := [.lit (.bool false)], args := [d] }
  | _ => none }
def RecordOneWrongFalsely : Prop := recordOneRow.holds Try.pinned (OpenSpec.ofChange recordOneWrong)

/-- 'cartagelaw09.RecordThen': WHATEVER THE INPUT: true; the input reads as it did. -/
def recordThenSpec : ChangeSpec := { name := "recordThen", fn := fun _ => fun
  | [d1, d2] => { results := [.lit (.bool true)], args := [d1, d2] }
  | _ => none }
def recordThenRow : OpenClaim := { program := "ytbhaahohaccecaa", sum := "9de61e7ce7caf06201d91bc31247f8edb4fa54eb6a2ae8c0238b1afa44025b2a", func := "cartage/cartagelaw09.RecordThen", spec := "recordThen", inPlace := ["sync/atomic.AddInt64", "sync/atomic.SwapUint32", "sync/atomic.LoadUint32"], unfollowed := true, recurses := true, apart := false }
def RecordThenSaid : Prop := recordThenRow.holds Try.pinned (OpenSpec.ofChange recordThenSpec)

/-- ITS FALSE NEIGHBOUR: 'it returns false'. Refute it at one input. -/
def recordThenWrong : ChangeSpec := { name := "recordThen", fn := fun _ => fun
  | [d1, d2] => { results := [.lit (.bool false)], args := [d1, d2] }
  | _ => none }
def RecordThenWrongFalsely : Prop := recordThenRow.holds Try.pinned (OpenSpec.ofChange recordThenWrong)

/-- 'cartagelaw09.RecordRoom': WHATEVER THE INPUT: true; the input reads as it did. -/
def recordRoomSpec : ChangeSpec := { name := "recordRoom", fn := fun _ => fun
  | [d1, d2] => { results := [.lit (.bool true)], args := [d1, d2] }
  | _ => none }
def recordRoomRow : OpenClaim := { program := "ytbhaahohaccecaa", sum := "9de61e7ce7caf06201d91bc31247f8edb4fa54eb6a2ae8c0238b1afa44025b2a", func := "cartage/cartagelaw09.RecordRoom", spec := "recordRoom", inPlace := ["sync/atomic.AddInt64", "sync/atomic.SwapUint32", "sync/atomic.LoadUint32"], unfollowed := true, recurses := true, apart := false }
def RecordRoomSaid : Prop := recordRoomRow.holds Try.pinned (OpenSpec.ofChange recordRoomSpec)

/-- ITS FALSE NEIGHBOUR: 'it returns false'. Refute it at one input. -/
def recordRoomWrong : ChangeSpec := { name := "recordRoom", fn := fun _ => fun
  | [d1, d2] => { results := [.lit (.bool false)], args := [d1, d2] }
  | _ => none }
def RecordRoomWrongFalsely : Prop := recordRoomRow.holds Try.pinned (OpenSpec.ofChange recordRoomWrong)

/-- 'cartagelaw09.RecordTells': WHATEVER THE INPUT: true; the input reads as it did. -/
def recordTellsSpec : ChangeSpec := { name := "recordTells", fn := fun _ => fun
  | [d] => { results := [.lit (.bool true)], args := [d] }
  | _ => none }
def recordTellsRow : OpenClaim := { program := "ytbhaahohaccecaa", sum := "9de61e7ce7caf06201d91bc31247f8edb4fa54eb6a2ae8c0238b1afa44025b2a", func := "cartage/cartagelaw09.RecordTells", spec := "recordTells", inPlace := ["sync/atomic.AddInt64", "sync/atomic.SwapUint32", "sync/atomic.LoadUint32", "sync/atomic.StoreUint32"], unfollowed := true, recurses := true, apart := false }
def RecordTellsSaid : Prop := recordTellsRow.holds Try.pinned (OpenSpec.ofChange recordTellsSpec)

/-- ITS FALSE NEIGHBOUR: 'it returns false'. Refute it at one input. -/
def recordTellsWrong : ChangeSpec := { name := "recordTells", fn := fun _ => fun
  | [d] => { results := [.lit (.bool false)], args := [d] }
  | _ => none }
def RecordTellsWrongFalsely : Prop := recordTellsRow.holds Try.pinned (OpenSpec.ofChange recordTellsWrong)

/-- 'cartagelaw09.RecordDown': WHATEVER THE INPUT: true; the input reads as it did. -/
def recordDownSpec : ChangeSpec := { name := "recordDown", fn := fun _ => fun
  | [d1, d2, d3] => { results := [.lit (.bool true)], args := [d1, d2, d3] }
  | _ => none }
def recordDownRow : OpenClaim := { program := "ytbhaahohaccecaa", sum := "9de61e7ce7caf06201d91bc31247f8edb4fa54eb6a2ae8c0238b1afa44025b2a", func := "cartage/cartagelaw09.RecordDown", spec := "recordDown", inPlace := ["sync/atomic.AddInt64", "sync/atomic.SwapUint32", "sync/atomic.LoadUint32", "sync/atomic.StoreUint32"], unfollowed := true, recurses := true, apart := false }
def RecordDownSaid : Prop := recordDownRow.holds Try.pinned (OpenSpec.ofChange recordDownSpec)

/-- ITS FALSE NEIGHBOUR: 'it returns false'. Refute it at one input. -/
def recordDownWrong : ChangeSpec := { name := "recordDown", fn := fun _ => fun
  | [d1, d2, d3] => { results := [.lit (.bool false)], args := [d1, d2, d3] }
  | _ => none }
def RecordDownWrongFalsely : Prop := recordDownRow.holds Try.pinned (OpenSpec.ofChange recordDownWrong)

/- THE SECOND FORM. 'bulk': how many values and letters a reading holds, each counted each time it is reached (what is shared counts as often as it is met; a slice's spare places count too). A statement '..UptoSaid' is the law's where the arguments, and the package variables that the reading takes, are together of bulk at most 1048576: NARROWER than '..Said'. Prove '..Said' where nothing that the law and all that it calls make is longer than what came in: it says more and counts as full. Else prove '..UptoSaid'. A law counts once. -/
mutual
def uptoBulk {H : Type} : DataW H → Nat
  | .lit (.string bytes) => bytes.length + 1
  | .lit _ => 1
  | .nil => 1
  | .ptr d => uptoBulk d + 1
  | .slice elems spare => uptoBulkAll elems + uptoBulkAll spare + 1
  | .agg parts => uptoBulkAll parts + 1
  | .iface _ d => uptoBulk d + 1
  | .map entries => uptoBulkEntries entries + 1
  | .held _ => 1
def uptoBulkAll {H : Type} : List (DataW H) → Nat
  | [] => 0
  | d :: r => uptoBulk d + uptoBulkAll r
def uptoBulkEntries {H : Type} : List (Lit × DataW H) → Nat
  | [] => 0
  | x :: r => uptoBulkEntry x + uptoBulkEntries r
def uptoBulkEntry {H : Type} : Lit × DataW H → Nat
  | (.string bytes, d) => bytes.length + uptoBulk d + 1
  | (_, d) => uptoBulk d + 1
 end
def uptoSmall : (H : Type) → List (DataW H) → Bool := fun _ ds => decide (uptoBulkAll ds ≤ 1048576)
def OpenSpec.upto (s : _root_.Go.ChangeSpec) : _root_.Go.OpenSpec := { _root_.Go.OpenSpec.ofChange s with cond := some uptoSmall }

/-- 'cartagelaw09.RecordReads', WHERE WHAT IT READS IS OF BULK AT MOST 1048576: true; the input reads as it did. -/
def recordReadsUptoRow : OpenClaim := { program := "ytbhaahohaccecaa", sum := "9de61e7ce7caf06201d91bc31247f8edb4fa54eb6a2ae8c0238b1afa44025b2a", func := "cartage/cartagelaw09.RecordReads", spec := "recordReads", inPlace := ["sync/atomic.AddInt64", "sync/atomic.SwapUint32", "sync/atomic.LoadUint32"], unfollowed := true, recurses := true, apart := false, narrowed := true }
def RecordReadsUptoSaid : Prop := recordReadsUptoRow.holds Try.pinned (OpenSpec.upto recordReadsSpec)

/-- 'cartagelaw09.RecordOne', WHERE WHAT IT READS IS OF BULK AT MOST 1048576: true; the input reads as it did. -/
def recordOneUptoRow : OpenClaim := { program := "ytbhaahohaccecaa", sum := "9de61e7ce7caf06201d91bc31247f8edb4fa54eb6a2ae8c0238b1afa44025b2a", func := "cartage/cartagelaw09.RecordOne", spec := "recordOne", inPlace := ["sync/atomic.AddInt64", "sync/atomic.SwapUint32", "sync/atomic.LoadUint32"], unfollowed := true, recurses := true, apart := false, narrowed := true }
def RecordOneUptoSaid : Prop := recordOneUptoRow.holds Try.pinned (OpenSpec.upto recordOneSpec)

/-- 'cartagelaw09.RecordThen', WHERE WHAT IT READS IS OF BULK AT MOST 1048576: true; the input reads as it did. -/
def recordThenUptoRow : OpenClaim := { program := "ytbhaahohaccecaa", sum := "9de61e7ce7caf06201d91bc31247f8edb4fa54eb6a2ae8c0238b1afa44025b2a", func := "cartage/cartagelaw09.RecordThen", spec := "recordThen", inPlace := ["sync/atomic.AddInt64", "sync/atomic.SwapUint32", "sync/atomic.LoadUint32"], unfollowed := true, recurses := true, apart := false, narrowed := true }
def RecordThenUptoSaid : Prop := recordThenUptoRow.holds Try.pinned (OpenSpec.upto recordThenSpec)

/-- 'cartagelaw09.RecordRoom', WHERE WHAT IT READS IS OF BULK AT MOST 1048576: true; the input reads as it did. -/
def recordRoomUptoRow : OpenClaim := { program := "ytbhaahohaccecaa", sum := "9de61e7ce7caf06201d91bc31247f8edb4fa54eb6a2ae8c0238b1afa44025b2a", func := "cartage/cartagelaw09.RecordRoom", spec := "recordRoom", inPlace := ["sync/atomic.AddInt64", "sync/atomic.SwapUint32", "sync/atomic.LoadUint32"], unfollowed := true, recurses := true, apart := false, narrowed := true }
def RecordRoomUptoSaid : Prop := recordRoomUptoRow.holds Try.pinned (OpenSpec.upto recordRoomSpec)

/-- 'cartagelaw09.RecordTells', WHERE WHAT IT READS IS OF BULK AT MOST 1048576: true; the input reads as it did. -/
def recordTellsUptoRow : OpenClaim := { program := "ytbhaahohaccecaa", sum := "9de61e7ce7caf06201d91bc31247f8edb4fa54eb6a2ae8c0238b1afa44025b2a", func := "cartage/cartagelaw09.RecordTells", spec := "recordTells", inPlace := ["sync/atomic.AddInt64", "sync/atomic.SwapUint32", "sync/atomic.LoadUint32", "sync/atomic.StoreUint32"], unfollowed := true, recurses := true, apart := false, narrowed := true }
def RecordTellsUptoSaid : Prop := recordTellsUptoRow.holds Try.pinned (OpenSpec.upto recordTellsSpec)

/-- 'cartagelaw09.RecordDown', WHERE WHAT IT READS IS OF BULK AT MOST 1048576: true; the input reads as it did. -/
def recordDownUptoRow : OpenClaim := { program := "ytbhaahohaccecaa", sum := "9de61e7ce7caf06201d91bc31247f8edb4fa54eb6a2ae8c0238b1afa44025b2a", func := "cartage/cartagelaw09.RecordDown", spec := "recordDown", inPlace := ["sync/atomic.AddInt64", "sync/atomic.SwapUint32", "sync/atomic.LoadUint32", "sync/atomic.StoreUint32"], unfollowed := true, recurses := true, apart := false, narrowed := true }
def RecordDownUptoSaid : Prop := recordDownUptoRow.holds Try.pinned (OpenSpec.upto recordDownSpec)

end Rows
end Go.Proofs.Ytbhaahohaccecaa
