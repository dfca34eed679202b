/-
  No cell of these rows narrows 'for every input' (looked for: loops, veiled, ifaces, maps, wideKeys, modest, calm, conditions, laid).
  DERIVED. THE GIVEN ROWS OF THIS SEAT. 6 by the template 'for every input the law returns true; each argument reads behind the call as it read before'; 0 by the template 'total and deterministic' (their statements: YtjhegjcjplpmjaaTotals.lean).
  GIVEN WITH THE SEED: the statements are not yours to turn. If you find one false, say at which input.
  Laid BY PROGRAM, IN A SANDBOX (cutbox-rows.mjs): the forced cells as the released guide's own fill.sh prints them over the translation 67a1a54915273959… (all of the seat's roots in one cut). By AI agents, Wed Nov 11 2026. No macro, syntax, notation, axiom, sorry.
-/
import Derived.Test.YtjhegjcjplpmjaaChecked
import GoSem.Claim
import GoSem.ClaimJoined
import GoSem.ClaimMapViews
import Derived.JoinedTies
import Derived.KernelRfl
namespace Go.Proofs.Ytjhegjcjplpmjaa
/- THE CELL 'sum', in the pinned program and in every row, IS THE sha256 OF THE DUMP (.gsa) THAT YtjhegjcjplpmjaaProg.lean LOADS. Nothing in Lean hashes anything: it is a label: what it is worth is what the hold of that sum in a sandbox is worth. -/
noncomputable def Try.pinned : Pinned := { name := "ytjhegjcjplpmjaa", sum := "67a1a54915273959cf01254d4eb95a160c6ebfc29256ee307bc3a79b7873c4a0", checked := Try.checked }
namespace Rows
def none {H : Type} : Left H := { results := [], args := [] }

/-- 'cartagelaw06.PoolKeeps': WHATEVER THE INPUT: true; the input reads as it did. -/
def poolKeepsSpec : ChangeSpec := { name := "poolKeeps", fn := fun _ => fun
  | [d1, d2, d3, d4] => { results := [.lit (.bool true)], args := [d1, d2, d3, d4] }
  | _ => none }
def poolKeepsRow : OpenClaim := { program := "ytjhegjcjplpmjaa", sum := "67a1a54915273959cf01254d4eb95a160c6ebfc29256ee307bc3a79b7873c4a0", func := "cartage/cartagelaw06.PoolKeeps", spec := "poolKeeps", inPlace := ["sync/atomic.AddInt64", "sync/atomic.SwapUint32", "sync/atomic.LoadUint32"], unfollowed := true, recurses := true, plainKeys := false, apart := false }
def PoolKeepsSaid : Prop := poolKeepsRow.holds Try.pinned (OpenSpec.ofChange poolKeepsSpec)

/-- ITS FALSE NEIGHBOUR: 'it returns false'. Refute it at one input. -/
def poolKeepsWrong : ChangeSpec := { name := "poolKeeps", fn := fun _ => fun
  | [d1, d2, d3, d4] => { results := [.lit (.bool false)], args := [d1, d2, d3, d4] }
  | _ => none }
def PoolKeepsWrongFalsely : Prop := poolKeepsRow.holds Try.pinned (OpenSpec.ofChange poolKeepsWrong)

/-- 'cartagelaw06.PoolSame': WHATEVER THE INPUT: true; the input reads as it did. -/
def poolSameSpec : ChangeSpec := { name := "poolSame", fn := fun _ => fun
  | [d1, d2, d3] => { results := [.lit (.bool true)], args := [d1, d2, d3] }
  | _ => none }
def poolSameRow : OpenClaim := { program := "ytjhegjcjplpmjaa", sum := "67a1a54915273959cf01254d4eb95a160c6ebfc29256ee307bc3a79b7873c4a0", func := "cartage/cartagelaw06.PoolSame", spec := "poolSame", inPlace := ["sync/atomic.AddInt64", "sync/atomic.SwapUint32", "sync/atomic.LoadUint32"], unfollowed := true, recurses := true, plainKeys := false, apart := false }
def PoolSameSaid : Prop := poolSameRow.holds Try.pinned (OpenSpec.ofChange poolSameSpec)

/-- ITS FALSE NEIGHBOUR: 'it returns false'. Refute it at one input. -/
def poolSameWrong : ChangeSpec := { name := "poolSame", fn := fun _ => fun
  | [d1, d2, d3] => { results := [.lit (.bool false)], args := [d1, d2, d3] }
  | _ => none }
def PoolSameWrongFalsely : Prop := poolSameRow.holds Try.pinned (OpenSpec.ofChange poolSameWrong)

/-- 'cartagelaw06.PoolFrames': WHATEVER THE INPUT: true; the input reads as it did. -/
def poolFramesSpec : ChangeSpec := { name := "poolFrames", fn := fun _ => fun
  | [d1, d2] => { results := [.lit (.bool true)], args := [d1, d2] }
  | _ => none }
def poolFramesRow : OpenClaim := { program := "ytjhegjcjplpmjaa", sum := "67a1a54915273959cf01254d4eb95a160c6ebfc29256ee307bc3a79b7873c4a0", func := "cartage/cartagelaw06.PoolFrames", spec := "poolFrames", inPlace := ["sync/atomic.AddInt64", "sync/atomic.SwapUint32", "sync/atomic.LoadUint32", "sync/atomic.LoadInt64"], unfollowed := true, recurses := true, plainKeys := false, apart := false }
def PoolFramesSaid : Prop := poolFramesRow.holds Try.pinned (OpenSpec.ofChange poolFramesSpec)

/-- ITS FALSE NEIGHBOUR: 'it returns false'. Refute it at one input. -/
def poolFramesWrong : ChangeSpec := { name := "poolFrames", fn := fun _ => fun
  | [d1, d2] => { results := [.lit (.bool false)], args := [d1, d2] }
  | _ => none }
def PoolFramesWrongFalsely : Prop := poolFramesRow.holds Try.pinned (OpenSpec.ofChange poolFramesWrong)

/-- 'cartagelaw06.PoolDrops': WHATEVER THE INPUT: true; the input reads as it did. -/
def poolDropsSpec : ChangeSpec := { name := "poolDrops", fn := fun _ => fun
  | [d1, d2] => { results := [.lit (.bool true)], args := [d1, d2] }
  | _ => none }
def poolDropsRow : OpenClaim := { program := "ytjhegjcjplpmjaa", sum := "67a1a54915273959cf01254d4eb95a160c6ebfc29256ee307bc3a79b7873c4a0", func := "cartage/cartagelaw06.PoolDrops", spec := "poolDrops", inPlace := ["sync/atomic.AddInt64", "sync/atomic.SwapUint32", "sync/atomic.LoadUint32"], unfollowed := true, recurses := true, plainKeys := false, apart := false }
def PoolDropsSaid : Prop := poolDropsRow.holds Try.pinned (OpenSpec.ofChange poolDropsSpec)

/-- ITS FALSE NEIGHBOUR: 'it returns false'. Refute it at one input. -/
def poolDropsWrong : ChangeSpec := { name := "poolDrops", fn := fun _ => fun
  | [d1, d2] => { results := [.lit (.bool false)], args := [d1, d2] }
  | _ => none }
def PoolDropsWrongFalsely : Prop := poolDropsRow.holds Try.pinned (OpenSpec.ofChange poolDropsWrong)

/-- 'cartagelaw06.PoolEmpty': WHATEVER THE INPUT: true; the input reads as it did. -/
def poolEmptySpec : ChangeSpec := { name := "poolEmpty", fn := fun _ => fun
  | [d1, d2] => { results := [.lit (.bool true)], args := [d1, d2] }
  | _ => none }
def poolEmptyRow : OpenClaim := { program := "ytjhegjcjplpmjaa", sum := "67a1a54915273959cf01254d4eb95a160c6ebfc29256ee307bc3a79b7873c4a0", func := "cartage/cartagelaw06.PoolEmpty", spec := "poolEmpty", inPlace := ["sync/atomic.AddInt64", "sync/atomic.SwapUint32", "sync/atomic.LoadUint32"], unfollowed := true, recurses := true, plainKeys := false, apart := false }
def PoolEmptySaid : Prop := poolEmptyRow.holds Try.pinned (OpenSpec.ofChange poolEmptySpec)

/-- ITS FALSE NEIGHBOUR: 'it returns false'. Refute it at one input. -/
def poolEmptyWrong : ChangeSpec := { name := "poolEmpty", fn := fun _ => fun
  | [d1, d2] => { results := [.lit (.bool false)], args := [d1, d2] }
  | _ => none }
def PoolEmptyWrongFalsely : Prop := poolEmptyRow.holds Try.pinned (OpenSpec.ofChange poolEmptyWrong)

/-- 'cartagelaw06.PoolDown': WHATEVER THE INPUT: true; the input reads as it did. -/
def poolDownSpec : ChangeSpec := { name := "poolDown", fn := fun _ => fun
  | [d1, d2] => { results := [.lit (.bool true)], args := [d1, d2] }
  | _ => none }
def poolDownRow : OpenClaim := { program := "ytjhegjcjplpmjaa", sum := "67a1a54915273959cf01254d4eb95a160c6ebfc29256ee307bc3a79b7873c4a0", func := "cartage/cartagelaw06.PoolDown", spec := "poolDown", inPlace := ["sync/atomic.AddInt64", "sync/atomic.SwapUint32", "sync/atomic.LoadUint32", "sync/atomic.StoreUint32"], unfollowed := true, recurses := true, plainKeys := false, apart := false }
def PoolDownSaid : Prop := poolDownRow.holds Try.pinned (OpenSpec.ofChange poolDownSpec)

/-- ITS FALSE NEIGHBOUR: 'it returns false'. Refute it at one input. -/
def poolDownWrong : ChangeSpec := { name := "poolDown", fn := fun _ => fun
  | [d1, d2] => { results := [.lit (.bool false)], args := [d1, d2] }
  | _ => none }
def PoolDownWrongFalsely : Prop := poolDownRow.holds Try.pinned (OpenSpec.ofChange poolDownWrong)

/- THE SECOND FORM. 'bulk': how many values and letters a reading holds, each counted each time it is reached (what is shared counts as often as it is met; a slice's spare places count too). A statement '..UptoSaid' is the law's where the arguments, and the package variables that the reading takes, are together of bulk at most 1048576: NARROWER than '..Said'. Prove '..Said' where nothing that the law and all that it calls make is longer than what came in: it says more and counts as full. Else prove '..UptoSaid'. A law counts once. -/
mutual
def uptoBulk {H : Type} : DataW H → Nat
  | .lit (.string bytes) => bytes.length + 1
  | .lit _ => 1
  | .nil => 1
  | .ptr d => uptoBulk d + 1
  | .slice elems spare => uptoBulkAll elems + uptoBulkAll spare + 1
  | .agg parts => uptoBulkAll parts + 1
  | .iface _ d => uptoBulk d + 1
  | .map entries => uptoBulkEntries entries + 1
  | .held _ => 1
def uptoBulkAll {H : Type} : List (DataW H) → Nat
  | [] => 0
  | d :: r => uptoBulk d + uptoBulkAll r
def uptoBulkEntries {H : Type} : List (Lit × DataW H) → Nat
  | [] => 0
  | x :: r => uptoBulkEntry x + uptoBulkEntries r
def uptoBulkEntry {H : Type} : Lit × DataW H → Nat
  | (.string bytes, d) => bytes.length + uptoBulk d + 1
  | (_, d) => uptoBulk d + 1
 end
def uptoSmall : (H : Type) → List (DataW H) → Bool := fun _ ds => decide (uptoBulkAll ds ≤ 1048576)
def OpenSpec.upto (s : _root_.Go.ChangeSpec) : _root_.Go.OpenSpec := { _root_.Go.OpenSpec.ofChange s with cond := some uptoSmall }

/-- 'cartagelaw06.PoolKeeps', WHERE WHAT IT READS IS OF BULK AT MOST 1048576: true; the input reads as it did. -/
def poolKeepsUptoRow : OpenClaim := { program := "ytjhegjcjplpmjaa", sum := "67a1a54915273959cf01254d4eb95a160c6ebfc29256ee307bc3a79b7873c4a0", func := "cartage/cartagelaw06.PoolKeeps", spec := "poolKeeps", inPlace := ["sync/atomic.AddInt64", "sync/atomic.SwapUint32", "sync/atomic.LoadUint32"], unfollowed := true, recurses := true, plainKeys := false, apart := false, narrowed := true }
def PoolKeepsUptoSaid : Prop := poolKeepsUptoRow.holds Try.pinned (OpenSpec.upto poolKeepsSpec)

/-- 'cartagelaw06.PoolSame', WHERE WHAT IT READS IS OF BULK AT MOST 1048576: true; the input reads as it did. -/
def poolSameUptoRow : OpenClaim := { program := "ytjhegjcjplpmjaa", sum := "67a1a54915273959cf01254d4eb95a160c6ebfc29256ee307bc3a79b7873c4a0", func := "cartage/cartagelaw06.PoolSame", spec := "poolSame", inPlace := ["sync/atomic.AddInt64", "sync/atomic.SwapUint32", "sync/atomic.LoadUint32"], unfollowed := true, recurses := true, plainKeys := false, apart := false, narrowed := true }
def PoolSameUptoSaid : Prop := poolSameUptoRow.holds Try.pinned (OpenSpec.upto poolSameSpec)

/-- 'cartagelaw06.PoolFrames', WHERE WHAT IT READS IS OF BULK AT MOST 1048576: true; the input reads as it did. -/
def poolFramesUptoRow : OpenClaim := { program := "ytjhegjcjplpmjaa", sum := "67a1a54915273959cf01254d4eb95a160c6ebfc29256ee307bc3a79b7873c4a0", func := "cartage/cartagelaw06.PoolFrames", spec := "poolFrames", inPlace := ["sync/atomic.AddInt64", "sync/atomic.SwapUint32", "sync/atomic.LoadUint32", "sync/atomic.LoadInt64"], unfollowed := true, recurses := true, plainKeys := false, apart := false, narrowed := true }
def PoolFramesUptoSaid : Prop := poolFramesUptoRow.holds Try.pinned (OpenSpec.upto poolFramesSpec)

/-- 'cartagelaw06.PoolDrops', WHERE WHAT IT READS IS OF BULK AT MOST 1048576: true; the input reads as it did. -/
def poolDropsUptoRow : OpenClaim := { program := "ytjhegjcjplpmjaa", sum := "67a1a54915273959cf01254d4eb95a160c6ebfc29256ee307bc3a79b7873c4a0", func := "cartage/cartagelaw06.PoolDrops", spec := "poolDrops", inPlace := ["sync/atomic.AddInt64", "sync/atomic.SwapUint32", "sync/atomic.LoadUint32"], unfollowed := true, recurses := true, plainKeys := false, apart := false, narrowed := true }
def PoolDropsUptoSaid : Prop := poolDropsUptoRow.holds Try.pinned (OpenSpec.upto poolDropsSpec)

/-- 'cartagelaw06.PoolEmpty', WHERE WHAT IT READS IS OF BULK AT MOST 1048576: true; the input reads as it did. -/
def poolEmptyUptoRow : OpenClaim := { program := "ytjhegjcjplpmjaa", sum := "67a1a54915273959cf01254d4eb95a160c6ebfc29256ee307bc3a79b7873c4a0", func := "cartage/cartagelaw06.PoolEmpty", spec := "poolEmpty", inPlace := ["sync/atomic.AddInt64", "sync/atomic.SwapUint32", "sync/atomic.LoadUint32"], unfollowed := true, recurses := true, plainKeys := false, apart := false, narrowed := true }
def PoolEmptyUptoSaid : Prop := poolEmptyUptoRow.holds Try.pinned (OpenSpec.upto poolEmptySpec)

/-- 'cartagelaw06.PoolDown', WHERE WHAT IT READS IS OF BULK AT MOST 1048576: true; the input reads as it did. -/
def poolDownUptoRow : OpenClaim := { program := "ytjhegjcjplpmjaa", sum := "67a1a54915273959cf01254d4eb95a160c6ebfc29256ee307bc3a79b7873c4a0", func := "cartage/cartagelaw06.PoolDown", spec := "poolDown", inPlace := ["sync/atomic.AddInt64", "sync/atomic.SwapUint32", "sync/atomic.LoadUint32", "sync/atomic.StoreUint32"], unfollowed := true, recurses := true, plainKeys := false, apart := false, narrowed := true }
def PoolDownUptoSaid : Prop := poolDownUptoRow.holds Try.pinned (OpenSpec.upto poolDownSpec)

end Rows
end Go.Proofs.Ytjhegjcjplpmjaa
