/-
  No cell of these rows narrows 'for every input' (looked for: loops, veiled, ifaces, maps, wideKeys, modest, calm, conditions, laid).
  DERIVED. THE GIVEN ROWS OF THIS SEAT. 8 by the template 'for every input the law returns true; each argument reads behind the call as it read before'; 0 by the template 'total and deterministic' (their statements: YtjoldkfedmiciaaTotals.lean).
  GIVEN WITH THE SEED: the statements are not yours to turn. If you find one false, say at which input.
  Laid BY PROGRAM, IN A SANDBOX (cutbox-rows.mjs): the forced cells as the released guide's own fill.sh prints them over the translation 19c19bf986aacb9a… (all of the seat's roots in one cut). By AI agents, Wed Nov 11 2026. No macro, syntax, notation, axiom, sorry.
-/
import Derived.Test.YtjoldkfedmiciaaChecked
import GoSem.Claim
import GoSem.ClaimJoined
import GoSem.ClaimMapViews
import Derived.JoinedTies
import Derived.KernelRfl
namespace Go.Proofs.Ytjoldkfedmiciaa
/- THE CELL 'sum', in the pinned program and in every row, IS THE sha256 OF THE DUMP (.gsa) THAT YtjoldkfedmiciaaProg.lean LOADS. Nothing in Lean hashes anything: it is a label: what it is worth is what the hold of that sum in a sandbox is worth. -/
noncomputable def Try.pinned : Pinned := { name := "ytjoldkfedmiciaa", sum := "19c19bf986aacb9a0300e8fa1799d381a6c822bac06e1826387c6ec2ac4be5e1", checked := Try.checked }
namespace Rows
def none {H : Type} : Left H := { results := [], args := [] }

/-- 'cartagelaw02.EdgesTell': WHATEVER THE INPUT: true; the input reads as it did. -/
def edgesTellSpec : ChangeSpec := { name := "edgesTell", fn := fun _ => fun
  | [d] => { results := [.lit (.bool true)], args := [d] }
  | _ => none }
def edgesTellRow : OpenClaim := { program := "ytjoldkfedmiciaa", sum := "19c19bf986aacb9a0300e8fa1799d381a6c822bac06e1826387c6ec2ac4be5e1", func := "cartage/cartagelaw02.EdgesTell", spec := "edgesTell", unfollowed := true, recurses := true, apart := false }
def EdgesTellSaid : Prop := edgesTellRow.holds Try.pinned (OpenSpec.ofChange edgesTellSpec)

/-- ITS FALSE NEIGHBOUR: 'it returns false'. Refute it at one input. -/
def edgesTellWrong : ChangeSpec := { name := "edgesTell", fn := fun _ => fun
  | [d] => { results := [.lit (.bool false)], args := [d] }
  | _ => none }
def EdgesTellWrongFalsely : Prop := edgesTellRow.holds Try.pinned (OpenSpec.ofChange edgesTellWrong)

/-- 'cartagelaw02.EdgesRead': WHATEVER THE INPUT: true; the input reads as it did. -/
def edgesReadSpec : ChangeSpec := { name := "edgesRead", fn := fun _ => fun
  | [d] => { results := [.lit (.bool true)], args := [d] }
  | _ => none }
def edgesReadRow : OpenClaim := { program := "ytjoldkfedmiciaa", sum := "19c19bf986aacb9a0300e8fa1799d381a6c822bac06e1826387c6ec2ac4be5e1", func := "cartage/cartagelaw02.EdgesRead", spec := "edgesRead", unfollowed := true, recurses := true, apart := false }
def EdgesReadSaid : Prop := edgesReadRow.holds Try.pinned (OpenSpec.ofChange edgesReadSpec)

/-- ITS FALSE NEIGHBOUR: 'it returns false'. Refute it at one input. -/
def edgesReadWrong : ChangeSpec := { name := "edgesRead", fn := fun _ => fun
  | [d] => { results := [.lit (.bool false)], args := [d] }
  | _ => none }
def EdgesReadWrongFalsely : Prop := edgesReadRow.holds Try.pinned (OpenSpec.ofChange edgesReadWrong)

/-- 'cartagelaw02.EdgesBack': WHATEVER THE INPUT: true; the input reads as it did. -/
def edgesBackSpec : ChangeSpec := { name := "edgesBack", fn := fun _ => fun
  | [d] => { results := [.lit (.bool true)], args := [d] }
  | _ => none }
def edgesBackRow : OpenClaim := { program := "ytjoldkfedmiciaa", sum := "19c19bf986aacb9a0300e8fa1799d381a6c822bac06e1826387c6ec2ac4be5e1", func := "cartage/cartagelaw02.EdgesBack", spec := "edgesBack", unfollowed := true, recurses := true, apart := false }
def EdgesBackSaid : Prop := edgesBackRow.holds Try.pinned (OpenSpec.ofChange edgesBackSpec)

/-- ITS FALSE NEIGHBOUR: 'it returns false'. Refute it at one input. -/
def edgesBackWrong : ChangeSpec := { name := "edgesBack", fn := fun _ => fun
  | [d] => { results := [.lit (.bool false)], args := [d] }
  | _ => none }
def EdgesBackWrongFalsely : Prop := edgesBackRow.holds Try.pinned (OpenSpec.ofChange edgesBackWrong)

/-- 'cartagelaw02.EdgesSame': WHATEVER THE INPUT: true; the input reads as it did. -/
def edgesSameSpec : ChangeSpec := { name := "edgesSame", fn := fun _ => fun
  | [d1, d2] => { results := [.lit (.bool true)], args := [d1, d2] }
  | _ => none }
def edgesSameRow : OpenClaim := { program := "ytjoldkfedmiciaa", sum := "19c19bf986aacb9a0300e8fa1799d381a6c822bac06e1826387c6ec2ac4be5e1", func := "cartage/cartagelaw02.EdgesSame", spec := "edgesSame", unfollowed := true, recurses := true, apart := false }
def EdgesSameSaid : Prop := edgesSameRow.holds Try.pinned (OpenSpec.ofChange edgesSameSpec)

/-- ITS FALSE NEIGHBOUR: 'it returns false'. Refute it at one input. -/
def edgesSameWrong : ChangeSpec := { name := "edgesSame", fn := fun _ => fun
  | [d1, d2] => { results := [.lit (.bool false)], args := [d1, d2] }
  | _ => none }
def EdgesSameWrongFalsely : Prop := edgesSameRow.holds Try.pinned (OpenSpec.ofChange edgesSameWrong)

/-- 'cartagelaw02.EdgesFirst': WHATEVER THE INPUT: true; the input reads as it did. -/
def edgesFirstSpec : ChangeSpec := { name := "edgesFirst", fn := fun _ => fun
  | [d1, d2, d3, d4] => { results := [.lit (.bool true)], args := [d1, d2, d3, d4] }
  | _ => none }
def edgesFirstRow : OpenClaim := { program := "ytjoldkfedmiciaa", sum := "19c19bf986aacb9a0300e8fa1799d381a6c822bac06e1826387c6ec2ac4be5e1", func := "cartage/cartagelaw02.EdgesFirst", spec := "edgesFirst", unfollowed := true, recurses := true, apart := false }
def EdgesFirstSaid : Prop := edgesFirstRow.holds Try.pinned (OpenSpec.ofChange edgesFirstSpec)

/-- ITS FALSE NEIGHBOUR: 'it returns false'. Refute it at one input. -/
def edgesFirstWrong : ChangeSpec := { name := "edgesFirst", fn := fun _ => fun
  | [d1, d2, d3, d4] => { results := [.lit (.bool false)], args := [d1, d2, d3, d4] }
  | _ => none }
def EdgesFirstWrongFalsely : Prop := edgesFirstRow.holds Try.pinned (OpenSpec.ofChange edgesFirstWrong)

/-- 'cartagelaw02.EdgesParts': WHATEVER THE INPUT: true; the input reads as it did. -/
def edgesPartsSpec : ChangeSpec := { name := "edgesParts", fn := fun _ => fun
  | [d1, d2] => { results := [.lit (.bool true)], args := [d1, d2] }
  | _ => none }
def edgesPartsRow : OpenClaim := { program := "ytjoldkfedmiciaa", sum := "19c19bf986aacb9a0300e8fa1799d381a6c822bac06e1826387c6ec2ac4be5e1", func := "cartage/cartagelaw02.EdgesParts", spec := "edgesParts", unfollowed := true, recurses := true, apart := false }
def EdgesPartsSaid : Prop := edgesPartsRow.holds Try.pinned (OpenSpec.ofChange edgesPartsSpec)

/-- ITS FALSE NEIGHBOUR: 'it returns false'. Refute it at one input. -/
def edgesPartsWrong : ChangeSpec := { name := "edgesParts", fn := fun _ => fun
  | [d1, d2] => { results := [.lit (.bool false)], args := [d1, d2] }
  | _ => none }
def EdgesPartsWrongFalsely : Prop := edgesPartsRow.holds Try.pinned (OpenSpec.ofChange edgesPartsWrong)

/-- 'cartagelaw02.EdgesCut': WHATEVER THE INPUT: true; the input reads as it did. -/
def edgesCutSpec : ChangeSpec := { name := "edgesCut", fn := fun _ => fun
  | [d1, d2, d3] => { results := [.lit (.bool true)], args := [d1, d2, d3] }
  | _ => none }
def edgesCutRow : OpenClaim := { program := "ytjoldkfedmiciaa", sum := "19c19bf986aacb9a0300e8fa1799d381a6c822bac06e1826387c6ec2ac4be5e1", func := "cartage/cartagelaw02.EdgesCut", spec := "edgesCut", unfollowed := true, recurses := true, apart := false }
def EdgesCutSaid : Prop := edgesCutRow.holds Try.pinned (OpenSpec.ofChange edgesCutSpec)

/-- ITS FALSE NEIGHBOUR: 'it returns false'. Refute it at one input. -/
def edgesCutWrong : ChangeSpec := { name := "edgesCut", fn := fun _ => fun
  | [d1, d2, d3] => { results := [.lit (.bool false)], args := [d1, d2, d3] }
  | _ => none }
def EdgesCutWrongFalsely : Prop := edgesCutRow.holds Try.pinned (OpenSpec.ofChange edgesCutWrong)

/-- 'cartagelaw02.EdgesMany': WHATEVER THE INPUT: true; the input reads as it did. -/
def edgesManySpec : ChangeSpec := { name := "edgesMany", fn := fun _ => fun
  | [d] => { results := [.lit (.bool true)], args := [d] }
  | _ => none }
def edgesManyRow : OpenClaim := { program := "ytjoldkfedmiciaa", sum := "19c19bf986aacb9a0300e8fa1799d381a6c822bac06e1826387c6ec2ac4be5e1", func := "cartage/cartagelaw02.EdgesMany", spec := "edgesMany", unfollowed := true, recurses := true, apart := false }
def EdgesManySaid : Prop := edgesManyRow.holds Try.pinned (OpenSpec.ofChange edgesManySpec)

/-- ITS FALSE NEIGHBOUR: 'it returns false'. Refute it at one input. -/
def edgesManyWrong : ChangeSpec := { name := "edgesMany", fn := fun _ => fun
  | [d] => { results := [.lit (.bool false)], args := [d] }
  | _ => none }
def EdgesManyWrongFalsely : Prop := edgesManyRow.holds Try.pinned (OpenSpec.ofChange edgesManyWrong)

/- THE SECOND FORM. 'bulk': how many values and letters a reading holds, each counted each time it is reached (what is shared counts as often as it is met; a slice's spare places count too). A statement '..UptoSaid' is the law's where the arguments, and the package variables that the reading takes, are together of bulk at most 1048576: NARROWER than '..Said'. Prove '..Said' where nothing that the law and all that it calls make is longer than what came in: it says more and counts as full. Else prove '..UptoSaid'. A law counts once. -/
mutual
def uptoBulk {H : Type} : DataW H → Nat
  | .lit (.string bytes) => bytes.length + 1
  | .lit _ => 1
  | .nil => 1
  | .ptr d => uptoBulk d + 1
  | .slice elems spare => uptoBulkAll elems + uptoBulkAll spare + 1
  | .agg parts => uptoBulkAll parts + 1
  | .iface _ d => uptoBulk d + 1
  | .map entries => uptoBulkEntries entries + 1
  | .held _ => 1
def uptoBulkAll {H : Type} : List (DataW H) → Nat
  | [] => 0
  | d :: r => uptoBulk d + uptoBulkAll r
def uptoBulkEntries {H : Type} : List (Lit × DataW H) → Nat
  | [] => 0
  | x :: r => uptoBulkEntry x + uptoBulkEntries r
def uptoBulkEntry {H : Type} : Lit × DataW H → Nat
  | (.string bytes, d) => bytes.length + uptoBulk d + 1
  | (_, d) => uptoBulk d + 1
 end
def uptoSmall : (H : Type) → List (DataW H) → Bool := fun _ ds => decide (uptoBulkAll ds ≤ 1048576)
def OpenSpec.upto (s : _root_.Go.ChangeSpec) : _root_.Go.OpenSpec := { _root_.Go.OpenSpec.ofChange s with cond := some uptoSmall }

/-- 'cartagelaw02.EdgesTell', WHERE WHAT IT READS IS OF BULK AT MOST 1048576: true; the input reads as it did. -/
def edgesTellUptoRow : OpenClaim := { program := "ytjoldkfedmiciaa", sum := "19c19bf986aacb9a0300e8fa1799d381a6c822bac06e1826387c6ec2ac4be5e1", func := "cartage/cartagelaw02.EdgesTell", spec := "edgesTell", unfollowed := true, recurses := true, apart := false, narrowed := true }
def EdgesTellUptoSaid : Prop := edgesTellUptoRow.holds Try.pinned (OpenSpec.upto edgesTellSpec)

/-- 'cartagelaw02.EdgesRead', WHERE WHAT IT READS IS OF BULK AT MOST 1048576: true; the input reads as it did. -/
def edgesReadUptoRow : OpenClaim := { program := "ytjoldkfedmiciaa", sum := "19c19bf986aacb9a0300e8fa1799d381a6c822bac06e1826387c6ec2ac4be5e1", func := "cartage/cartagelaw02.EdgesRead", spec := "edgesRead", unfollowed := true, recurses := true, apart := false, narrowed := true }
def EdgesReadUptoSaid : Prop := edgesReadUptoRow.holds Try.pinned (OpenSpec.upto edgesReadSpec)

/-- 'cartagelaw02.EdgesBack', WHERE WHAT IT READS IS OF BULK AT MOST 1048576: true; the input reads as it did. -/
def edgesBackUptoRow : OpenClaim := { program := "ytjoldkfedmiciaa", sum := "19c19bf986aacb9a0300e8fa1799d381a6c822bac06e1826387c6ec2ac4be5e1", func := "cartage/cartagelaw02.EdgesBack", spec := "edgesBack", unfollowed := true, recurses := true, apart := false, narrowed := true }
def EdgesBackUptoSaid : Prop := edgesBackUptoRow.holds Try.pinned (OpenSpec.upto edgesBackSpec)

/-- 'cartagelaw02.EdgesSame', WHERE WHAT IT READS IS OF BULK AT MOST 1048576: true; the input reads as it did. -/
def edgesSameUptoRow : OpenClaim := { program := "ytjoldkfedmiciaa", sum := "19c19bf986aacb9a0300e8fa1799d381a6c822bac06e1826387c6ec2ac4be5e1", func := "cartage/cartagelaw02.EdgesSame", spec := "edgesSame", unfollowed := true, recurses := true, apart := false, narrowed := true }
def EdgesSameUptoSaid : Prop := edgesSameUptoRow.holds Try.pinned (OpenSpec.upto edgesSameSpec)

/-- 'cartagelaw02.EdgesFirst', WHERE WHAT IT READS IS OF BULK AT MOST 1048576: true; the input reads as it did. -/
def edgesFirstUptoRow : OpenClaim := { program := "ytjoldkfedmiciaa", sum := "19c19bf986aacb9a0300e8fa1799d381a6c822bac06e1826387c6ec2ac4be5e1", func := "cartage/cartagelaw02.EdgesFirst", spec := "edgesFirst", unfollowed := true, recurses := true, apart := false, narrowed := true }
def EdgesFirstUptoSaid : Prop := edgesFirstUptoRow.holds Try.pinned (OpenSpec.upto edgesFirstSpec)

/-- 'cartagelaw02.EdgesParts', WHERE WHAT IT READS IS OF BULK AT MOST 1048576: true; the input reads as it did. -/
def edgesPartsUptoRow : OpenClaim := { program := "ytjoldkfedmiciaa", sum := "19c19bf986aacb9a0300e8fa1799d381a6c822bac06e1826387c6ec2ac4be5e1", func := "cartage/cartagelaw02.EdgesParts", spec := "edgesParts", unfollowed := true, recurses := true, apart := false, narrowed := true }
def EdgesPartsUptoSaid : Prop := edgesPartsUptoRow.holds Try.pinned (OpenSpec.upto edgesPartsSpec)

/-- 'cartagelaw02.EdgesCut', WHERE WHAT IT READS IS OF BULK AT MOST 1048576: true; the input reads as it did. -/
def edgesCutUptoRow : OpenClaim := { program := "ytjoldkfedmiciaa", sum := "19c19bf986aacb9a0300e8fa1799d381a6c822bac06e1826387c6ec2ac4be5e1", func := "cartage/cartagelaw02.EdgesCut", spec := "edgesCut", unfollowed := true, recurses := true, apart := false, narrowed := true }
def EdgesCutUptoSaid : Prop := edgesCutUptoRow.holds Try.pinned (OpenSpec.upto edgesCutSpec)

/-- 'cartagelaw02.EdgesMany', WHERE WHAT IT READS IS OF BULK AT MOST 1048576: true; the input reads as it did. -/
def edgesManyUptoRow : OpenClaim := { program := "ytjoldkfedmiciaa", sum := "19c19bf986aacb9a0300e8fa1799d381a6c822bac06e1826387c6ec2ac4be5e1", func := "cartage/cartagelaw02.EdgesMany", spec := "edgesMany", unfollowed := true, recurses := true, apart := false, narrowed := true }
def EdgesManyUptoSaid : Prop := edgesManyUptoRow.holds Try.pinned (OpenSpec.upto edgesManySpec)

end Rows
end Go.Proofs.Ytjoldkfedmiciaa
