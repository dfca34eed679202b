/- The statements' arguments, opened: bytes, edges, graphs. -/
import Derived.Test.YtjoldkfedmiciaaEdJ
import Derived.Test.YtjoldkfedmiciaaRows
import Derived.WalkKit
import Derived.ProofKit
import Derived.JoinedCond
import Derived.Deep.Strs
namespace Go.Proofs.Ytjoldkfedmiciaa
open Go.ChangeShapes Go.WideShapes Go.RowKit
set_option linter.unusedVariables false

theorem ownKnob_none : ownKnob Try.prog.godebug = none := by kernel_rfl
theorem laidOut : laidOutB Try.prog = true := by kernel_rfl
theorem rowed : mapsRowed Try.prog = true := by kernel_rfl
theorem slicesFull : ((List.range Try.prog.types.size).all fun t => match Try.prog.underlying t with | some (.slice e) => decide (0 < Try.prog.cellsOf e) | _ => true) = true := by kernel_rfl
theorem cellsB : Try.prog.cellsOf 5 = byteE.k := by kernel_rfl
theorem cellsE : Try.prog.cellsOf 39 = edgeE.k := by kernel_rfl
theorem cellsU : Try.prog.cellsOf 37 = 1 := by kernel_rfl
theorem cellsI : Try.prog.cellsOf 3 = 1 := by kernel_rfl
theorem cellsSl : Try.prog.cellsOf 22 = 1 := by kernel_rfl
theorem cellsG : Try.prog.cellsOf 24 = 2 := by kernel_rfl
theorem ctG : Try.prog.cellTypes Try.prog.depth 24 = some [3, 22] := by kernel_rfl
theorem under_edge : Try.prog.underlying 39 = some (.struct #[⟨ "From", 37, 0, false, "", "", 0⟩, ⟨ "To", 37, 1, false, "", "", 4⟩, ⟨ "W", 37, 2, false, "", "", 8⟩]) := by kernel_rfl
theorem under_graph : Try.prog.underlying 24 = some (.struct #[⟨ "N", 3, 0, false, "", "", 0⟩, ⟨ "Edges", 22, 1, false, "", "", 8⟩]) := by kernel_rfl

theorem num_u8 {a : Int} (h : (Lit.int .u8 a).wf = true) : a = (((UInt8.ofNat a.toNat).toNat : Nat) : Int) := by
  simp [Lit.wf, IntKind.min, IntKind.max, IntKind.signed, IntKind.bits] at h
  simp
  omega
theorem num_u32 {a : Int} (h : (Lit.int .u32 a).wf = true) : a = ((a.toNat : Nat) : Int) ∧ a.toNat < 4294967296 := by
  simp [Lit.wf, IntKind.min, IntKind.max, IntKind.signed, IntKind.bits] at h
  omega

section
variable {H : Type} {enc : TypeId × Value → H}
set_option maxRecDepth 100000 in
theorem open_bytes' {W : World} {base : Nat} {v : Value} {d : DataW H} {ps : List MemPlace} (hval : Value.okWide Try.prog W .any base 27 v) (h : DataW.Trod enc Try.prog W 0 (fun _ => true) true 27 v d ps) :
    ∃ xs : List UInt8, Arg byteE (fmOf W) v xs := by
  obtain ⟨xs, h, _⟩ := open_arg (E := byteE) (fun _ => True) Try.underlying27 cellsB hval h fun n cs y hlen hy => by
    obtain ⟨a, e, _, wa⟩ := DataW.trod_int Try.underlying5 hy
    refine ⟨UInt8.ofNat a.toNat, ?_, trivial⟩
    rw [e]
    show [Value.int .u8 a] = [Value.int .u8 (((UInt8.ofNat a.toNat).toNat : Nat) : Int)]
    rw [← num_u8 wa]
  exact ⟨xs, h⟩
theorem dec_edge {W : World} {n : Nat} {cs : List Value} {y : DataW H × List MemPlace} (hlen : cs.length = edgeE.k) (hy : DataW.trod enc Try.prog W 0 (fun _ => true) true n 39 cs = some y) : ∃ x, cs = edgeE.cells x ∧ InE x := by
  obtain ⟨y0, y1, y2, m, _, _, h0, h1, h2⟩ := Go.Deep.trod_struct3 under_edge hy
  match cs, hlen with
  | [c0, c1, c2], _ =>
    obtain ⟨a, e0, _, wa⟩ := DataW.trod_int Try.underlying37 h0
    obtain ⟨b, e1, _, wb⟩ := DataW.trod_int Try.underlying37 h1
    obtain ⟨c, e2, _, wc⟩ := DataW.trod_int Try.underlying37 h2
    simp [cellsU] at e0 e1 e2
    subst e0 e1 e2
    obtain ⟨ea, la⟩ := num_u32 wa
    obtain ⟨eb, lb⟩ := num_u32 wb
    obtain ⟨ec, lc⟩ := num_u32 wc
    refine ⟨⟨a.toNat, b.toNat, c.toNat⟩, ?_, la, lb, lc⟩
    show _ = [Value.int .u32 ((a.toNat : Nat) : Int), Value.int .u32 ((b.toNat : Nat) : Int), Value.int .u32 ((c.toNat : Nat) : Int)]
    rw [← ea, ← eb, ← ec]
set_option maxRecDepth 100000 in
theorem open_edges {W : World} {base : Nat} {v : Value} {d : DataW H} {ps : List MemPlace} (hval : Value.okWide Try.prog W .any base 22 v) (h : DataW.Trod enc Try.prog W 0 (fun _ => true) true 22 v d ps) :
    ∃ xs : List Eg, Arg edgeE (fmOf W) v xs ∧ ∀ x ∈ xs, InE x :=
  open_arg (E := edgeE) InE Try.underlying22 cellsE hval h fun n cs y hlen hy => dec_edge hlen hy
set_option maxRecDepth 100000 in
theorem open_edge {W : World} {base : Nat} {v : Value} {d : DataW H} {ps : List MemPlace} (hval : Value.okWide Try.prog W .any base 39 v) (h : DataW.Trod enc Try.prog W 0 (fun _ => true) true 39 v d ps) :
    ∃ x : Eg, v = egV x ∧ InE x := by
  obtain ⟨cs, rfl, hsz⟩ := okWide_struct under_edge hval
  obtain ⟨fuel, h⟩ := h
  obtain ⟨x, e, hx⟩ := dec_edge (by rw [show edgeE.k = Try.prog.cellsOf 39 from cellsE.symm]; simpa [Value.cells] using hsz) h
  refine ⟨x, ?_, hx⟩
  have e2 : cs.toList = egC x := e
  have : cs = (egC x).toArray := by rw [← e2]
  rw [this]
set_option maxRecDepth 100000 in
theorem open_graph {W : World} {base : Nat} {v : Value} {d : DataW H} {ps : List MemPlace} (hval : Value.okWide Try.prog W .any base 24 v) (h : DataW.Trod enc Try.prog W 0 (fun _ => true) true 24 v d ps) :
    ∃ (N : Int) (u : Value) (es : List Eg), v = grV N u ∧ Arg edgeE (fmOf W) u es ∧ (∀ e ∈ es, InE e) ∧ -9223372036854775808 ≤ N ∧ N ≤ 9223372036854775807 := by
  have hval' := hval
  obtain ⟨cs, rfl, hsz⟩ := okWide_struct under_graph hval
  obtain ⟨fuel, h⟩ := h
  obtain ⟨y0, y1, m, _, _, h0, h1⟩ := trod_struct2 under_graph h
  rw [cellsG] at hsz
  obtain ⟨lst⟩ := cs
  match lst, hsz with
  | [c0, c1], _ =>
    obtain ⟨N, e0, _, wN⟩ := DataW.trod_int Try.underlying3 h0
    simp [Value.cells, cellsI] at e0
    subst e0
    have hc1 : Value.okWide Try.prog W .any base 22 c1 := by
      simp only [Value.okWide, under_graph] at hval'
      obtain ⟨cs', e, _, ts, hts, _, hall⟩ := hval'
      cases e
      rw [ctG] at hts
      cases hts
      obtain ⟨u, hu, hok⟩ := hall 1 c1 rfl
      cases hu
      simp only [Value.okWide, Try.underlying22]
      exact hok
    obtain ⟨a, len, cap, rfl⟩ := okWide_slice Try.underlying22 hc1
    obtain ⟨es, ha, hE⟩ := open_edges (enc := enc) (d := y1.1) (ps := y1.2) hc1 ⟨m, by simpa [Value.cells, cellsSl] using h1⟩
    refine ⟨N, _, es, rfl, ha, hE, ?_⟩
    simpa [Lit.wf, IntKind.min, IntKind.max, IntKind.signed, IntKind.bits] using wN
end
end Go.Proofs.Ytjoldkfedmiciaa
