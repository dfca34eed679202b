/- The statements' arguments, opened: bytes, records. -/
import Derived.Test.YtbhaahohaccecaaRcM
import Derived.Test.YtbhaahohaccecaaRows
import Derived.WalkKit
import Derived.ProofKit
import Derived.JoinedCond
namespace Go.Proofs.Ytbhaahohaccecaa
open Go.ChangeShapes Go.WideShapes Go.RowKit
set_option linter.unusedVariables false

theorem ownKnob_none : ownKnob Try.prog.godebug = none := by kernel_rfl
theorem laidOut : laidOutB Try.prog = true := by kernel_rfl
theorem rowed : mapsRowed Try.prog = true := by kernel_rfl
theorem slicesFull : ((List.range Try.prog.types.size).all fun t => match Try.prog.underlying t with | some (.slice e) => decide (0 < Try.prog.cellsOf e) | _ => true) = true := by kernel_rfl
theorem cellsB : Try.prog.cellsOf 5 = byteE.k := by kernel_rfl
theorem cells_rec : Try.prog.cellsOf 39 = recE.k := by kernel_rfl
theorem cells_u64 : Try.prog.cellsOf 37 = 1 := by kernel_rfl
theorem under_rec : Try.prog.underlying 39 = some (.struct #[⟨ "Key", 37, 0, false, "", "", 0⟩, ⟨ "Val", 37, 1, false, "", "", 8⟩]) := by kernel_rfl

theorem num_u8 {a : Int} (h : (Lit.int .u8 a).wf = true) : a = (((UInt8.ofNat a.toNat).toNat : Nat) : Int) := by
  simp [Lit.wf, IntKind.min, IntKind.max, IntKind.signed, IntKind.bits] at h
  simp
  omega

section
variable {H : Type} {enc : TypeId × Value → H}
set_option maxRecDepth 100000 in
theorem dec_byte {W : World} {n : Nat} {cs : List Value} {y : DataW H × List MemPlace} (hy : DataW.trod enc Try.prog W 0 (fun _ => true) true n 5 cs = some y) : ∃ x, cs = byteE.cells x ∧ True := by
  obtain ⟨a, e, _, wa⟩ := DataW.trod_int Try.underlying5 hy
  refine ⟨UInt8.ofNat a.toNat, ?_, trivial⟩
  rw [e]
  show [Value.int .u8 a] = [Value.int .u8 (((UInt8.ofNat a.toNat).toNat : Nat) : Int)]
  rw [← num_u8 wa]
set_option maxRecDepth 100000 in
theorem open_bytes' {W : World} {base : Nat} {v : Value} {d : DataW H} {ps : List MemPlace} (hval : Value.okWide Try.prog W .any base 22 v) (h : DataW.Trod enc Try.prog W 0 (fun _ => true) true 22 v d ps) :
    ∃ xs : List UInt8, Arg byteE (fmOf W) v xs := by
  obtain ⟨xs, h, _⟩ := open_arg (E := byteE) (fun _ => True) Try.underlying22 cellsB hval h fun n cs y hlen hy => dec_byte hy
  exact ⟨xs, h⟩
set_option maxRecDepth 100000 in
theorem open_recs {W : World} {base : Nat} {v : Value} {d : DataW H} {ps : List MemPlace} (hval : Value.okWide Try.prog W .any base 29 v) (h : DataW.Trod enc Try.prog W 0 (fun _ => true) true 29 v d ps) :
    ∃ xs : List Rk, Arg recE (fmOf W) v xs ∧ ∀ x ∈ xs, RIn x :=
  open_arg (E := recE) RIn Try.underlying29 cells_rec hval h fun n cs y hlen hy => by
    obtain ⟨y0, y1, m, _, _, h0, h1⟩ := trod_struct2 under_rec hy
    match cs, hlen with
    | [c0, c1], _ =>
      obtain ⟨a, e0, _, wa⟩ := DataW.trod_int Try.underlying37 h0
      obtain ⟨b, e1, _, wb⟩ := DataW.trod_int Try.underlying37 h1
      simp [cells_u64] at e0 e1
      subst e0 e1
      simp [Lit.wf, IntKind.min, IntKind.max, IntKind.signed, IntKind.bits] at wa wb
      refine ⟨⟨a.toNat, b.toNat⟩, ?_, ⟨by show a.toNat < 2 ^ 64; omega, by show b.toNat < 2 ^ 64; omega⟩⟩
      show [Value.int .u64 a, Value.int .u64 b] = [Value.int .u64 ((a.toNat : Nat) : Int), Value.int .u64 ((b.toNat : Nat) : Int)]
      rw [show ((a.toNat : Nat) : Int) = a by omega, show ((b.toNat : Nat) : Int) = b by omega]
end
end Go.Proofs.Ytbhaahohaccecaa
