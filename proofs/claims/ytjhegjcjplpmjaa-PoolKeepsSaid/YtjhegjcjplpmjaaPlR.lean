/- The statements' arguments, opened: bytes, numbers. -/
import Derived.Test.YtjhegjcjplpmjaaPlS
import Derived.Test.YtjhegjcjplpmjaaRows
import Derived.WalkKit
import Derived.ProofKit
import Derived.JoinedCond
import Derived.ChangeMaps5
namespace Go.Proofs.Ytjhegjcjplpmjaa
open Go.ChangeShapes Go.WideShapes Go.RowKit
set_option linter.unusedVariables false

theorem ownKnob_none : ownKnob Try.prog.godebug = none := by kernel_rfl
theorem laidOut : laidOutB Try.prog = true := by kernel_rfl
theorem rowed : mapsRowed Try.prog = true := by kernel_rfl
theorem slicesFull : ((List.range Try.prog.types.size).all fun t => match Try.prog.underlying t with | some (.slice e) => decide (0 < Try.prog.cellsOf e) | _ => true) = true := by kernel_rfl
theorem cellsB : Try.prog.cellsOf 5 = byteE.k := by kernel_rfl
theorem cellsI : Try.prog.cellsOf 3 = intE.k := by kernel_rfl

theorem num_u8 {a : Int} (h : (Lit.int .u8 a).wf = true) : a = (((UInt8.ofNat a.toNat).toNat : Nat) : Int) := by
  simp [Lit.wf, IntKind.min, IntKind.max, IntKind.signed, IntKind.bits] at h
  simp
  omega

section
variable {H : Type} {enc : TypeId × Value → H}
set_option maxRecDepth 100000 in
theorem dec_byte {W : World} {n : Nat} {cs : List Value} {y : DataW H × List MemPlace} (hy : DataW.trod enc Try.prog W 0 (fun _ => true) true n 5 cs = some y) : ∃ x, cs = byteE.cells x ∧ True := by
  obtain ⟨a, e, _, wa⟩ := DataW.trod_int Try.underlying5 hy
  refine ⟨UInt8.ofNat a.toNat, ?_, trivial⟩
  rw [e]
  show [Value.int .u8 a] = [Value.int .u8 (((UInt8.ofNat a.toNat).toNat : Nat) : Int)]
  rw [← num_u8 wa]
set_option maxRecDepth 100000 in
theorem open_bytes' {W : World} {base : Nat} {v : Value} {d : DataW H} {ps : List MemPlace} (hval : Value.okWide Try.prog W .any base 28 v) (h : DataW.Trod enc Try.prog W 0 (fun _ => true) true 28 v d ps) :
    ∃ xs : List UInt8, Arg byteE (fmOf W) v xs := by
  obtain ⟨xs, h, _⟩ := open_arg (E := byteE) (fun _ => True) Try.underlying28 cellsB hval h fun n cs y hlen hy => dec_byte hy
  exact ⟨xs, h⟩
set_option maxRecDepth 100000 in
theorem open_nums {W : World} {base : Nat} {v : Value} {d : DataW H} {ps : List MemPlace} (hval : Value.okWide Try.prog W .any base 42 v) (h : DataW.Trod enc Try.prog W 0 (fun _ => true) true 42 v d ps) :
    ∃ xs : List Int, Arg intE (fmOf W) v xs := by
  obtain ⟨xs, h, _⟩ := open_arg (E := intE) (fun _ => True) Try.underlying42 cellsI hval h fun n cs y hlen hy => by
    obtain ⟨a, e, _, wa⟩ := DataW.trod_int Try.underlying3 hy
    exact ⟨a, e, trivial⟩
  exact ⟨xs, h⟩
end
end Go.Proofs.Ytjhegjcjplpmjaa
