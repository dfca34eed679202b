/- The statements' arguments, opened. -/
import Derived.Test.YtigkckpjbnflpaaSlR
import Derived.Test.YtigkckpjbnflpaaLuX
import Derived.Test.YtigkckpjbnflpaaLuVi
import Derived.Test.YtigkckpjbnflpaaRows
import Derived.WalkKit
import Derived.ProofKit
import Derived.JoinedCond
namespace Go.Proofs.Ytigkckpjbnflpaa
open Go.ChangeShapes Go.WideShapes Go.RowKit
set_option linter.unusedVariables false

theorem ownKnob_none : ownKnob Try.prog.godebug = none := by kernel_rfl
theorem laidOut : laidOutB Try.prog = true := by kernel_rfl
theorem rowed : mapsRowed Try.prog = true := by kernel_rfl
theorem slicesFull : ((List.range Try.prog.types.size).all fun t => match Try.prog.underlying t with | some (.slice e) => decide (0 < Try.prog.cellsOf e) | _ => true) = true := by kernel_rfl
theorem cellsI : Try.prog.cellsOf 3 = keyEi.k := by kernel_rfl
theorem cellsB : Try.prog.cellsOf 4 = boolE.k := by kernel_rfl

section
variable {H : Type} {enc : TypeId × Value → H}
set_option maxRecDepth 100000 in
theorem open_ints' {W : World} {base : Nat} {v : Value} {d : DataW H} {ps : List MemPlace} (hval : Value.okWide Try.prog W .any base 37 v) (h : DataW.Trod enc Try.prog W 0 (fun _ => true) true 37 v d ps) :
    ∃ xs : List Int, Arg keyEi (fmOf W) v xs ∧ ∀ x ∈ xs, -9223372036854775808 ≤ x ∧ x ≤ 9223372036854775807 :=
  open_arg (E := keyEi) (fun x => -9223372036854775808 ≤ x ∧ x ≤ 9223372036854775807) Try.underlying37 cellsI hval h fun n cs y hlen hy => by
    obtain ⟨a, e, _, wa⟩ := DataW.trod_int Try.underlying3 hy
    refine ⟨a, e, ?_⟩
    simpa [Lit.wf, IntKind.min, IntKind.max, IntKind.signed, IntKind.bits] using wa
set_option maxRecDepth 100000 in
theorem open_bits {W : World} {base : Nat} {v : Value} {d : DataW H} {ps : List MemPlace} (hval : Value.okWide Try.prog W .any base 50 v) (h : DataW.Trod enc Try.prog W 0 (fun _ => true) true 50 v d ps) :
    ∃ xs : List Bool, Arg boolE (fmOf W) v xs := by
  obtain ⟨xs, h, _⟩ := open_arg (E := boolE) (fun _ => True) Try.underlying50 cellsB hval h fun n cs y hlen hy => by
    obtain ⟨b, e, _⟩ := DataW.trod_bool Try.underlying4 hy
    exact ⟨b, e, trivial⟩
  exact ⟨xs, h⟩
end
end Go.Proofs.Ytigkckpjbnflpaa
