/- The statements' arguments, opened: slices of records and of bools. -/
import Derived.Test.YtbhgbhhdpcehbaaSlR
import Derived.Test.YtbhgbhhdpcehbaaHpH
import Derived.Test.YtbhgbhhdpcehbaaHpD
import Derived.Test.YtbhgbhhdpcehbaaRows
import Derived.WalkKit
import Derived.ProofKit
import Derived.JoinedCond
namespace Go.Proofs.Ytbhgbhhdpcehbaa
open Go.ChangeShapes Go.WideShapes Go.RowKit
set_option linter.unusedVariables false

theorem ownKnob_none : ownKnob Try.prog.godebug = none := by kernel_rfl
theorem laidOut : laidOutB Try.prog = true := by kernel_rfl
theorem rowed : mapsRowed Try.prog = true := by kernel_rfl
theorem slicesFull : ((List.range Try.prog.types.size).all fun t => match Try.prog.underlying t with | some (.slice e) => decide (0 < Try.prog.cellsOf e) | _ => true) = true := by kernel_rfl
theorem cells_rec : Try.prog.cellsOf 30 = 2 := by kernel_rfl
theorem cells_u64 : Try.prog.cellsOf 28 = 1 := by kernel_rfl
theorem cells_bool : Try.prog.cellsOf 4 = 1 := by kernel_rfl
theorem under_rec : Try.prog.underlying 30 = some (.struct #[⟨ "Key", 28, 0, false, "", "", 0⟩, ⟨ "Val", 28, 1, false, "", "", 8⟩]) := by kernel_rfl

section
variable {H : Type} {enc : TypeId × Value → H}
theorem open_recs {W : World} {base : Nat} {v : Value} {d : DataW H} {ps : List MemPlace} (hval : Value.okWide Try.prog W .any base 22 v) (h : DataW.Trod enc Try.prog W 0 (fun _ => true) true 22 v d ps) :
    ∃ xs : List Rc, Arg recE (fmOf W) v xs ∧ ∀ x ∈ xs, InR x :=
  open_arg (E := recE) InR Try.underlying22 cells_rec hval h fun n cs y hlen hy => by
    obtain ⟨y0, y1, m, _, _, h0, h1⟩ := trod_struct2 under_rec hy
    match cs, hlen with
    | [c0, c1], _ =>
      obtain ⟨a, e0, _, wa⟩ := DataW.trod_int Try.underlying28 h0
      obtain ⟨b, e1, _, wb⟩ := DataW.trod_int Try.underlying28 h1
      simp [cells_u64] at e0 e1
      subst e0 e1
      refine ⟨⟨a, b⟩, rfl, ?_⟩
      simp [Lit.wf, IntKind.min, IntKind.max, IntKind.signed, IntKind.bits] at wa wb
      exact ⟨wa.1, wa.2, wb.1, wb.2⟩
theorem open_bits {W : World} {base : Nat} {v : Value} {d : DataW H} {ps : List MemPlace} (hval : Value.okWide Try.prog W .any base 23 v) (h : DataW.Trod enc Try.prog W 0 (fun _ => true) true 23 v d ps) :
    ∃ xs : List Bool, Arg boolE (fmOf W) v xs := by
  obtain ⟨xs, h, _⟩ := open_arg (E := boolE) (fun _ => True) Try.underlying23 cells_bool hval h fun n cs y hlen hy => by
    obtain ⟨b, e, _⟩ := DataW.trod_bool Try.underlying4 hy
    exact ⟨b, e, trivial⟩
  exact ⟨xs, h⟩
end
end Go.Proofs.Ytbhgbhhdpcehbaa
