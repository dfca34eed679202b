/- The statements' arguments, opened: steps. -/
import Derived.Test.YtigkckpjbnflpaaLuR
import Derived.Test.YtigkckpjbnflpaaLuTe
namespace Go.Proofs.Ytigkckpjbnflpaa
open Go.ChangeShapes Go.WideShapes Go.RowKit
set_option linter.unusedVariables false
theorem under_step : Try.prog.underlying 29 = some (.struct #[⟨ "Kind", 3, 0, false, "", "", 0⟩, ⟨ "Key", 9, 1, false, "", "", 8⟩]) := by kernel_rfl
theorem cellsStep : Try.prog.cellsOf 29 = stepE.k := by kernel_rfl
theorem cellsI1 : Try.prog.cellsOf 3 = 1 := by kernel_rfl
theorem cellsS1 : Try.prog.cellsOf 9 = 1 := by kernel_rfl
section
variable {H : Type} {enc : TypeId × Value → H}
set_option maxRecDepth 100000 in
theorem open_steps {W : World} {base : Nat} {v : Value} {d : DataW H} {ps : List MemPlace} (hval : Value.okWide Try.prog W .any base 22 v) (h : DataW.Trod enc Try.prog W 0 (fun _ => true) true 22 v d ps) :
    ∃ xs : List StepV, Arg stepE (fmOf W) v xs := by
  obtain ⟨xs, h, _⟩ := open_arg (E := stepE) (fun _ => True) Try.underlying22 cellsStep hval h fun n cs y hlen hy => by
    obtain ⟨y0, y1, m, _, _, h0, h1⟩ := trod_struct2 under_step hy
    match cs, hlen with
    | [c0, c1], _ =>
      obtain ⟨a, e0, _, wa⟩ := DataW.trod_int Try.underlying3 h0
      obtain ⟨b, e1, _, wb⟩ := DataW.trod_string Try.underlying9 h1
      simp [cellsI1, cellsS1] at e0 e1
      subst e0 e1
      exact ⟨⟨a, b⟩, rfl, trivial⟩
  exact ⟨xs, h⟩
end
end Go.Proofs.Ytigkckpjbnflpaa
