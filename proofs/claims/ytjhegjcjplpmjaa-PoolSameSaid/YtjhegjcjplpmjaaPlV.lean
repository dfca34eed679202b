/- The statements' arguments, opened: steps. -/
import Derived.Test.YtjhegjcjplpmjaaPlR
import Derived.Test.YtjhegjcjplpmjaaPlU
namespace Go.Proofs.Ytjhegjcjplpmjaa
open Go.ChangeShapes Go.WideShapes Go.RowKit
set_option linter.unusedVariables false
theorem under_step : Try.prog.underlying 32 = some (.struct #[⟨ "Kind", 3, 0, false, "", "", 0⟩, ⟨ "At", 3, 1, false, "", "", 8⟩, ⟨ "N", 3, 2, false, "", "", 16⟩, ⟨ "Other", 4, 3, false, "", "", 24⟩, ⟨ "Data", 28, 4, false, "", "", 32⟩]) := by kernel_rfl
theorem cellsStep : Try.prog.cellsOf 32 = stE.k := by kernel_rfl
theorem cellsI1 : Try.prog.cellsOf 3 = 1 := by kernel_rfl
theorem cellsO1 : Try.prog.cellsOf 4 = 1 := by kernel_rfl
theorem cellsL1 : Try.prog.cellsOf 28 = 1 := by kernel_rfl
section
variable {H : Type} {enc : TypeId × Value → H}
set_option maxRecDepth 100000 in
theorem open_steps {W : World} {base : Nat} {v : Value} {d : DataW H} {ps : List MemPlace} (hval : Value.okWide Try.prog W .any base 22 v) (h : DataW.Trod enc Try.prog W 0 (fun _ => true) true 22 v d ps) :
    ∃ (ls : List StV) (xss : List (List UInt8)), ArgSt (fmOf W) v ls xss := by
  obtain ⟨ls, ha, hg⟩ := open_arg (E := stE) (fun s => ∃ xs : List UInt8, Arg byteE (fmOf W) (.slice s.p s.m s.c) xs) Try.underlying22 cellsStep hval h fun n cs y hlen hy => by
    obtain ⟨ys, m, _, rfl, _, hl2, hf⟩ := DataW.trod_struct under_step hy
    match cs, hlen with
    | [c0, c1, c2, c3, c4], _ =>
      have h0 := hf 0 _ rfl
      have h1 := hf 1 _ rfl
      have h2 := hf 2 _ rfl
      have h3 := hf 3 _ rfl
      have h4 := hf 4 _ rfl
      match ys, hl2 with
      | [y0, y1, y2, y3, y4], _ =>
        obtain ⟨a, e0, _, _⟩ := DataW.trod_int Try.underlying3 h0
        obtain ⟨b, e1, _, _⟩ := DataW.trod_int Try.underlying3 h1
        obtain ⟨c, e2, _, _⟩ := DataW.trod_int Try.underlying3 h2
        obtain ⟨o, e3, _⟩ := DataW.trod_bool Try.underlying4 h3
        obtain ⟨p, q, r, xs, e4, hx, _⟩ := open_row (E := byteE) (fun _ => True) Try.underlying28 cellsB h4 fun n cs y hlen hy => dec_byte hy
        simp [cellsI1, cellsO1, cellsL1] at e0 e1 e2 e3 e4
        subst e0 e1 e2 e3 e4
        exact ⟨⟨a, b, c, o, p, q, r⟩, rfl, xs, hx⟩
  have hc : ∀ i, i < ls.length → ∃ xs : List UInt8, Arg byteE (fmOf W) (.slice ls[i]!.p ls[i]!.m ls[i]!.c) xs := fun i hi => hg _ (by rw [getElem!_pos ls i hi]; exact List.getElem_mem _)
  obtain ⟨f, hf⟩ := Go.Deep.choose_lt hc
  refine ⟨ls, (List.range ls.length).map f, ⟨ha, fun i hi => ?_⟩⟩
  rw [getElem!_pos ((List.range ls.length).map f) i (by simpa using hi), List.getElem_map, List.getElem_range]
  exact hf i hi
end
end Go.Proofs.Ytjhegjcjplpmjaa
