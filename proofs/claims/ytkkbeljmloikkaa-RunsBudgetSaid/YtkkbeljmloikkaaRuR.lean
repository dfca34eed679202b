/- The statements' arguments, opened: records. -/
import Derived.Test.YtkkbeljmloikkaaSlR
import Derived.Test.YtkkbeljmloikkaaRuX
import Derived.Test.YtkkbeljmloikkaaRows
import Derived.WalkKit
import Derived.ProofKit
import Derived.JoinedCond
namespace Go.Proofs.Ytkkbeljmloikkaa
open Go.ChangeShapes Go.WideShapes Go.RowKit
set_option linter.unusedVariables false

theorem ownKnob_none : ownKnob Try.prog.godebug = none := by kernel_rfl
theorem laidOut : laidOutB Try.prog = true := by kernel_rfl
theorem rowed : mapsRowed Try.prog = true := by kernel_rfl
theorem slicesFull : ((List.range Try.prog.types.size).all fun t => match Try.prog.underlying t with | some (.slice e) => decide (0 < Try.prog.cellsOf e) | _ => true) = true := by kernel_rfl
theorem cells_rec : Try.prog.cellsOf 44 = 2 := by kernel_rfl
theorem cells_u64 : Try.prog.cellsOf 39 = 1 := by kernel_rfl
theorem under_rec : Try.prog.underlying 44 = some (.struct #[⟨ "Key", 39, 0, false, "", "", 0⟩, ⟨ "Val", 39, 1, false, "", "", 8⟩]) := by kernel_rfl

theorem nr_of {xs : List Rc} (h : ∀ x ∈ xs, InR x) : NR xs := fun x hx => (h x hx).2
section
variable {H : Type} {enc : TypeId × Value → H}
set_option maxRecDepth 100000 in
theorem dec_rec {W : World} {n : Nat} {cs : List Value} {y : DataW H × List MemPlace} (hlen : cs.length = recE.k) (hy : DataW.trod enc Try.prog W 0 (fun _ => true) true n 44 cs = some y) : ∃ x, cs = recE.cells x ∧ InR x := by
  obtain ⟨y0, y1, m, _, _, h0, h1⟩ := trod_struct2 under_rec hy
  match cs, hlen with
  | [c0, c1], _ =>
    obtain ⟨a, e0, _, wa⟩ := DataW.trod_int Try.underlying39 h0
    obtain ⟨b, e1, _, wb⟩ := DataW.trod_int Try.underlying39 h1
    simp [cells_u64] at e0 e1
    subst e0 e1
    refine ⟨⟨a, b⟩, rfl, ?_⟩
    simp [Lit.wf, IntKind.min, IntKind.max, IntKind.signed, IntKind.bits] at wa wb
    exact ⟨⟨wa.1, by show a < _; omega⟩, ⟨wb.1, by show b < _; omega⟩⟩
set_option maxRecDepth 100000 in
theorem open_recs {W : World} {base : Nat} {v : Value} {d : DataW H} {ps : List MemPlace} (hval : Value.okWide Try.prog W .any base 22 v) (h : DataW.Trod enc Try.prog W 0 (fun _ => true) true 22 v d ps) :
    ∃ xs : List Rc, Arg recE (fmOf W) v xs ∧ ∀ x ∈ xs, InR x :=
  open_arg (E := recE) InR Try.underlying22 cells_rec hval h fun n cs y hlen hy => dec_rec hlen hy
theorem cells_sl : Try.prog.cellsOf 22 = 1 := by kernel_rfl
set_option maxRecDepth 100000 in
theorem open_rows {W : World} {base : Nat} {v : Value} {d : DataW H} {ps : List MemPlace} (hval : Value.okWide Try.prog W .any base 28 v) (h : DataW.Trod enc Try.prog W 0 (fun _ => true) true 28 v d ps) :
    ∃ (ls : List Sv) (xss : List (List Rc)), ArgRR (fmOf W) v ls xss ∧ ∀ xs ∈ xss, NR xs := by
  obtain ⟨ls, ha, hg⟩ := open_arg (E := slE) (fun s => ∃ xs : List Rc, Arg recE (fmOf W) s.v xs ∧ ∀ x ∈ xs, InR x) Try.underlying28 cells_sl hval h fun n cs y hlen hy => by
    obtain ⟨p, m, c, xs, e, hx, hI⟩ := open_row (E := recE) InR Try.underlying22 cells_rec hy fun n cs y hlen hy => dec_rec hlen hy
    exact ⟨⟨p, m, c⟩, e, xs, hx, hI⟩
  have hc : ∀ i, i < ls.length → ∃ xs : List Rc, Arg recE (fmOf W) ls[i]!.v xs ∧ ∀ x ∈ xs, InR x := fun i hi => hg _ (by rw [getElem!_pos ls i hi]; exact List.getElem_mem _)
  obtain ⟨f, hf⟩ := Go.Deep.choose_lt hc
  refine ⟨ls, (List.range ls.length).map f, ⟨ha, by simp, fun i hi => ?_⟩, fun xs hx => ?_⟩
  · simp at hi
    rw [getElem!_pos ((List.range ls.length).map f) i (by simpa using hi), List.getElem_map, List.getElem_range]
    exact (hf i hi).1
  · obtain ⟨i, hi, rfl⟩ := List.mem_map.1 hx
    exact nr_of (hf i (List.mem_range.1 hi)).2
theorem u64_in {a : Int} (h : (Lit.int .u64 a).wf = true) : 0 ≤ a ∧ a < 18446744073709551616 := by
  simp [Lit.wf, IntKind.min, IntKind.max, IntKind.signed, IntKind.bits] at h
  omega
end
end Go.Proofs.Ytkkbeljmloikkaa
