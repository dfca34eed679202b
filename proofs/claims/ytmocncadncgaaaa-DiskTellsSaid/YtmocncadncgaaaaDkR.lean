/- The statements' arguments, opened: bytes, truths, numbers, rows of bytes, names. -/
import Derived.Test.YtmocncadncgaaaaDk6
import Derived.Test.YtmocncadncgaaaaRows
import Derived.WalkKit
import Derived.ProofKit
import Derived.JoinedCond
import Derived.ChangeMaps5
namespace Go.Proofs.Ytmocncadncgaaaa
open Go.ChangeShapes Go.WideShapes Go.RowKit
set_option linter.unusedVariables false

theorem ownKnob_none : ownKnob Try.prog.godebug = none := by kernel_rfl
theorem laidOut : laidOutB Try.prog = true := by kernel_rfl
theorem rowed : mapsRowed Try.prog = true := by kernel_rfl
theorem slicesFull : ((List.range Try.prog.types.size).all fun t => match Try.prog.underlying t with | some (.slice e) => decide (0 < Try.prog.cellsOf e) | _ => true) = true := by kernel_rfl
theorem cellsB : Try.prog.cellsOf 5 = byteE.k := by kernel_rfl
theorem cellsT : Try.prog.cellsOf 4 = boolE.k := by kernel_rfl
theorem cellsI : Try.prog.cellsOf 3 = intE.k := by kernel_rfl
theorem cellsSl : Try.prog.cellsOf 29 = 1 := by kernel_rfl

theorem num_u8 {a : Int} (h : (Lit.int .u8 a).wf = true) : a = (((UInt8.ofNat a.toNat).toNat : Nat) : Int) := by
  simp [Lit.wf, IntKind.min, IntKind.max, IntKind.signed, IntKind.bits] at h
  simp
  omega

section
variable {H : Type} {enc : TypeId × Value → H}
set_option maxRecDepth 100000 in
theorem dec_byte {W : World} {n : Nat} {cs : List Value} {y : DataW H × List MemPlace} (hy : DataW.trod enc Try.prog W 0 (fun _ => true) true n 5 cs = some y) : ∃ x, cs = byteE.cells x ∧ True := by
  obtain ⟨a, e, _, wa⟩ := DataW.trod_int Try.underlying5 hy
  refine ⟨UInt8.ofNat a.toNat, ?_, trivial⟩
  rw [e]
  show [Value.int .u8 a] = [Value.int .u8 (((UInt8.ofNat a.toNat).toNat : Nat) : Int)]
  rw [← num_u8 wa]
set_option maxRecDepth 100000 in
theorem open_bytes' {W : World} {base : Nat} {v : Value} {d : DataW H} {ps : List MemPlace} (hval : Value.okWide Try.prog W .any base 29 v) (h : DataW.Trod enc Try.prog W 0 (fun _ => true) true 29 v d ps) :
    ∃ xs : List UInt8, Arg byteE (fmOf W) v xs := by
  obtain ⟨xs, h, _⟩ := open_arg (E := byteE) (fun _ => True) Try.underlying29 cellsB hval h fun n cs y hlen hy => dec_byte hy
  exact ⟨xs, h⟩
set_option maxRecDepth 100000 in
theorem open_bits {W : World} {base : Nat} {v : Value} {d : DataW H} {ps : List MemPlace} (hval : Value.okWide Try.prog W .any base 38 v) (h : DataW.Trod enc Try.prog W 0 (fun _ => true) true 38 v d ps) :
    ∃ xs : List Bool, Arg boolE (fmOf W) v xs := by
  obtain ⟨xs, h, _⟩ := open_arg (E := boolE) (fun _ => True) Try.underlying38 cellsT hval h fun n cs y hlen hy => by
    obtain ⟨b, e, _⟩ := DataW.trod_bool Try.underlying4 hy
    exact ⟨b, e, trivial⟩
  exact ⟨xs, h⟩
set_option maxRecDepth 100000 in
theorem open_nums {W : World} {base : Nat} {v : Value} {d : DataW H} {ps : List MemPlace} (hval : Value.okWide Try.prog W .any base 28 v) (h : DataW.Trod enc Try.prog W 0 (fun _ => true) true 28 v d ps) :
    ∃ xs : List Int, Arg intE (fmOf W) v xs := by
  obtain ⟨xs, h, _⟩ := open_arg (E := intE) (fun _ => True) Try.underlying28 cellsI hval h fun n cs y hlen hy => by
    obtain ⟨a, e, _, wa⟩ := DataW.trod_int Try.underlying3 hy
    exact ⟨a, e, trivial⟩
  exact ⟨xs, h⟩
set_option maxRecDepth 100000 in
theorem open_rowsB {W : World} {base : Nat} {v : Value} {d : DataW H} {ps : List MemPlace} (hval : Value.okWide Try.prog W .any base 22 v) (h : DataW.Trod enc Try.prog W 0 (fun _ => true) true 22 v d ps) :
    ∃ (ls : List Sv) (xss : List (List UInt8)), ArgRB (fmOf W) v ls xss := by
  obtain ⟨ls, ha, hg⟩ := open_arg (E := slE) (fun s => ∃ xs : List UInt8, Arg byteE (fmOf W) s.v xs) Try.underlying22 cellsSl hval h fun n cs y hlen hy => by
    obtain ⟨p, m, c, xs, e, hx, _⟩ := open_row (E := byteE) (fun _ => True) Try.underlying29 cellsB hy fun n cs y hlen hy => dec_byte hy
    exact ⟨⟨p, m, c⟩, e, xs, hx⟩
  have hc : ∀ i, i < ls.length → ∃ xs : List UInt8, Arg byteE (fmOf W) ls[i]!.v xs := fun i hi => hg _ (by rw [getElem!_pos ls i hi]; exact List.getElem_mem _)
  obtain ⟨f, hf⟩ := Go.Deep.choose_lt hc
  refine ⟨ls, (List.range ls.length).map f, ⟨ha, by simp, fun i hi => ?_⟩⟩
  simp at hi
  rw [getElem!_pos ((List.range ls.length).map f) i (by simpa using hi), List.getElem_map, List.getElem_range]
  exact hf i hi
set_option maxRecDepth 100000 in
theorem open_name {W : World} {base : Nat} {v : Value} {d : DataW H} {ps : List MemPlace} (hval : Value.okWide Try.prog W .any base 9 v) (h : DataW.Trod enc Try.prog W 0 (fun _ => true) true 9 v d ps) : ∃ s : List UInt8, v = kS s := by
  obtain ⟨s, rfl, _⟩ := Go.ChangeMaps.open_string Try.underlying9 hval h
  refine ⟨s.data.toList, ?_⟩
  obtain ⟨a⟩ := s
  simp [kS, encStr]
end
end Go.Proofs.Ytmocncadncgaaaa
