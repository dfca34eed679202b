/- The statement's arguments, opened: steps of disks. -/
import Derived.Test.YtmocncadncgaaaaDkR
import Derived.Test.YtmocncadncgaaaaRfK
namespace Go.Proofs.Ytmocncadncgaaaa
open Go.ChangeShapes Go.WideShapes Go.RowKit
set_option linter.unusedVariables false
theorem under_step : Try.prog.underlying 57 = some (.struct #[⟨ "Kind", 3, 0, false, "", "", 0⟩, ⟨ "At", 3, 1, false, "", "", 8⟩, ⟨ "N", 3, 2, false, "", "", 16⟩, ⟨ "Name", 9, 3, false, "", "", 24⟩, ⟨ "Other", 9, 4, false, "", "", 40⟩, ⟨ "Data", 29, 5, false, "", "", 56⟩, ⟨ "Keep", 38, 6, false, "", "", 80⟩]) := by kernel_rfl
theorem cellsStep : Try.prog.cellsOf 57 = dsE.k := by kernel_rfl
theorem cellsI1 : Try.prog.cellsOf 3 = 1 := by kernel_rfl
theorem cellsS1 : Try.prog.cellsOf 9 = 1 := by kernel_rfl
theorem cellsL1 : Try.prog.cellsOf 29 = 1 := by kernel_rfl
theorem cellsK1 : Try.prog.cellsOf 38 = 1 := by kernel_rfl
section
variable {H : Type} {enc : TypeId × Value → H}
set_option maxRecDepth 100000 in
theorem open_dsteps {W : World} {base : Nat} {v : Value} {d : DataW H} {ps : List MemPlace} (hval : Value.okWide Try.prog W .any base 53 v) (h : DataW.Trod enc Try.prog W 0 (fun _ => true) true 53 v d ps) :
    ∃ (ls : List DsV) (xss : List (List UInt8)) (kss : List (List Bool)), ArgDs (fmOf W) v ls xss kss := by
  obtain ⟨ls, ha, hg⟩ := open_arg (E := dsE) (fun s => ∃ (xs : List UInt8) (ks : List Bool), Arg byteE (fmOf W) (.slice s.p s.m s.c) xs ∧ Arg boolE (fmOf W) (.slice s.q s.k s.e) ks ∧ s.n ≤ 9223372036854775807) Try.underlying53 cellsStep hval h fun n cs y hlen hy => by
    obtain ⟨ys, m, _, rfl, _, hl2, hf⟩ := DataW.trod_struct under_step hy
    match cs, hlen with
    | [c0, c1, c2, c3, c4, c5, c6], _ =>
      have h0 := hf 0 _ rfl
      have h1 := hf 1 _ rfl
      have h2 := hf 2 _ rfl
      have h3 := hf 3 _ rfl
      have h4 := hf 4 _ rfl
      have h5 := hf 5 _ rfl
      have h6 := hf 6 _ rfl
      match ys, hl2 with
      | [y0, y1, y2, y3, y4, y5, y6], _ =>
        obtain ⟨a, e0, _, _⟩ := DataW.trod_int Try.underlying3 h0
        obtain ⟨b, e1, _, _⟩ := DataW.trod_int Try.underlying3 h1
        obtain ⟨c, e2, _, wc⟩ := DataW.trod_int Try.underlying3 h2
        obtain ⟨⟨⟨s3⟩⟩, e3, _⟩ := DataW.trod_string Try.underlying9 h3
        obtain ⟨⟨⟨s4⟩⟩, e4, _⟩ := DataW.trod_string Try.underlying9 h4
        obtain ⟨p, q, r, xs, e5, hx, _⟩ := open_row (E := byteE) (fun _ => True) Try.underlying29 cellsB h5 fun n cs y hlen hy => dec_byte hy
        obtain ⟨p2, q2, r2, ks, e6, hk, _⟩ := open_row (E := boolE) (fun _ => True) Try.underlying38 cellsT h6 fun n cs y hlen hy => by
          obtain ⟨b, e, _⟩ := DataW.trod_bool Try.underlying4 hy
          exact ⟨b, e, trivial⟩
        simp [cellsI1, cellsS1, cellsL1, cellsK1] at e0 e1 e2 e3 e4 e5 e6
        subst e0 e1 e2 e3 e4 e5 e6
        refine ⟨⟨a, b, c, s3, s4, p, q, r, p2, q2, r2⟩, by simp [dsE, dsC, kS, encStr], xs, ks, hx, hk, ?_⟩
        simp [Lit.wf, IntKind.min, IntKind.max, IntKind.signed, IntKind.bits] at wc
        show c ≤ _
        omega
  have hc : ∀ i, i < ls.length → ∃ z : List UInt8 × List Bool, Arg byteE (fmOf W) (.slice ls[i]!.p ls[i]!.m ls[i]!.c) z.1 ∧ Arg boolE (fmOf W) (.slice ls[i]!.q ls[i]!.k ls[i]!.e) z.2 ∧ ls[i]!.n ≤ 9223372036854775807 := fun i hi => by
    obtain ⟨xs, ks, h1, h2, h3⟩ := hg _ (show ls[i]! ∈ ls by rw [getElem!_pos ls i hi]; exact List.getElem_mem _)
    exact ⟨(xs, ks), h1, h2, h3⟩
  obtain ⟨f, hf⟩ := Go.Deep.choose_lt hc
  refine ⟨ls, (List.range ls.length).map fun i => (f i).1, (List.range ls.length).map fun i => (f i).2, ⟨ha, fun i hi => ?_⟩⟩
  rw [getElem!_pos ((List.range ls.length).map fun i => (f i).1) i (by simpa using hi), List.getElem_map, List.getElem_range, getElem!_pos ((List.range ls.length).map fun i => (f i).2) i (by simpa using hi), List.getElem_map, List.getElem_range]
  exact hf i hi
end
end Go.Proofs.Ytmocncadncgaaaa
