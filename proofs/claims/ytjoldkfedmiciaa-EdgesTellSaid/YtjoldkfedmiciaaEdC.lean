/- Graphs: Encode, the document's too. -/
import Derived.Test.YtjoldkfedmiciaaEdB
namespace Go.Proofs.Ytjoldkfedmiciaa
set_option linter.unusedVariables false

def nums (e : Eg) : List Nat := [e.f, e.t, e.w]
def encE (e : Eg) : List UInt8 := (nums e).flatMap (leBytes 4)
def encG (N : Nat) (es : List Eg) : List UInt8 := leBytes 4 N ++ es.flatMap encE
theorem nums_get (e : Eg) {j : Nat} (hj : j < 3) : (egC e)[j]? = some (.int .u32 (((nums e)[j]! : Nat) : Int)) := by
  match j, hj with
  | 0, _ => rfl
  | 1, _ => rfl
  | 2, _ => rfl
theorem nums_lt {e : Eg} (he : InE e) {j : Nat} (hj : j < 3) : (nums e)[j]! < 4294967296 := by
  match j, hj with
  | 0, _ => exact he.1
  | 1, _ => exact he.2.1
  | 2, _ => exact he.2.2
@[simp] theorem encE_length (e : Eg) : (encE e).length = 12 := by simp [encE, nums]
@[simp] theorem encs_length : ∀ es : List Eg, (es.flatMap encE).length = 12 * es.length
  | [] => rfl
  | e :: es => by simp [encs_length es]; omega
theorem rightG_nat {N : Int} {es : List Eg} (h : rightG N es = true) : ∃ M : Nat, N = (M : Int) ∧ M ≤ 1048576 := by
  simp only [rightG, Bool.and_eq_true, decide_eq_true_eq] at h
  exact ⟨N.toNat, by omega, by omega⟩

theorem encode_spec {F : Fm} {va : Value} {es : List Eg} (ha : Arg edgeE F va es) (hN : es.length < 1000000) (hE : ∀ e ∈ es, InE e) (N : Int) :
    Spec Try.prog 13 #[grV N va] F [] fun v s => (rightG N es = true ∧ ∃ u, v = .tuple #[u, .int .i64 0] ∧ Own byteE u (encG N.toNat es) s) ∨ (rightG N es = false ∧ v = .tuple #[.slice none 0 0, .int .i64 1]) := by
  obtain ⟨p, c, rfl⟩ := ha.shape
  refine Spec.of (n := 49) (vs := [grV N (.slice p es.length c)]) Try.func13 rfl Try.ntmps13 rfl ?_
  refine Vc.seq ?_
  refine Vc.text (List.range 3) (sd [(0, .eff), (1, .pure), (2, .pure)]) rfl ?_
  refine Rg.box rfl rfl rfl rfl rfl (fun b1 => ?_)
  refine Rg.pure rfl rfl rfl (Pv.assign rfl) ?_
  refine Rg.pure rfl rfl rfl (Pv.assign rfl) ?_
  refine Rg.nil ?_
  refine Vc.seq ?_
  refine Vc.seq ?_
  refine Vc.text (List.range 3) (sd [(0, .read), (1, .eff), (2, .pure)]) rfl ?_
  refine Rg.read rfl rfl rfl (Ev.ldA rfl rfl) ?_
  refine Rg.callP rfl rfl rfl (run_callF rfl) (right_spec (ha.mono fun b o h => Or.inr h) (by omega) hE N) ?_
  rintro _ rfl
  refine Rg.pure rfl rfl rfl (Pv.not rfl) ?_
  refine Rg.nil ?_
  refine Vc.cond rfl (fun h11 => ?_) (fun h11 => ?_)
  ·
    have hr : rightG N es = false := (by simpa using h11)
    refine Vc.seq ?_
    refine Vc.text (List.range 2) (sd [(0, .pure), (1, .pure)]) rfl ?_
    refine Rg.pure rfl rfl rfl (Pv.assign rfl) ?_
    refine Rg.pure rfl rfl rfl (Pv.assign rfl) ?_
    refine Rg.nil ?_
    refine Vc.ret (Vc.rets rfl (.cons (.tmp rfl) (.cons (.tmp rfl) (.nil))) ?_)
    exact .inr ⟨hr, rfl⟩
  ·
    have hr : rightG N es = true := (by simpa using h11)
    obtain ⟨M, rfl, hM⟩ := rightG_nat hr
    refine Vc.skip ?_
    refine Vc.seq ?_
    refine Vc.text (List.range 7) (sd [(0, .pure), (1, .read), (2, .pure), (3, .pure), (4, .pure), (5, .eff), (6, .pure)]) rfl ?_
    refine Rg.pure rfl rfl rfl (Pv.fa rfl) ?_
    refine Rg.read rfl rfl rfl (Ev.ld rfl rfl) ?_
    refine Rg.pure rfl rfl rfl (Pv.lenS rfl) ?_
    refine Rg.pure rfl rfl rfl (Pv.asI (12 * es.length) (Pv.mul rfl rfl (by omega)) (by omega)) ?_
    refine Rg.pure rfl rfl rfl (Pv.asI (4 + 12 * es.length) (Pv.add rfl rfl (by omega)) (by omega)) ?_
    refine Rg.make0 byteE rfl rfl rfl rfl rfl (by simp [maxLen] <;> omega) (fun b17 sp17 own17 => ?_)
    refine Rg.pure rfl rfl rfl (Pv.assign rfl) ?_
    refine Rg.nil ?_
    refine Vc.seq ?_
    refine Vc.text (List.range 7) (sd [(0, .pure), (1, .pure), (2, .read), (3, .pure), (4, .eff), (5, .eff), (6, .pure)]) rfl ?_
    refine Rg.pure rfl rfl rfl (Pv.move rfl) ?_
    refine Rg.pure rfl rfl rfl (Pv.fa rfl) ?_
    refine Rg.read rfl rfl rfl (Ev.ld rfl rfl) ?_
    refine Rg.pure rfl rfl rfl (Pv.asI M (Pv.convI rfl) (wrap_ult rfl (by show _ < 2 ^ 64; omega))) ?_
    refine Rg.callA rfl rfl rfl (run_callF rfl) (put_spec (xs := []) (.inl ⟨rfl, rfl⟩) (by simp) 4 M (by decide)) ?_
    rintro v22 s22 own22
    refine Rg.append rfl rfl rfl rfl rfl own17 (Src.own (rest := []) own22 Sb.sub) (by simp <;> omega) (by simp [maxLen] <;> omega) rfl (fun v23 s23 own23 => ?_)
    refine Rg.pure rfl rfl rfl (Pv.assign rfl) ?_
    refine Rg.nil ?_
    refine Vc.seq ?_
    refine Vc.seq ?_
    refine Vc.text (List.range 4) (sd [(0, .pure), (1, .read), (2, .pure), (3, .pure)]) rfl ?_
    refine Rg.pure rfl rfl rfl (Pv.fa rfl) ?_
    refine Rg.read rfl rfl rfl (Ev.ld rfl rfl) ?_
    refine Rg.pure rfl rfl rfl (Pv.lenS rfl) ?_
    refine Rg.pure rfl rfl rfl (Pv.move rfl) ?_
    refine Rg.nil ?_
    refine Vc.block ?_
    refine Vc.loop3 (fun (i : Nat) (v : Value) (sg : Hl) => i ≤ es.length ∧ Own byteE v (leBytes 4 M ++ (es.take i).flatMap encE) sg) (fun i v sg => [(1, .pointer (some ⟨b1, 0, none⟩)), (4, v), (25, .slice p es.length c), (26, .int .i64 (es.length : Int)), (27, .int .i64 (i : Int))]) (fun i v sg => (b1, cellsO [.int .i64 (M : Int), .slice p es.length c] 24) :: sg) (fun i v sg => es.length - i) 0 v23 s23 ⟨Nat.zero_le _, by simpa using own23⟩ (.cons rfl (.cons rfl (.cons rfl (.cons rfl (.cons rfl .nil))))) pulled ?_
    rintro i v sg ⟨hi, own⟩
    refine Vc.seq ?_
    refine Vc.text (List.range 1) (sd [(0, .pure)]) rfl ?_
    refine Rg.pure rfl rfl rfl (Pv.lss rfl rfl) ?_
    refine Rg.nil ?_
    refine Vc.seq ?_
    refine Vc.cond rfl (fun h28 => ?_) (fun h28 => ?_)
    ·
      simp only [decide_eq_true_eq] at h28
      obtain ⟨b, off, c', e, _⟩ := ha.block (by omega)
      cases e
      have hi1 : i < es.length := by omega
      have he : InE es[i]! := hE _ (by rw [getElem!_pos es i hi1]; exact List.getElem_mem _)
      have htk := take_get es hi1
      generalize hx : es[i]! = x at he htk
      refine Vc.skip ?_
      refine Vc.seq ?_
      refine Vc.block ?_
      refine Vc.seq ?_
      refine Vc.text (List.range 4) (sd [(0, .pure), (1, .read), (2, .eff), (3, .eff)]) rfl ?_
      refine Rg.pure rfl rfl rfl (Pv.ixA (i) rfl rfl (by omega) (by omega)) ?_
      refine Rg.read rfl rfl rfl (Ev.as (egV x) (Ev.ldS i ha.src rfl rfl rfl hi1) (congrArg egV hx)) ?_
      refine Rg.alloc rfl rfl rfl rfl (fun b6 => ?_)
      refine Rg.storeA (us := egC x) rfl rfl rfl rfl rfl rfl rfl rfl ?_
      refine Rg.nil ?_
      refine Vc.seq ?_
      refine Vc.text (List.range 8) (sd [(0, .pure), (1, .read), (2, .pure), (3, .read), (4, .pure), (5, .read), (6, .pure), (7, .pure)]) rfl ?_
      refine Rg.pure rfl rfl rfl (Pv.fa rfl) ?_
      refine Rg.read rfl rfl rfl (Ev.ld rfl rfl) ?_
      refine Rg.pure rfl rfl rfl (Pv.fa rfl) ?_
      refine Rg.read rfl rfl rfl (Ev.ld rfl rfl) ?_
      refine Rg.pure rfl rfl rfl (Pv.fa rfl) ?_
      refine Rg.read rfl rfl rfl (Ev.ld rfl rfl) ?_
      refine Rg.pure rfl rfl rfl (Pv.buildA rfl rfl) ?_
      refine Rg.pure rfl rfl rfl (Pv.move rfl) ?_
      refine Rg.nil ?_
      refine Vc.block ?_
      refine Vc.loop4 (fun (j : Nat) (ys : List UInt8) (v : Value) (sg : Hl) => j ≤ 3 ∧ ys = leBytes 4 M ++ (es.take i).flatMap encE ++ ((nums x).take j).flatMap (leBytes 4) ∧ ys.length = 4 + 12 * i + 4 * j ∧ Own byteE v ys sg) (fun j ys v sg => [(1, .pointer (some ⟨b1, 0, none⟩)), (4, v), (25, .slice (some ⟨b, off, none⟩) es.length c), (26, .int .i64 (es.length : Int)), (27, .int .i64 (i : Int)), (37, egV x), (38, .int .i64 (j : Int))]) (fun j ys v sg => (b1, cellsO [.int .i64 (M : Int), .slice (some ⟨b, off, none⟩) es.length c] 24) :: sg) (fun j ys v sg => 3 - j) 0 _ v sg ⟨Nat.zero_le _, by simp, by rw [List.length_append, leBytes_length, encs_length, List.length_take]; omega, own⟩ (.cons rfl (.cons rfl (.cons rfl (.cons rfl (.cons rfl (.cons rfl (.cons rfl .nil))))))) pulled ?_
      rintro j ys v sg ⟨hj, hys, hlen, own⟩
      refine Vc.seq ?_
      refine Vc.text (List.range 1) (sd [(0, .pure)]) rfl ?_
      refine Rg.pure rfl rfl rfl (Pv.lss rfl rfl) ?_
      refine Rg.nil ?_
      refine Vc.seq ?_
      refine Vc.cond rfl (fun h39 => ?_) (fun h39 => ?_)
      ·
        simp only [decide_eq_true_eq] at h39
        have hj3 : j < 3 := by omega
        have hnl := nums_lt he hj3
        refine Vc.skip ?_
        refine Vc.seq ?_
        refine Vc.block ?_
        refine Vc.seq ?_
        refine Vc.text (List.range 2) (sd [(0, .pure), (1, .pure)]) rfl ?_
        refine Rg.pure rfl rfl rfl (Pv.index j rfl rfl hj3 (nums_get x hj3) rfl) ?_
        refine Rg.pure rfl rfl rfl (Pv.assign rfl) ?_
        refine Rg.nil ?_
        refine Vc.text (List.range 6) (sd [(0, .pure), (1, .pure), (2, .pure), (3, .eff), (4, .eff), (5, .pure)]) rfl ?_
        refine Rg.pure rfl rfl rfl (Pv.move rfl) ?_
        refine Rg.pure rfl rfl rfl (Pv.move rfl) ?_
        refine Rg.pure rfl rfl rfl (Pv.asI (nums x)[j]! (Pv.convI rfl) (wrap_ult rfl (by show _ < 2 ^ 64; omega))) ?_
        refine Rg.callA rfl rfl rfl (run_callF rfl) (put_spec (xs := []) (.inl ⟨rfl, rfl⟩) (by simp) 4 (nums x)[j]! (by decide)) ?_
        rintro v44 s44 own44
        refine Rg.append rfl rfl rfl rfl rfl own (Src.own (rest := []) own44 Sb.sub) (by simp <;> omega) (by simp [maxLen] <;> omega) rfl (fun v45 s45 own45 => ?_)
        refine Rg.pure rfl rfl rfl (Pv.assign rfl) ?_
        refine Rg.nil ?_
        refine Vc.blk ?_
        refine Vc.text (List.range 2) (sd [(0, .pure), (1, .pure)]) rfl ?_
        refine Rg.pure rfl rfl rfl (Pv.asI (j + 1) (Pv.add rfl rfl (by omega)) (by omega)) ?_
        refine Rg.pure rfl rfl rfl (Pv.move rfl) ?_
        refine Rg.nil ?_
        exact Vc.inv4 (j + 1) _ v45 s45 ⟨⟨by omega, by rw [take_get (nums x) (by simpa [nums] using hj3), hys]; simp, by simp [hlen]; omega, own45⟩, by omega⟩ (.cons rfl (.cons rfl (.cons rfl (.cons rfl (.cons rfl (.cons rfl (.cons rfl .nil))))))) pulled
      ·
        simp only [decide_eq_false_iff_not] at h39
        obtain rfl : j = 3 := by omega
        have ownE : Own byteE v (leBytes 4 M ++ (es.take (i + 1)).flatMap encE) sg := by
          rw [htk, List.flatMap_append, ← List.append_assoc]
          rw [hys] at own
          simpa [encE, nums] using own
        refine Vc.exit rfl ?_
        refine Vc.blk ?_
        refine Vc.text (List.range 2) (sd [(0, .pure), (1, .pure)]) rfl ?_
        refine Rg.pure rfl rfl rfl (Pv.asI (i + 1) (Pv.add rfl rfl (by omega)) (by omega)) ?_
        refine Rg.pure rfl rfl rfl (Pv.move rfl) ?_
        refine Rg.nil ?_
        exact Vc.inv3 (i + 1) v sg ⟨⟨by omega, ownE⟩, by omega⟩ (.cons rfl (.cons rfl (.cons rfl (.cons rfl (.cons rfl .nil))))) pulled
    ·
      simp only [decide_eq_false_iff_not] at h28
      rw [List.take_of_length_le (by omega)] at own
      refine Vc.exit rfl ?_
      refine Vc.seq ?_
      refine Vc.text (List.range 3) (sd [(0, .pure), (1, .pure), (2, .pure)]) rfl ?_
      refine Rg.pure rfl rfl rfl (Pv.move rfl) ?_
      refine Rg.pure rfl rfl rfl (Pv.assign rfl) ?_
      refine Rg.pure rfl rfl rfl (Pv.assign rfl) ?_
      refine Rg.nil ?_
      exact Vc.ret (Vc.retsH rfl (.cons (.tmp rfl) (.cons (.tmp rfl) (.nil))) (.inl ⟨hr, v, rfl, own⟩) pulled)
end Go.Proofs.Ytjoldkfedmiciaa
