/- Graphs: the document's Encode. -/
import Derived.Test.YtjoldkfedmiciaaEdC
namespace Go.Proofs.Ytjoldkfedmiciaa
set_option linter.unusedVariables false

theorem rencode_spec {F : Fm} {va : Value} {es : List Eg} (ha : Arg edgeE F va es) (hN : es.length < 1000000) (hE : ∀ e ∈ es, InE e) (M : Nat) (hM : M ≤ 1048576) :
    Spec Try.prog 17 #[grV (M : Int) va] F [] fun v s => Own byteE v (encG M es) s := by
  obtain ⟨p, c, rfl⟩ := ha.shape
  refine Spec.of (n := 53) (vs := [grV (M : Int) (.slice p es.length c)]) Try.func17 rfl Try.ntmps17 rfl ?_
  refine Vc.seq ?_
  refine Vc.text (List.range 2) (sd [(0, .eff), (1, .pure)]) rfl ?_
  refine Rg.box rfl rfl rfl rfl rfl (fun b1 => ?_)
  refine Rg.pure rfl rfl rfl (Pv.assign rfl) ?_
  refine Rg.nil ?_
  refine Vc.seq ?_
  refine Vc.text (List.range 5) (sd [(0, .pure), (1, .read), (2, .pure), (3, .eff), (4, .pure)]) rfl ?_
  refine Rg.pure rfl rfl rfl (Pv.fa rfl) ?_
  refine Rg.read rfl rfl rfl (Ev.ld rfl rfl) ?_
  refine Rg.pure rfl rfl rfl (Pv.asI M (Pv.convI rfl) (wrap_ult rfl (by show _ < 2 ^ 64; omega))) ?_
  refine Rg.callA rfl rfl rfl (run_callF rfl) (rput_spec (xs := []) (.inl ⟨rfl, rfl⟩) (by simp) 4 M (by decide)) ?_
  rintro v12 s12 own12
  refine Rg.pure rfl rfl rfl (Pv.assign rfl) ?_
  refine Rg.nil ?_
  refine Vc.seq ?_
  refine Vc.seq ?_
  refine Vc.text (List.range 1) (sd [(0, .pure)]) rfl ?_
  refine Rg.pure rfl rfl rfl (Pv.assign rfl) ?_
  refine Rg.nil ?_
  refine Vc.block ?_
  refine Vc.loop3 (fun (i : Nat) (v : Value) (sg : Hl) => i ≤ es.length ∧ Own byteE v (leBytes 4 M ++ (es.take i).flatMap encE) sg) (fun i v sg => [(1, .pointer (some ⟨b1, 0, none⟩)), (3, v), (4, .int .i64 (i : Int))]) (fun i v sg => (b1, cellsO [.int .i64 (M : Int), .slice p es.length c] 24) :: sg) (fun i v sg => es.length - i) 0 v12 s12 ⟨Nat.zero_le _, by simpa using own12⟩ (.cons rfl (.cons rfl (.cons rfl .nil))) pulled ?_
  rintro i v sg ⟨hi, own⟩
  refine Vc.seq ?_
  refine Vc.seq ?_
  refine Vc.text (List.range 5) (sd [(0, .pure), (1, .pure), (2, .read), (3, .pure), (4, .pure)]) rfl ?_
  refine Rg.pure rfl rfl rfl (Pv.move rfl) ?_
  refine Rg.pure rfl rfl rfl (Pv.fa rfl) ?_
  refine Rg.read rfl rfl rfl (Ev.ld rfl rfl) ?_
  refine Rg.pure rfl rfl rfl (Pv.lenS rfl) ?_
  refine Rg.pure rfl rfl rfl (Pv.lss rfl rfl) ?_
  refine Rg.nil ?_
  refine Vc.cond rfl (fun h17 => ?_) (fun h17 => ?_)
  ·
    simp only [decide_eq_true_eq] at h17
    obtain ⟨b, off, c', e, _⟩ := ha.block (by omega)
    cases e
    have hi1 : i < es.length := by omega
    have he : InE es[i]! := hE _ (by rw [getElem!_pos es i hi1]; exact List.getElem_mem _)
    have htk := take_get es hi1
    generalize hx : es[i]! = x at he htk
    refine Vc.skip ?_
    refine Vc.seq ?_
    refine Vc.block ?_
    refine Vc.seq ?_
    refine Vc.text (List.range 7) (sd [(0, .pure), (1, .read), (2, .pure), (3, .pure), (4, .read), (5, .eff), (6, .eff)]) rfl ?_
    refine Rg.pure rfl rfl rfl (Pv.fa rfl) ?_
    refine Rg.read rfl rfl rfl (Ev.ld rfl rfl) ?_
    refine Rg.pure rfl rfl rfl (Pv.move rfl) ?_
    refine Rg.pure rfl rfl rfl (Pv.ixA (i) rfl rfl (by omega) (by omega)) ?_
    refine Rg.read rfl rfl rfl (Ev.as (egV x) (Ev.ldS i ha.src rfl rfl rfl hi1) (congrArg egV hx)) ?_
    refine Rg.alloc rfl rfl rfl rfl (fun b5 => ?_)
    refine Rg.storeA (us := egC x) rfl rfl rfl rfl rfl rfl rfl rfl ?_
    refine Rg.nil ?_
    refine Vc.seq ?_
    refine Vc.text (List.range 8) (sd [(0, .pure), (1, .read), (2, .pure), (3, .read), (4, .pure), (5, .read), (6, .eff), (7, .pure)]) rfl ?_
    refine Rg.pure rfl rfl rfl (Pv.fa rfl) ?_
    refine Rg.read rfl rfl rfl (Ev.ld rfl rfl) ?_
    refine Rg.pure rfl rfl rfl (Pv.fa rfl) ?_
    refine Rg.read rfl rfl rfl (Ev.ld rfl rfl) ?_
    refine Rg.pure rfl rfl rfl (Pv.fa rfl) ?_
    refine Rg.read rfl rfl rfl (Ev.ld rfl rfl) ?_
    refine Rg.bsliceN (cs := egC x) rfl rfl rfl rfl rfl rfl rfl (fun b31 => ?_)
    refine Rg.pure rfl rfl rfl (Pv.assign rfl) ?_
    refine Rg.nil ?_
    refine Vc.seq ?_
    refine Vc.text (List.range 1) (sd [(0, .pure)]) rfl ?_
    refine Rg.pure rfl rfl rfl (Pv.assign rfl) ?_
    refine Rg.nil ?_
    refine Vc.block ?_
    refine Vc.loop4 (fun (j : Nat) (ys : List UInt8) (v : Value) (sg : Hl) => j ≤ 3 ∧ ys = leBytes 4 M ++ (es.take i).flatMap encE ++ ((nums x).take j).flatMap (leBytes 4) ∧ ys.length = 4 + 12 * i + 4 * j ∧ Own byteE v ys sg) (fun j ys v sg => [(1, .pointer (some ⟨b1, 0, none⟩)), (3, v), (4, .int .i64 (i : Int)), (6, .slice (some ⟨b31, 0, none⟩) 3 3), (7, .int .i64 (j : Int))]) (fun j ys v sg => (b31, cellsO (egC x) 37) :: (b1, cellsO [.int .i64 (M : Int), .slice (some ⟨b, off, none⟩) es.length c] 24) :: sg) (fun j ys v sg => 3 - j) 0 _ v sg ⟨Nat.zero_le _, by simp, by rw [List.length_append, leBytes_length, encs_length, List.length_take]; omega, own⟩ (.cons rfl (.cons rfl (.cons rfl (.cons rfl (.cons rfl .nil))))) pulled ?_
    rintro j ys v sg ⟨hj, hys, hlen, own⟩
    refine Vc.seq ?_
    refine Vc.seq ?_
    refine Vc.text (List.range 2) (sd [(0, .pure), (1, .pure)]) rfl ?_
    refine Rg.pure rfl rfl rfl (Pv.move rfl) ?_
    refine Rg.pure rfl rfl rfl (Pv.lss rfl rfl) ?_
    refine Rg.nil ?_
    refine Vc.cond rfl (fun h33 => ?_) (fun h33 => ?_)
    ·
      simp only [decide_eq_true_eq] at h33
      have hj3 : j < 3 := by omega
      have hnl := nums_lt he hj3
      refine Vc.skip ?_
      refine Vc.seq ?_
      refine Vc.block ?_
      refine Vc.seq ?_
      refine Vc.text (List.range 1) (sd [(0, .pure)]) rfl ?_
      refine Rg.pure rfl rfl rfl (Pv.assign rfl) ?_
      refine Rg.nil ?_
      refine Vc.block ?_
      refine Vc.loop3 (fun (m : Nat) (v : Value) (sg : Hl) => m ≤ 4 ∧ Own byteE v (ys ++ leBytes m (nums x)[j]!) sg) (fun m v sg => [(1, .pointer (some ⟨b1, 0, none⟩)), (3, v), (4, .int .i64 (i : Int)), (6, .slice (some ⟨b31, 0, none⟩) 3 3), (7, .int .i64 (j : Int)), (8, .int .i64 (m : Int))]) (fun m v sg => (b31, cellsO (egC x) 37) :: (b1, cellsO [.int .i64 (M : Int), .slice (some ⟨b, off, none⟩) es.length c] 24) :: sg) (fun m v sg => 4 - m) 0 v sg ⟨Nat.zero_le _, by simpa [leBytes] using own⟩ (.cons rfl (.cons rfl (.cons rfl (.cons rfl (.cons rfl (.cons rfl .nil)))))) pulled ?_
      rintro m v sg ⟨hm, own⟩
      refine Vc.seq ?_
      refine Vc.seq ?_
      refine Vc.text (List.range 2) (sd [(0, .pure), (1, .pure)]) rfl ?_
      refine Rg.pure rfl rfl rfl (Pv.move rfl) ?_
      refine Rg.pure rfl rfl rfl (Pv.lss rfl rfl) ?_
      refine Rg.nil ?_
      refine Vc.cond rfl (fun h37 => ?_) (fun h37 => ?_)
      ·
        simp only [decide_eq_true_eq] at h37
        refine Vc.skip ?_
        refine Vc.seq ?_
        refine Vc.block ?_
        refine Vc.text (List.range 13) (sd [(0, .pure), (1, .pure), (2, .pure), (3, .pure), (4, .read), (5, .pure), (6, .pure), (7, .pure), (8, .pure), (9, .pure), (10, .eff), (11, .eff), (12, .pure)]) rfl ?_
        refine Rg.pure rfl rfl rfl (Pv.move rfl) ?_
        refine Rg.pure rfl rfl rfl (Pv.move rfl) ?_
        refine Rg.pure rfl rfl rfl (Pv.move rfl) ?_
        refine Rg.pure rfl rfl rfl (Pv.ixA (j) rfl rfl (by omega) (by omega)) ?_
        refine Rg.read rfl rfl rfl (Ev.ld rfl (by rw [nth_eq, Nat.mul_one, Nat.zero_add]; exact nums_get x hj3)) ?_
        refine Rg.pure rfl rfl rfl (Pv.move rfl) ?_
        refine Rg.pure rfl rfl rfl (Pv.asI (8 * m) (Pv.mul rfl rfl (by omega)) (by omega)) ?_
        refine Rg.pure rfl rfl rfl (Pv.asI (8 * m) (Pv.convI rfl) (wrap_ult rfl (by show _ < 2 ^ 64; omega))) ?_
        refine Rg.pure rfl rfl rfl (Pv.asI ((nums x)[j]! / 256 ^ m) (Pv.shrN (nums x)[j]! (8 * m) rfl rfl (by show _ ≤ 32; omega)) (by rw [pow_8])) ?_
        refine Rg.pure rfl rfl rfl (Pv.as (.int .u8 ((UInt8.ofNat ((nums x)[j]! / 256 ^ m)).toNat : Int)) (Pv.convI rfl) (congrArg (Value.int .u8) (wrap_u8 _))) ?_
        refine Rg.bslice1 rfl rfl rfl rfl rfl rfl rfl (fun b50 => ?_)
        refine Rg.append rfl rfl rfl rfl rfl own (Src.one (y := UInt8.ofNat ((nums x)[j]! / 256 ^ m)) rfl) (by simp <;> omega) (by simp [maxLen] <;> omega) rfl (fun v51 s51 own51 => ?_)
        refine Rg.pure rfl rfl rfl (Pv.assign rfl) ?_
        refine Rg.nil ?_
        refine Vc.blk ?_
        refine Vc.text (List.range 3) (sd [(0, .pure), (1, .pure), (2, .pure)]) rfl ?_
        refine Rg.pure rfl rfl rfl (Pv.move rfl) ?_
        refine Rg.pure rfl rfl rfl (Pv.asI (m + 1) (Pv.add rfl rfl (by omega)) (by omega)) ?_
        refine Rg.pure rfl rfl rfl (Pv.assign rfl) ?_
        refine Rg.nil ?_
        exact Vc.inv3 (m + 1) v51 s51 ⟨⟨by omega, by rw [leBytes_snoc, ← List.append_assoc]; exact own51⟩, by omega⟩ (.cons rfl (.cons rfl (.cons rfl (.cons rfl (.cons rfl (.cons rfl .nil)))))) pulled
      ·
        simp only [decide_eq_false_iff_not] at h37
        obtain rfl : m = 4 := by omega
        refine Vc.exit rfl ?_
        refine Vc.blk ?_
        refine Vc.text (List.range 3) (sd [(0, .pure), (1, .pure), (2, .pure)]) rfl ?_
        refine Rg.pure rfl rfl rfl (Pv.move rfl) ?_
        refine Rg.pure rfl rfl rfl (Pv.asI (j + 1) (Pv.add rfl rfl (by omega)) (by omega)) ?_
        refine Rg.pure rfl rfl rfl (Pv.assign rfl) ?_
        refine Rg.nil ?_
        exact Vc.inv4 (j + 1) _ v sg ⟨⟨by omega, by rw [take_get (nums x) (by simpa [nums] using hj3), hys]; simp, by simp [hlen]; omega, own⟩, by omega⟩ (.cons rfl (.cons rfl (.cons rfl (.cons rfl (.cons rfl .nil))))) pulled
    ·
      simp only [decide_eq_false_iff_not] at h33
      obtain rfl : j = 3 := by omega
      have ownE : Own byteE v (leBytes 4 M ++ (es.take (i + 1)).flatMap encE) sg := by
        rw [htk, List.flatMap_append, ← List.append_assoc]
        rw [hys] at own
        simpa [encE, nums] using own
      refine Vc.exit rfl ?_
      refine Vc.blk ?_
      refine Vc.text (List.range 3) (sd [(0, .pure), (1, .pure), (2, .pure)]) rfl ?_
      refine Rg.pure rfl rfl rfl (Pv.move rfl) ?_
      refine Rg.pure rfl rfl rfl (Pv.asI (i + 1) (Pv.add rfl rfl (by omega)) (by omega)) ?_
      refine Rg.pure rfl rfl rfl (Pv.assign rfl) ?_
      refine Rg.nil ?_
      exact Vc.inv3 (i + 1) v sg ⟨⟨by omega, ownE⟩, by omega⟩ (.cons rfl (.cons rfl (.cons rfl .nil))) pulled
  ·
    simp only [decide_eq_false_iff_not] at h17
    rw [List.take_of_length_le (by omega)] at own
    refine Vc.exit rfl ?_
    refine Vc.seq ?_
    refine Vc.text (List.range 2) (sd [(0, .pure), (1, .pure)]) rfl ?_
    refine Rg.pure rfl rfl rfl (Pv.move rfl) ?_
    refine Rg.pure rfl rfl rfl (Pv.assign rfl) ?_
    refine Rg.nil ?_
    exact Vc.ret (Vc.retsH rfl (.cons (.tmp rfl) (.nil)) (own) pulled)
end Go.Proofs.Ytjoldkfedmiciaa
