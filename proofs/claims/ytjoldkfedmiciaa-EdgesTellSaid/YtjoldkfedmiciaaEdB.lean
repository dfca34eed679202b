/- Graphs: Alike, Equal, the document's Right. -/
import Derived.Test.YtjoldkfedmiciaaEdA
namespace Go.Proofs.Ytjoldkfedmiciaa
set_option linter.unusedVariables false

theorem take_get {α : Type} [Inhabited α] (xs : List α) {i : Nat} (h : i < xs.length) : xs.take (i + 1) = xs.take i ++ [xs[i]!] :=
  (take_snoc (by rw [getElem!_pos xs i h]; exact List.getElem?_eq_getElem h)).symm
theorem get_ne {α : Type} [Inhabited α] {xs ys : List α} (i : Nat) (h : xs[i]! ≠ ys[i]!) : xs ≠ ys := fun e => h (by rw [e])

theorem alike_spec {F : Fm} {va vb : Value} {xs ys : List Eg} (ha : Arg edgeE F va xs) (hb : Arg edgeE F vb ys) (hN : xs.length < 1073741824) (hM : ys.length < 1073741824) :
    Spec Try.prog 16 #[va, vb] F [] fun v _ => v = .bool (decide (xs = ys)) := by
  obtain ⟨p, c, rfl⟩ := ha.shape
  obtain ⟨q, d, rfl⟩ := hb.shape
  refine Spec.of (n := 26) (vs := [.slice p xs.length c, .slice q ys.length d]) Try.func16 rfl Try.ntmps16 rfl ?_
  refine Vc.seq ?_
  refine Vc.text (List.range 1) (sd [(0, .pure)]) rfl ?_
  refine Rg.pure rfl rfl rfl (Pv.assign rfl) ?_
  refine Rg.nil ?_
  refine Vc.seq ?_
  refine Vc.seq ?_
  refine Vc.text (List.range 5) (sd [(0, .pure), (1, .pure), (2, .pure), (3, .pure), (4, .pure)]) rfl ?_
  refine Rg.pure rfl rfl rfl (Pv.move rfl) ?_
  refine Rg.pure rfl rfl rfl (Pv.lenS rfl) ?_
  refine Rg.pure rfl rfl rfl (Pv.move rfl) ?_
  refine Rg.pure rfl rfl rfl (Pv.lenS rfl) ?_
  refine Rg.pure rfl rfl rfl (Pv.neq rfl rfl) ?_
  refine Rg.nil ?_
  refine Vc.cond rfl (fun h10 => ?_) (fun h10 => ?_)
  ·
    simp only [bne_iff_ne, ne_eq] at h10
    refine Vc.seq ?_
    refine Vc.text (List.range 1) (sd [(0, .pure)]) rfl ?_
    refine Rg.pure rfl rfl rfl (Pv.assign rfl) ?_
    refine Rg.nil ?_
    refine Vc.ret (Vc.rets rfl (.cons (.tmp rfl) (.nil)) ?_)
    exact congrArg Value.bool (by rw [decide_eq_false]; intro e; rw [e] at h10; exact h10 rfl)
  ·
    simp only [bne_eq_false_iff_eq] at h10
    have hl : xs.length = ys.length := by omega
    refine Vc.skip ?_
    refine Vc.seq ?_
    refine Vc.seq ?_
    refine Vc.text (List.range 1) (sd [(0, .pure)]) rfl ?_
    refine Rg.pure rfl rfl rfl (Pv.assign rfl) ?_
    refine Rg.nil ?_
    refine Vc.block ?_
    refine Vc.loop1 (fun (i : Nat) => i ≤ xs.length ∧ xs.take i = ys.take i) (fun i => [(0, .slice p xs.length c), (1, .slice q ys.length d), (5, .int .i64 (i : Int))]) (fun i => []) (fun i => xs.length - i) 0 ⟨Nat.zero_le _, by simp⟩ (.cons rfl (.cons rfl (.cons rfl .nil))) pulled ?_
    rintro i ⟨h1, h2⟩
    refine Vc.seq ?_
    refine Vc.seq ?_
    refine Vc.text (List.range 4) (sd [(0, .pure), (1, .pure), (2, .pure), (3, .pure)]) rfl ?_
    refine Rg.pure rfl rfl rfl (Pv.move rfl) ?_
    refine Rg.pure rfl rfl rfl (Pv.move rfl) ?_
    refine Rg.pure rfl rfl rfl (Pv.lenS rfl) ?_
    refine Rg.pure rfl rfl rfl (Pv.lss rfl rfl) ?_
    refine Rg.nil ?_
    refine Vc.cond rfl (fun h14 => ?_) (fun h14 => ?_)
    ·
      simp only [decide_eq_true_eq] at h14
      obtain ⟨b, off, c', e, _⟩ := ha.block (by omega)
      cases e
      obtain ⟨b2, off2, c2, e, _⟩ := hb.block (by omega)
      cases e
      refine Vc.skip ?_
      refine Vc.seq ?_
      refine Vc.block ?_
      refine Vc.seq ?_
      refine Vc.draw [] (sd [(0, .pure), (1, .pure), (2, .pure), (3, .read), (4, .pure), (5, .pure), (6, .pure), (7, .read), (8, .pure)]) mixed (by kernel_rfl) ?_
      refine Rg.pure rfl rfl rfl (Pv.move rfl) ?_
      refine Rg.pure rfl rfl rfl (Pv.move rfl) ?_
      refine Rg.pure rfl rfl rfl (Pv.ixA (i) rfl rfl (by omega) (by omega)) ?_
      refine Rg.read rfl rfl rfl (Ev.ldS (i) (ha.src) rfl rfl rfl (by omega)) ?_
      refine Rg.pure rfl rfl rfl (Pv.move rfl) ?_
      refine Rg.pure rfl rfl rfl (Pv.move rfl) ?_
      refine Rg.pure rfl rfl rfl (Pv.ixA (i) rfl rfl (by omega) (by omega)) ?_
      refine Rg.read rfl rfl rfl (Ev.ldS (i) (hb.src) rfl rfl rfl (by omega)) ?_
      refine Rg.pure rfl rfl rfl (Pv.neqE edgeE xs[i]! ys[i]! rfl rfl) ?_
      refine Rg.nil ?_
      refine Vc.cond rfl (fun h25 => ?_) (fun h25 => ?_)
      ·
        simp only [Bool.not_eq_true', decide_eq_false_iff_not] at h25
        refine Vc.seq ?_
        refine Vc.text (List.range 1) (sd [(0, .pure)]) rfl ?_
        refine Rg.pure rfl rfl rfl (Pv.assign rfl) ?_
        refine Rg.nil ?_
        refine Vc.ret (Vc.rets rfl (.cons (.tmp rfl) (.nil)) ?_)
        exact congrArg Value.bool (decide_eq_false (get_ne i h25)).symm
      ·
        simp only [Bool.not_eq_false', decide_eq_true_eq] at h25
        refine Vc.skip ?_
        refine Vc.blk ?_
        refine Vc.text (List.range 3) (sd [(0, .pure), (1, .pure), (2, .pure)]) rfl ?_
        refine Rg.pure rfl rfl rfl (Pv.move rfl) ?_
        refine Rg.pure rfl rfl rfl (Pv.asI (i + 1) (Pv.add rfl rfl (by omega)) (by omega)) ?_
        refine Rg.pure rfl rfl rfl (Pv.assign rfl) ?_
        refine Rg.nil ?_
        exact Vc.inv1 (i + 1) ⟨⟨by omega, by rw [take_get xs (by omega), take_get ys (by omega), h2, h25]⟩, by omega⟩ (.cons rfl (.cons rfl (.cons rfl .nil))) pulled
    ·
      simp only [decide_eq_false_iff_not] at h14
      refine Vc.exit rfl ?_
      refine Vc.seq ?_
      refine Vc.text (List.range 1) (sd [(0, .pure)]) rfl ?_
      refine Rg.pure rfl rfl rfl (Pv.assign rfl) ?_
      refine Rg.nil ?_
      refine Vc.ret (Vc.rets rfl (.cons (.tmp rfl) (.nil)) ?_)
      exact congrArg Value.bool (decide_eq_true (by rwa [List.take_of_length_le (by omega), List.take_of_length_le (by omega)] at h2)).symm

theorem equal_spec {F : Fm} {va vb : Value} {xs ys : List Eg} (ha : Arg edgeE F va xs) (hb : Arg edgeE F vb ys) (hN : xs.length < 1073741824) (hM : ys.length < 1073741824) :
    Spec Try.prog 28 #[va, vb] F [] fun v _ => v = .bool (decide (xs = ys)) := by
  obtain ⟨p, c, rfl⟩ := ha.shape
  obtain ⟨q, d, rfl⟩ := hb.shape
  refine Spec.of (n := 26) (vs := [.slice p xs.length c, .slice q ys.length d]) Try.func28 rfl Try.ntmps28 rfl ?_
  refine Vc.seq ?_
  refine Vc.text (List.range 1) (sd [(0, .pure)]) rfl ?_
  refine Rg.pure rfl rfl rfl (Pv.assign rfl) ?_
  refine Rg.nil ?_
  refine Vc.seq ?_
  refine Vc.seq ?_
  refine Vc.text (List.range 5) (sd [(0, .pure), (1, .pure), (2, .pure), (3, .pure), (4, .pure)]) rfl ?_
  refine Rg.pure rfl rfl rfl (Pv.move rfl) ?_
  refine Rg.pure rfl rfl rfl (Pv.lenS rfl) ?_
  refine Rg.pure rfl rfl rfl (Pv.move rfl) ?_
  refine Rg.pure rfl rfl rfl (Pv.lenS rfl) ?_
  refine Rg.pure rfl rfl rfl (Pv.neq rfl rfl) ?_
  refine Rg.nil ?_
  refine Vc.cond rfl (fun h10 => ?_) (fun h10 => ?_)
  ·
    simp only [bne_iff_ne, ne_eq] at h10
    refine Vc.seq ?_
    refine Vc.text (List.range 1) (sd [(0, .pure)]) rfl ?_
    refine Rg.pure rfl rfl rfl (Pv.assign rfl) ?_
    refine Rg.nil ?_
    refine Vc.ret (Vc.rets rfl (.cons (.tmp rfl) (.nil)) ?_)
    exact congrArg Value.bool (by rw [decide_eq_false]; intro e; rw [e] at h10; exact h10 rfl)
  ·
    simp only [bne_eq_false_iff_eq] at h10
    have hl : xs.length = ys.length := by omega
    refine Vc.skip ?_
    refine Vc.seq ?_
    refine Vc.seq ?_
    refine Vc.text (List.range 3) (sd [(0, .pure), (1, .pure), (2, .pure)]) rfl ?_
    refine Rg.pure rfl rfl rfl (Pv.move rfl) ?_
    refine Rg.pure rfl rfl rfl (Pv.lenS rfl) ?_
    refine Rg.pure rfl rfl rfl (Pv.move rfl) ?_
    refine Rg.nil ?_
    refine Vc.block ?_
    refine Vc.loop1 (fun (i : Nat) => i ≤ xs.length ∧ xs.take i = ys.take i) (fun i => [(0, .slice p xs.length c), (1, .slice q ys.length d), (12, .int .i64 (xs.length : Int)), (13, .int .i64 (i : Int))]) (fun i => []) (fun i => xs.length - i) 0 ⟨Nat.zero_le _, by simp⟩ (.cons rfl (.cons rfl (.cons rfl (.cons rfl .nil)))) pulled ?_
    rintro i ⟨h1, h2⟩
    refine Vc.seq ?_
    refine Vc.text (List.range 1) (sd [(0, .pure)]) rfl ?_
    refine Rg.pure rfl rfl rfl (Pv.lss rfl rfl) ?_
    refine Rg.nil ?_
    refine Vc.seq ?_
    refine Vc.cond rfl (fun h14 => ?_) (fun h14 => ?_)
    ·
      simp only [decide_eq_true_eq] at h14
      obtain ⟨b, off, c', e, _⟩ := ha.block (by omega)
      cases e
      obtain ⟨b2, off2, c2, e, _⟩ := hb.block (by omega)
      cases e
      refine Vc.skip ?_
      refine Vc.seq ?_
      refine Vc.block ?_
      refine Vc.seq ?_
      refine Vc.text (List.range 2) (sd [(0, .pure), (1, .pure)]) rfl ?_
      refine Rg.pure rfl rfl rfl (Pv.move rfl) ?_
      refine Rg.pure rfl rfl rfl (Pv.assign rfl) ?_
      refine Rg.nil ?_
      refine Vc.seq ?_
      refine Vc.draw [] (sd [(0, .pure), (1, .pure), (2, .pure), (3, .read), (4, .pure), (5, .pure), (6, .pure), (7, .read), (8, .pure)]) mixed (by kernel_rfl) ?_
      refine Rg.pure rfl rfl rfl (Pv.move rfl) ?_
      refine Rg.pure rfl rfl rfl (Pv.move rfl) ?_
      refine Rg.pure rfl rfl rfl (Pv.ixA (i) rfl rfl (by omega) (by omega)) ?_
      refine Rg.read rfl rfl rfl (Ev.ldS (i) (ha.src) rfl rfl rfl (by omega)) ?_
      refine Rg.pure rfl rfl rfl (Pv.move rfl) ?_
      refine Rg.pure rfl rfl rfl (Pv.move rfl) ?_
      refine Rg.pure rfl rfl rfl (Pv.ixA (i) rfl rfl (by omega) (by omega)) ?_
      refine Rg.read rfl rfl rfl (Ev.ldS (i) (hb.src) rfl rfl rfl (by omega)) ?_
      refine Rg.pure rfl rfl rfl (Pv.neqE edgeE xs[i]! ys[i]! rfl rfl) ?_
      refine Rg.nil ?_
      refine Vc.cond rfl (fun h24 => ?_) (fun h24 => ?_)
      ·
        simp only [Bool.not_eq_true', decide_eq_false_iff_not] at h24
        refine Vc.seq ?_
        refine Vc.text (List.range 1) (sd [(0, .pure)]) rfl ?_
        refine Rg.pure rfl rfl rfl (Pv.assign rfl) ?_
        refine Rg.nil ?_
        refine Vc.ret (Vc.rets rfl (.cons (.tmp rfl) (.nil)) ?_)
        exact congrArg Value.bool (decide_eq_false (get_ne i h24)).symm
      ·
        simp only [Bool.not_eq_false', decide_eq_true_eq] at h24
        refine Vc.skip ?_
        refine Vc.blk ?_
        refine Vc.text (List.range 2) (sd [(0, .pure), (1, .pure)]) rfl ?_
        refine Rg.pure rfl rfl rfl (Pv.asI (i + 1) (Pv.add rfl rfl (by omega)) (by omega)) ?_
        refine Rg.pure rfl rfl rfl (Pv.move rfl) ?_
        refine Rg.nil ?_
        exact Vc.inv1 (i + 1) ⟨⟨by omega, by rw [take_get xs (by omega), take_get ys (by omega), h2, h24]⟩, by omega⟩ (.cons rfl (.cons rfl (.cons rfl (.cons rfl .nil)))) pulled
    ·
      simp only [decide_eq_false_iff_not] at h14
      refine Vc.exit rfl ?_
      refine Vc.seq ?_
      refine Vc.text (List.range 1) (sd [(0, .pure)]) rfl ?_
      refine Rg.pure rfl rfl rfl (Pv.assign rfl) ?_
      refine Rg.nil ?_
      refine Vc.ret (Vc.rets rfl (.cons (.tmp rfl) (.nil)) ?_)
      exact congrArg Value.bool (decide_eq_true (by rwa [List.take_of_length_le (by omega), List.take_of_length_le (by omega)] at h2)).symm

theorem rright_spec {F : Fm} {va : Value} {es : List Eg} (ha : Arg edgeE F va es) (hN : es.length < 1073741824) (hE : ∀ e ∈ es, InE e) (N : Int) :
    Spec Try.prog 14 #[grV N va] F [] fun v _ => v = .bool (rightG N es) := by
  obtain ⟨p, c, rfl⟩ := ha.shape
  refine Spec.of (n := 47) (vs := [grV N (.slice p es.length c)]) Try.func14 rfl Try.ntmps14 rfl ?_
  refine Vc.seq ?_
  refine Vc.text (List.range 2) (sd [(0, .eff), (1, .pure)]) rfl ?_
  refine Rg.box rfl rfl rfl rfl rfl (fun b1 => ?_)
  refine Rg.pure rfl rfl rfl (Pv.assign rfl) ?_
  refine Rg.nil ?_
  refine Vc.seq ?_
  refine Vc.seq ?_
  refine Vc.text (List.range 14) (sd [(0, .pure), (1, .read), (2, .pure), (3, .pure), (4, .pure), (5, .read), (6, .pure), (7, .pure), (8, .pure), (9, .pure), (10, .read), (11, .pure), (12, .pure), (13, .pure)]) rfl ?_
  refine Rg.pure rfl rfl rfl (Pv.fa rfl) ?_
  refine Rg.read rfl rfl rfl (Ev.ld rfl rfl) ?_
  refine Rg.pure rfl rfl rfl (Pv.lss rfl rfl) ?_
  refine Rg.pure rfl rfl rfl (Pv.move rfl) ?_
  refine Rg.split (t := 7) rfl (fun h7 => ?_) (fun h7 => ?_)
  ·
    simp only [decide_eq_true_eq] at h7
    iterate 3 (first | refine Rg.skipP rfl rfl rfl ?_ | refine Rg.skipR rfl rfl rfl ?_ | refine Rg.skipE rfl rfl rfl ?_)
    refine Rg.pure rfl rfl rfl (Pv.pickT rfl rfl) ?_
    refine Rg.pure rfl rfl rfl (Pv.move rfl) ?_
    iterate 4 (first | refine Rg.skipP rfl rfl rfl ?_ | refine Rg.skipR rfl rfl rfl ?_ | refine Rg.skipE rfl rfl rfl ?_)
    refine Rg.pure rfl rfl rfl (Pv.pickT rfl rfl) ?_
    refine Rg.nil ?_
    refine Vc.condT rfl ?_
    refine Vc.seq ?_
    refine Vc.text (List.range 1) (sd [(0, .pure)]) rfl ?_
    refine Rg.pure rfl rfl rfl (Pv.assign rfl) ?_
    refine Rg.nil ?_
    refine Vc.ret (Vc.rets rfl (.cons (.tmp rfl) (.nil)) ?_)
    exact congrArg Value.bool (by unfold rightG; rw [decide_eq_false (show ¬ 0 ≤ N by omega)]; rfl)
  ·
    simp only [decide_eq_false_iff_not] at h7
    refine Rg.pure rfl rfl rfl (Pv.fa rfl) ?_
    refine Rg.read rfl rfl rfl (Ev.ld rfl rfl) ?_
    refine Rg.pure rfl rfl rfl (Pv.gtr rfl rfl) ?_
    refine Rg.pure rfl rfl rfl (Pv.pickF rfl rfl) ?_
    refine Rg.pure rfl rfl rfl (Pv.move rfl) ?_
    refine Rg.split (t := 12) rfl (fun h12 => ?_) (fun h12 => ?_)
    ·
      simp only [decide_eq_true_eq] at h12
      iterate 4 (first | refine Rg.skipP rfl rfl rfl ?_ | refine Rg.skipR rfl rfl rfl ?_ | refine Rg.skipE rfl rfl rfl ?_)
      refine Rg.pure rfl rfl rfl (Pv.pickT rfl rfl) ?_
      refine Rg.nil ?_
      refine Vc.condT rfl ?_
      refine Vc.seq ?_
      refine Vc.text (List.range 1) (sd [(0, .pure)]) rfl ?_
      refine Rg.pure rfl rfl rfl (Pv.assign rfl) ?_
      refine Rg.nil ?_
      refine Vc.ret (Vc.rets rfl (.cons (.tmp rfl) (.nil)) ?_)
      exact congrArg Value.bool (by unfold rightG; rw [decide_eq_false (show ¬ N ≤ 1048576 by omega)]; simp)
    ·
      simp only [decide_eq_false_iff_not] at h12
      refine Rg.pure rfl rfl rfl (Pv.fa rfl) ?_
      refine Rg.read rfl rfl rfl (Ev.ld rfl rfl) ?_
      refine Rg.pure rfl rfl rfl (Pv.lenS rfl) ?_
      refine Rg.pure rfl rfl rfl (Pv.gtr rfl rfl) ?_
      refine Rg.pure rfl rfl rfl (Pv.pickF rfl rfl) ?_
      refine Rg.nil ?_
      refine Vc.cond rfl (fun h17 => ?_) (fun h17 => ?_)
      ·
        simp only [decide_eq_true_eq] at h17
        refine Vc.seq ?_
        refine Vc.text (List.range 1) (sd [(0, .pure)]) rfl ?_
        refine Rg.pure rfl rfl rfl (Pv.assign rfl) ?_
        refine Rg.nil ?_
        refine Vc.ret (Vc.rets rfl (.cons (.tmp rfl) (.nil)) ?_)
        exact congrArg Value.bool (by unfold rightG; rw [decide_eq_false (show ¬ es.length ≤ 1048576 by omega)]; simp)
      ·
        simp only [decide_eq_false_iff_not] at h17
        refine Vc.skip ?_
        refine Vc.seq ?_
        refine Vc.seq ?_
        refine Vc.text (List.range 1) (sd [(0, .pure)]) rfl ?_
        refine Rg.pure rfl rfl rfl (Pv.assign rfl) ?_
        refine Rg.nil ?_
        refine Vc.block ?_
        refine Vc.loop1 (fun (i : Nat) => i ≤ es.length ∧ ((es.take i).any fun e => decide (N ≤ (e.f : Int)) || decide (N ≤ (e.t : Int))) = false) (fun i => [(1, .pointer (some ⟨b1, 0, none⟩)), (3, .int .i64 (i : Int))]) (fun i => [(b1, cellsO [.int .i64 N, .slice p es.length c] 24)]) (fun i => es.length - i) 0 ⟨Nat.zero_le _, by simp⟩ (.cons rfl (.cons rfl .nil)) pulled ?_
        rintro i ⟨h1, h2⟩
        refine Vc.seq ?_
        refine Vc.seq ?_
        refine Vc.text (List.range 5) (sd [(0, .pure), (1, .pure), (2, .read), (3, .pure), (4, .pure)]) rfl ?_
        refine Rg.pure rfl rfl rfl (Pv.move rfl) ?_
        refine Rg.pure rfl rfl rfl (Pv.fa rfl) ?_
        refine Rg.read rfl rfl rfl (Ev.ld rfl rfl) ?_
        refine Rg.pure rfl rfl rfl (Pv.lenS rfl) ?_
        refine Rg.pure rfl rfl rfl (Pv.lss rfl rfl) ?_
        refine Rg.nil ?_
        refine Vc.cond rfl (fun h22 => ?_) (fun h22 => ?_)
        ·
          simp only [decide_eq_true_eq] at h22
          obtain ⟨b, off, c', e, _⟩ := ha.block (by omega)
          cases e
          have hi : i < es.length := by omega
          have hm : es[i]! ∈ es := by rw [getElem!_pos es i hi]; exact List.getElem_mem _
          obtain ⟨e1, e2, _⟩ := hE _ hm
          refine Vc.skip ?_
          refine Vc.seq ?_
          refine Vc.block ?_
          refine Vc.seq ?_
          refine Vc.draw [] (sd [(0, .pure), (1, .read), (2, .pure), (3, .pure), (4, .pure), (5, .read), (6, .pure), (7, .pure), (8, .read), (9, .pure), (10, .pure), (11, .pure), (12, .read), (13, .pure), (14, .pure), (15, .pure), (16, .read), (17, .pure), (18, .pure), (19, .read), (20, .pure), (21, .pure)]) mixed (by kernel_rfl) ?_
          refine Rg.pure rfl rfl rfl (Pv.fa rfl) ?_
          refine Rg.read rfl rfl rfl (Ev.ld rfl rfl) ?_
          refine Rg.pure rfl rfl rfl (Pv.move rfl) ?_
          refine Rg.pure rfl rfl rfl (Pv.ixA (i) rfl rfl (by omega) (by omega)) ?_
          refine Rg.pure rfl rfl rfl (Pv.fa rfl) ?_
          refine Rg.read rfl rfl rfl (Ev.ldSf (E := edgeE) i 0 ha.src rfl rfl rfl hi rfl) ?_
          refine Rg.pure rfl rfl rfl (Pv.asI es[i]!.f (Pv.convI rfl) (i64_wrap (by omega))) ?_
          refine Rg.pure rfl rfl rfl (Pv.fa rfl) ?_
          refine Rg.read rfl rfl rfl (Ev.ld rfl rfl) ?_
          refine Rg.pure rfl rfl rfl (Pv.geq rfl rfl) ?_
          refine Rg.pure rfl rfl rfl (Pv.move rfl) ?_
          refine Rg.split (t := 35) rfl (fun h35 => ?_) (fun h35 => ?_)
          ·
            simp only [decide_eq_true_eq] at h35
            iterate 10 (first | refine Rg.skipP rfl rfl rfl ?_ | refine Rg.skipR rfl rfl rfl ?_ | refine Rg.skipE rfl rfl rfl ?_)
            refine Rg.pure rfl rfl rfl (Pv.pickT rfl rfl) ?_
            refine Rg.nil ?_
            refine Vc.condT rfl ?_
            refine Vc.seq ?_
            refine Vc.text (List.range 1) (sd [(0, .pure)]) rfl ?_
            refine Rg.pure rfl rfl rfl (Pv.assign rfl) ?_
            refine Rg.nil ?_
            refine Vc.ret (Vc.rets rfl (.cons (.tmp rfl) (.nil)) ?_)
            exact congrArg Value.bool (by unfold rightG; rw [List.any_eq_true.2 ⟨_, hm, by simp only [Bool.or_eq_true, decide_eq_true_eq]; exact .inl h35⟩]; simp)
          ·
            simp only [decide_eq_false_iff_not] at h35
            refine Rg.pure rfl rfl rfl (Pv.fa rfl) ?_
            refine Rg.read rfl rfl rfl (Ev.ld rfl rfl) ?_
            refine Rg.pure rfl rfl rfl (Pv.move rfl) ?_
            refine Rg.pure rfl rfl rfl (Pv.ixA (i) rfl rfl (by omega) (by omega)) ?_
            refine Rg.pure rfl rfl rfl (Pv.fa rfl) ?_
            refine Rg.read rfl rfl rfl (Ev.ldSf (E := edgeE) i 1 ha.src rfl rfl rfl hi rfl) ?_
            refine Rg.pure rfl rfl rfl (Pv.asI es[i]!.t (Pv.convI rfl) (i64_wrap (by omega))) ?_
            refine Rg.pure rfl rfl rfl (Pv.fa rfl) ?_
            refine Rg.read rfl rfl rfl (Ev.ld rfl rfl) ?_
            refine Rg.pure rfl rfl rfl (Pv.geq rfl rfl) ?_
            refine Rg.pure rfl rfl rfl (Pv.pickF rfl rfl) ?_
            refine Rg.nil ?_
            refine Vc.cond rfl (fun h46 => ?_) (fun h46 => ?_)
            ·
              simp only [decide_eq_true_eq] at h46
              refine Vc.seq ?_
              refine Vc.text (List.range 1) (sd [(0, .pure)]) rfl ?_
              refine Rg.pure rfl rfl rfl (Pv.assign rfl) ?_
              refine Rg.nil ?_
              refine Vc.ret (Vc.rets rfl (.cons (.tmp rfl) (.nil)) ?_)
              exact congrArg Value.bool (by unfold rightG; rw [List.any_eq_true.2 ⟨_, hm, by simp only [Bool.or_eq_true, decide_eq_true_eq]; exact .inr h46⟩]; simp)
            ·
              simp only [decide_eq_false_iff_not] at h46
              refine Vc.skip ?_
              refine Vc.blk ?_
              refine Vc.text (List.range 3) (sd [(0, .pure), (1, .pure), (2, .pure)]) rfl ?_
              refine Rg.pure rfl rfl rfl (Pv.move rfl) ?_
              refine Rg.pure rfl rfl rfl (Pv.asI (i + 1) (Pv.add rfl rfl (by omega)) (by omega)) ?_
              refine Rg.pure rfl rfl rfl (Pv.assign rfl) ?_
              refine Rg.nil ?_
              exact Vc.inv1 (i + 1) ⟨⟨by omega, by rw [take_get es hi, List.any_append, h2]; simp only [List.any_cons, List.any_nil, Bool.or_false, Bool.false_or, Bool.or_eq_false_iff, decide_eq_false_iff_not]; exact ⟨h35, h46⟩⟩, by omega⟩ (.cons rfl (.cons rfl .nil)) pulled
        ·
          simp only [decide_eq_false_iff_not] at h22
          rw [List.take_of_length_le (by omega)] at h2
          refine Vc.exit rfl ?_
          refine Vc.seq ?_
          refine Vc.text (List.range 1) (sd [(0, .pure)]) rfl ?_
          refine Rg.pure rfl rfl rfl (Pv.assign rfl) ?_
          refine Rg.nil ?_
          refine Vc.ret (Vc.rets rfl (.cons (.tmp rfl) (.nil)) ?_)
          exact congrArg Value.bool (by unfold rightG; rw [h2, decide_eq_true (show 0 ≤ N by omega), decide_eq_true (show N ≤ 1048576 by omega), decide_eq_true (show es.length ≤ 1048576 by omega)]; rfl)
end Go.Proofs.Ytjoldkfedmiciaa
