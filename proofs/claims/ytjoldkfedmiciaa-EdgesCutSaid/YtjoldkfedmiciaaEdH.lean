/- Graphs: Same; the document's Less, Sort, Same. -/
import Derived.Test.YtjoldkfedmiciaaEdG
namespace Go.Proofs.Ytjoldkfedmiciaa
open Go.Sort Go.Proofs
set_option linter.unusedVariables false

/-- Have two graphs the same edges? -/
def sameG (N M : Int) (es fs : List Eg) : Bool := decide (N = M) && es.isPerm fs
theorem sameG_eq {N M : Int} {es fs zs ws : List Eg} (h : N = M) (h1 : zs.Perm es) (h2 : ws.Perm fs) (s1 : SortedE zs) (s2 : SortedE ws) : decide (zs = ws) = sameG N M es fs := by
  unfold sameG
  rw [decide_eq_true h, Bool.true_and, Bool.eq_iff_iff, decide_eq_true_eq, List.isPerm_iff]
  exact sortedE_eq h1 h2 s1 s2
theorem sameG_ne {N M : Int} {es fs : List Eg} (h : N ≠ M) : sameG N M es fs = false := by
  unfold sameG
  rw [decide_eq_false h]; rfl

theorem same_spec {F : Fm} {va vb : Value} {es fs : List Eg} (ha : Arg edgeE F va es) (hb : Arg edgeE F vb fs) (hN : es.length < 1073741824) (hM : fs.length < 1073741824) (N M : Int) :
    Spec Try.prog 20 #[grV N va, grV M vb] F [] fun v _ => v = .bool (sameG N M es fs) := by
  obtain ⟨p, c, rfl⟩ := ha.shape
  obtain ⟨q, d, rfl⟩ := hb.shape
  refine Spec.of (n := 19) (vs := [grV N (.slice p es.length c), grV M (.slice q fs.length d)]) Try.func20 rfl Try.ntmps20 rfl ?_
  refine Vc.seq ?_
  refine Vc.text (List.range 3) (sd [(0, .eff), (1, .eff), (2, .pure)]) rfl ?_
  refine Rg.box rfl rfl rfl rfl rfl (fun b2 => ?_)
  refine Rg.box rfl rfl rfl rfl rfl (fun b3 => ?_)
  refine Rg.pure rfl rfl rfl (Pv.assign rfl) ?_
  refine Rg.nil ?_
  refine Vc.seq ?_
  refine Vc.draw [] (sd [(0, .pure), (1, .read), (2, .pure), (3, .read), (4, .pure), (5, .pure), (6, .pure), (7, .read), (9, .pure), (10, .read), (8, .eff), (11, .eff), (12, .eff), (13, .pure), (14, .pure)]) mixed (by kernel_rfl) ?_
  refine Rg.pure rfl rfl rfl (Pv.fa rfl) ?_
  refine Rg.read rfl rfl rfl (Ev.ld rfl rfl) ?_
  refine Rg.pure rfl rfl rfl (Pv.fa rfl) ?_
  refine Rg.read rfl rfl rfl (Ev.ld rfl rfl) ?_
  refine Rg.pure rfl rfl rfl (Pv.eql rfl rfl) ?_
  refine Rg.pure rfl rfl rfl (Pv.move rfl) ?_
  refine Rg.split (t := 10) rfl (fun h10 => ?_) (fun h10 => ?_)
  ·
    simp only [beq_iff_eq] at h10
    refine Rg.pure rfl rfl rfl (Pv.fa rfl) ?_
    refine Rg.read rfl rfl rfl (Ev.ld rfl rfl) ?_
    refine Rg.pure rfl rfl rfl (Pv.fa rfl) ?_
    refine Rg.read rfl rfl rfl (Ev.ld rfl rfl) ?_
    refine Rg.callA rfl rfl rfl (run_callF rfl) (sorted_spec (ha.mono fun b o h => Or.inr h) hN) ?_
    rintro v13 s13 ⟨zs, own13, hp13, hs13⟩
    refine Rg.callA rfl rfl rfl (run_callF rfl) (sorted_spec (hb.mono fun b o h => Or.inr h) hM) ?_
    rintro v16 s16 ⟨ws, own16, hp16, hs16⟩
    refine Rg.callP rfl rfl rfl (run_callF rfl) (equal_spec (Arg.own own13 frz_sb) (Arg.own own16 frz_sb) (by rw [hp13.length_eq]; exact hN) (by rw [hp16.length_eq]; exact hM)) ?_
    rintro _ rfl
    refine Rg.pure rfl rfl rfl (Pv.pickT rfl rfl) ?_
    refine Rg.pure rfl rfl rfl (Pv.assign rfl) ?_
    refine Rg.nil ?_
    refine Vc.ret (Vc.rets rfl (.cons (.tmp rfl) (.nil)) ?_)
    exact congrArg Value.bool (sameG_eq h10 hp13 hp16 hs13 hs16)
  ·
    simp only [beq_eq_false_iff_ne, ne_eq] at h10
    iterate 7 (first | refine Rg.skipP rfl rfl rfl ?_ | refine Rg.skipR rfl rfl rfl ?_ | refine Rg.skipE rfl rfl rfl ?_)
    refine Rg.pure rfl rfl rfl (Pv.pickF rfl rfl) ?_
    refine Rg.pure rfl rfl rfl (Pv.assign rfl) ?_
    refine Rg.nil ?_
    refine Vc.ret (Vc.rets rfl (.cons (.tmp rfl) (.nil)) ?_)
    exact congrArg Value.bool (sameG_ne h10).symm

theorem less_spec {F : Fm} (a b : Eg) : Spec Try.prog 39 #[egV a, egV b] F [] fun v _ => v = .bool (decide (cfE a b < 0)) := by
  refine Spec.of (n := 30) (vs := [egV a, egV b]) Try.func39 rfl Try.ntmps39 rfl ?_
  refine Vc.seq ?_
  refine Vc.text (List.range 3) (sd [(0, .eff), (1, .eff), (2, .pure)]) rfl ?_
  refine Rg.box rfl rfl rfl rfl rfl (fun b2 => ?_)
  refine Rg.box rfl rfl rfl rfl rfl (fun b3 => ?_)
  refine Rg.pure rfl rfl rfl (Pv.assign rfl) ?_
  refine Rg.nil ?_
  refine Vc.seq ?_
  refine Vc.seq ?_
  refine Vc.text (List.range 5) (sd [(0, .pure), (1, .read), (2, .pure), (3, .read), (4, .pure)]) rfl ?_
  refine Rg.pure rfl rfl rfl (Pv.fa rfl) ?_
  refine Rg.read rfl rfl rfl (Ev.ld rfl rfl) ?_
  refine Rg.pure rfl rfl rfl (Pv.fa rfl) ?_
  refine Rg.read rfl rfl rfl (Ev.ld rfl rfl) ?_
  refine Rg.pure rfl rfl rfl (Pv.neq rfl rfl) ?_
  refine Rg.nil ?_
  refine Vc.cond rfl (fun h9 => ?_) (fun h9 => ?_)
  ·
    simp only [bne_iff_ne, ne_eq] at h9
    refine Vc.seq ?_
    refine Vc.text (List.range 6) (sd [(0, .pure), (1, .read), (2, .pure), (3, .read), (4, .pure), (5, .pure)]) rfl ?_
    refine Rg.pure rfl rfl rfl (Pv.fa rfl) ?_
    refine Rg.read rfl rfl rfl (Ev.ld rfl rfl) ?_
    refine Rg.pure rfl rfl rfl (Pv.fa rfl) ?_
    refine Rg.read rfl rfl rfl (Ev.ld rfl rfl) ?_
    refine Rg.pure rfl rfl rfl (Pv.lss rfl rfl) ?_
    refine Rg.pure rfl rfl rfl (Pv.assign rfl) ?_
    refine Rg.nil ?_
    refine Vc.ret (Vc.rets rfl (.cons (.tmp rfl) (.nil)) ?_)
    exact congrArg Value.bool (by rw [Bool.eq_iff_iff, decide_eq_true_eq, decide_eq_true_eq, cfE_lt]; omega)
  ·
    simp only [bne_eq_false_iff_eq] at h9
    refine Vc.skip ?_
    refine Vc.seq ?_
    refine Vc.seq ?_
    refine Vc.text (List.range 5) (sd [(0, .pure), (1, .read), (2, .pure), (3, .read), (4, .pure)]) rfl ?_
    refine Rg.pure rfl rfl rfl (Pv.fa rfl) ?_
    refine Rg.read rfl rfl rfl (Ev.ld rfl rfl) ?_
    refine Rg.pure rfl rfl rfl (Pv.fa rfl) ?_
    refine Rg.read rfl rfl rfl (Ev.ld rfl rfl) ?_
    refine Rg.pure rfl rfl rfl (Pv.neq rfl rfl) ?_
    refine Rg.nil ?_
    refine Vc.cond rfl (fun h19 => ?_) (fun h19 => ?_)
    ·
      simp only [bne_iff_ne, ne_eq] at h19
      refine Vc.seq ?_
      refine Vc.text (List.range 6) (sd [(0, .pure), (1, .read), (2, .pure), (3, .read), (4, .pure), (5, .pure)]) rfl ?_
      refine Rg.pure rfl rfl rfl (Pv.fa rfl) ?_
      refine Rg.read rfl rfl rfl (Ev.ld rfl rfl) ?_
      refine Rg.pure rfl rfl rfl (Pv.fa rfl) ?_
      refine Rg.read rfl rfl rfl (Ev.ld rfl rfl) ?_
      refine Rg.pure rfl rfl rfl (Pv.lss rfl rfl) ?_
      refine Rg.pure rfl rfl rfl (Pv.assign rfl) ?_
      refine Rg.nil ?_
      refine Vc.ret (Vc.rets rfl (.cons (.tmp rfl) (.nil)) ?_)
      exact congrArg Value.bool (by rw [Bool.eq_iff_iff, decide_eq_true_eq, decide_eq_true_eq, cfE_lt]; omega)
    ·
      simp only [bne_eq_false_iff_eq] at h19
      refine Vc.skip ?_
      refine Vc.seq ?_
      refine Vc.text (List.range 6) (sd [(0, .pure), (1, .read), (2, .pure), (3, .read), (4, .pure), (5, .pure)]) rfl ?_
      refine Rg.pure rfl rfl rfl (Pv.fa rfl) ?_
      refine Rg.read rfl rfl rfl (Ev.ld rfl rfl) ?_
      refine Rg.pure rfl rfl rfl (Pv.fa rfl) ?_
      refine Rg.read rfl rfl rfl (Ev.ld rfl rfl) ?_
      refine Rg.pure rfl rfl rfl (Pv.lss rfl rfl) ?_
      refine Rg.pure rfl rfl rfl (Pv.assign rfl) ?_
      refine Rg.nil ?_
      refine Vc.ret (Vc.rets rfl (.cons (.tmp rfl) (.nil)) ?_)
      exact congrArg Value.bool (by rw [Bool.eq_iff_iff, decide_eq_true_eq, decide_eq_true_eq, cfE_lt]; omega)

/-! A thing put in its place. -/
theorem ins_perm {α : Type} (out : List α) (x : α) (k : Nat) : (out.take k ++ x :: out.drop k).Perm (out ++ [x]) := by
  refine List.perm_middle.trans ?_
  rw [List.take_append_drop]
  exact (List.perm_append_comm (l₁ := [x]) (l₂ := out))
theorem ins_sorted {α : Type} [Inhabited α] {cf : α → α → Int} (hO : SWO (ltOf cf)) {out : List α} {x : α} {k : Nat} (hk : k ≤ out.length) (hs : out.Pairwise fun a b => ¬ cf b a < 0) (h1 : ∀ j, k ≤ j → j < out.length → cf x out[j]! < 0) (h2 : k = 0 ∨ ¬ cf x out[k - 1]! < 0) :
    (out.take k ++ x :: out.drop k).Pairwise fun a b => ¬ cf b a < 0 := by
  have hs' := hs
  rw [← List.take_append_drop k out, List.pairwise_append] at hs
  have hasym : ∀ a b, cf a b < 0 → ¬ cf b a < 0 := fun a b h1 h2 => by
    have := hO.trans a b a (decide_eq_true h1) (decide_eq_true h2)
    rw [hO.irrefl a] at this; cases this
  have hx : ∀ b ∈ out.drop k, ¬ cf b x < 0 := fun b hb => by
    obtain ⟨j, hj, rfl⟩ := List.mem_iff_getElem.1 hb
    rw [List.length_drop] at hj
    have := h1 (k + j) (by omega) (by omega)
    rw [getElem!_pos out _ (by omega)] at this
    rw [List.getElem_drop]
    exact hasym _ _ this
  have hp : ∀ a ∈ out.take k, ¬ cf x a < 0 := fun a ha => by
    rcases h2 with rfl | h2
    · simp at ha
    · obtain ⟨j, hj, rfl⟩ := List.mem_iff_getElem.1 ha
      rw [List.length_take] at hj
      rw [List.getElem_take]
      rw [getElem!_pos out _ (by omega)] at h2
      by_cases e : j = k - 1
      · subst e; exact h2
      · have := (List.pairwise_iff_getElem.1 hs') j (k - 1) (by omega) (by omega) (by omega)
        have h3 := hO.ntrans x out[k - 1] out[j] (decide_eq_false h2) (decide_eq_false this)
        simpa [ltOf] using h3
  rw [List.pairwise_append]
  refine ⟨hs.1, List.pairwise_cons.2 ⟨hx, hs.2.1⟩, fun a ha b hb => ?_⟩
  rcases List.mem_cons.1 hb with rfl | hb
  · exact hp a ha
  · exact hs.2.2 a ha b hb
theorem shift_set {α : Type} [Inhabited α] {out : List α} {z : α} {j : Nat} (h0 : 0 < j) (hj : j ≤ out.length) :
    (out.take j ++ z :: out.drop j)[j - 1]! = out[j - 1]! ∧ (out.take j ++ z :: out.drop j).set j out[j - 1]! = out.take (j - 1) ++ out[j - 1]! :: out.drop (j - 1) := by
  have hl : (out.take j).length = j := by simp; omega
  constructor
  · rw [getElem!_pos _ _ (by simp; omega), getElem!_pos _ _ (by omega), List.getElem_append_left (by omega), List.getElem_take]
  · rw [List.set_append_right _ _ (by omega), hl, Nat.sub_self, List.set_cons_zero]
    have e1 : out.take j = out.take (j - 1) ++ [out[j - 1]!] := by
      have := take_get out (i := j - 1) (by omega)
      rwa [show j - 1 + 1 = j by omega] at this
    have e2 : out.drop (j - 1) = out[j - 1]! :: out.drop j := by
      rw [getElem!_pos out _ (by omega)]
      have := List.drop_eq_getElem_cons (l := out) (i := j - 1) (by omega)
      rwa [show j - 1 + 1 = j by omega] at this
    rw [e1, e2]; simp
theorem put_set {α : Type} {out : List α} {x z : α} {k : Nat} (hk : k ≤ out.length) : (out.take k ++ z :: out.drop k).set k x = out.take k ++ x :: out.drop k := by
  have hl : (out.take k).length = k := by simp; omega
  rw [List.set_append_right _ _ (by omega), hl, Nat.sub_self, List.set_cons_zero]

theorem rsort_spec {F : Fm} {va : Value} {es : List Eg} (ha : Arg edgeE F va es) (hN : es.length < 1000000) :
    Spec Try.prog 30 #[va] F [] fun v s => ∃ zs, Own edgeE v zs s ∧ zs.Perm es ∧ SortedE zs := by
  obtain ⟨p, c, rfl⟩ := ha.shape
  refine Spec.of (n := 63) (vs := [.slice p es.length c]) Try.func30 rfl Try.ntmps30 rfl ?_
  refine Vc.seq ?_
  refine Vc.text (List.range 1) (sd [(0, .pure)]) rfl ?_
  refine Rg.pure rfl rfl rfl (Pv.assign rfl) ?_
  refine Rg.nil ?_
  refine Vc.seq ?_
  refine Vc.text (List.range 2) (sd [(0, .eff), (1, .pure)]) rfl ?_
  refine Rg.bslice0 (E := edgeE) rfl rfl rfl (fun b7 own7 => ?_)
  refine Rg.pure rfl rfl rfl (Pv.assign rfl) ?_
  refine Rg.nil ?_
  refine Vc.seq ?_
  refine Vc.seq ?_
  refine Vc.text (List.range 1) (sd [(0, .pure)]) rfl ?_
  refine Rg.pure rfl rfl rfl (Pv.assign rfl) ?_
  refine Rg.nil ?_
  refine Vc.block ?_
  refine Vc.loop4 (fun (i : Nat) (out : List Eg) (v : Value) (sg : Hl) => i ≤ es.length ∧ Own edgeE v out sg ∧ out.Perm (es.take i) ∧ SortedE out) (fun i out v sg => [(0, .slice p es.length c), (3, v), (4, .int .i64 (i : Int))]) (fun i out v sg => sg) (fun i out v sg => es.length - i) 0 [] _ _ ⟨Nat.zero_le _, own7, by simp, .nil⟩ (.cons rfl (.cons rfl (.cons rfl .nil))) pulled ?_
  rintro i out v sg ⟨hi, own, hp, hs⟩
  obtain ⟨qv, cv, rfl⟩ := own.shape
  refine Vc.seq ?_
  refine Vc.seq ?_
  refine Vc.text (List.range 4) (sd [(0, .pure), (1, .pure), (2, .pure), (3, .pure)]) rfl ?_
  refine Rg.pure rfl rfl rfl (Pv.move rfl) ?_
  refine Rg.pure rfl rfl rfl (Pv.move rfl) ?_
  refine Rg.pure rfl rfl rfl (Pv.lenS rfl) ?_
  refine Rg.pure rfl rfl rfl (Pv.lss rfl rfl) ?_
  refine Rg.nil ?_
  refine Vc.cond rfl (fun h11 => ?_) (fun h11 => ?_)
  ·
    simp only [decide_eq_true_eq] at h11
    obtain ⟨b, off, c', e, _⟩ := ha.block (by omega)
    cases e
    have hi1 : i < es.length := by omega
    have hol : out.length = i := by rw [hp.length_eq, List.length_take]; omega
    have htk := take_get es hi1
    generalize hx : es[i]! = x at htk
    refine Vc.skip ?_
    refine Vc.seq ?_
    refine Vc.block ?_
    refine Vc.seq ?_
    refine Vc.text (List.range 3) (sd [(0, .pure), (1, .pure), (2, .pure)]) rfl ?_
    refine Rg.pure rfl rfl rfl (Pv.move rfl) ?_
    refine Rg.pure rfl rfl rfl (Pv.lenS rfl) ?_
    refine Rg.pure rfl rfl rfl (Pv.assign rfl) ?_
    refine Rg.nil ?_
    refine Vc.seq ?_
    refine Vc.block ?_
    refine Vc.loop1 (fun (k : Nat) => k ≤ out.length ∧ ∀ j, k ≤ j → j < out.length → cfE x out[j]! < 0) (fun k => [(0, .slice (some ⟨b, off, none⟩) es.length c), (3, .slice qv out.length cv), (4, .int .i64 (i : Int)), (5, .int .i64 (k : Int))]) (fun k => sg) (fun k => k) out.length ⟨Nat.le_refl _, fun j h1 h2 => by omega⟩ (.cons rfl (.cons rfl (.cons rfl (.cons rfl .nil)))) pulled ?_
    rintro k ⟨hk, hj⟩
    refine Vc.seq ?_
    refine Vc.seq ?_
    refine Vc.cut1 (fun (bb : Bool) => (bb = true → 0 < k ∧ cfE x out[k - 1]! < 0) ∧ (bb = false → k = 0 ∨ ¬ cfE x out[k - 1]! < 0)) (fun bb => (29, .bool bb) :: [(0, .slice (some ⟨b, off, none⟩) es.length c), (3, .slice qv out.length cv), (4, .int .i64 (i : Int)), (5, .int .i64 (k : Int))]) (fun bb => sg) ?_ ?_
    ·
      refine Vc.draw [] (sd [(0, .pure), (1, .pure), (2, .pure), (3, .pure), (4, .pure), (5, .pure), (6, .read), (7, .pure), (8, .pure), (9, .pure), (10, .pure), (11, .read), (12, .eff), (13, .pure)]) mixed (by kernel_rfl) ?_
      refine Rg.pure rfl rfl rfl (Pv.move rfl) ?_
      refine Rg.pure rfl rfl rfl (Pv.gtr rfl rfl) ?_
      refine Rg.pure rfl rfl rfl (Pv.move rfl) ?_
      refine Rg.split (t := 18) rfl (fun h18 => ?_) (fun h18 => ?_)
      ·
        simp only [decide_eq_true_eq] at h18
        obtain ⟨bo, co, spo, eo, rfl, _, _⟩ := own.block (by omega)
        cases eo
        refine Rg.pure rfl rfl rfl (Pv.move rfl) ?_
        refine Rg.pure rfl rfl rfl (Pv.move rfl) ?_
        refine Rg.pure rfl rfl rfl (Pv.ixA (i) rfl rfl (by omega) (by omega)) ?_
        refine Rg.read rfl rfl rfl (Ev.as (egV x) (Ev.ldS i ha.src rfl rfl rfl hi1) (congrArg egV hx)) ?_
        refine Rg.pure rfl rfl rfl (Pv.move rfl) ?_
        refine Rg.pure rfl rfl rfl (Pv.move rfl) ?_
        refine Rg.pure rfl rfl rfl (Pv.asI (k - 1) (Pv.sub rfl rfl (by omega)) (by omega)) ?_
        refine Rg.pure rfl rfl rfl (Pv.ixA (k - 1) rfl rfl (by omega) (by omega)) ?_
        refine Rg.read rfl rfl rfl (Ev.as (egV out[k - 1]!) (Ev.ldR (k - 1) rfl (Nat.zero_add _) (by omega)) rfl) ?_
        refine Rg.callP rfl rfl rfl (run_callF rfl) (less_spec x out[k - 1]!) ?_
        rintro _ rfl
        refine Rg.pure rfl rfl rfl (Pv.pickT rfl rfl) ?_
        refine Rg.nil ?_
        exact Vc.inv1 _ ⟨fun hb => ⟨by omega, of_decide_eq_true hb⟩, fun hb => .inr (of_decide_eq_false hb)⟩ (.cons rfl (.cons rfl (.cons rfl (.cons rfl (.cons rfl .nil))))) pulled
      ·
        simp only [decide_eq_false_iff_not] at h18
        iterate 10 (first | refine Rg.skipP rfl rfl rfl ?_ | refine Rg.skipR rfl rfl rfl ?_ | refine Rg.skipE rfl rfl rfl ?_)
        refine Rg.pure rfl rfl rfl (Pv.pickF rfl rfl) ?_
        refine Rg.nil ?_
        exact Vc.inv1 _ ⟨fun hb => (by cases hb), fun _ => .inl (by omega)⟩ (.cons rfl (.cons rfl (.cons rfl (.cons rfl (.cons rfl .nil))))) pulled
    ·
      rintro bb ⟨hb1, hb2⟩
      refine Vc.cond rfl (fun h29 => ?_) (fun h29 => ?_)
      ·
        obtain ⟨hk0, hlt⟩ := hb1 h29
        refine Vc.skip ?_
        refine Vc.block ?_
        refine Vc.text (List.range 3) (sd [(0, .pure), (1, .pure), (2, .pure)]) rfl ?_
        refine Rg.pure rfl rfl rfl (Pv.move rfl) ?_
        refine Rg.pure rfl rfl rfl (Pv.asI (k - 1) (Pv.sub rfl rfl (by omega)) (by omega)) ?_
        refine Rg.pure rfl rfl rfl (Pv.assign rfl) ?_
        refine Rg.nil ?_
        refine Vc.blk ?_
        exact Vc.inv1 (k - 1) ⟨⟨by omega, fun j h1 h2 => by
          by_cases e : j = k - 1
          · subst e; exact hlt
          · exact hj j (by omega) h2⟩, by omega⟩ (.cons rfl (.cons rfl (.cons rfl (.cons rfl .nil)))) pulled
      ·
        have hk2 := hb2 h29
        have hin := ins_sorted cfE_swo hk hs hj hk2
        refine Vc.exit rfl ?_
        refine Vc.seq ?_
        refine Vc.text (List.range 8) (sd [(0, .pure), (1, .pure), (2, .pure), (3, .pure), (4, .read), (5, .eff), (6, .eff), (7, .pure)]) rfl ?_
        refine Rg.pure rfl rfl rfl (Pv.move rfl) ?_
        refine Rg.pure rfl rfl rfl (Pv.move rfl) ?_
        refine Rg.pure rfl rfl rfl (Pv.move rfl) ?_
        refine Rg.pure rfl rfl rfl (Pv.ixA (i) rfl rfl (by omega) (by omega)) ?_
        refine Rg.read rfl rfl rfl (Ev.as (egV x) (Ev.ldS i ha.src rfl rfl rfl hi1) (congrArg egV hx)) ?_
        refine Rg.bslice1 rfl rfl rfl rfl rfl rfl rfl (fun b37 => ?_)
        refine Rg.append rfl rfl rfl rfl rfl own (Src.one (y := x) rfl) (by simp <;> omega) (by simp [maxLen] <;> omega) rfl (fun v38 s38 own38 => ?_)
        rw [show out ++ [x] = out.take out.length ++ x :: out.drop out.length by simp] at own38
        obtain ⟨bq, cq, spq, rfl, rfl, hcq, hmq⟩ := own38.block (by simp)
        have hlq : ∀ (z : Eg) (j : Nat), j ≤ out.length → (out.take j ++ z :: out.drop j).length = out.length + 1 := fun z j h => by simp; omega
        rw [hlq _ _ (Nat.le_refl _)]
        rw [hlq _ _ (Nat.le_refl _)] at hcq
        refine Rg.pure rfl rfl rfl (Pv.assign rfl) ?_
        refine Rg.nil ?_
        refine Vc.seq ?_
        refine Vc.seq ?_
        refine Vc.text (List.range 4) (sd [(0, .pure), (1, .pure), (2, .pure), (3, .pure)]) rfl ?_
        refine Rg.pure rfl rfl rfl (Pv.move rfl) ?_
        refine Rg.pure rfl rfl rfl (Pv.lenS rfl) ?_
        refine Rg.pure rfl rfl rfl (Pv.asI (out.length) (Pv.sub rfl rfl (by omega)) (by omega)) ?_
        refine Rg.pure rfl rfl rfl (Pv.assign rfl) ?_
        refine Rg.nil ?_
        refine Vc.block ?_
        refine Vc.loop2 (fun (j : Nat) (z : Eg) => k ≤ j ∧ j ≤ out.length) (fun j z => [(0, .slice (some ⟨b, off, none⟩) es.length c), (3, .slice (some ⟨bq, 0, none⟩) (out.length + 1) cq), (4, .int .i64 (i : Int)), (5, .int .i64 (k : Int)), (6, .int .i64 (j : Int))]) (fun j z => [(bq, rowS edgeE (out.take j ++ z :: out.drop j) spq)]) (fun j z => j) out.length x ⟨hk, Nat.le_refl _⟩ (.cons rfl (.cons rfl (.cons rfl (.cons rfl (.cons rfl .nil))))) pulled ?_
        rintro j z ⟨hj1, hj2⟩
        refine Vc.seq ?_
        refine Vc.seq ?_
        refine Vc.text (List.range 3) (sd [(0, .pure), (1, .pure), (2, .pure)]) rfl ?_
        refine Rg.pure rfl rfl rfl (Pv.move rfl) ?_
        refine Rg.pure rfl rfl rfl (Pv.move rfl) ?_
        refine Rg.pure rfl rfl rfl (Pv.gtr rfl rfl) ?_
        refine Rg.nil ?_
        refine Vc.cond rfl (fun h44 => ?_) (fun h44 => ?_)
        ·
          simp only [decide_eq_true_eq] at h44
          obtain ⟨hg, hset⟩ := shift_set (z := z) (show 0 < j by omega) hj2
          refine Vc.skip ?_
          refine Vc.seq ?_
          refine Vc.block ?_
          refine Vc.text (List.range 9) (sd [(0, .pure), (1, .pure), (2, .pure), (3, .pure), (4, .pure), (5, .pure), (6, .read), (7, .pure), (8, .eff)]) rfl ?_
          refine Rg.pure rfl rfl rfl (Pv.move rfl) ?_
          refine Rg.pure rfl rfl rfl (Pv.move rfl) ?_
          refine Rg.pure rfl rfl rfl (Pv.move rfl) ?_
          refine Rg.pure rfl rfl rfl (Pv.move rfl) ?_
          refine Rg.pure rfl rfl rfl (Pv.asI (j - 1) (Pv.sub rfl rfl (by omega)) (by omega)) ?_
          refine Rg.pure rfl rfl rfl (Pv.ixA (j - 1) rfl rfl (by omega) (by omega)) ?_
          refine Rg.read rfl rfl rfl (Ev.as (egV out[j - 1]!) (Ev.ldR (j - 1) rfl (Nat.zero_add _) (by rw [hlq z j hj2]; omega)) (congrArg egV hg)) ?_
          refine Rg.pure rfl rfl rfl (Pv.ixA (j) rfl rfl (by omega) (by omega)) ?_
          refine Rg.storeR (z := out[j - 1]!) j rfl rfl rfl rfl rfl rfl (Nat.zero_add _) (by rw [hlq z j hj2]; omega) rfl ?_
          rw [hset]
          refine Rg.nil ?_
          refine Vc.blk ?_
          refine Vc.text (List.range 3) (sd [(0, .pure), (1, .pure), (2, .pure)]) rfl ?_
          refine Rg.pure rfl rfl rfl (Pv.move rfl) ?_
          refine Rg.pure rfl rfl rfl (Pv.asI (j - 1) (Pv.sub rfl rfl (by omega)) (by omega)) ?_
          refine Rg.pure rfl rfl rfl (Pv.assign rfl) ?_
          refine Rg.nil ?_
          exact Vc.inv2 (j - 1) out[j - 1]! ⟨⟨by omega, by omega⟩, by omega⟩ (.cons rfl (.cons rfl (.cons rfl (.cons rfl (.cons rfl .nil))))) pulled
        ·
          simp only [decide_eq_false_iff_not] at h44
          obtain rfl : j = k := by omega
          refine Vc.exit rfl ?_
          refine Vc.text (List.range 8) (sd [(0, .pure), (1, .pure), (2, .pure), (3, .pure), (4, .pure), (5, .read), (6, .pure), (7, .eff)]) rfl ?_
          refine Rg.pure rfl rfl rfl (Pv.move rfl) ?_
          refine Rg.pure rfl rfl rfl (Pv.move rfl) ?_
          refine Rg.pure rfl rfl rfl (Pv.move rfl) ?_
          refine Rg.pure rfl rfl rfl (Pv.move rfl) ?_
          refine Rg.pure rfl rfl rfl (Pv.ixA (i) rfl rfl (by omega) (by omega)) ?_
          refine Rg.read rfl rfl rfl (Ev.as (egV x) (Ev.ldS i ha.src rfl rfl rfl hi1) (congrArg egV hx)) ?_
          refine Rg.pure rfl rfl rfl (Pv.ixA (j) rfl rfl (by omega) (by omega)) ?_
          refine Rg.storeR (z := x) j rfl rfl rfl rfl rfl rfl (Nat.zero_add _) (by rw [hlq z j hj2]; omega) rfl ?_
          rw [put_set hj2]
          refine Rg.nil ?_
          refine Vc.blk ?_
          refine Vc.text (List.range 3) (sd [(0, .pure), (1, .pure), (2, .pure)]) rfl ?_
          refine Rg.pure rfl rfl rfl (Pv.move rfl) ?_
          refine Rg.pure rfl rfl rfl (Pv.asI (i + 1) (Pv.add rfl rfl (by omega)) (by omega)) ?_
          refine Rg.pure rfl rfl rfl (Pv.assign rfl) ?_
          refine Rg.nil ?_
          exact Vc.inv4 (i + 1) (out.take j ++ x :: out.drop j) _ _ ⟨⟨by omega, Own.blk' bq cq (out.length + 1) _ spq (hlq x j hj2).symm hcq hmq, by rw [htk]; exact (ins_perm out x j).trans (hp.append_right [x]), hin⟩, by omega⟩ (.cons rfl (.cons rfl (.cons rfl .nil))) pulled
  ·
    simp only [decide_eq_false_iff_not] at h11
    rw [List.take_of_length_le (by omega)] at hp
    refine Vc.exit rfl ?_
    refine Vc.seq ?_
    refine Vc.text (List.range 2) (sd [(0, .pure), (1, .pure)]) rfl ?_
    refine Rg.pure rfl rfl rfl (Pv.move rfl) ?_
    refine Rg.pure rfl rfl rfl (Pv.assign rfl) ?_
    refine Rg.nil ?_
    exact Vc.ret (Vc.retsH rfl (.cons (.tmp rfl) (.nil)) (⟨out, own, hp, hs⟩) pulled)

theorem rsame_spec {F : Fm} {va vb : Value} {es fs : List Eg} (ha : Arg edgeE F va es) (hb : Arg edgeE F vb fs) (hN : es.length < 1000000) (hM : fs.length < 1000000) (N M : Int) :
    Spec Try.prog 21 #[grV N va, grV M vb] F [] fun v _ => v = .bool (sameG N M es fs) := by
  obtain ⟨p, c, rfl⟩ := ha.shape
  obtain ⟨q, d, rfl⟩ := hb.shape
  refine Spec.of (n := 19) (vs := [grV N (.slice p es.length c), grV M (.slice q fs.length d)]) Try.func21 rfl Try.ntmps21 rfl ?_
  refine Vc.seq ?_
  refine Vc.text (List.range 3) (sd [(0, .eff), (1, .eff), (2, .pure)]) rfl ?_
  refine Rg.box rfl rfl rfl rfl rfl (fun b2 => ?_)
  refine Rg.box rfl rfl rfl rfl rfl (fun b3 => ?_)
  refine Rg.pure rfl rfl rfl (Pv.assign rfl) ?_
  refine Rg.nil ?_
  refine Vc.seq ?_
  refine Vc.draw [] (sd [(0, .pure), (1, .read), (2, .pure), (3, .read), (4, .pure), (5, .pure), (6, .pure), (7, .read), (9, .pure), (10, .read), (8, .eff), (11, .eff), (12, .eff), (13, .pure), (14, .pure)]) mixed (by kernel_rfl) ?_
  refine Rg.pure rfl rfl rfl (Pv.fa rfl) ?_
  refine Rg.read rfl rfl rfl (Ev.ld rfl rfl) ?_
  refine Rg.pure rfl rfl rfl (Pv.fa rfl) ?_
  refine Rg.read rfl rfl rfl (Ev.ld rfl rfl) ?_
  refine Rg.pure rfl rfl rfl (Pv.eql rfl rfl) ?_
  refine Rg.pure rfl rfl rfl (Pv.move rfl) ?_
  refine Rg.split (t := 10) rfl (fun h10 => ?_) (fun h10 => ?_)
  ·
    simp only [beq_iff_eq] at h10
    refine Rg.pure rfl rfl rfl (Pv.fa rfl) ?_
    refine Rg.read rfl rfl rfl (Ev.ld rfl rfl) ?_
    refine Rg.pure rfl rfl rfl (Pv.fa rfl) ?_
    refine Rg.read rfl rfl rfl (Ev.ld rfl rfl) ?_
    refine Rg.callA rfl rfl rfl (run_callF rfl) (rsort_spec (ha.mono fun b o h => Or.inr h) hN) ?_
    rintro v13 s13 ⟨zs, own13, hp13, hs13⟩
    refine Rg.callA rfl rfl rfl (run_callF rfl) (rsort_spec (hb.mono fun b o h => Or.inr h) hM) ?_
    rintro v16 s16 ⟨ws, own16, hp16, hs16⟩
    refine Rg.callP rfl rfl rfl (run_callF rfl) (alike_spec (Arg.own own13 frz_sb) (Arg.own own16 frz_sb) (by rw [hp13.length_eq]; omega) (by rw [hp16.length_eq]; omega)) ?_
    rintro _ rfl
    refine Rg.pure rfl rfl rfl (Pv.pickT rfl rfl) ?_
    refine Rg.pure rfl rfl rfl (Pv.assign rfl) ?_
    refine Rg.nil ?_
    refine Vc.ret (Vc.rets rfl (.cons (.tmp rfl) (.nil)) ?_)
    exact congrArg Value.bool (sameG_eq h10 hp13 hp16 hs13 hs16)
  ·
    simp only [beq_eq_false_iff_ne, ne_eq] at h10
    iterate 7 (first | refine Rg.skipP rfl rfl rfl ?_ | refine Rg.skipR rfl rfl rfl ?_ | refine Rg.skipE rfl rfl rfl ?_)
    refine Rg.pure rfl rfl rfl (Pv.pickF rfl rfl) ?_
    refine Rg.pure rfl rfl rfl (Pv.assign rfl) ?_
    refine Rg.nil ?_
    refine Vc.ret (Vc.rets rfl (.cons (.tmp rfl) (.nil)) ?_)
    exact congrArg Value.bool (sameG_ne h10).symm
end Go.Proofs.Ytjoldkfedmiciaa
