/- Disks: a file behind a crash. -/
import Derived.Test.YtmocncadncgaaaaDkB
namespace Go.Proofs.Ytmocncadncgaaaa
set_option linter.unusedVariables false

theorem Arg.from {α : Type} {E : Enc α} {F : Fm} {p : Option Addr} {m c : Nat} {xs : List α} (h : Arg E F (.slice p m c) xs) {i : Nat} (hi : i ≤ xs.length) : Arg E F (.slice (if c = i then p else p.map (·.add (i * E.k))) (m - i) (c - i)) (xs.drop i) := by
  obtain ⟨hm, hc⟩ := h.cap
  by_cases h0 : xs.length = 0
  · obtain rfl : xs = [] := List.length_eq_zero_iff.1 h0
    obtain rfl : i = 0 := by simpa using hi
    rw [hm]
    exact Arg.nil
  · obtain ⟨b, off, c', e, _⟩ := h.block (by omega)
    cases e
    have := h.sub i xs.length hi (Nat.le_refl _)
    rw [List.take_of_length_le (by simp)] at this
    by_cases hci : c = i
    · rw [if_pos hci] at this ⊢; exact this
    · rw [if_neg hci] at this ⊢
      simpa [addr_add] using this
theorem equal_spec {F : Fm} {va vb : Value} {xs ys : List UInt8} (ha : Arg byteE F va xs) (hb : Arg byteE F vb ys) :
    Spec Try.prog 76 #[va, vb] F [] fun v _ => v = .bool (decide (xs = ys)) := by
  obtain ⟨p, c, rfl⟩ := ha.shape
  obtain ⟨q, d, rfl⟩ := hb.shape
  refine Spec.of (n := 10) (vs := [.slice p xs.length c, .slice q ys.length d]) Try.func76 rfl Try.ntmps76 rfl ?_
  refine Vc.seq ?_
  refine Vc.text (List.range 1) (sd [(0, .pure)]) rfl ?_
  refine Rg.pure rfl rfl rfl (Pv.assign rfl) ?_
  refine Rg.nil ?_
  refine Vc.seq ?_
  refine Vc.text (List.range 6) (sd [(0, .pure), (1, .read), (2, .pure), (3, .read), (4, .pure), (5, .pure)]) rfl ?_
  refine Rg.pure rfl rfl rfl (Pv.move rfl) ?_
  refine Rg.read rfl rfl rfl (Ev.str (ha.src) rfl) ?_
  refine Rg.pure rfl rfl rfl (Pv.move rfl) ?_
  refine Rg.read rfl rfl rfl (Ev.str (hb.src) rfl) ?_
  refine Rg.pure rfl rfl rfl (Pv.eqlS rfl rfl) ?_
  refine Rg.pure rfl rfl rfl (Pv.assign rfl) ?_
  refine Rg.nil ?_
  refine Vc.ret (Vc.rets rfl (.cons (.tmp rfl) (.nil)) ?_)
  exact congrArg Value.bool (by rw [Bool.eq_iff_iff]; simp)
/-- the next truth; false behind the last one -/
def hdB (ks : List Bool) : Bool := ks.headD false
theorem next_spec {F : Fm} {kb : Nat} {kv : Value} {ks : List Bool} (K : Fm → Prop) (hKF : K F) (hka : ∀ F', K F' → Arg boolE F' kv ks) :
    Spec Try.prog 53 #[.pointer (some ⟨kb, 0, none⟩)] F [(kb, cellsO [kv] 38)] fun v s => v = .bool (hdB ks) ∧ ∃ kv', (∀ F', K F' → Arg boolE F' kv' (ks.drop 1)) ∧ s = [(kb, cellsO [kv'] 38)] := by
  have hk := hka F hKF
  obtain ⟨p, c, rfl⟩ := hk.shape
  refine Spec.of (n := 12) (vs := [.pointer (some ⟨kb, 0, none⟩)]) Try.func53 rfl Try.ntmps53 rfl ?_
  refine Vc.seq ?_
  refine Vc.text (List.range 1) (sd [(0, .pure)]) rfl ?_
  refine Rg.pure rfl rfl rfl (Pv.assign rfl) ?_
  refine Rg.nil ?_
  refine Vc.seq ?_
  refine Vc.seq ?_
  refine Vc.text (List.range 3) (sd [(0, .read), (1, .pure), (2, .pure)]) rfl ?_
  refine Rg.read rfl rfl rfl (Ev.ld rfl rfl) ?_
  refine Rg.pure rfl rfl rfl (Pv.lenS rfl) ?_
  refine Rg.pure rfl rfl rfl (Pv.eql rfl rfl) ?_
  refine Rg.nil ?_
  refine Vc.cond rfl (fun h5 => ?_) (fun h5 => ?_)
  ·
    simp only [beq_iff_eq] at h5
    obtain rfl : ks = [] := List.length_eq_zero_iff.1 (by omega)
    refine Vc.seq ?_
    refine Vc.text (List.range 1) (sd [(0, .pure)]) rfl ?_
    refine Rg.pure rfl rfl rfl (Pv.assign rfl) ?_
    refine Rg.nil ?_
    exact Vc.ret (Vc.retsH rfl (.cons (.tmp rfl) (.nil)) (⟨rfl, .slice p 0 c, fun F' h => Arg.nil, rfl⟩) pulled)
  ·
    simp only [beq_eq_false_iff_ne, ne_eq] at h5
    obtain ⟨b, off, c', e, hcc⟩ := hk.block (by omega)
    cases e
    obtain ⟨x, l, rfl⟩ : ∃ x l, ks = x :: l := by cases ks with | nil => exact absurd rfl h5 | cons x l => exact ⟨x, l, rfl⟩
    refine Vc.skip ?_
    refine Vc.seq ?_
    refine Vc.text (List.range 4) (sd [(0, .read), (1, .pure), (2, .read), (3, .pure)]) rfl ?_
    refine Rg.read rfl rfl rfl (Ev.ld rfl rfl) ?_
    refine Rg.pure rfl rfl rfl (Pv.ixA 0 rfl rfl rfl (by simp)) ?_
    refine Rg.read rfl rfl rfl (Ev.as (.bool x) (Ev.ldS (E := boolE) 0 hk.src rfl rfl (by simp) (by simp)) rfl) ?_
    refine Rg.pure rfl rfl rfl (Pv.assign rfl) ?_
    refine Rg.nil ?_
    refine Vc.seq ?_
    refine Vc.text (List.range 3) (sd [(0, .read), (1, .pure), (2, .eff)]) rfl ?_
    refine Rg.read rfl rfl rfl (Ev.ld rfl rfl) ?_
    refine Rg.pure rfl rfl rfl (Pv.slFrom 1 rfl rfl (by simp) hcc) ?_
    refine Rg.store rfl rfl rfl rfl rfl rfl rfl rfl ?_
    refine Rg.nil ?_
    refine Vc.seq ?_
    refine Vc.text (List.range 2) (sd [(0, .pure), (1, .pure)]) rfl ?_
    refine Rg.pure rfl rfl rfl (Pv.move rfl) ?_
    refine Rg.pure rfl rfl rfl (Pv.assign rfl) ?_
    refine Rg.nil ?_
    exact Vc.ret (Vc.retsH rfl (.cons (.tmp rfl) (.nil)) (⟨rfl, .slice (some ⟨b, if c = 1 then off else off + 1 * 1, none⟩) ((x :: l).length - 1) (c - 1), fun F' h => by
      have := (hka F' h).sub 1 (x :: l).length (by simp) (Nat.le_refl _)
      rw [List.take_of_length_le (by simp)] at this
      exact this, rfl⟩) pulled)
end Go.Proofs.Ytmocncadncgaaaa
