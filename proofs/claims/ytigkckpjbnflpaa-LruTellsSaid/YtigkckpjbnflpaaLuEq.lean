/- Two rows of texts that are the same are told so. -/
import Derived.Test.YtigkckpjbnflpaaLuZ
namespace Go.Proofs.Ytigkckpjbnflpaa
set_option linter.unusedVariables false
theorem same_spec {F : Fm} {va vb : Value} {ks : List KTs} (ha : Arg keyEs F va ks) (hb : Arg keyEs F vb ks) (hN : ks.length < 1073741824) :
    Spec Try.prog 21 #[va, vb] F [] fun v _ => v = .bool true := by
  obtain ⟨qa, ca, rfl⟩ := ha.shape
  obtain ⟨qb, cb, rfl⟩ := hb.shape
  refine Spec.of (n := 26) (vs := [.slice qa ks.length ca, .slice qb ks.length cb]) Try.func21 rfl Try.ntmps21 rfl ?_
  refine Vc.seq ?_
  refine Vc.text (List.range 1) (sd [(0, .pure)]) rfl ?_
  refine Rg.pure rfl rfl rfl (Pv.assign rfl) ?_
  refine Rg.nil ?_
  refine Vc.seq ?_
  refine Vc.seq ?_
  refine Vc.text (List.range 5) (sd [(0, .pure), (1, .pure), (2, .pure), (3, .pure), (4, .pure)]) rfl ?_
  refine Rg.pure rfl rfl rfl (Pv.move rfl) ?_
  refine Rg.pure rfl rfl rfl (Pv.lenS rfl) ?_
  refine Rg.pure rfl rfl rfl (Pv.move rfl) ?_
  refine Rg.pure rfl rfl rfl (Pv.lenS rfl) ?_
  refine Rg.pure rfl rfl rfl (Pv.neq rfl rfl) ?_
  refine Rg.nil ?_
  refine Vc.cond rfl (fun h10 => absurd h10 (by simp)) (fun h10 => ?_)
  refine Vc.skip ?_
  refine Vc.seq ?_
  refine Vc.seq ?_
  refine Vc.text (List.range 1) (sd [(0, .pure)]) rfl ?_
  refine Rg.pure rfl rfl rfl (Pv.assign rfl) ?_
  refine Rg.nil ?_
  refine Vc.block ?_
  refine Vc.loop1 (fun (i : Nat) => i ≤ ks.length) (fun i => [(0, .slice qa ks.length ca), (1, .slice qb ks.length cb), (5, .int .i64 (i : Int))]) (fun i => []) (fun i => ks.length - i) 0 (Nat.zero_le _) (.cons rfl (.cons rfl (.cons rfl .nil))) pulled ?_
  rintro i hi
  refine Vc.seq ?_
  refine Vc.seq ?_
  refine Vc.text (List.range 4) (sd [(0, .pure), (1, .pure), (2, .pure), (3, .pure)]) rfl ?_
  refine Rg.pure rfl rfl rfl (Pv.move rfl) ?_
  refine Rg.pure rfl rfl rfl (Pv.move rfl) ?_
  refine Rg.pure rfl rfl rfl (Pv.lenS rfl) ?_
  refine Rg.pure rfl rfl rfl (Pv.lss rfl rfl) ?_
  refine Rg.nil ?_
  refine Vc.cond rfl (fun h14 => ?_) (fun h14 => ?_)
  ·
    simp only [decide_eq_true_eq] at h14
    obtain ⟨b, off, c', e, hca⟩ := ha.block (by omega)
    cases e
    obtain ⟨b2, off2, c2, e2, hcb⟩ := hb.block (by omega)
    cases e2
    refine Vc.skip ?_
    refine Vc.seq ?_
    refine Vc.block ?_
    refine Vc.seq ?_
    refine Vc.draw [] (sd [(0, .pure), (1, .pure), (2, .pure), (3, .read), (4, .pure), (5, .pure), (6, .pure), (7, .read), (8, .pure)]) mixed (by kernel_rfl) ?_
    refine Rg.pure rfl rfl rfl (Pv.move rfl) ?_
    refine Rg.pure rfl rfl rfl (Pv.move rfl) ?_
    refine Rg.pure rfl rfl rfl (Pv.ixA (i) rfl rfl (by omega) (by omega)) ?_
    refine Rg.read rfl rfl rfl (Ev.ldS (i) (ha.src) rfl rfl rfl (by omega)) ?_
    refine Rg.pure rfl rfl rfl (Pv.move rfl) ?_
    refine Rg.pure rfl rfl rfl (Pv.move rfl) ?_
    refine Rg.pure rfl rfl rfl (Pv.ixA (i) rfl rfl (by omega) (by omega)) ?_
    refine Rg.read rfl rfl rfl (Ev.ldS (i) (hb.src) rfl rfl rfl (by omega)) ?_
    refine Rg.pure rfl rfl rfl (Pv.neqS rfl rfl) ?_
    refine Rg.nil ?_
    refine Vc.cond rfl (fun h25 => absurd h25 (by simp)) (fun h25 => ?_)
    refine Vc.skip ?_
    refine Vc.blk ?_
    refine Vc.text (List.range 3) (sd [(0, .pure), (1, .pure), (2, .pure)]) rfl ?_
    refine Rg.pure rfl rfl rfl (Pv.move rfl) ?_
    refine Rg.pure rfl rfl rfl (Pv.asI (i + 1) (Pv.add rfl rfl (by omega)) (by omega)) ?_
    refine Rg.pure rfl rfl rfl (Pv.assign rfl) ?_
    refine Rg.nil ?_
    exact Vc.inv1 (i + 1) ⟨by omega, by omega⟩ (.cons rfl (.cons rfl (.cons rfl .nil))) pulled
  ·
    refine Vc.exit rfl ?_
    refine Vc.seq ?_
    refine Vc.text (List.range 1) (sd [(0, .pure)]) rfl ?_
    refine Rg.pure rfl rfl rfl (Pv.assign rfl) ?_
    refine Rg.nil ?_
    refine Vc.ret (Vc.rets rfl (.cons (.tmp rfl) (.nil)) ?_)
    rfl
end Go.Proofs.Ytigkckpjbnflpaa
