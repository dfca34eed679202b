/- Disks: keys collected. -/
import Derived.Test.YtmocncadncgaaaaDkE
namespace Go.Proofs.Ytmocncadncgaaaa
set_option linter.unusedVariables false

theorem appendSeqS_spec {F : Fm} {gf : Nat} [TyCall Try.prog gf] {lb : List Value} {Sp S : List (List UInt8) → Prop} {hi : Hl} (hit : ∀ F', (∀ b o, F.at_ b o → F'.at_ b o) → Iter Try.prog gf lb F' (fun x => [strE.val x]) Sp S hi) (hS : ∀ pre x, Sp (pre ++ [x]) → pre.length < 1073741824) :
    Spec Try.prog 78 #[.slice none 0 0, .func (.func gf) #[] lb.toArray] F hi fun v s => ∃ ys, S ys ∧ Own strE v ys s := by
  refine Spec.of (n := 13) (vs := [.slice none 0 0, .func (.func gf) #[] lb.toArray]) Try.func78 rfl Try.ntmps78 rfl ?_
  refine Vc.seq ?_
  refine Vc.text (List.range 2) (sd [(0, .eff), (1, .pure)]) rfl ?_
  refine Rg.box rfl rfl rfl rfl rfl (fun b2 => ?_)
  refine Rg.pure rfl rfl rfl (Pv.assign rfl) ?_
  refine Rg.nil ?_
  refine Vc.seq ?_
  refine Vc.seq ?_
  refine Vc.text (List.range 1) (sd [(0, .pure)]) rfl ?_
  refine Rg.pure rfl rfl rfl (Pv.move rfl) ?_
  refine Rg.nil ?_
  refine Vc.block ?_
  refine Vc.rangeFunc (enc := fun x => [strE.val x]) (Sp := Sp) (S := S) (hi := hi) (rest := []) (fun pre hc => ∃ v sg, Own strE v pre sg ∧ hc = (b2, cellsO [v] 30) :: sg) [(b2, cellsO [.slice none 0 0] 30)] rfl rfl (fun _ => rfl) rfl pulled (fun F1 hF1 => hit F1 fun b o h => hF1 b o (.inr h)) ⟨_, [], Own.nil, rfl⟩ ?_ ?_
  ·
    rintro lr rc pre x hc F1 hF1 hpre ⟨v, sg, own, rfl⟩
    have hpl := hS pre x hpre
    refine Vc.text (List.range 1) (sd [(0, .pure)]) rfl ?_
    refine Rg.pure rfl rfl rfl (Pv.assign rfl) ?_
    refine Rg.nil ?_
    refine Vc.begin ?_
    refine Vc.block ?_
    refine Vc.text (List.range 5) (sd [(0, .read), (1, .pure), (2, .eff), (3, .eff), (4, .eff)]) rfl ?_
    refine Rg.read rfl rfl rfl (Ev.ld rfl rfl) ?_
    refine Rg.pure rfl rfl rfl (Pv.move rfl) ?_
    refine Rg.bslice1 rfl rfl rfl rfl rfl rfl rfl (fun b10 => ?_)
    refine Rg.append rfl rfl rfl rfl rfl own (Src.one (y := x) rfl) (by simp <;> omega) (by simp [maxLen] <;> omega) rfl (fun v11 s11 own11 => ?_)
    refine Rg.store rfl rfl rfl rfl rfl own11.one rfl rfl ?_
    refine Rg.nil ?_
    refine Vc.blk ?_
    exact Vc.finR ((b2, cellsO [v11] 30) :: s11) ⟨v11, s11, own11, rfl⟩ pulled
  ·
    rintro D ys hc hD hSy ⟨v, sg, own, rfl⟩
    refine Vc.blk ?_
    refine Vc.seq ?_
    refine Vc.text (List.range 2) (sd [(0, .read), (1, .pure)]) rfl ?_
    refine Rg.read rfl rfl rfl (Ev.ld rfl rfl) ?_
    refine Rg.pure rfl rfl rfl (Pv.assign rfl) ?_
    refine Rg.nil ?_
    exact Vc.ret (Vc.retsM (hl' := sg) (Mk.one hD) rfl (.cons (.tmp rfl) .nil) ⟨ys, hSy, own⟩ pulled)
theorem collectS_spec {F : Fm} {gf : Nat} [TyCall Try.prog gf] {lb : List Value} {Sp S : List (List UInt8) → Prop} {hi : Hl} (hit : ∀ F', (∀ b o, F.at_ b o → F'.at_ b o) → Iter Try.prog gf lb F' (fun x => [strE.val x]) Sp S hi) (hS : ∀ pre x, Sp (pre ++ [x]) → pre.length < 1073741824) :
    Spec Try.prog 73 #[.func (.func gf) #[] lb.toArray] F hi fun v s => ∃ ys, S ys ∧ Own strE v ys s := by
  refine Spec.of (n := 5) (vs := [.func (.func gf) #[] lb.toArray]) Try.func73 rfl Try.ntmps73 rfl ?_
  refine Vc.seq ?_
  refine Vc.text (List.range 1) (sd [(0, .pure)]) rfl ?_
  refine Rg.pure rfl rfl rfl (Pv.assign rfl) ?_
  refine Rg.nil ?_
  refine Vc.seq ?_
  refine Vc.text (List.range 3) (sd [(0, .pure), (1, .eff), (2, .pure)]) rfl ?_
  refine Rg.pure rfl rfl rfl (Pv.move rfl) ?_
  refine Rg.callH rfl rfl rfl (run_callF rfl) (fun F' hF' => appendSeqS_spec (F := F') (Sp := Sp) (S := S) (fun F'' h => hit F'' fun b o hb => h b o (hF' b o (.inr hb))) hS) rfl ?_
  rintro v4 s4 ⟨ys, hSy, own⟩
  refine Rg.pure rfl rfl rfl (Pv.assign rfl) ?_
  refine Rg.nil ?_
  exact Vc.ret (Vc.retsH rfl (.cons (.tmp rfl) (.nil)) (⟨ys, hSy, own⟩) pulled)
end Go.Proofs.Ytmocncadncgaaaa
