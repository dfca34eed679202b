/- Disks: names in order. -/
import Derived.Test.YtmocncadncgaaaaDkI
import Derived.Test.YtmocncadncgaaaaSlT
import Derived.Test.YtmocncadncgaaaaDkShelf
namespace Go.Proofs.Ytmocncadncgaaaa
set_option linter.unusedVariables false

theorem sortS_spec {F : Fm} {v : Value} {xs : List (List UInt8)} {sg : Hl} (own : Own strE v xs sg) (hsz : xs.length < 1073741824) :
    Spec Try.prog 74 #[v] F sg fun _ s => Own strE v (Go.Proofs.Ytmocncadncgaaaa.sortN xs) s := by
  cases own with
  | nil => exact fun w hw => (AnyM.slices_Sort_string_none Try.sortN none 0 w).mono fun e w' ⟨he, hw'⟩ => ⟨_, _, he, (show Own strE (.slice none 0 0) (Go.Proofs.Ytmocncadncgaaaa.sortN []) [] from by rw [show Go.Proofs.Ytmocncadncgaaaa.sortN [] = [] by simp [Go.Proofs.Ytmocncadncgaaaa.sortN]]; exact .nil), by rw [hw']; exact hw⟩
  | blk b cap _ sp hc hm =>
    refine (sort_str Try.sortN strE rfl (fun _ => rfl) (fun _ => rfl) F b cap xs sp (by omega)).mono fun u s e => ?_
    subst e
    exact Own.blk' (E := strE) b cap xs.length (Go.Proofs.Ytmocncadncgaaaa.sortN xs) sp (by simp [Go.Proofs.Ytmocncadncgaaaa.sortN]) hc hm
theorem sortedS_spec {F : Fm} {gf : Nat} [TyCall Try.prog gf] {lb : List Value} {Sp S : List (List UInt8) → Prop} {hi : Hl} (hit : ∀ F', (∀ b o, F.at_ b o → F'.at_ b o) → Iter Try.prog gf lb F' (fun x => [strE.val x]) Sp S hi) (hS : ∀ pre x, Sp (pre ++ [x]) → pre.length < 1073741824) (hSl : ∀ ys, S ys → ys.length < 1073741824) :
    Spec Try.prog 54 #[.func (.func gf) #[] lb.toArray] F hi fun v s => ∃ ys, S ys ∧ Own strE v (Go.Proofs.Ytmocncadncgaaaa.sortN ys) s := by
  refine Spec.of (n := 9) (vs := [.func (.func gf) #[] lb.toArray]) Try.func54 rfl Try.ntmps54 rfl ?_
  refine Vc.seq ?_
  refine Vc.text (List.range 1) (sd [(0, .pure)]) rfl ?_
  refine Rg.pure rfl rfl rfl (Pv.assign rfl) ?_
  refine Rg.nil ?_
  refine Vc.seq ?_
  refine Vc.text (List.range 3) (sd [(0, .pure), (1, .eff), (2, .pure)]) rfl ?_
  refine Rg.pure rfl rfl rfl (Pv.move rfl) ?_
  refine Rg.callH rfl rfl rfl (run_callF rfl) (fun F' hF' => collectS_spec (F := F') (Sp := Sp) (S := S) (fun F'' h => hit F'' fun b o hb => h b o (hF' b o (.inr hb))) hS) rfl ?_
  rintro v5 s5 ⟨ys, hSy, own⟩
  refine Rg.pure rfl rfl rfl (Pv.assign rfl) ?_
  refine Rg.nil ?_
  refine Vc.seq ?_
  refine Vc.text (List.range 2) (sd [(0, .pure), (1, .eff)]) rfl ?_
  refine Rg.pure rfl rfl rfl (Pv.move rfl) ?_
  refine Rg.callH rfl rfl rfl (run_callF rfl) (fun F' hF' => sortS_spec (F := F') own (hSl ys hSy)) rfl ?_
  rintro v7 s7 own7
  refine Rg.nil ?_
  refine Vc.seq ?_
  refine Vc.text (List.range 2) (sd [(0, .pure), (1, .pure)]) rfl ?_
  refine Rg.pure rfl rfl rfl (Pv.move rfl) ?_
  refine Rg.pure rfl rfl rfl (Pv.assign rfl) ?_
  refine Rg.nil ?_
  exact Vc.ret (Vc.retsH rfl (.cons (.tmp rfl) (.nil)) (⟨ys, hSy, own7⟩) pulled)
end Go.Proofs.Ytmocncadncgaaaa
