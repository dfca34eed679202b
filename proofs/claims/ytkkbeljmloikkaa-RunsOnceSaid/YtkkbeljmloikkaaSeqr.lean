/- Values, Collect, SortedFunc over structs. -/
import Derived.Test.YtkkbeljmloikkaaSlK
import Derived.Test.YtkkbeljmloikkaaRuA
import Derived.Test.YtkkbeljmloikkaaRuShelf
namespace Go.Proofs.Ytkkbeljmloikkaa
set_option linter.unusedVariables false

abbrev sqr : Enc Rc := recE
abbrev Tqr : Type := Rc
theorem sortLr : Go.Proofs.SlLaysF0.n6 Try.prog Try.sortR_ren := Try.sortR

theorem values_specr {F : Fm} {p : Option Addr} {m c : Nat} :
    Spec Try.prog 26 #[.slice p m c] F [] fun v s => ∃ bs, v = .func (.func 37) #[] #[.pointer (some ⟨bs, 0, none⟩)] ∧ s = [(bs, cellsO [.slice p m c] 22)] := by
  refine Spec.of (n := 4) (vs := [.slice p m c]) Try.func26 rfl Try.ntmps26 rfl ?_
  refine Vc.seq ?_
  refine Vc.text (List.range 2) (sd [(0, .eff), (1, .pure)]) rfl ?_
  refine Rg.box rfl rfl rfl rfl rfl (fun b1 => ?_)
  refine Rg.pure rfl rfl rfl (Pv.assign rfl) ?_
  refine Rg.nil ?_
  refine Vc.seq ?_
  refine Vc.text (List.range 2) (sd [(0, .pure), (1, .pure)]) rfl ?_
  refine Rg.pure rfl rfl rfl (Pv.mkF rfl rfl) ?_
  refine Rg.pure rfl rfl rfl (Pv.assign rfl) ?_
  refine Rg.nil ?_
  exact Vc.ret (Vc.retsH rfl (.cons (.tmp rfl) (.nil)) (⟨b1, rfl, rfl⟩) pulled)

theorem values_iterr {F : Fm} {va : Value} {xs : List Tqr} (ha : Arg sqr F va xs) (hN : xs.length < 1073741824) (bs : Nat) :
    Iter Try.prog 37 [.pointer (some ⟨bs, 0, none⟩)] F (fun x => [sqr.val x]) (fun p => p <+: xs) (fun p => p = xs) [(bs, cellsO [va] 22)] := by
  intro lr J F1 hF1 hY hc0 hJ0
  obtain ⟨p, c, rfl⟩ := ha.shape
  have ha1 := ha.mono hF1
  refine Spec.of (n := 16) (vs := [.func (.yield lr) #[] #[], .pointer (some ⟨bs, 0, none⟩)]) Try.func37 rfl Try.ntmps37 rfl ?_
  refine Vc.seq ?_
  refine Vc.text (List.range 3) (sd [(0, .read), (1, .pure), (2, .pure)]) rfl ?_
  refine Rg.read rfl rfl rfl (Ev.ld rfl rfl) ?_
  refine Rg.pure rfl rfl rfl (Pv.lenS rfl) ?_
  refine Rg.pure rfl rfl rfl (Pv.move rfl) ?_
  refine Rg.nil ?_
  refine Vc.block ?_
  refine Vc.loop2 (fun (k : Nat) (hc : Hl) => k ≤ xs.length ∧ J (xs.take k) hc) (fun k hc => [(0, .func (.yield lr) #[] #[]), (1, .pointer (some ⟨bs, 0, none⟩)), (5, .slice p xs.length c), (6, .int .i64 (xs.length : Int)), (7, .int .i64 (k : Int))]) (fun k hc => (bs, cellsO [.slice p xs.length c] 22) :: hc) (fun k hc => xs.length - k) 0 hc0 ⟨Nat.zero_le _, by simpa using hJ0⟩ (.cons rfl (.cons rfl (.cons rfl (.cons rfl (.cons rfl .nil))))) pulled ?_
  rintro k hc ⟨hk, hJ⟩
  refine Vc.seq ?_
  refine Vc.text (List.range 1) (sd [(0, .pure)]) rfl ?_
  refine Rg.pure rfl rfl rfl (Pv.lss rfl rfl) ?_
  refine Rg.nil ?_
  refine Vc.seq ?_
  refine Vc.cond rfl (fun h8 => ?_) (fun h8 => ?_)
  ·
    simp only [decide_eq_true_eq] at h8
    have hk1 : k < xs.length := by omega
    obtain ⟨b, off, c', e, hcc⟩ := ha1.block (by omega)
    cases e
    have hsn : xs.take k ++ [xs[k]!] = xs.take (k + 1) := take_snoc (by rw [getElem!_pos xs k hk1]; exact List.getElem?_eq_getElem hk1)
    have hpre : xs.take k ++ [xs[k]!] <+: xs := by rw [hsn]; exact List.take_prefix _ _
    refine Vc.skip ?_
    refine Vc.seq ?_
    refine Vc.block ?_
    refine Vc.seq ?_
    refine Vc.text (List.range 4) (sd [(0, .pure), (1, .read), (2, .eff), (3, .eff)]) rfl ?_
    refine Rg.pure rfl rfl rfl (Pv.ixA (k) rfl rfl (by omega) (by omega)) ?_
    refine Rg.read rfl rfl rfl (Ev.ldS (k) (ha1.src) rfl rfl rfl (by omega)) ?_
    refine Rg.alloc rfl rfl rfl rfl (fun b4 => ?_)
    refine Rg.storeA (us := sqr.cells xs[k]!) rfl rfl rfl rfl rfl rfl rfl rfl ?_
    refine Rg.nil ?_
    refine Vc.seq ?_
    refine Vc.text (List.range 4) (sd [(0, .pure), (1, .read), (2, .eff), (3, .pure)]) rfl ?_
    refine Rg.pure rfl rfl rfl (Pv.move rfl) ?_
    refine Rg.read rfl rfl rfl (Ev.as (sqr.val xs[k]!) (Ev.ldA rfl rfl) rfl) ?_
    refine Rg.yieldH rfl rfl rfl rfl rfl (fun F' hF' => hY _ xs[k]! hpre hc hJ F' (fun b o h => hF' b o (.inr h))) rfl ?_
    rintro _ hc' ⟨rfl, hJ'⟩
    rw [hsn] at hJ'
    refine Rg.pure rfl rfl rfl (Pv.not rfl) ?_
    refine Rg.nil ?_
    refine Vc.cond rfl (fun h14 => absurd h14 (by simp)) (fun h14 => ?_)
    refine Vc.skip ?_
    refine Vc.blk ?_
    refine Vc.text (List.range 2) (sd [(0, .pure), (1, .pure)]) rfl ?_
    refine Rg.pure rfl rfl rfl (Pv.asI (k + 1) (Pv.add rfl rfl (by omega)) (by omega)) ?_
    refine Rg.pure rfl rfl rfl (Pv.move rfl) ?_
    refine Rg.nil ?_
    exact Vc.inv2 (k + 1) hc' ⟨⟨by omega, hJ'⟩, by omega⟩ (.cons rfl (.cons rfl (.cons rfl (.cons rfl (.cons rfl .nil))))) pulled
  ·
    simp only [decide_eq_false_iff_not] at h8
    have hJf : J xs hc := by rwa [List.take_of_length_le (by omega)] at hJ
    refine Vc.exit rfl ?_
    exact Vc.fin (Vc.retsH rfl .nil (⟨xs, rfl, hJf⟩) pulled)

theorem appendSeq_specr {F : Fm} {gf : Nat} [TyCall Try.prog gf] {lb : List Value} {Sp S : List Tqr → Prop} {hi : Hl} (hit : ∀ F', (∀ b o, F.at_ b o → F'.at_ b o) → Iter Try.prog gf lb F' (fun x => [sqr.val x]) Sp S hi) (hS : ∀ pre x, Sp (pre ++ [x]) → pre.length < 1073741824) :
    Spec Try.prog 42 #[.slice none 0 0, .func (.func gf) #[] lb.toArray] F hi fun v s => ∃ ys, S ys ∧ Own sqr v ys s := by
  refine Spec.of (n := 13) (vs := [.slice none 0 0, .func (.func gf) #[] lb.toArray]) Try.func42 rfl Try.ntmps42 rfl ?_
  refine Vc.seq ?_
  refine Vc.text (List.range 2) (sd [(0, .eff), (1, .pure)]) rfl ?_
  refine Rg.box rfl rfl rfl rfl rfl (fun b2 => ?_)
  refine Rg.pure rfl rfl rfl (Pv.assign rfl) ?_
  refine Rg.nil ?_
  refine Vc.seq ?_
  refine Vc.seq ?_
  refine Vc.text (List.range 1) (sd [(0, .pure)]) rfl ?_
  refine Rg.pure rfl rfl rfl (Pv.move rfl) ?_
  refine Rg.nil ?_
  refine Vc.block ?_
  refine Vc.rangeFunc (enc := fun x => [sqr.val x]) (Sp := Sp) (S := S) (hi := hi) (rest := []) (fun pre hc => ∃ v sg, Own sqr v pre sg ∧ hc = (b2, cellsO [v] 22) :: sg) [(b2, cellsO [.slice none 0 0] 22)] rfl rfl (fun _ => rfl) rfl pulled (fun F1 hF1 => hit F1 fun b o h => hF1 b o (.inr h)) ⟨_, [], Own.nil, rfl⟩ ?_ ?_
  ·
    rintro lr rc pre x hc F1 hF1 hpre ⟨v, sg, own, rfl⟩
    have hpl := hS pre x hpre
    refine Vc.text (List.range 2) (sd [(0, .eff), (1, .eff)]) rfl ?_
    refine Rg.alloc rfl rfl rfl rfl (fun b5 => ?_)
    refine Rg.storeA (us := sqr.cells x) rfl rfl rfl rfl rfl rfl rfl rfl ?_
    refine Rg.nil ?_
    refine Vc.begin ?_
    refine Vc.block ?_
    refine Vc.text (List.range 5) (sd [(0, .read), (1, .read), (2, .eff), (3, .eff), (4, .eff)]) rfl ?_
    refine Rg.read rfl rfl rfl (Ev.ld rfl rfl) ?_
    refine Rg.read rfl rfl rfl (Ev.ldA rfl rfl) ?_
    refine Rg.bslice1 rfl rfl rfl rfl rfl rfl rfl (fun b10 => ?_)
    refine Rg.append rfl rfl rfl rfl rfl own (Src.one (y := x) rfl) (by simp <;> omega) (by simp [maxLen] <;> omega) rfl (fun v11 s11 own11 => ?_)
    refine Rg.store rfl rfl rfl rfl rfl own11.one rfl rfl ?_
    refine Rg.nil ?_
    refine Vc.blk ?_
    exact Vc.finR ((b2, cellsO [v11] 22) :: s11) ⟨v11, s11, own11, rfl⟩ pulled
  ·
    rintro D ys hc hD hSy ⟨v, sg, own, rfl⟩
    refine Vc.blk ?_
    refine Vc.seq ?_
    refine Vc.text (List.range 2) (sd [(0, .read), (1, .pure)]) rfl ?_
    refine Rg.read rfl rfl rfl (Ev.ld rfl rfl) ?_
    refine Rg.pure rfl rfl rfl (Pv.assign rfl) ?_
    refine Rg.nil ?_
    exact Vc.ret (Vc.retsM (hl' := sg) (Mk.one hD) rfl (.cons (.tmp rfl) .nil) ⟨ys, hSy, own⟩ pulled)

theorem collect_specr {F : Fm} {gf : Nat} [TyCall Try.prog gf] {lb : List Value} {Sp S : List Tqr → Prop} {hi : Hl} (hit : ∀ F', (∀ b o, F.at_ b o → F'.at_ b o) → Iter Try.prog gf lb F' (fun x => [sqr.val x]) Sp S hi) (hS : ∀ pre x, Sp (pre ++ [x]) → pre.length < 1073741824) :
    Spec Try.prog 35 #[.func (.func gf) #[] lb.toArray] F hi fun v s => ∃ ys, S ys ∧ Own sqr v ys s := by
  refine Spec.of (n := 5) (vs := [.func (.func gf) #[] lb.toArray]) Try.func35 rfl Try.ntmps35 rfl ?_
  refine Vc.seq ?_
  refine Vc.text (List.range 1) (sd [(0, .pure)]) rfl ?_
  refine Rg.pure rfl rfl rfl (Pv.assign rfl) ?_
  refine Rg.nil ?_
  refine Vc.seq ?_
  refine Vc.text (List.range 3) (sd [(0, .pure), (1, .eff), (2, .pure)]) rfl ?_
  refine Rg.pure rfl rfl rfl (Pv.move rfl) ?_
  refine Rg.callH rfl rfl rfl (run_callF rfl) (fun F' hF' => appendSeq_specr (F := F') (Sp := Sp) (S := S) (fun F'' h => hit F'' fun b o hb => h b o (hF' b o (.inr hb))) hS) rfl ?_
  rintro v4 s4 ⟨ys, hSy, own⟩
  refine Rg.pure rfl rfl rfl (Pv.assign rfl) ?_
  refine Rg.nil ?_
  exact Vc.ret (Vc.retsH rfl (.cons (.tmp rfl) (.nil)) (⟨ys, hSy, own⟩) pulled)

theorem sortFunc_specr {F : Fm} (cf : Tqr → Tqr → Int) (hO : Go.Sort.SWO (Go.Proofs.ltOf cf)) (g : Nat) (cb : Array Value) [tc : TyCall Try.prog g] {v : Value} {xs : List Tqr} {sg : Hl} (own : Own sqr v xs sg) (hsz : xs.length < 4611686018427387904)
    (hcmp : ∀ F' : Fm, (∀ b o, F.at_ b o → F'.at_ b o) → ∀ x ∈ xs, ∀ y ∈ xs, Spec Try.prog g (#[sqr.val x, sqr.val y] ++ cb) F' [] fun v _ => v = .int .i64 (cf x y)) :
    Spec Try.prog 36 #[v, .func (.func g) #[] cb] F sg fun _ s => ∃ ys, Own sqr v ys s ∧ ys.Perm xs ∧ ys.Pairwise fun x y => ¬ cf y x < 0 := by
  cases own with
  | nil => exact fun w hw => (AnyF.slices_SortFunc_none { sortLr with } none 0 (.func (.func g) #[] cb) w).mono fun e w' ⟨he, hw'⟩ => ⟨_, _, he, ⟨[], .nil, .refl _, .nil⟩, by rw [hw']; exact hw⟩
  | blk b cap _ sp hc hm =>
    refine (sort_genK sortLr sqr (Try.isAgg44) (Try.sizeOf44) (fun _ => rfl) cf hO g cb (fun args w => tc.call args w) F b cap xs sp hsz hcmp).mono fun u s ⟨ys, e, hp, hs⟩ => ⟨ys, ?_, hp, hs⟩
    subst e
    have hl := hp.length_eq
    have := Own.blk' (E := sqr) b cap xs.length ys sp hl.symm hc hm
    exact this

theorem sortedFunc_specr {F : Fm} (cf : Tqr → Tqr → Int) (hO : Go.Sort.SWO (Go.Proofs.ltOf cf)) (g : Nat) [tc : TyCall Try.prog g] {gf : Nat} [TyCall Try.prog gf] {lb : List Value} {Sp S : List Tqr → Prop} {hi : Hl} (hit : ∀ F', (∀ b o, F.at_ b o → F'.at_ b o) → Iter Try.prog gf lb F' (fun x => [sqr.val x]) Sp S hi) (hS : ∀ pre x, Sp (pre ++ [x]) → pre.length < 1073741824) (hSl : ∀ ys, S ys → ys.length < 1073741824)
    (hcmp : ∀ F' : Fm, (∀ b o, F.at_ b o → F'.at_ b o) → ∀ ys, S ys → ∀ x ∈ ys, ∀ y ∈ ys, Spec Try.prog g #[sqr.val x, sqr.val y] F' [] fun v _ => v = .int .i64 (cf x y)) :
    Spec Try.prog 25 #[.func (.func gf) #[] lb.toArray, .func (.func g) #[] #[]] F hi fun v s => ∃ ys zs, S ys ∧ Own sqr v zs s ∧ zs.Perm ys ∧ zs.Pairwise fun x y => ¬ cf y x < 0 := by
  refine Spec.of (n := 12) (vs := [.func (.func gf) #[] lb.toArray, .func (.func g) #[] #[]]) Try.func25 rfl Try.ntmps25 rfl ?_
  refine Vc.seq ?_
  refine Vc.text (List.range 1) (sd [(0, .pure)]) rfl ?_
  refine Rg.pure rfl rfl rfl (Pv.assign rfl) ?_
  refine Rg.nil ?_
  refine Vc.seq ?_
  refine Vc.text (List.range 3) (sd [(0, .pure), (1, .eff), (2, .pure)]) rfl ?_
  refine Rg.pure rfl rfl rfl (Pv.move rfl) ?_
  refine Rg.callH rfl rfl rfl (run_callF rfl) (fun F' hF' => collect_specr (F := F') (Sp := Sp) (S := S) (fun F'' h => hit F'' fun b o hb => h b o (hF' b o (.inr hb))) hS) rfl ?_
  rintro v7 s7 ⟨ys, hSy, own⟩
  refine Rg.pure rfl rfl rfl (Pv.assign rfl) ?_
  refine Rg.nil ?_
  refine Vc.seq ?_
  refine Vc.text (List.range 3) (sd [(0, .pure), (1, .pure), (2, .eff)]) rfl ?_
  refine Rg.pure rfl rfl rfl (Pv.move rfl) ?_
  refine Rg.pure rfl rfl rfl (Pv.move rfl) ?_
  refine Rg.callH rfl rfl rfl (run_callF rfl) (fun F' hF' => sortFunc_specr (F := F') cf hO g #[] own (by have := hSl ys hSy; omega) (fun F'' h x hx y hy => hcmp F'' (fun b o hb => h b o (hF' b o (.inr hb))) ys hSy x hx y hy)) rfl ?_
  rintro v10 s10 ⟨zs, own2, hp, hs⟩
  refine Rg.nil ?_
  refine Vc.seq ?_
  refine Vc.text (List.range 2) (sd [(0, .pure), (1, .pure)]) rfl ?_
  refine Rg.pure rfl rfl rfl (Pv.move rfl) ?_
  refine Rg.pure rfl rfl rfl (Pv.assign rfl) ?_
  refine Rg.nil ?_
  exact Vc.ret (Vc.retsH rfl (.cons (.tmp rfl) (.nil)) (⟨ys, zs, hSy, own2, hp, hs⟩) pulled)
end Go.Proofs.Ytkkbeljmloikkaa
