/- The document's disk: cut, puts, Arm, List's names. -/
import Derived.Test.YtmocncadncgaaaaRfA
namespace Go.Proofs.Ytmocncadncgaaaa
set_option linter.unusedVariables false

theorem rcut_spec {F : Fm} {rb : Nat} {room ops armed : Int} {vL vK : Value} {down : Bool} {fs : List Fv} {sL : Hl} (own : Own fileE vL fs sL) (hN : fs.length ≤ 1000) (j : Nat) (hj : j < fs.length) :
    Spec Try.prog 66 #[.pointer (some ⟨rb, 0, none⟩), .int .i64 (j : Int)] F ((rb, rfO room vL ops armed vK down) :: sL) fun _ s' => ∃ vL' sL', s' = (rb, rfO room vL' ops armed vK down) :: sL' ∧ Own fileE vL' (fs.take j ++ fs.drop (j + 1)) sL' := by
  have hcap := (Arg.own (F := frz F sL) own (fun b o h => .inl h))
  obtain ⟨bL, cL, spL, rfl, rfl, hc, hm⟩ := own.block (by omega)
  have hlc : fs.length ≤ cL := hcap.cap.2
  refine Spec.of (n := 23) (vs := [.pointer (some ⟨rb, 0, none⟩), .int .i64 (j : Int)]) Try.func66 rfl Try.ntmps66 rfl ?_
  refine Vc.drawS [19] (sd [(0, .pure), (2, .pure), (3, .pure), (4, .pure), (5, .read), (6, .pure), (7, .pure), (9, .pure), (10, .pure), (11, .pure), (12, .read), (13, .pure), (14, .pure), (15, .pure), (1, .eff), (8, .eff), (16, .eff), (17, .pure), (18, .pure), (19, .eff)]) [(rb, rfO room (.slice (some ⟨bL, 0, none⟩) fs.length cL) ops armed vK down)] pulled mixed (by kernel_rfl) ?_
  refine Rg.pure rfl rfl rfl (Pv.move rfl) ?_
  refine Rg.pure rfl rfl rfl (Pv.move rfl) ?_
  refine Rg.pure rfl rfl rfl (Pv.nilp rfl) ?_
  refine Rg.pure rfl rfl rfl (Pv.fa rfl) ?_
  refine Rg.read rfl rfl rfl (Ev.ld rfl rfl) ?_
  refine Rg.pure rfl rfl rfl (Pv.move rfl) ?_
  refine Rg.pure rfl rfl rfl (Pv.slTo (j) rfl rfl (by omega)) ?_
  refine Rg.pure rfl rfl rfl (Pv.move rfl) ?_
  refine Rg.pure rfl rfl rfl (Pv.nilp rfl) ?_
  refine Rg.pure rfl rfl rfl (Pv.fa rfl) ?_
  refine Rg.read rfl rfl rfl (Ev.ld rfl rfl) ?_
  refine Rg.pure rfl rfl rfl (Pv.move rfl) ?_
  refine Rg.pure rfl rfl rfl (Pv.asI (j + 1) (Pv.add rfl rfl (by omega)) (by omega)) ?_
  refine Rg.pure rfl rfl rfl (Pv.slFrom (j + 1) rfl rfl (by omega) (by omega)) ?_
  refine Rg.bslice0N (E := fileE) rfl rfl rfl (fun b5 own5 => ?_)
  refine Rg.appendN rfl rfl rfl rfl rfl own5 (Src.upTo (by omega)) (by simp <;> omega) (by simp [maxLen] <;> omega) (fun v12 s12 own12 => ?_)
  refine Rg.appendN rfl rfl rfl rfl rfl own12 (Src.behind (by omega) hlc) (by simp <;> omega) (by simp [maxLen] <;> omega) (fun v20 s20 own20 => ?_)
  refine Rg.pure rfl rfl rfl (Pv.nilp rfl) ?_
  refine Rg.pure rfl rfl rfl (Pv.fa rfl) ?_
  refine Rg.store rfl rfl rfl rfl rfl own20.one rfl rfl ?_
  refine Rg.nil ?_
  exact Vc.fin (Vc.retsH rfl .nil (⟨v20, s20, rfl, own20⟩) pulled)
theorem Pv.lssS {P : Program} {n : Nf} {l : Env} {ty : TypeId} {pos : String} {af : Array Edge} {g : Option (Nat × Bool)} {d : Option Tmp} {t t' : TypeId} {x y : Operand} (p q : List UInt8) (hx : ev l x = some (kS p)) (hy : ev l y = some (kS q)) : Pv P n l ⟨d, .binOp .lss t x y t', ty, pos, af, g⟩ (.bool (decide (p < q))) := fun a w hf => by
  simp [execOp, hf.ev hx, hf.ev hy, eqGuard, binOp, Op.stringOp, kS, encStr, bytesLess_eq]
theorem rputs_spec {F : Fm} {rb : Nat} {room ops armed : Int} {vL vK : Value} {down : Bool} {fs : List Fv} {sL : Hl} (own : Own fileE vL fs sL) (hN : fs.length ≤ 1000) (f : Fv) :
    Spec Try.prog 64 #[.pointer (some ⟨rb, 0, none⟩), fvV f] F ((rb, rfO room vL ops armed vK down) :: sL) fun _ s' => ∃ k vL' sL', k ≤ fs.length ∧ (∀ j, j < k → fs[j]!.nm < f.nm) ∧ (k = fs.length ∨ ¬ fs[k]!.nm < f.nm) ∧ s' = (rb, rfO room vL' ops armed vK down) :: sL' ∧ Own fileE vL' (fs.take k ++ f :: fs.drop k) sL' := by
  have ha := (Arg.own (F := frz F sL) own (fun b o h => .inl h))
  obtain ⟨p, c, rfl⟩ := own.shape
  have hlc : fs.length ≤ c := ha.cap.2
  refine Spec.of (n := 48) (vs := [.pointer (some ⟨rb, 0, none⟩), fvV f]) Try.func64 rfl Try.ntmps64 rfl ?_
  refine Vc.seq ?_
  refine Vc.text (List.range 1) (sd [(0, .eff)]) rfl ?_
  refine Rg.box rfl rfl rfl rfl rfl (fun b3 => ?_)
  refine Rg.nil ?_
  refine Vc.seq ?_
  refine Vc.text (List.range 1) (sd [(0, .pure)]) rfl ?_
  refine Rg.pure rfl rfl rfl (Pv.assign rfl) ?_
  refine Rg.nil ?_
  refine Vc.seq ?_
  refine Vc.block ?_
  refine Vc.loop1 (fun (k : Nat) => k ≤ fs.length ∧ ∀ j, j < k → fs[j]!.nm < f.nm) (fun k => [(0, .pointer (some ⟨rb, 0, none⟩)), (3, .pointer (some ⟨b3, 0, none⟩)), (4, .int .i64 (k : Int))]) (fun k => (b3, cellsO (fvC f) 99) :: (rb, rfO room (.slice p fs.length c) ops armed vK down) :: sL) (fun k => fs.length - k) 0 ⟨Nat.zero_le _, fun j hj => by omega⟩ (.cons rfl (.cons rfl (.cons rfl .nil))) pulled ?_
  rintro k ⟨hk, hlt⟩
  refine Vc.seq ?_
  refine Vc.seq ?_
  refine Vc.cut1 (fun (bb : Bool) => (bb = true → k < fs.length ∧ fs[k]!.nm < f.nm) ∧ (bb = false → k = fs.length ∨ ¬ fs[k]!.nm < f.nm)) (fun bb => [(24, .bool bb), (0, .pointer (some ⟨rb, 0, none⟩)), (3, .pointer (some ⟨b3, 0, none⟩)), (4, .int .i64 (k : Int))]) (fun bb => (b3, cellsO (fvC f) 99) :: (rb, rfO room (.slice p fs.length c) ops armed vK down) :: sL) ?_ ?_
  ·
    refine Vc.draw [] (sd [(0, .pure), (1, .pure), (2, .pure), (3, .pure), (4, .read), (5, .pure), (6, .pure), (7, .pure), (8, .pure), (9, .pure), (10, .pure), (11, .read), (12, .pure), (13, .pure), (14, .pure), (15, .read), (16, .pure), (17, .read), (18, .pure), (19, .pure)]) mixed (by kernel_rfl) ?_
    refine Rg.pure rfl rfl rfl (Pv.move rfl) ?_
    refine Rg.pure rfl rfl rfl (Pv.move rfl) ?_
    refine Rg.pure rfl rfl rfl (Pv.nilp rfl) ?_
    refine Rg.pure rfl rfl rfl (Pv.fa rfl) ?_
    refine Rg.read rfl rfl rfl (Ev.ld rfl rfl) ?_
    refine Rg.pure rfl rfl rfl (Pv.lenS rfl) ?_
    refine Rg.pure rfl rfl rfl (Pv.lss rfl rfl) ?_
    refine Rg.pure rfl rfl rfl (Pv.move rfl) ?_
    refine Rg.split (t := 12) rfl (fun h12 => ?_) (fun h12 => ?_)
    ·
      simp only [decide_eq_true_eq] at h12
      have hk1 : k < fs.length := by omega
      obtain ⟨b, off, c', e, _⟩ := ha.block (by omega)
      cases e
      refine Rg.pure rfl rfl rfl (Pv.move rfl) ?_
      refine Rg.pure rfl rfl rfl (Pv.nilp rfl) ?_
      refine Rg.pure rfl rfl rfl (Pv.fa rfl) ?_
      refine Rg.read rfl rfl rfl (Ev.ld rfl rfl) ?_
      refine Rg.pure rfl rfl rfl (Pv.move rfl) ?_
      refine Rg.pure rfl rfl rfl (Pv.ixA (k) rfl rfl (by omega) (by omega)) ?_
      refine Rg.pure rfl rfl rfl (Pv.fa rfl) ?_
      refine Rg.read rfl rfl rfl (Ev.ldSf (E := fileE) (u := kS fs[k]!.nm) k 0 (Arg.srcF (s := sL) ha) rfl rfl rfl hk1 rfl) ?_
      refine Rg.pure rfl rfl rfl (Pv.fa rfl) ?_
      refine Rg.read rfl rfl rfl (Ev.ld rfl rfl) ?_
      refine Rg.pure rfl rfl rfl (Pv.lssS fs[k]!.nm f.nm rfl rfl) ?_
      refine Rg.pure rfl rfl rfl (Pv.pickT rfl rfl) ?_
      refine Rg.nil ?_
      exact Vc.inv1 _ ⟨fun h => ⟨hk1, of_decide_eq_true h⟩, fun h => .inr (of_decide_eq_false h)⟩ (.cons rfl (.cons rfl (.cons rfl (.cons rfl .nil)))) pulled
    ·
      simp only [decide_eq_false_iff_not] at h12
      iterate 11 (first | refine Rg.skipP rfl rfl rfl ?_ | refine Rg.skipR rfl rfl rfl ?_ | refine Rg.skipE rfl rfl rfl ?_)
      refine Rg.pure rfl rfl rfl (Pv.pickF rfl rfl) ?_
      refine Rg.nil ?_
      exact Vc.inv1 _ ⟨fun h => (by cases h), fun _ => .inl (by omega)⟩ (.cons rfl (.cons rfl (.cons rfl (.cons rfl .nil)))) pulled
  ·
    rintro bb ⟨hb1, hb2⟩
    refine Vc.cond rfl (fun h24 => ?_) (fun h24 => ?_)
    ·
      obtain ⟨hk1, hkl⟩ := hb1 h24
      refine Vc.skip ?_
      refine Vc.block ?_
      refine Vc.text (List.range 3) (sd [(0, .pure), (1, .pure), (2, .pure)]) rfl ?_
      refine Rg.pure rfl rfl rfl (Pv.move rfl) ?_
      refine Rg.pure rfl rfl rfl (Pv.asI (k + 1) (Pv.add rfl rfl (by omega)) (by omega)) ?_
      refine Rg.pure rfl rfl rfl (Pv.assign rfl) ?_
      refine Rg.nil ?_
      refine Vc.blk ?_
      exact Vc.inv1 (k + 1) ⟨⟨by omega, fun j hj => by
        rcases Nat.lt_or_ge j k with h | h
        · exact hlt j h
        · rw [show j = k by omega]; exact hkl⟩, by omega⟩ (.cons rfl (.cons rfl (.cons rfl .nil))) pulled
    ·
      have hkn := hb2 h24
      have hl1 : (fs.take k).length ≤ 1000 := by rw [List.length_take]; omega
      have hl2 : (fs.drop k).length ≤ 1000 := by rw [List.length_drop]; omega
      refine Vc.exit rfl ?_
      refine Vc.drawS [21] (.st 0 .pure (.st 2 .pure (.st 3 .pure (.st 4 .pure (.st 5 .read (.st 6 .pure (.st 7 .pure (.st 9 .read (.st 12 .pure (.st 13 .pure (.st 14 .pure (.st 15 .read (.st 16 .pure (.st 17 .pure (.two 1 (.two 8 (sd [(10, .eff), (11, .eff), (18, .eff), (19, .pure), (20, .pure), (21, .eff)]) 10 (sd [(8, .eff), (11, .eff), (18, .eff), (19, .pure), (20, .pure), (21, .eff)])) 10 (sd [(1, .eff), (8, .eff), (11, .eff), (18, .eff), (19, .pure), (20, .pure), (21, .eff)])))))))))))))))) [(rb, rfO room (.slice p fs.length c) ops armed vK down), (b3, cellsO (fvC f) 99)] pulled mixed (by kernel_rfl) ?_
      refine Rg.pure rfl rfl rfl (Pv.move rfl) ?_
      refine Rg.pure rfl rfl rfl (Pv.move rfl) ?_
      refine Rg.pure rfl rfl rfl (Pv.nilp rfl) ?_
      refine Rg.pure rfl rfl rfl (Pv.fa rfl) ?_
      refine Rg.read rfl rfl rfl (Ev.ld rfl rfl) ?_
      refine Rg.pure rfl rfl rfl (Pv.move rfl) ?_
      refine Rg.pure rfl rfl rfl (Pv.slTo (k) rfl rfl (by omega)) ?_
      refine Rg.read rfl rfl rfl (Ev.ldA rfl rfl) ?_
      refine Rg.pure rfl rfl rfl (Pv.move rfl) ?_
      refine Rg.pure rfl rfl rfl (Pv.nilp rfl) ?_
      refine Rg.pure rfl rfl rfl (Pv.fa rfl) ?_
      refine Rg.read rfl rfl rfl (Ev.ld rfl rfl) ?_
      refine Rg.pure rfl rfl rfl (Pv.move rfl) ?_
      refine Rg.pure rfl rfl rfl (Pv.sl (lv := some (.int .i64 (k : Int))) (hv := none) k fs.length rfl rfl rfl (by omega) (by omega) (fun _ => hlc)) ?_
      refine Rg.two ?_ ?_
      ·
        refine Rg.bslice0N (E := fileE) rfl rfl rfl (fun b28 own28 => ?_)
        refine Rg.two ?_ ?_
        ·
          refine Rg.appendN rfl rfl rfl rfl rfl own28 (Arg.srcF (s := sL) (ha.take (k := k) (by omega))) (by simp <;> omega) (by simp [maxLen] <;> omega) (fun v35 s35 own35 => ?_)
          refine Rg.bslice1N rfl rfl rfl rfl rfl rfl rfl (fun b37 => ?_)
          refine Rg.appendN rfl rfl rfl rfl rfl own35 (Src.one (y := f) rfl) (by simp <;> omega) (by simp [maxLen] <;> omega) (fun v38 s38 own38 => ?_)
          refine Rg.appendN rfl rfl rfl rfl rfl own38 (Arg.srcF (s := sL) (ha.from (i := k) (by omega))) (by simp <;> omega) (by simp [maxLen] <;> omega) (fun v45 s45 own45 => ?_)
          refine Rg.pure rfl rfl rfl (Pv.nilp rfl) ?_
          refine Rg.pure rfl rfl rfl (Pv.fa rfl) ?_
          refine Rg.store rfl rfl rfl rfl rfl own45.one rfl rfl ?_
          refine Rg.nil ?_
          exact Vc.fin (Vc.retsH rfl .nil (⟨k, v45, s45, hk, hlt, hkn, rfl, by simpa using own45⟩) pulled)
        ·
          refine Rg.bslice1N rfl rfl rfl rfl rfl rfl rfl (fun b37 => ?_)
          refine Rg.appendN rfl rfl rfl rfl rfl own28 (Arg.srcF (s := sL) (ha.take (k := k) (by omega))) (by simp <;> omega) (by simp [maxLen] <;> omega) (fun v35 s35 own35 => ?_)
          refine Rg.appendN rfl rfl rfl rfl rfl own35 (Src.one (y := f) rfl) (by simp <;> omega) (by simp [maxLen] <;> omega) (fun v38 s38 own38 => ?_)
          refine Rg.appendN rfl rfl rfl rfl rfl own38 (Arg.srcF (s := sL) (ha.from (i := k) (by omega))) (by simp <;> omega) (by simp [maxLen] <;> omega) (fun v45 s45 own45 => ?_)
          refine Rg.pure rfl rfl rfl (Pv.nilp rfl) ?_
          refine Rg.pure rfl rfl rfl (Pv.fa rfl) ?_
          refine Rg.store rfl rfl rfl rfl rfl own45.one rfl rfl ?_
          refine Rg.nil ?_
          exact Vc.fin (Vc.retsH rfl .nil (⟨k, v45, s45, hk, hlt, hkn, rfl, by simpa using own45⟩) pulled)
      ·
        refine Rg.bslice1N rfl rfl rfl rfl rfl rfl rfl (fun b37 => ?_)
        refine Rg.bslice0N (E := fileE) rfl rfl rfl (fun b28 own28 => ?_)
        refine Rg.appendN rfl rfl rfl rfl rfl own28 (Arg.srcF (s := sL) (ha.take (k := k) (by omega))) (by simp <;> omega) (by simp [maxLen] <;> omega) (fun v35 s35 own35 => ?_)
        refine Rg.appendN rfl rfl rfl rfl rfl own35 (Src.one (y := f) rfl) (by simp <;> omega) (by simp [maxLen] <;> omega) (fun v38 s38 own38 => ?_)
        refine Rg.appendN rfl rfl rfl rfl rfl own38 (Arg.srcF (s := sL) (ha.from (i := k) (by omega))) (by simp <;> omega) (by simp [maxLen] <;> omega) (fun v45 s45 own45 => ?_)
        refine Rg.pure rfl rfl rfl (Pv.nilp rfl) ?_
        refine Rg.pure rfl rfl rfl (Pv.fa rfl) ?_
        refine Rg.store rfl rfl rfl rfl rfl own45.one rfl rfl ?_
        refine Rg.nil ?_
        exact Vc.fin (Vc.retsH rfl .nil (⟨k, v45, s45, hk, hlt, hkn, rfl, by simpa using own45⟩) pulled)
end Go.Proofs.Ytmocncadncgaaaa
