/- The statements' functions: HeapTwo. -/
import Derived.Test.YtbhgbhhdpcehbaaHpF
namespace Go.Proofs.Ytbhgbhhdpcehbaa
set_option linter.unusedVariables false

theorem pop_push_one (x : Rc) : popL (pushL [] x) = [] := by
  rw [popL, if_pos (by rw [pushL_length]; simp)]

theorem HeapTwo_spec (F : Fm) (v0 : Value) (xs : List Rc) (ha : Arg recE F v0 xs) :
    Spec Try.prog 5 #[v0] F [] fun v _ => v = .bool true := by
  obtain ⟨p0, c0, rfl⟩ := ha.shape
  refine Spec.of (n := 81) (vs := [.slice p0 xs.length c0]) Try.func5 rfl Try.ntmps5 rfl ?_
  refine Vc.seq ?_
  refine Vc.text (List.range 1) (sd [(0, .pure)]) rfl ?_
  refine Rg.pure rfl rfl rfl (Pv.assign rfl) ?_
  refine Rg.nil ?_
  refine Vc.seq ?_
  refine Vc.text (List.range 2) (sd [(0, .eff), (1, .pure)]) rfl ?_
  refine Rg.callP rfl rfl rfl (run_callF rfl) (shown_spec _) ?_
  rintro _ rfl
  refine Rg.pure rfl rfl rfl (Pv.assign rfl) ?_
  refine Rg.nil ?_
  refine Vc.seq ?_
  refine Vc.text (List.range 3) (sd [(0, .pure), (1, .eff), (2, .pure)]) rfl ?_
  refine Rg.pure rfl rfl rfl (Pv.build rfl rfl) ?_
  refine Rg.box rfl rfl rfl rfl rfl (fun b13 => ?_)
  refine Rg.pure rfl rfl rfl (Pv.assign rfl) ?_
  refine Rg.nil ?_
  refine Vc.seq ?_
  refine Vc.text (List.range 3) (sd [(0, .pure), (1, .eff), (2, .pure)]) rfl ?_
  refine Rg.pure rfl rfl rfl (Pv.build rfl rfl) ?_
  refine Rg.box rfl rfl rfl rfl rfl (fun b15 => ?_)
  refine Rg.pure rfl rfl rfl (Pv.assign rfl) ?_
  refine Rg.nil ?_
  refine Vc.seq ?_
  refine Vc.text (List.range 1) (sd [(0, .pure)]) rfl ?_
  refine Rg.pure rfl rfl rfl (Pv.assign rfl) ?_
  refine Rg.nil ?_
  refine Vc.seq ?_
  refine Vc.seq ?_
  refine Vc.text (List.range 1) (sd [(0, .pure)]) rfl ?_
  refine Rg.pure rfl rfl rfl (Pv.assign rfl) ?_
  refine Rg.nil ?_
  refine Vc.block ?_
  refine Vc.loop7 (fun (i : Nat) (X Y : List Rc) (v : Value) (sx sy sz : Hl) => i ≤ 100 ∧ X.length ≤ i ∧ Same X Y ∧ HeapAt b13 X sx ∧ Tl recE v Y sy ∧ HeapAt b15 [] sz) (fun i X Y v sx sy sz => [(0, .slice p0 xs.length c0), (3, .bool true), (4, .pointer (some ⟨b13, 0, none⟩)), (5, .pointer (some ⟨b15, 0, none⟩)), (6, v), (7, .int .i64 (i : Int))]) (fun i X Y v sx sy sz => sx ++ (sy ++ sz)) (fun i X Y v sx sy sz => 100 - i) 0 [] [] _ _ [] _ ⟨by omega, by simp, .nil, heap_nil b13, .nil, heap_nil b15⟩ (.cons rfl (.cons rfl (.cons rfl (.cons rfl (.cons rfl (.cons rfl .nil)))))) pulled ?_
  rintro i X Y v sx sy sz ⟨h1, h2, hS, hX, hY, hZ⟩
  obtain ⟨py, cy, rfl⟩ := hY.shape
  have hlen := hS.len
  refine Vc.seq ?_
  refine Vc.seq ?_
  refine Vc.cut1 (fun (b : Bool) => b = true → i < xs.length ∧ i < 100) (fun b => (23, .bool b) :: [(0, .slice p0 xs.length c0), (3, .bool true), (4, .pointer (some ⟨b13, 0, none⟩)), (5, .pointer (some ⟨b15, 0, none⟩)), (6, .slice py Y.length cy), (7, .int .i64 (i : Int))]) (fun b => sx ++ (sy ++ sz)) ?_ ?_
  ·
    refine Vc.text (List.range 8) (sd [(0, .pure), (1, .pure), (2, .pure), (3, .pure), (4, .pure), (5, .pure), (6, .pure), (7, .pure)]) rfl ?_
    refine Rg.pure rfl rfl rfl (Pv.move rfl) ?_
    refine Rg.pure rfl rfl rfl (Pv.move rfl) ?_
    refine Rg.pure rfl rfl rfl (Pv.lenS rfl) ?_
    refine Rg.pure rfl rfl rfl (Pv.lss rfl rfl) ?_
    refine Rg.pure rfl rfl rfl (Pv.move rfl) ?_
    refine Rg.split (t := 20) rfl (fun h20 => ?_) (fun h20 => ?_)
    ·
      simp only [decide_eq_true_eq] at h20
      refine Rg.pure rfl rfl rfl (Pv.move rfl) ?_
      refine Rg.pure rfl rfl rfl (Pv.lss rfl rfl) ?_
      refine Rg.pure rfl rfl rfl (Pv.pickT rfl rfl) ?_
      refine Rg.nil ?_
      exact Vc.inv1 _ (fun hb => by first | (simp only [decide_eq_true_eq] at hb; omega) | cases hb) (.cons rfl (.cons rfl (.cons rfl (.cons rfl (.cons rfl (.cons rfl (.cons rfl .nil))))))) pulled
    ·
      iterate 2 (first | refine Rg.skipP rfl rfl rfl ?_ | refine Rg.skipR rfl rfl rfl ?_ | refine Rg.skipE rfl rfl rfl ?_)
      refine Rg.pure rfl rfl rfl (Pv.pickF rfl rfl) ?_
      refine Rg.nil ?_
      exact Vc.inv1 _ (fun hb => by first | (simp only [decide_eq_true_eq] at hb; omega) | cases hb) (.cons rfl (.cons rfl (.cons rfl (.cons rfl (.cons rfl (.cons rfl (.cons rfl .nil))))))) pulled
  ·
    rintro bb hbb
    refine Vc.cond rfl (fun h23 => ?_) (fun h23 => ?_)
    ·
      obtain ⟨h3, h4⟩ := hbb h23
      obtain ⟨b0, o0, cc0, e0, _⟩ := ha.block (by omega)
      cases e0
      refine Vc.skip ?_
      refine Vc.seq ?_
      refine Vc.block ?_
      refine Vc.seq ?_
      refine Vc.text (List.range 3) (sd [(0, .pure), (1, .pure), (2, .pure)]) rfl ?_
      refine Rg.pure rfl rfl rfl (Pv.move rfl) ?_
      refine Rg.pure rfl rfl rfl (Pv.rem rfl rfl (by omega)) ?_
      refine Rg.pure rfl rfl rfl (Pv.eql rfl rfl) ?_
      refine Rg.nil ?_
      refine Vc.cond rfl (fun h28 => ?_) (fun h28 => ?_)
      ·
        refine Vc.seq ?_
        refine Vc.text (List.range 6) (sd [(0, .pure), (1, .pure), (2, .pure), (3, .pure), (4, .read), (5, .eff)]) rfl ?_
        refine Rg.pure rfl rfl rfl (Pv.move rfl) ?_
        refine Rg.pure rfl rfl rfl (Pv.move rfl) ?_
        refine Rg.pure rfl rfl rfl (Pv.move rfl) ?_
        refine Rg.pure rfl rfl rfl (Pv.ixA (i) rfl rfl (by omega) (by omega)) ?_
        refine Rg.read rfl rfl rfl (Ev.ldS (i) (ha.src) rfl rfl rfl (by omega)) ?_
        refine Rg.callH rfl rfl rfl (run_callF rfl) (fun F' hF' => push_at F' b13 X xs[i]! _ hX (by omega)) rfl ?_
        rintro v34 sx' hX'
        refine Rg.nil ?_
        refine Vc.text (List.range 7) (sd [(0, .pure), (1, .pure), (2, .pure), (3, .pure), (4, .read), (5, .eff), (6, .pure)]) rfl ?_
        refine Rg.pure rfl rfl rfl (Pv.move rfl) ?_
        refine Rg.pure rfl rfl rfl (Pv.move rfl) ?_
        refine Rg.pure rfl rfl rfl (Pv.move rfl) ?_
        refine Rg.pure rfl rfl rfl (Pv.ixA (i) rfl rfl (by omega) (by omega)) ?_
        refine Rg.read rfl rfl rfl (Ev.ldS (i) (ha.src) rfl rfl rfl (by omega)) ?_
        refine Rg.callH rfl rfl rfl (run_callF rfl) (fun F' hF' => put_spec F' _ Y xs[i]! (Arg.of_tl hY hF') (by omega)) rfl ?_
        rintro v40 sy' hY'
        refine Rg.pure rfl rfl rfl (Pv.assign rfl) ?_
        refine Rg.nil ?_
        refine Vc.blk ?_
        refine Vc.text (List.range 3) (sd [(0, .pure), (1, .pure), (2, .pure)]) rfl ?_
        refine Rg.pure rfl rfl rfl (Pv.move rfl) ?_
        refine Rg.pure rfl rfl rfl (Pv.asI (i + 1) (Pv.add rfl rfl (by omega)) (by omega)) ?_
        refine Rg.pure rfl rfl rfl (Pv.assign rfl) ?_
        refine Rg.nil ?_
        exact Vc.inv7 (i + 1) (pushL X xs[i]!) (putL Y xs[i]!) v40 sx' sy' sz ⟨⟨by omega, by rw [pushL_length]; omega, hS.push _, hX', hY'.tl, hZ⟩, by omega⟩ (.cons rfl (.cons rfl (.cons rfl (.cons rfl (.cons rfl (.cons rfl .nil)))))) pulled
      ·
        refine Vc.seq ?_
        refine Vc.text (List.range 6) (sd [(0, .pure), (1, .pure), (2, .pure), (3, .pure), (4, .read), (5, .eff)]) rfl ?_
        refine Rg.pure rfl rfl rfl (Pv.move rfl) ?_
        refine Rg.pure rfl rfl rfl (Pv.move rfl) ?_
        refine Rg.pure rfl rfl rfl (Pv.move rfl) ?_
        refine Rg.pure rfl rfl rfl (Pv.ixA (i) rfl rfl (by omega) (by omega)) ?_
        refine Rg.read rfl rfl rfl (Ev.ldS (i) (ha.src) rfl rfl rfl (by omega)) ?_
        refine Rg.callH rfl rfl rfl (run_callF rfl) (fun F' hF' => push_at F' b15 [] xs[i]! _ hZ (by simp)) rfl ?_
        rintro v46 sz1 hZ1
        refine Rg.nil ?_
        refine Vc.text (List.range 2) (sd [(0, .pure), (1, .eff)]) rfl ?_
        refine Rg.pure rfl rfl rfl (Pv.move rfl) ?_
        refine Rg.callH rfl rfl rfl (run_callF rfl) (fun F' hF' => pop_at F' b15 _ _ hZ1 (by rw [pushL_length]; simp)) rfl ?_
        rintro v48 sz' ⟨rfl, hZ'⟩
        rw [pop_push_one] at hZ'
        refine Rg.nil ?_
        refine Vc.blk ?_
        refine Vc.text (List.range 3) (sd [(0, .pure), (1, .pure), (2, .pure)]) rfl ?_
        refine Rg.pure rfl rfl rfl (Pv.move rfl) ?_
        refine Rg.pure rfl rfl rfl (Pv.asI (i + 1) (Pv.add rfl rfl (by omega)) (by omega)) ?_
        refine Rg.pure rfl rfl rfl (Pv.assign rfl) ?_
        refine Rg.nil ?_
        exact Vc.inv7 (i + 1) X Y _ sx sy sz' ⟨⟨by omega, by omega, hS, hX, hY, hZ'⟩, by omega⟩ (.cons rfl (.cons rfl (.cons rfl (.cons rfl (.cons rfl (.cons rfl .nil)))))) pulled
    ·
      refine Vc.exit rfl ?_
      refine Vc.seq ?_
      refine Vc.seq ?_
      refine Vc.text (List.range 1) (sd [(0, .pure)]) rfl ?_
      refine Rg.pure rfl rfl rfl (Pv.assign rfl) ?_
      refine Rg.nil ?_
      refine Vc.block ?_
      refine Vc.loop3 (fun (k : Nat) (X : List Rc) (sx : Hl) => k ≤ Y.length ∧ Same X (Y.drop k) ∧ HeapAt b13 X sx) (fun k X sx => [(3, .bool true), (4, .pointer (some ⟨b13, 0, none⟩)), (5, .pointer (some ⟨b15, 0, none⟩)), (6, .slice py Y.length cy), (8, .int .i64 (k : Int))]) (fun k X sx => sx ++ (sy ++ sz)) (fun k X sx => Y.length - k) 0 X sx ⟨by omega, hS, hX⟩ (.cons rfl (.cons rfl (.cons rfl (.cons rfl (.cons rfl .nil))))) pulled ?_
      rintro k X sx ⟨h5, hS, hX⟩
      have hlen := hS.len
      simp only [List.length_drop] at hlen
      refine Vc.seq ?_
      refine Vc.seq ?_
      refine Vc.text (List.range 4) (sd [(0, .pure), (1, .pure), (2, .pure), (3, .pure)]) rfl ?_
      refine Rg.pure rfl rfl rfl (Pv.move rfl) ?_
      refine Rg.pure rfl rfl rfl (Pv.move rfl) ?_
      refine Rg.pure rfl rfl rfl (Pv.lenS rfl) ?_
      refine Rg.pure rfl rfl rfl (Pv.lss rfl rfl) ?_
      refine Rg.nil ?_
      refine Vc.cond rfl (fun h52 => ?_) (fun h52 => ?_)
      ·
        simp only [decide_eq_true_eq] at h52
        obtain ⟨b, j, c, zs, sp, e, rfl, hzs, hcY⟩ := hY.block (by omega)
        cases e
        refine Vc.skip ?_
        refine Vc.seq ?_
        refine Vc.block ?_
        refine Vc.seq ?_
        refine Vc.text (List.range 8) (sd [(0, .pure), (1, .eff), (2, .pure), (3, .pure), (4, .pure), (5, .eff), (6, .eff), (7, .pure)]) rfl ?_
        refine Rg.pure rfl rfl rfl (Pv.move rfl) ?_
        refine Rg.callH rfl rfl rfl (run_callF rfl) (fun F' hF' => pop_hd F' b13 X _ hX (by omega)) rfl ?_
        rintro _ sx' ⟨rfl, hX'⟩
        refine Rg.pure rfl rfl rfl (Pv.move rfl) ?_
        refine Rg.pure rfl rfl rfl (Pv.extract rfl rfl) ?_
        refine Rg.pure rfl rfl rfl (Pv.extract rfl rfl) ?_
        refine Rg.alloc rfl rfl rfl rfl (fun b9 => ?_)
        refine Rg.storeA rfl rfl rfl rfl rfl rfl rfl rfl ?_
        refine Rg.pure rfl rfl rfl (Pv.assign rfl) ?_
        refine Rg.nil ?_
        refine Vc.seq ?_
        refine Vc.draw [] (sd [(0, .pure), (1, .pure), (2, .pure), (3, .read), (4, .pure), (5, .pure), (6, .pure), (7, .read), (8, .pure), (9, .pure)]) mixed (by kernel_rfl) ?_
        refine Rg.pure rfl rfl rfl (Pv.move rfl) ?_
        refine Rg.pure rfl rfl rfl (Pv.not rfl) ?_
        refine Rg.pure rfl rfl rfl (Pv.move rfl) ?_
        refine Rg.split (t := 62) rfl (fun h62 => absurd h62 (by rw [decide_eq_true (show 0 < X.length by omega)]; simp)) (fun h62 => ?_)
        refine Rg.read rfl rfl rfl (Ev.ldA rfl rfl) ?_
        refine Rg.pure rfl rfl rfl (Pv.move rfl) ?_
        refine Rg.pure rfl rfl rfl (Pv.move rfl) ?_
        refine Rg.pure rfl rfl rfl (Pv.ixA (k) rfl rfl (by omega) (by omega)) ?_
        refine Rg.read rfl rfl rfl (Ev.ldS (k) (Src.tl hY) rfl rfl rfl (by omega)) ?_
        refine Rg.pure rfl rfl rfl (Pv.neqE recE _ _ rfl rfl) ?_
        refine Rg.pure rfl rfl rfl (Pv.pickF rfl rfl) ?_
        refine Rg.nil ?_
        refine Vc.cond rfl (fun h69 => absurd h69 (by rw [hS.first (by simp; omega), getElem!_pos (Y.drop k) 0 (by simp; omega), getElem!_pos Y k (by omega)]; simp)) (fun h69 => ?_)
        refine Vc.skip ?_
        refine Vc.blk ?_
        refine Vc.text (List.range 3) (sd [(0, .pure), (1, .pure), (2, .pure)]) rfl ?_
        refine Rg.pure rfl rfl rfl (Pv.move rfl) ?_
        refine Rg.pure rfl rfl rfl (Pv.asI (k + 1) (Pv.add rfl rfl (by omega)) (by omega)) ?_
        refine Rg.pure rfl rfl rfl (Pv.assign rfl) ?_
        refine Rg.nil ?_
        exact Vc.inv3 (k + 1) (popL X) sx' ⟨⟨by omega, by have := hS.pop (by simp; omega); rwa [List.drop_drop] at this, hX'⟩, by omega⟩ (.cons rfl (.cons rfl (.cons rfl (.cons rfl (.cons rfl .nil))))) pulled
      ·
        simp only [decide_eq_false_iff_not] at h52
        refine Vc.exit rfl ?_
        refine Vc.seq ?_
        refine Vc.text (List.range 12) (sd [(0, .pure), (1, .pure), (2, .pure), (3, .eff), (4, .pure), (5, .pure), (6, .pure), (7, .pure), (8, .eff), (9, .pure), (10, .pure), (11, .pure)]) rfl ?_
        refine Rg.pure rfl rfl rfl (Pv.move rfl) ?_
        refine Rg.pure rfl rfl rfl (Pv.move rfl) ?_
        refine Rg.split (t := 71) rfl (fun h71 => ?_) (fun h71 => absurd h71 (by simp))
        refine Rg.pure rfl rfl rfl (Pv.move rfl) ?_
        refine Rg.callP rfl rfl rfl (run_callF rfl) (len_at hX frz_sb) ?_
        rintro _ rfl
        refine Rg.pure rfl rfl rfl (Pv.eql rfl rfl) ?_
        refine Rg.pure rfl rfl rfl (Pv.pickT rfl rfl) ?_
        refine Rg.pure rfl rfl rfl (Pv.move rfl) ?_
        refine Rg.split (t := 76) rfl (fun h76 => ?_) (fun h76 => absurd h76 (by rw [show X.length = 0 by omega]; simp))
        refine Rg.pure rfl rfl rfl (Pv.move rfl) ?_
        refine Rg.callP rfl rfl rfl (run_callF rfl) (len_at hZ frz_sb) ?_
        rintro _ rfl
        refine Rg.pure rfl rfl rfl (Pv.eql rfl rfl) ?_
        refine Rg.pure rfl rfl rfl (Pv.pickT rfl rfl) ?_
        refine Rg.pure rfl rfl rfl (Pv.assign rfl) ?_
        refine Rg.nil ?_
        refine Vc.ret (Vc.rets rfl (.cons (.tmp rfl) (.nil)) ?_)
        rfl
end Go.Proofs.Ytbhgbhhdpcehbaa
