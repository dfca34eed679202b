/- The document's disk: writes. -/
import Derived.Test.YtmocncadncgaaaaRfF
namespace Go.Proofs.Ytmocncadncgaaaa
set_option linter.unusedVariables false

theorem rused_w {F : Fm} {rb : Nat} {room ops armed : Int} {vL vK : Value} {down : Bool} {fs : List Fv} (h1 : F.at_ rb (rfO room vL ops armed vK down)) (ha : Arg fileE F vL fs) (hN : fs.length ≤ 1000) (hB : ∀ f ∈ fs, f.now.length ≤ 1000000) :
    Spec Try.prog 44 #[.pointer (some ⟨rb, 0, none⟩)] F [] fun v _ => v = .int .i64 ((usedN (fs.map (·.vw)) : Nat) : Int) := by
  have : Fat F rb (rfO room vL ops armed vK down) := ⟨h1⟩
  exact rused_spec ha hN hB
theorem used_bound {fs : List Fv} (hN : fs.length ≤ 1000) (hB : ∀ f ∈ fs, f.now.length ≤ 1000000) : usedN (fs.map (·.vw)) ≤ 100000000 := by
  have h := usedN_le (fs := fs.map (·.vw)) (B := 1000000) (fun p hp => by obtain ⟨f, hf, rfl⟩ := List.mem_map.1 hp; exact hB f hf)
  rw [List.length_map] at h
  have : fs.length * secs 1000000 ≤ 1000 * secs 1000000 := Nat.mul_le_mul_right _ hN
  have h2 : secs 1000000 = 62500 := rfl
  omega
set_option maxHeartbeats 4000000 in
theorem rwrites_spec {F : Fm} {rb : Nat} {room ops armed : Int} {vK : Value} {down : Bool} {fs : List Fv} {bL cL : Nat} {spL : List Value} {bg : Hl} (hcap : fs.length * fileE.k + spL.length = cL * fileE.k) (hcm : cL ≤ maxLen) (hN : fs.length ≤ 1000) (hB : ∀ f ∈ fs, f.now.length ≤ 1000000) {j : Nat} (hj : j < fs.length) {x : Fv} (hx : fs[j]! = x)
    (hxq : ArgIn bg x.vn x.now) (at_ : Int) {vb : Value} {bs : List UInt8} (hb : Arg byteE F vb bs) (hbl : bs.length ≤ 1000000) :
    Spec Try.prog 65 #[.pointer (some ⟨rb, 0, none⟩), .int .i64 (j : Int), .int .i64 at_, vb] F ((rb, rfO room (.slice (some ⟨bL, 0, none⟩) fs.length cL) ops armed vK down) :: (bL, rowS fileE fs spL) :: bg) fun v s' =>
      v = .int .i64 (wrG room (usedN (fs.map (·.vw)) : Nat) x.now at_ bs).1 ∧ (((wrG room (usedN (fs.map (·.vw)) : Nat) x.now at_ bs).2.2 = x.now ∧ s' = (rb, rfO room (.slice (some ⟨bL, 0, none⟩) fs.length cL) ops armed vK down) :: (bL, rowS fileE fs spL) :: bg) ∨
        ∃ p c s3, Own byteE (.slice p (wrG room (usedN (fs.map (·.vw)) : Nat) x.now at_ bs).2.2.length c) (wrG room (usedN (fs.map (·.vw)) : Nat) x.now at_ bs).2.2 s3 ∧ s' = (rb, rfO room (.slice (some ⟨bL, 0, none⟩) fs.length cL) ops armed vK down) :: (bL, rowS fileE (fs.set j ⟨x.nm, (wrG room (usedN (fs.map (·.vw)) : Nat) x.now at_ bs).2.2, x.syn, p, c, x.q, x.e⟩) spL) :: (s3 ++ bg)) := by
  obtain ⟨pb, cb, rfl⟩ := hb.shape
  have hxm : x ∈ fs := by rw [← hx, getElem!_pos fs j hj]; exact List.getElem_mem _
  have hxl := hB x hxm
  have hcn : x.now.length ≤ x.c := (hxq (frz F bg) (fun b o h => Or.inl h)).cap.2
  have hus := used_bound hN hB
  have hse : secs x.now.length ≤ 62500 := by unfold secs; omega
  have ownL : Own fileE (.slice (some ⟨bL, 0, none⟩) fs.length cL) fs [(bL, rowS fileE fs spL)] := Own.blk' bL cL _ fs spL rfl hcap hcm
  refine Spec.of (n := 80) (vs := [.pointer (some ⟨rb, 0, none⟩), .int .i64 (j : Int), .int .i64 at_, .slice pb bs.length cb]) Try.func65 rfl Try.ntmps65 rfl ?_
  refine Vc.seq ?_
  refine Vc.text (List.range 1) (sd [(0, .pure)]) rfl ?_
  refine Rg.pure rfl rfl rfl (Pv.assign rfl) ?_
  refine Rg.nil ?_
  refine Vc.seq ?_
  refine Vc.text (List.range 9) (sd [(0, .pure), (1, .pure), (2, .pure), (3, .read), (4, .pure), (5, .pure), (6, .pure), (7, .read), (8, .pure)]) rfl ?_
  refine Rg.pure rfl rfl rfl (Pv.move rfl) ?_
  refine Rg.pure rfl rfl rfl (Pv.nilp rfl) ?_
  refine Rg.pure rfl rfl rfl (Pv.fa rfl) ?_
  refine Rg.read rfl rfl rfl (Ev.ld rfl rfl) ?_
  refine Rg.pure rfl rfl rfl (Pv.move rfl) ?_
  refine Rg.pure rfl rfl rfl (Pv.ixA (j) rfl rfl (by omega) (by omega)) ?_
  refine Rg.pure rfl rfl rfl (Pv.fa rfl) ?_
  refine Rg.read rfl rfl rfl (Ev.ldRf (E := fileE) (u := x.vn) j 1 rfl (by rw [show fileE.k = 3 from rfl]; omega) hj (by rw [hx]; rfl)) ?_
  refine Rg.pure rfl rfl rfl (Pv.assign rfl) ?_
  refine Rg.nil ?_
  refine Vc.seq ?_
  refine Vc.seq ?_
  refine Vc.cut1 (fun (mb : Bool) => mb = true ↔ (at_ < 0 ∨ (x.now.length : Int) < at_)) (fun mb => [(27, .bool mb), (0, .pointer (some ⟨rb, 0, none⟩)), (1, .int .i64 (j : Int)), (2, .int .i64 at_), (3, .slice pb bs.length cb), (9, x.vn)]) (fun mb => (rb, rfO room (.slice (some ⟨bL, 0, none⟩) fs.length cL) ops armed vK down) :: (bL, rowS fileE fs spL) :: bg) ?_ ?_
  ·
    refine Vc.text (List.range 8) (sd [(0, .pure), (1, .pure), (2, .pure), (3, .pure), (4, .pure), (5, .pure), (6, .pure), (7, .pure)]) rfl ?_
    refine Rg.pure rfl rfl rfl (Pv.move rfl) ?_
    refine Rg.pure rfl rfl rfl (Pv.lss rfl rfl) ?_
    refine Rg.pure rfl rfl rfl (Pv.move rfl) ?_
    refine Rg.split (t := 22) rfl (fun h22 => ?_) (fun h22 => ?_)
    ·
      simp only [decide_eq_true_eq] at h22
      iterate 4 (first | refine Rg.skipP rfl rfl rfl ?_ | refine Rg.skipR rfl rfl rfl ?_ | refine Rg.skipE rfl rfl rfl ?_)
      refine Rg.pure rfl rfl rfl (Pv.pickT rfl rfl) ?_
      refine Rg.nil ?_
      exact Vc.inv1 true ⟨fun _ => by omega, fun _ => rfl⟩ (.cons rfl (.cons rfl (.cons rfl (.cons rfl (.cons rfl (.cons rfl .nil)))))) pulled
    ·
      simp only [decide_eq_false_iff_not] at h22
      refine Rg.pure rfl rfl rfl (Pv.move rfl) ?_
      refine Rg.pure rfl rfl rfl (Pv.move rfl) ?_
      refine Rg.pure rfl rfl rfl (Pv.lenS rfl) ?_
      refine Rg.pure rfl rfl rfl (Pv.gtr rfl rfl) ?_
      refine Rg.pure rfl rfl rfl (Pv.pickF rfl rfl) ?_
      refine Rg.nil ?_
      exact Vc.inv1 _ ⟨fun h => by have := of_decide_eq_true h; omega, fun h => decide_eq_true (by omega)⟩ (.cons rfl (.cons rfl (.cons rfl (.cons rfl (.cons rfl (.cons rfl .nil)))))) pulled
  ·
    rintro mb hmb
    refine Vc.cond rfl (fun h27 => ?_) (fun h27 => ?_)
    ·
      have hm := hmb.1 h27
      have hw : wrG room (usedN (fs.map (·.vw)) : Nat) x.now at_ bs = (1, ((usedN (fs.map (·.vw)) : Nat) : Int), x.now) := by unfold wrG; rw [if_pos hm]
      refine Vc.seq ?_
      refine Vc.text (List.range 1) (sd [(0, .pure)]) rfl ?_
      refine Rg.pure rfl rfl rfl (Pv.assign rfl) ?_
      refine Rg.nil ?_
      exact Vc.ret (Vc.retsH rfl (.cons (.tmp rfl) (.nil)) (⟨by rw [hw]; rfl, .inl ⟨by rw [hw], rfl⟩⟩) pulled)
    ·
      have hm : ¬ (at_ < 0 ∨ (x.now.length : Int) < at_) := fun h => by rw [hmb.2 h] at h27; cases h27
      obtain ⟨a, rfl⟩ := Int.eq_ofNat_of_zero_le (show 0 ≤ at_ by omega)
      have hmx : secs (max x.now.length (a + bs.length)) ≤ 125001 := by unfold secs; omega
      refine Vc.skip ?_
      refine Vc.seq ?_
      refine Vc.text (List.range 8) (sd [(0, .pure), (1, .pure), (2, .pure), (3, .pure), (4, .pure), (5, .pure), (6, .pure), (7, .pure)]) rfl ?_
      refine Rg.pure rfl rfl rfl (Pv.move rfl) ?_
      refine Rg.pure rfl rfl rfl (Pv.lenS rfl) ?_
      refine Rg.pure rfl rfl rfl (Pv.move rfl) ?_
      refine Rg.pure rfl rfl rfl (Pv.move rfl) ?_
      refine Rg.pure rfl rfl rfl (Pv.lenS rfl) ?_
      refine Rg.pure rfl rfl rfl (Pv.asI (a + bs.length) (Pv.add rfl rfl (by omega)) (by omega)) ?_
      refine Rg.pure rfl rfl rfl (Pv.asI (max x.now.length (a + bs.length)) (Pv.max rfl rfl) (by omega)) ?_
      refine Rg.pure rfl rfl rfl (Pv.assign rfl) ?_
      refine Rg.nil ?_
      refine Vc.seq ?_
      refine Vc.seq ?_
      refine Vc.draw [] (sd [(0, .pure), (2, .pure), (3, .pure), (6, .pure), (9, .pure), (10, .pure), (11, .pure), (12, .read), (1, .eff), (4, .eff), (5, .pure), (7, .eff), (8, .pure), (13, .pure)]) mixed (by kernel_rfl) ?_
      refine Rg.pure rfl rfl rfl (Pv.move rfl) ?_
      refine Rg.pure rfl rfl rfl (Pv.move rfl) ?_
      refine Rg.pure rfl rfl rfl (Pv.lenS rfl) ?_
      refine Rg.pure rfl rfl rfl (Pv.move rfl) ?_
      refine Rg.pure rfl rfl rfl (Pv.move rfl) ?_
      refine Rg.pure rfl rfl rfl (Pv.nilp rfl) ?_
      refine Rg.pure rfl rfl rfl (Pv.fa rfl) ?_
      refine Rg.read rfl rfl rfl (Ev.ld rfl rfl) ?_
      refine Rg.callP rfl rfl rfl (run_callF rfl) (rused_w frz_pull (Arg.own ownL fun b o h => .inl (by simp only [List.mem_singleton] at h; simp [h])) hN hB) ?_
      rintro _ rfl
      refine Rg.callP rfl rfl rfl (run_callF rfl) (rsectors_spec _ x.now.length (by omega)) ?_
      rintro _ rfl
      refine Rg.pure rfl rfl rfl (Pv.sub rfl rfl (by omega)) ?_
      refine Rg.callP rfl rfl rfl (run_callF rfl) (rsectors_spec _ (max x.now.length (a + bs.length)) (by omega)) ?_
      rintro _ rfl
      refine Rg.pure rfl rfl rfl (Pv.add rfl rfl (by omega)) ?_
      refine Rg.pure rfl rfl rfl (Pv.gtr rfl rfl) ?_
      refine Rg.nil ?_
      refine Vc.cond rfl (fun h48 => ?_) (fun h48 => ?_)
      ·
        simp only [decide_eq_true_eq] at h48
        have hw : wrG room (usedN (fs.map (·.vw)) : Nat) x.now a bs = (6, ((usedN (fs.map (·.vw)) : Nat) : Int), x.now) := by unfold wrG; rw [if_neg hm, Int.toNat_natCast, if_pos (by omega)]
        refine Vc.seq ?_
        refine Vc.text (List.range 1) (sd [(0, .pure)]) rfl ?_
        refine Rg.pure rfl rfl rfl (Pv.assign rfl) ?_
        refine Rg.nil ?_
        exact Vc.ret (Vc.retsH rfl (.cons (.tmp rfl) (.nil)) (⟨by rw [hw]; rfl, .inl ⟨by rw [hw], rfl⟩⟩) pulled)
      ·
        simp only [decide_eq_false_iff_not] at h48
        have hw : (wrG room (usedN (fs.map (·.vw)) : Nat) x.now a bs).1 = 0 ∧ (wrG room (usedN (fs.map (·.vw)) : Nat) x.now a bs).2.2 = putAt x.now a bs := by unfold wrG; rw [if_neg hm, Int.toNat_natCast, if_neg (by omega)]; exact ⟨rfl, rfl⟩
        rw [hw.1, hw.2]
        have hl1 : (x.now.take a).length = a := by rw [List.length_take]; omega
        refine Vc.skip ?_
        refine Vc.seq ?_
        refine Vc.text (List.range 6) (sd [(0, .eff), (1, .pure), (2, .pure), (3, .pure), (4, .eff), (5, .pure)]) rfl ?_
        refine Rg.bslice0 (E := byteE) rfl rfl rfl (fun b49 own49 => ?_)
        refine Rg.pure rfl rfl rfl (Pv.move rfl) ?_
        refine Rg.pure rfl rfl rfl (Pv.move rfl) ?_
        refine Rg.pure rfl rfl rfl (Pv.slTo (a) rfl rfl (by omega)) ?_
        refine Rg.append rfl rfl rfl rfl rfl own49 (Arg.srcF (s := bg) ((hxq _ (fun b o h => Or.inl h)).take (k := a) (by omega))) (by simp <;> omega) (by simp [maxLen] <;> omega) rfl (fun v53 s53 own53 => ?_)
        refine Rg.pure rfl rfl rfl (Pv.assign rfl) ?_
        refine Rg.nil ?_
        refine Vc.seq ?_
        refine Vc.text (List.range 4) (sd [(0, .pure), (1, .pure), (2, .eff), (3, .pure)]) rfl ?_
        refine Rg.pure rfl rfl rfl (Pv.move rfl) ?_
        refine Rg.pure rfl rfl rfl (Pv.move rfl) ?_
        refine Rg.append rfl rfl rfl rfl rfl own53 hb.src (by simp <;> omega) (by simp [maxLen] <;> omega) rfl (fun v56 s56 own56 => ?_)
        refine Rg.pure rfl rfl rfl (Pv.assign rfl) ?_
        refine Rg.nil ?_
        refine Vc.seq ?_
        refine Vc.seq ?_
        refine Vc.text (List.range 7) (sd [(0, .pure), (1, .pure), (2, .pure), (3, .pure), (4, .pure), (5, .pure), (6, .pure)]) rfl ?_
        refine Rg.pure rfl rfl rfl (Pv.move rfl) ?_
        refine Rg.pure rfl rfl rfl (Pv.move rfl) ?_
        refine Rg.pure rfl rfl rfl (Pv.lenS rfl) ?_
        refine Rg.pure rfl rfl rfl (Pv.asI (a + bs.length) (Pv.add rfl rfl (by omega)) (by omega)) ?_
        refine Rg.pure rfl rfl rfl (Pv.move rfl) ?_
        refine Rg.pure rfl rfl rfl (Pv.lenS rfl) ?_
        refine Rg.pure rfl rfl rfl (Pv.lss rfl rfl) ?_
        refine Rg.nil ?_
        refine Vc.cut2 (fun (v3 : Value) (s3 : Hl) => Own byteE v3 (putAt x.now a bs) s3) (fun v3 s3 => [(0, .pointer (some ⟨rb, 0, none⟩)), (1, .int .i64 (j : Int)), (11, v3)]) (fun v3 s3 => s3 ++ (rb, rfO room (.slice (some ⟨bL, 0, none⟩) fs.length cL) ops armed vK down) :: (bL, rowS fileE fs spL) :: bg) ?_ ?_
        ·
          refine Vc.cond rfl (fun h63 => ?_) (fun h63 => ?_)
          ·
            simp only [decide_eq_true_eq] at h63
            refine Vc.text (List.range 9) (sd [(0, .pure), (1, .pure), (2, .pure), (3, .pure), (4, .pure), (5, .pure), (6, .pure), (7, .eff), (8, .pure)]) rfl ?_
            refine Rg.pure rfl rfl rfl (Pv.move rfl) ?_
            refine Rg.pure rfl rfl rfl (Pv.move rfl) ?_
            refine Rg.pure rfl rfl rfl (Pv.move rfl) ?_
            refine Rg.pure rfl rfl rfl (Pv.move rfl) ?_
            refine Rg.pure rfl rfl rfl (Pv.lenS rfl) ?_
            refine Rg.pure rfl rfl rfl (Pv.asI (a + bs.length) (Pv.add rfl rfl (by omega)) (by omega)) ?_
            refine Rg.pure rfl rfl rfl (Pv.sl (lv := some (.int .i64 ((a + bs.length : Nat) : Int))) (hv := none) (a + bs.length) x.now.length rfl rfl rfl (by omega) (by omega) (fun _ => hcn)) ?_
            refine Rg.append rfl rfl rfl rfl rfl own56 (Arg.srcF (s := bg) ((hxq _ (fun b o h => Or.inl h)).from (i := a + bs.length) (by omega))) (by simp <;> omega) (by simp [maxLen] <;> omega) rfl (fun v71 s71 own71 => ?_)
            refine Rg.pure rfl rfl rfl (Pv.assign rfl) ?_
            refine Rg.nil ?_
            exact Vc.inv2 v71 s71 (by unfold putAt; simpa using own71) (.cons rfl (.cons rfl (.cons rfl .nil))) pulled
          ·
            simp only [decide_eq_false_iff_not] at h63
            refine Vc.skip ?_
            exact Vc.inv2 v56 s56 (by unfold putAt; rw [List.drop_eq_nil_of_le (by omega)]; simpa using own56) (.cons rfl (.cons rfl (.cons rfl .nil))) pulled
        ·
          rintro v3 s3 o3
          obtain ⟨p3, c3, rfl⟩ := o3.shape
          refine Vc.seq ?_
          refine Vc.text (List.range 9) (sd [(0, .pure), (1, .pure), (2, .pure), (3, .read), (4, .pure), (5, .pure), (6, .pure), (7, .pure), (8, .eff)]) rfl ?_
          refine Rg.pure rfl rfl rfl (Pv.move rfl) ?_
          refine Rg.pure rfl rfl rfl (Pv.nilp rfl) ?_
          refine Rg.pure rfl rfl rfl (Pv.fa rfl) ?_
          refine Rg.read rfl rfl rfl (Ev.ld rfl rfl) ?_
          refine Rg.pure rfl rfl rfl (Pv.move rfl) ?_
          refine Rg.pure rfl rfl rfl (Pv.move rfl) ?_
          refine Rg.pure rfl rfl rfl (Pv.ixA (j) rfl rfl (by omega) (by omega)) ?_
          refine Rg.pure rfl rfl rfl (Pv.fa rfl) ?_
          refine Rg.storeRf (E := fileE) (z := ⟨x.nm, putAt x.now a bs, x.syn, p3, c3, x.q, x.e⟩) j 1 rfl rfl rfl rfl rfl rfl (by rw [hx]; rfl) (by decide) (by rw [show fileE.k = 3 from rfl]; omega) hj rfl ?_
          refine Rg.nil ?_
          refine Vc.seq ?_
          refine Vc.text (List.range 1) (sd [(0, .pure)]) rfl ?_
          refine Rg.pure rfl rfl rfl (Pv.assign rfl) ?_
          refine Rg.nil ?_
          exact Vc.ret (Vc.retsH (hl' := (rb, rfO room (.slice (some ⟨bL, 0, none⟩) fs.length cL) ops armed vK down) :: (bL, rowS fileE (fs.set j ⟨x.nm, putAt x.now a bs, x.syn, p3, c3, x.q, x.e⟩) spL) :: (s3 ++ bg)) rfl (.cons (.tmp rfl) .nil) ⟨rfl, .inr ⟨p3, c3, s3, o3, rfl⟩⟩ pulled)
end Go.Proofs.Ytmocncadncgaaaa
