/- The document's disk: Size, Sync, ReadAt, Create. -/
import Derived.Test.YtmocncadncgaaaaRfD
namespace Go.Proofs.Ytmocncadncgaaaa
set_option linter.unusedVariables false

theorem RfAt.open_ {rb : Nat} {D : Dk} {hl : Hl} (h : RfAt rb D hl) : ∃ fs vL sL bg vK sK, Srt fs ∧ D.files.Perm (fs.map (·.vw)) ∧ Own fileE vL fs sL ∧ (∀ f ∈ fs, ArgIn bg f.vn f.now ∧ ArgIn bg f.vs f.syn) ∧ Own boolE vK D.keep sK ∧ hl.Perm ((rb, rfO D.room vL D.ops D.armed vK D.down) :: (sL ++ (bg ++ sK))) := by
  obtain ⟨vK, sK, h0, ⟨fs, vL, sL, bg, h1, h2, h3, h4, hp0⟩, ownK, hp⟩ := h
  exact ⟨fs, vL, sL, bg, vK, sK, h1, h2, h3, h4, ownK, hp.trans ((hp0.append_right sK).trans (List.Perm.of_eq (by simp)))⟩
theorem RfAt.shut {rb : Nat} {D : Dk} {hl : Hl} {fs : List Fv} {vL vK : Value} {sL bg sK : Hl} (h1 : Srt fs) (h2 : D.files.Perm (fs.map (·.vw))) (h3 : Own fileE vL fs sL) (h4 : ∀ f ∈ fs, ArgIn bg f.vn f.now ∧ ArgIn bg f.vs f.syn) (h5 : Own boolE vK D.keep sK) (hp : hl.Perm ((rb, rfO D.room vL D.ops D.armed vK D.down) :: (sL ++ (bg ++ sK)))) : RfAt rb D hl :=
  ⟨vK, sK, _, ⟨fs, vL, sL, bg, h1, h2, h3, h4, .refl _⟩, h5, hp.trans (List.Perm.of_eq (by simp))⟩
theorem rfind_w {F : Fm} {rb : Nat} {room ops armed : Int} {vL vK : Value} {down : Bool} {fs : List Fv} (h1 : F.at_ rb (rfO room vL ops armed vK down)) (ha : Arg fileE F vL fs) (hN : fs.length < 1073741824) (k : List UInt8) :
    Spec Try.prog 63 #[.pointer (some ⟨rb, 0, none⟩), kS k] F [] fun v _ => v = .int .i64 (posI (fun f : Fv => decide (f.nm = k)) fs 0) := by
  have : Fat F rb (rfO room vL ops armed vK down) := ⟨h1⟩
  exact rfind_spec ha hN k
section
variable {F : Fm} {rb n B : Nat} {D : Dk} {s : Hl}
theorem rsize_spec (hR : RfAt rb D s) (hw : Dw n B D) (hn : n < 1000) (hB : B ≤ 1000000) (k : List UInt8) :
    Spec Try.prog 37 #[.pointer (some ⟨rb, 0, none⟩), kS k] F s fun v s' => v = .tuple #[.int .i64 (sizeD D k).1, .int .i64 (sizeD D k).2] ∧ RfAt rb (beginsD D).2 s' := by
  refine Spec.of (n := 26) (vs := [.pointer (some ⟨rb, 0, none⟩), kS k]) Try.func37 rfl Try.ntmps37 rfl ?_
  refine Vc.seq ?_
  refine Vc.text (List.range 2) (sd [(0, .pure), (1, .pure)]) rfl ?_
  refine Rg.pure rfl rfl rfl (Pv.assign rfl) ?_
  refine Rg.pure rfl rfl rfl (Pv.assign rfl) ?_
  refine Rg.nil ?_
  refine Vc.seq ?_
  refine Vc.text (List.range 3) (sd [(0, .pure), (1, .eff), (2, .pure)]) rfl ?_
  refine Rg.pure rfl rfl rfl (Pv.move rfl) ?_
  refine Rg.callH rfl rfl rfl (run_callF rfl) (fun F' hF' => rbegins_spec (F := F') hR hw hn hB) rfl ?_
  rintro _ sb ⟨rfl, hRb⟩
  obtain ⟨fs, vL, sL, bg, vK, sK, hsrt, hpm, own, hbg, ownK, hpb⟩ := hRb.open_
  have h07 := begins_07 D
  have hwb := hw.begins
  have hfl : fs.length ≤ 1000 := by have := hpm.length_eq; rw [List.length_map] at this; have := hwb.cnt; omega
  have hpos := rpos hwb.nodup hpm k
  refine Rg.pure rfl rfl rfl (Pv.assign rfl) ?_
  refine Rg.nil ?_
  refine Vc.seq ?_
  refine Vc.seq ?_
  refine Vc.text (List.range 2) (sd [(0, .pure), (1, .pure)]) rfl ?_
  refine Rg.pure rfl rfl rfl (Pv.move rfl) ?_
  refine Rg.pure rfl rfl rfl (Pv.not rfl) ?_
  refine Rg.nil ?_
  refine Vc.cond rfl (fun h11 => ?_) (fun h11 => ?_)
  ·
    have hb7 : (beginsD D).1 = 7 := h07.resolve_left (by simpa using h11)
    refine Vc.seq ?_
    refine Vc.text (List.range 2) (sd [(0, .pure), (1, .pure)]) rfl ?_
    refine Rg.pure rfl rfl rfl (Pv.assign rfl) ?_
    refine Rg.pure rfl rfl rfl (Pv.assign rfl) ?_
    refine Rg.nil ?_
    exact Vc.ret (Vc.retsH rfl (.cons (.tmp rfl) (.cons (.tmp rfl) (.nil))) (⟨by rw [sizeD, if_pos hb7]; rfl, hRb⟩) pulled)
  ·
    have hb0 : (beginsD D).1 = 0 := by simpa using h11
    have hb7n : ¬ (beginsD D).1 = 7 := by rw [hb0]; decide
    refine Vc.perm ((List.Perm.of_eq (List.append_nil sb)).trans hpb) ?_
    refine Vc.skip ?_
    refine Vc.seq ?_
    refine Vc.text (List.range 4) (sd [(0, .pure), (1, .pure), (2, .eff), (3, .pure)]) rfl ?_
    refine Rg.pure rfl rfl rfl (Pv.move rfl) ?_
    refine Rg.pure rfl rfl rfl (Pv.move rfl) ?_
    refine Rg.callP rfl rfl rfl (run_callF rfl) (rfind_w frz_pull (Arg.own own frz_sb) (by omega) k) ?_
    rintro _ rfl
    refine Rg.pure rfl rfl rfl (Pv.assign rfl) ?_
    refine Rg.nil ?_
    refine Vc.seq ?_
    refine Vc.seq ?_
    refine Vc.text (List.range 2) (sd [(0, .pure), (1, .pure)]) rfl ?_
    refine Rg.pure rfl rfl rfl (Pv.move rfl) ?_
    refine Rg.pure rfl rfl rfl (Pv.lss rfl rfl) ?_
    refine Rg.nil ?_
    refine Vc.cond rfl (fun h16 => ?_) (fun h16 => ?_)
    ·
      have hff : findF (beginsD D).2.files k = none := by
        rcases hpos with h | ⟨j, _, hpe, _⟩
        · exact h.2
        · rw [hpe] at h16; simp at h16; omega
      refine Vc.seq ?_
      refine Vc.text (List.range 2) (sd [(0, .pure), (1, .pure)]) rfl ?_
      refine Rg.pure rfl rfl rfl (Pv.assign rfl) ?_
      refine Rg.pure rfl rfl rfl (Pv.assign rfl) ?_
      refine Rg.nil ?_
      exact Vc.ret (Vc.retsH rfl (.cons (.tmp rfl) (.cons (.tmp rfl) (.nil))) (⟨by rw [sizeD, if_neg hb7n, hff]; rfl, RfAt.shut (fs := fs) hsrt hpm own hbg ownK (.refl _)⟩) pulled)
    ·
      obtain ⟨j, hj, hpe, hnm, hff⟩ := hpos.resolve_left (fun h => by rw [h.1] at h16; simp at h16)
      obtain ⟨x, hx⟩ : ∃ x, fs[j]! = x := ⟨_, rfl⟩
      have hxm : x ∈ fs := by rw [← hx, getElem!_pos fs j hj]; exact List.getElem_mem _
      rw [hx] at hff hnm
      obtain ⟨bL, cL, spL, rfl, rfl, hcap, hcm⟩ := own.block (by omega)
      have hxq := hbg x hxm
      have hlf : x.now.length ≤ 1000000 ∧ x.syn.length ≤ 1000000 := hwb.fewB hB x.vw (hpm.mem_iff.2 (List.mem_map.2 ⟨x, hxm, rfl⟩))
      refine Vc.skip ?_
      refine Vc.seq ?_
      refine Vc.text (List.range 11) (sd [(0, .pure), (1, .pure), (2, .pure), (3, .read), (4, .pure), (5, .pure), (6, .pure), (7, .read), (8, .pure), (9, .pure), (10, .pure)]) rfl ?_
      refine Rg.pure rfl rfl rfl (Pv.move rfl) ?_
      refine Rg.pure rfl rfl rfl (Pv.nilp rfl) ?_
      refine Rg.pure rfl rfl rfl (Pv.fa rfl) ?_
      refine Rg.read rfl rfl rfl (Ev.ld rfl rfl) ?_
      refine Rg.pure rfl rfl rfl (Pv.move rfl) ?_
      refine Rg.pure rfl rfl rfl (Pv.ixA (j) rfl rfl (by omega) (by omega)) ?_
      refine Rg.pure rfl rfl rfl (Pv.fa rfl) ?_
      refine Rg.read rfl rfl rfl (Ev.ldRf (E := fileE) (u := x.vn) j 1 rfl (by rw [show fileE.k = 3 from rfl]; omega) hj (by rw [hx]; rfl)) ?_
      refine Rg.pure rfl rfl rfl (Pv.lenS rfl) ?_
      refine Rg.pure rfl rfl rfl (Pv.assign rfl) ?_
      refine Rg.pure rfl rfl rfl (Pv.assign rfl) ?_
      refine Rg.nil ?_
      exact Vc.ret (Vc.retsH rfl (.cons (.tmp rfl) (.cons (.tmp rfl) (.nil))) (⟨by rw [sizeD, if_neg hb7n, hff]; rfl, RfAt.shut (fs := fs) hsrt hpm own hbg ownK (.refl _)⟩) pulled)
theorem cut_fs {D : List (List UInt8 × Fl)} {fs : List Fv} (hs : Srt fs) (hp : D.Perm (fs.map (·.vw))) {j : Nat} (hj : j < fs.length) {k : List UInt8} (hk : fs[j]!.nm = k) : (cutF D k).Perm ((fs.take j ++ fs.drop (j + 1)).map (·.vw)) ∧ Srt (fs.take j ++ fs.drop (j + 1)) := by
  have hn := srt_nodup hs
  have hsplit : fs = fs.take j ++ fs[j]! :: fs.drop (j + 1) := by
    rw [getElem!_pos fs j hj, ← List.drop_eq_getElem_cons hj, List.take_append_drop]
  have e : ((fs.take j).map (·.vw) ++ (k, (⟨fs[j]!.now, fs[j]!.syn⟩ : Fl)) :: (fs.drop (j + 1)).map (·.vw)) = fs.map (·.vw) := by
    conv => rhs; rw [hsplit]
    rw [List.map_append, List.map_cons, ← hk]
  have h2 : (((fs.take j).map (·.vw) ++ (k, (⟨fs[j]!.now, fs[j]!.syn⟩ : Fl)) :: (fs.drop (j + 1)).map (·.vw)).map (·.1)).Nodup := by
    rw [e, vw_keys]; exact hn
  have h3 := cutF_mid h2
  rw [e] at h3
  refine ⟨(hp.filter _).trans (List.Perm.of_eq ?_), ?_⟩
  · rw [List.map_append]; exact h3
  · unfold Srt at hs ⊢
    refine hs.sublist (List.Sublist.map _ ?_)
    conv => rhs; rw [hsplit]
    exact (List.Sublist.refl _).append (List.sublist_cons_self _ _)
theorem puts_fs {fs : List Fv} (hs : Srt fs) {m : Nat} {y : Fv} (hm : m ≤ fs.length) (hlt : ∀ j, j < m → fs[j]!.nm < y.nm) (hge : m = fs.length ∨ ¬ fs[m]!.nm < y.nm) (hno : ∀ f ∈ fs, f.nm ≠ y.nm) : (fs.map (·.vw) ++ [y.vw]).Perm ((fs.take m ++ y :: fs.drop m).map (·.vw)) ∧ Srt (fs.take m ++ y :: fs.drop m) := by
  constructor
  · rw [List.map_append, List.map_cons]
    refine List.Perm.trans ?_ List.perm_middle.symm
    rw [← List.map_append, List.take_append_drop]
    exact List.perm_append_singleton _ _
  · unfold Srt at hs ⊢
    rw [List.map_append, List.map_cons, List.pairwise_append, List.pairwise_cons]
    have hs2 := hs
    rw [← List.take_append_drop m fs, List.map_append, List.pairwise_append] at hs2
    have hpre : ∀ a ∈ (fs.take m).map (·.nm), a < y.nm := fun a ha => by
      obtain ⟨f, hf, rfl⟩ := List.mem_map.1 ha
      obtain ⟨i, hi, rfl⟩ := List.mem_iff_getElem.1 hf
      rw [List.length_take] at hi
      have := hlt i (by omega)
      rw [getElem!_pos fs i (by omega)] at this
      rw [List.getElem_take]
      exact this
    have hpost : ∀ a ∈ (fs.drop m).map (·.nm), y.nm < a := fun a ha => by
      rcases hge with h | h
      · rw [List.drop_eq_nil_of_le (by omega)] at ha; cases ha
      · have hml : m < fs.length := by
          rcases Nat.lt_or_ge m fs.length with h1 | h1
          · exact h1
          · rw [List.drop_eq_nil_of_le h1] at ha; cases ha
        have h0 : y.nm < fs[m]!.nm := by
          have hne : fs[m]!.nm ≠ y.nm := hno _ (by rw [getElem!_pos fs m hml]; exact List.getElem_mem _)
          rcases Decidable.em (y.nm < fs[m]!.nm) with h1 | h1
          · exact h1
          · exact absurd (List.le_antisymm (List.not_lt.1 h1) (List.not_lt.1 h)) hne
        rw [List.drop_eq_getElem_cons hml, List.map_cons] at ha
        rw [getElem!_pos fs m hml] at h0
        rcases List.mem_cons.1 ha with rfl | ha
        · exact h0
        · have h3 := hs2.2.1
          rw [List.drop_eq_getElem_cons hml, List.map_cons, List.pairwise_cons] at h3
          exact List.lt_trans h0 (h3.1 a ha)
    exact ⟨hs2.1, ⟨hpost, hs2.2.1⟩, fun a ha b hb => by
      rcases List.mem_cons.1 hb with rfl | hb
      · exact hpre a ha
      · exact hs2.2.2 a ha b hb⟩
theorem rsync_spec (hR : RfAt rb D s) (hw : Dw n B D) (hn : n < 1000) (hB : B ≤ 1000000) (k : List UInt8) :
    Spec Try.prog 38 #[.pointer (some ⟨rb, 0, none⟩), kS k] F s fun v s' => v = .int .i64 (syncD D k).1 ∧ RfAt rb (syncD D k).2 s' := by
  refine Spec.of (n := 33) (vs := [.pointer (some ⟨rb, 0, none⟩), kS k]) Try.func38 rfl Try.ntmps38 rfl ?_
  refine Vc.seq ?_
  refine Vc.text (List.range 1) (sd [(0, .pure)]) rfl ?_
  refine Rg.pure rfl rfl rfl (Pv.assign rfl) ?_
  refine Rg.nil ?_
  refine Vc.seq ?_
  refine Vc.text (List.range 3) (sd [(0, .pure), (1, .eff), (2, .pure)]) rfl ?_
  refine Rg.pure rfl rfl rfl (Pv.move rfl) ?_
  refine Rg.callH rfl rfl rfl (run_callF rfl) (fun F' hF' => rbegins_spec (F := F') hR hw hn hB) rfl ?_
  rintro _ sb ⟨rfl, hRb⟩
  obtain ⟨fs, vL, sL, bg, vK, sK, hsrt, hpm, own, hbg, ownK, hpb⟩ := hRb.open_
  have h07 := begins_07 D
  have hwb := hw.begins
  have hfl : fs.length ≤ 1000 := by have := hpm.length_eq; rw [List.length_map] at this; have := hwb.cnt; omega
  have hpos := rpos hwb.nodup hpm k
  refine Rg.pure rfl rfl rfl (Pv.assign rfl) ?_
  refine Rg.nil ?_
  refine Vc.seq ?_
  refine Vc.seq ?_
  refine Vc.text (List.range 2) (sd [(0, .pure), (1, .pure)]) rfl ?_
  refine Rg.pure rfl rfl rfl (Pv.move rfl) ?_
  refine Rg.pure rfl rfl rfl (Pv.not rfl) ?_
  refine Rg.nil ?_
  refine Vc.cond rfl (fun h10 => ?_) (fun h10 => ?_)
  ·
    have hb7 : (beginsD D).1 = 7 := h07.resolve_left (by simpa using h10)
    refine Vc.seq ?_
    refine Vc.text (List.range 1) (sd [(0, .pure)]) rfl ?_
    refine Rg.pure rfl rfl rfl (Pv.assign rfl) ?_
    refine Rg.nil ?_
    exact Vc.ret (Vc.retsH rfl (.cons (.tmp rfl) (.nil)) (⟨by rw [syncD, if_pos hb7]; rfl, by rw [syncD, if_pos hb7]; exact hRb⟩) pulled)
  ·
    have hb0 : (beginsD D).1 = 0 := by simpa using h10
    have hb7n : ¬ (beginsD D).1 = 7 := by rw [hb0]; decide
    refine Vc.perm ((List.Perm.of_eq (List.append_nil sb)).trans hpb) ?_
    refine Vc.skip ?_
    refine Vc.seq ?_
    refine Vc.text (List.range 4) (sd [(0, .pure), (1, .pure), (2, .eff), (3, .pure)]) rfl ?_
    refine Rg.pure rfl rfl rfl (Pv.move rfl) ?_
    refine Rg.pure rfl rfl rfl (Pv.move rfl) ?_
    refine Rg.callP rfl rfl rfl (run_callF rfl) (rfind_w frz_pull (Arg.own own frz_sb) (by omega) k) ?_
    rintro _ rfl
    refine Rg.pure rfl rfl rfl (Pv.assign rfl) ?_
    refine Rg.nil ?_
    refine Vc.seq ?_
    refine Vc.seq ?_
    refine Vc.text (List.range 2) (sd [(0, .pure), (1, .pure)]) rfl ?_
    refine Rg.pure rfl rfl rfl (Pv.move rfl) ?_
    refine Rg.pure rfl rfl rfl (Pv.lss rfl rfl) ?_
    refine Rg.nil ?_
    refine Vc.cond rfl (fun h15 => ?_) (fun h15 => ?_)
    ·
      have hff : findF (beginsD D).2.files k = none := by
        rcases hpos with h | ⟨j, _, hpe, _⟩
        · exact h.2
        · rw [hpe] at h15; (simp at h15 <;> omega)
      refine Vc.seq ?_
      refine Vc.text (List.range 1) (sd [(0, .pure)]) rfl ?_
      refine Rg.pure rfl rfl rfl (Pv.assign rfl) ?_
      refine Rg.nil ?_
      exact Vc.ret (Vc.retsH rfl (.cons (.tmp rfl) (.nil)) (⟨by rw [syncD, if_neg hb7n, hff]; rfl, by rw [syncD, if_neg hb7n, hff]; exact RfAt.shut (fs := fs) hsrt hpm own hbg ownK (.refl _)⟩) pulled)
    ·
      obtain ⟨j, hj, hpe, hnm, hff⟩ := hpos.resolve_left (fun h => by rw [h.1] at h15; simp at h15)
      obtain ⟨x, hx⟩ : ∃ x, fs[j]! = x := ⟨_, rfl⟩
      have hxm : x ∈ fs := by rw [← hx, getElem!_pos fs j hj]; exact List.getElem_mem _
      rw [hx] at hff hnm
      obtain ⟨bL, cL, spL, rfl, rfl, hcap, hcm⟩ := own.block (by omega)
      have hxq := hbg x hxm
      have hlf : x.now.length ≤ 1000000 ∧ x.syn.length ≤ 1000000 := hwb.fewB hB x.vw (hpm.mem_iff.2 (List.mem_map.2 ⟨x, hxm, rfl⟩))
      have hsd : syncD D k = (0, { (beginsD D).2 with files := setF (beginsD D).2.files k ⟨x.now, x.now⟩ }) := by rw [syncD, if_neg hb7n, hff]
      refine Vc.skip ?_
      refine Vc.seq ?_
      refine Vc.drawS [17] (sd [(0, .pure), (1, .pure), (2, .pure), (3, .read), (4, .pure), (6, .pure), (7, .pure), (8, .pure), (9, .read), (10, .pure), (11, .pure), (12, .pure), (13, .read), (5, .eff), (14, .eff), (15, .pure), (16, .pure), (17, .eff)]) [(rb, rfO (beginsD D).2.room (.slice (some ⟨bL, 0, none⟩) fs.length cL) (beginsD D).2.ops (beginsD D).2.armed vK (beginsD D).2.down), (bL, rowS fileE fs spL)] pulled mixed (by kernel_rfl) ?_
      refine Rg.pure rfl rfl rfl (Pv.move rfl) ?_
      refine Rg.pure rfl rfl rfl (Pv.nilp rfl) ?_
      refine Rg.pure rfl rfl rfl (Pv.fa rfl) ?_
      refine Rg.read rfl rfl rfl (Ev.ld rfl rfl) ?_
      refine Rg.pure rfl rfl rfl (Pv.move rfl) ?_
      refine Rg.pure rfl rfl rfl (Pv.move rfl) ?_
      refine Rg.pure rfl rfl rfl (Pv.nilp rfl) ?_
      refine Rg.pure rfl rfl rfl (Pv.fa rfl) ?_
      refine Rg.read rfl rfl rfl (Ev.ld rfl rfl) ?_
      refine Rg.pure rfl rfl rfl (Pv.move rfl) ?_
      refine Rg.pure rfl rfl rfl (Pv.ixA (j) rfl rfl (by omega) (by omega)) ?_
      refine Rg.pure rfl rfl rfl (Pv.fa rfl) ?_
      refine Rg.read rfl rfl rfl (Ev.ldRf (E := fileE) (u := x.vn) j 1 rfl (by rw [show fileE.k = 3 from rfl]; omega) hj (by rw [hx]; rfl)) ?_
      refine Rg.bslice0N (E := byteE) rfl rfl rfl (fun b21 own21 => ?_)
      refine Rg.appendN rfl rfl rfl rfl rfl own21 (Arg.srcF (s := bg) (hxq.1 _ (fun b o h => Or.inl h))) (by simp <;> omega) (by simp [maxLen] <;> omega) (fun v30 s30 own30 => ?_)
      obtain ⟨p30, c30, rfl⟩ := own30.shape
      refine Rg.pure rfl rfl rfl (Pv.ixA (j) rfl rfl (by omega) (by omega)) ?_
      refine Rg.pure rfl rfl rfl (Pv.fa rfl) ?_
      refine Rg.storeRf (E := fileE) (z := ⟨x.nm, x.now, x.now, x.p, x.c, p30, c30⟩) j 2 rfl rfl rfl rfl rfl rfl (by rw [hx]; rfl) (by decide) (by rw [show fileE.k = 3 from rfl]; omega) hj rfl ?_
      refine Rg.nil ?_
      refine Vc.seq ?_
      refine Vc.text (List.range 1) (sd [(0, .pure)]) rfl ?_
      refine Rg.pure rfl rfl rfl (Pv.assign rfl) ?_
      refine Rg.nil ?_
      have hset := set_fs hsrt hpm hj (by rw [hx]; exact hnm) ⟨x.nm, x.now, x.now, x.p, x.c, p30, c30⟩ hnm
      exact Vc.ret (Vc.retsH (hl' := (rb, rfO (beginsD D).2.room (.slice (some ⟨bL, 0, none⟩) fs.length cL) (beginsD D).2.ops (beginsD D).2.armed vK (beginsD D).2.down) :: (bL, rowS fileE (fs.set j ⟨x.nm, x.now, x.now, x.p, x.c, p30, c30⟩) spL) :: (s30 ++ (bg ++ sK))) rfl (.cons (.tmp rfl) .nil) ⟨by rw [hsd]; rfl, by
        rw [hsd]
        exact RfAt.shut (D := { (beginsD D).2 with files := setF (beginsD D).2.files k ⟨x.now, x.now⟩ }) (fs := fs.set j ⟨x.nm, x.now, x.now, x.p, x.c, p30, c30⟩) (bg := s30 ++ bg) hset.2 hset.1 (Own.blk' bL cL _ _ spL (by rw [List.length_set]) (by exact hcap) hcm) (fun f hf => by
          have hmn : ∀ y ∈ bg, y ∈ s30 ++ bg := fun y hy => by simp [hy]
          rcases List.mem_or_eq_of_mem_set hf with hf | rfl
          · exact ⟨(hbg f hf).1.mono hmn, (hbg f hf).2.mono hmn⟩
          · exact ⟨hxq.1.mono hmn, (ArgIn.own own30).mono fun y hy => by simp [hy]⟩) ownK (List.Perm.of_eq (by simp))⟩ pulled)
theorem rcreate_spec (hR : RfAt rb D s) (hw : Dw n B D) (hn : n < 1000) (hB : B ≤ 1000000) (k : List UInt8) :
    Spec Try.prog 33 #[.pointer (some ⟨rb, 0, none⟩), kS k] F s fun v s' => v = .int .i64 (createD D k).1 ∧ RfAt rb (createD D k).2 s' := by
  refine Spec.of (n := 21) (vs := [.pointer (some ⟨rb, 0, none⟩), kS k]) Try.func33 rfl Try.ntmps33 rfl ?_
  refine Vc.seq ?_
  refine Vc.text (List.range 1) (sd [(0, .pure)]) rfl ?_
  refine Rg.pure rfl rfl rfl (Pv.assign rfl) ?_
  refine Rg.nil ?_
  refine Vc.seq ?_
  refine Vc.text (List.range 3) (sd [(0, .pure), (1, .eff), (2, .pure)]) rfl ?_
  refine Rg.pure rfl rfl rfl (Pv.move rfl) ?_
  refine Rg.callH rfl rfl rfl (run_callF rfl) (fun F' hF' => rbegins_spec (F := F') hR hw hn hB) rfl ?_
  rintro _ sb ⟨rfl, hRb⟩
  obtain ⟨fs, vL, sL, bg, vK, sK, hsrt, hpm, own, hbg, ownK, hpb⟩ := hRb.open_
  have h07 := begins_07 D
  have hwb := hw.begins
  have hfl : fs.length ≤ 1000 := by have := hpm.length_eq; rw [List.length_map] at this; have := hwb.cnt; omega
  have hpos := rpos hwb.nodup hpm k
  refine Rg.pure rfl rfl rfl (Pv.assign rfl) ?_
  refine Rg.nil ?_
  refine Vc.seq ?_
  refine Vc.seq ?_
  refine Vc.text (List.range 2) (sd [(0, .pure), (1, .pure)]) rfl ?_
  refine Rg.pure rfl rfl rfl (Pv.move rfl) ?_
  refine Rg.pure rfl rfl rfl (Pv.not rfl) ?_
  refine Rg.nil ?_
  refine Vc.cond rfl (fun h9 => ?_) (fun h9 => ?_)
  ·
    have hb7 : (beginsD D).1 = 7 := h07.resolve_left (by simpa using h9)
    refine Vc.seq ?_
    refine Vc.text (List.range 1) (sd [(0, .pure)]) rfl ?_
    refine Rg.pure rfl rfl rfl (Pv.assign rfl) ?_
    refine Rg.nil ?_
    exact Vc.ret (Vc.retsH rfl (.cons (.tmp rfl) (.nil)) (⟨by rw [createD, if_pos hb7]; rfl, by rw [createD, if_pos hb7]; exact hRb⟩) pulled)
  ·
    have hb0 : (beginsD D).1 = 0 := by simpa using h9
    have hb7n : ¬ (beginsD D).1 = 7 := by rw [hb0]; decide
    refine Vc.perm ((List.Perm.of_eq (List.append_nil sb)).trans hpb) ?_
    refine Vc.skip ?_
    refine Vc.seq ?_
    refine Vc.seq ?_
    refine Vc.text (List.range 3) (sd [(0, .pure), (1, .eff), (2, .pure)]) rfl ?_
    refine Rg.pure rfl rfl rfl (Pv.move rfl) ?_
    refine Rg.callP rfl rfl rfl (run_callF rfl) (rmay_spec _ ⟨k.toArray⟩) ?_
    rintro _ rfl
    refine Rg.pure rfl rfl rfl (Pv.not rfl) ?_
    refine Rg.nil ?_
    refine Vc.cond rfl (fun h12 => ?_) (fun h12 => ?_)
    ·
      have hmy : mayN ⟨k.toArray⟩ = false := by simpa using h12
      refine Vc.seq ?_
      refine Vc.text (List.range 1) (sd [(0, .pure)]) rfl ?_
      refine Rg.pure rfl rfl rfl (Pv.assign rfl) ?_
      refine Rg.nil ?_
      exact Vc.ret (Vc.retsH rfl (.cons (.tmp rfl) (.nil)) (⟨by rw [createD, if_neg hb7n, if_pos hmy]; rfl, by rw [createD, if_neg hb7n, if_pos hmy]; exact RfAt.shut (fs := fs) hsrt hpm own hbg ownK (.refl _)⟩) pulled)
    ·
      have hmy : mayN ⟨k.toArray⟩ = true := by simpa using h12
      refine Vc.skip ?_
      refine Vc.seq ?_
      refine Vc.seq ?_
      refine Vc.text (List.range 4) (sd [(0, .pure), (1, .pure), (2, .eff), (3, .pure)]) rfl ?_
      refine Rg.pure rfl rfl rfl (Pv.move rfl) ?_
      refine Rg.pure rfl rfl rfl (Pv.move rfl) ?_
      refine Rg.callP rfl rfl rfl (run_callF rfl) (rfind_w frz_pull (Arg.own own frz_sb) (by omega) k) ?_
      rintro _ rfl
      refine Rg.pure rfl rfl rfl (Pv.geq rfl rfl) ?_
      refine Rg.nil ?_
      refine Vc.cond rfl (fun h16 => ?_) (fun h16 => ?_)
      ·
        obtain ⟨j, hj, hpe, hnm, hff⟩ := hpos.resolve_left (fun h => by rw [h.1] at h16; simp at h16)
        refine Vc.seq ?_
        refine Vc.text (List.range 1) (sd [(0, .pure)]) rfl ?_
        refine Rg.pure rfl rfl rfl (Pv.assign rfl) ?_
        refine Rg.nil ?_
        exact Vc.ret (Vc.retsH rfl (.cons (.tmp rfl) (.nil)) (⟨by rw [createD, if_neg hb7n, if_neg (by rw [hmy]; decide), hff]; rfl, by rw [createD, if_neg hb7n, if_neg (by rw [hmy]; decide), hff]; exact RfAt.shut (fs := fs) hsrt hpm own hbg ownK (.refl _)⟩) pulled)
      ·
        have hff : findF (beginsD D).2.files k = none := by
          rcases hpos with h | ⟨j, _, hpe, _⟩
          · exact h.2
          · rw [hpe] at h16; (simp at h16 <;> omega)
        have hcd : createD D k = (0, { (beginsD D).2 with files := (beginsD D).2.files ++ [(k, ⟨[], []⟩)] }) := by rw [createD, if_neg hb7n, if_neg (by rw [hmy]; decide), hff]
        refine Vc.skip ?_
        refine Vc.seq ?_
        refine Vc.text (List.range 4) (sd [(0, .pure), (1, .pure), (2, .pure), (3, .eff)]) rfl ?_
        refine Rg.pure rfl rfl rfl (Pv.move rfl) ?_
        refine Rg.pure rfl rfl rfl (Pv.move rfl) ?_
        refine Rg.pure rfl rfl rfl (Pv.build (c := #[kS k, .slice none 0 0, .slice none 0 0]) rfl rfl) ?_
        refine Rg.callH rfl rfl rfl (run_callF rfl) (fun F' hF' => rputs_spec (F := F') (rb := rb) (room := (beginsD D).2.room) (ops := (beginsD D).2.ops) (armed := (beginsD D).2.armed) (vK := vK) (down := (beginsD D).2.down) own hfl ⟨k, [], [], none, 0, none, 0⟩) rfl ?_
        rintro _ _ ⟨m, vL2, sL2, hm, hlt, hge, rfl, own2⟩
        have hpt := puts_fs hsrt hm hlt hge (fun f hf e => findF_none hff f.vw (hpm.mem_iff.2 (List.mem_map.2 ⟨f, hf, rfl⟩)) e)
        refine Rg.nil ?_
        refine Vc.seq ?_
        refine Vc.text (List.range 1) (sd [(0, .pure)]) rfl ?_
        refine Rg.pure rfl rfl rfl (Pv.assign rfl) ?_
        refine Rg.nil ?_
        exact Vc.ret (Vc.retsH (hl' := (rb, rfO (beginsD D).2.room vL2 (beginsD D).2.ops (beginsD D).2.armed vK (beginsD D).2.down) :: (sL2 ++ (bg ++ sK))) rfl (.cons (.tmp rfl) .nil) ⟨by rw [hcd]; rfl, by
          rw [hcd]
          exact RfAt.shut (D := { (beginsD D).2 with files := (beginsD D).2.files ++ [(k, ⟨[], []⟩)] }) (bg := bg) hpt.2 ((hpm.append_right _).trans hpt.1) own2 (fun f hf => by
            rcases List.mem_append.1 hf with hf | hf
            · exact hbg f (List.mem_of_mem_take hf)
            · rcases List.mem_cons.1 hf with rfl | hf
              · exact ⟨fun F h => Arg.nil, fun F h => Arg.nil⟩
              · exact hbg f (List.mem_of_mem_drop hf)) ownK (.refl _)⟩ pulled)
end
end Go.Proofs.Ytmocncadncgaaaa
