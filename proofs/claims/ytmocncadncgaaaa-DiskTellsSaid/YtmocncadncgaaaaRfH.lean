/- The document's disk: WriteAt, Append. -/
import Derived.Test.YtmocncadncgaaaaRfG
namespace Go.Proofs.Ytmocncadncgaaaa
set_option linter.unusedVariables false

section
variable {F : Fm} {rb n B : Nat} {D : Dk} {s : Hl}
theorem rwritten {hl : Hl} {k : List UInt8} {at_ : Option Int} {bs : List UInt8} {fs : List Fv} {bL cL : Nat} {spL : List Value} {bg sK : Hl} {vK : Value} {j : Nat} {x : Fv} (hb7n : ¬ (beginsD D).1 = 7) (hsrt : Srt fs) (hpm : (beginsD D).2.files.Perm (fs.map (·.vw))) (hj : j < fs.length) (hx : fs[j]! = x) (hnm : x.nm = k) (hff : findF (beginsD D).2.files k = some ⟨x.now, x.syn⟩) (hbg : ∀ f ∈ fs, ArgIn bg f.vn f.now ∧ ArgIn bg f.vs f.syn) (ownK : Own boolE vK (beginsD D).2.keep sK)
    (hcap : fs.length * fileE.k + spL.length = cL * fileE.k) (hcm : cL ≤ maxLen) {z : Int × Int × List UInt8} (hz : wrG (beginsD D).2.room (beginsD D).2.used x.now (at_.getD x.now.length) bs = z)
    (h : (z.2.2 = x.now ∧ hl = (rb, rfO (beginsD D).2.room (.slice (some ⟨bL, 0, none⟩) fs.length cL) (beginsD D).2.ops (beginsD D).2.armed vK (beginsD D).2.down) :: (bL, rowS fileE fs spL) :: bg) ∨
      ∃ p c s3, Own byteE (.slice p z.2.2.length c) z.2.2 s3 ∧ hl = (rb, rfO (beginsD D).2.room (.slice (some ⟨bL, 0, none⟩) fs.length cL) (beginsD D).2.ops (beginsD D).2.armed vK (beginsD D).2.down) :: (bL, rowS fileE (fs.set j ⟨x.nm, z.2.2, x.syn, p, c, x.q, x.e⟩) spL) :: (s3 ++ bg)) :
    (writeD D k at_ bs).1 = z.1 ∧ RfAt rb (writeD D k at_ bs).2 (hl ++ sK) := by
  have hwd : writeD D k at_ bs = (z.1, { (beginsD D).2 with files := setF (beginsD D).2.files k ⟨z.2.2, x.syn⟩, used := z.2.1 }) := by rw [writeD, if_neg hb7n, hff]; simp only [hz]
  rw [hwd]
  refine ⟨rfl, ?_⟩
  rcases h with ⟨h1, rfl⟩ | ⟨p, c, s3, o3, rfl⟩
  · have hset := set_fs hsrt hpm hj (by rw [hx]; exact hnm) x hnm
    have he : fs.set j x = fs := by rw [← hx, getElem!_pos fs j hj, List.set_getElem_self]
    rw [he] at hset
    exact RfAt.shut (D := { (beginsD D).2 with files := setF (beginsD D).2.files k ⟨z.2.2, x.syn⟩, used := z.2.1 }) (fs := fs) (bg := bg) hset.2 (by show (setF (beginsD D).2.files k ⟨z.2.2, x.syn⟩).Perm _; rw [h1]; exact hset.1) (Own.blk' bL cL _ fs spL rfl hcap hcm) hbg ownK (List.Perm.of_eq (by simp))
  · have hset := set_fs hsrt hpm hj (by rw [hx]; exact hnm) ⟨x.nm, z.2.2, x.syn, p, c, x.q, x.e⟩ hnm
    have hxm : x ∈ fs := by rw [← hx, getElem!_pos fs j hj]; exact List.getElem_mem _
    exact RfAt.shut (D := { (beginsD D).2 with files := setF (beginsD D).2.files k ⟨z.2.2, x.syn⟩, used := z.2.1 }) (bg := s3 ++ bg) hset.2 hset.1 (Own.blk' bL cL _ _ spL (by rw [List.length_set]) hcap hcm) (fun f hf => by
      have hmn : ∀ y ∈ bg, y ∈ s3 ++ bg := fun y hy => by simp [hy]
      rcases List.mem_or_eq_of_mem_set hf with hf | rfl
      · exact ⟨(hbg f hf).1.mono hmn, (hbg f hf).2.mono hmn⟩
      · exact ⟨(ArgIn.own o3).mono fun y hy => by simp [hy], (hbg x hxm).2.mono hmn⟩) ownK (List.Perm.of_eq (by simp))
theorem rwriteat_spec (hR : RfAt rb D s) (hw : Dw n B D) (hn : n < 1000) (hB : B ≤ 1000000) (k : List UInt8) (at_ : Int) {vb : Value} {bs : List UInt8} (hb : Arg byteE F vb bs) (hbl : bs.length ≤ 1000000) :
    Spec Try.prog 35 #[.pointer (some ⟨rb, 0, none⟩), kS k, .int .i64 at_, vb] F s fun v s' => v = .int .i64 (writeD D k (some at_) bs).1 ∧ RfAt rb (writeD D k (some at_) bs).2 s' := by
  obtain ⟨pb, cb, rfl⟩ := hb.shape
  refine Spec.of (n := 25) (vs := [.pointer (some ⟨rb, 0, none⟩), kS k, .int .i64 at_, .slice pb bs.length cb]) Try.func35 rfl Try.ntmps35 rfl ?_
  refine Vc.seq ?_
  refine Vc.text (List.range 1) (sd [(0, .pure)]) rfl ?_
  refine Rg.pure rfl rfl rfl (Pv.assign rfl) ?_
  refine Rg.nil ?_
  refine Vc.seq ?_
  refine Vc.text (List.range 3) (sd [(0, .pure), (1, .eff), (2, .pure)]) rfl ?_
  refine Rg.pure rfl rfl rfl (Pv.move rfl) ?_
  refine Rg.callH rfl rfl rfl (run_callF rfl) (fun F' hF' => rbegins_spec (F := F') hR hw hn hB) rfl ?_
  rintro _ sb ⟨rfl, hRb⟩
  obtain ⟨fs, vL, sL, bg, vK, sK, hsrt, hpm, own, hbg, ownK, hpb⟩ := hRb.open_
  have h07 := begins_07 D
  have hwb := hw.begins
  have hfl : fs.length ≤ 1000 := by have := hpm.length_eq; rw [List.length_map] at this; have := hwb.cnt; omega
  have hpos := rpos hwb.nodup hpm k
  refine Rg.pure rfl rfl rfl (Pv.assign rfl) ?_
  refine Rg.nil ?_
  refine Vc.seq ?_
  refine Vc.seq ?_
  refine Vc.text (List.range 2) (sd [(0, .pure), (1, .pure)]) rfl ?_
  refine Rg.pure rfl rfl rfl (Pv.move rfl) ?_
  refine Rg.pure rfl rfl rfl (Pv.not rfl) ?_
  refine Rg.nil ?_
  refine Vc.cond rfl (fun h14 => ?_) (fun h14 => ?_)
  ·
    have hb7 : (beginsD D).1 = 7 := h07.resolve_left (by simpa using h14)
    refine Vc.seq ?_
    refine Vc.text (List.range 1) (sd [(0, .pure)]) rfl ?_
    refine Rg.pure rfl rfl rfl (Pv.assign rfl) ?_
    refine Rg.nil ?_
    exact Vc.ret (Vc.retsH rfl (.cons (.tmp rfl) (.nil)) (⟨by rw [writeD, if_pos hb7]; rfl, by rw [writeD, if_pos hb7]; exact hRb⟩) pulled)
  ·
    have hb0 : (beginsD D).1 = 0 := by simpa using h14
    have hb7n : ¬ (beginsD D).1 = 7 := by rw [hb0]; decide
    refine Vc.perm ((List.Perm.of_eq (List.append_nil sb)).trans hpb) ?_
    refine Vc.skip ?_
    refine Vc.seq ?_
    refine Vc.text (List.range 4) (sd [(0, .pure), (1, .pure), (2, .eff), (3, .pure)]) rfl ?_
    refine Rg.pure rfl rfl rfl (Pv.move rfl) ?_
    refine Rg.pure rfl rfl rfl (Pv.move rfl) ?_
    refine Rg.callP rfl rfl rfl (run_callF rfl) (rfind_w frz_pull (Arg.own own frz_sb) (by omega) k) ?_
    rintro _ rfl
    refine Rg.pure rfl rfl rfl (Pv.assign rfl) ?_
    refine Rg.nil ?_
    refine Vc.seq ?_
    refine Vc.seq ?_
    refine Vc.text (List.range 2) (sd [(0, .pure), (1, .pure)]) rfl ?_
    refine Rg.pure rfl rfl rfl (Pv.move rfl) ?_
    refine Rg.pure rfl rfl rfl (Pv.lss rfl rfl) ?_
    refine Rg.nil ?_
    refine Vc.cond rfl (fun h19 => ?_) (fun h19 => ?_)
    ·
      have hff : findF (beginsD D).2.files k = none := by
        rcases hpos with h | ⟨j, _, hpe, _⟩
        · exact h.2
        · rw [hpe] at h19; (simp at h19 <;> omega)
      refine Vc.seq ?_
      refine Vc.text (List.range 1) (sd [(0, .pure)]) rfl ?_
      refine Rg.pure rfl rfl rfl (Pv.assign rfl) ?_
      refine Rg.nil ?_
      exact Vc.ret (Vc.retsH rfl (.cons (.tmp rfl) (.nil)) (⟨by rw [writeD, if_neg hb7n, hff]; rfl, by rw [writeD, if_neg hb7n, hff]; exact RfAt.shut (fs := fs) hsrt hpm own hbg ownK (.refl _)⟩) pulled)
    ·
      obtain ⟨j, hj, hpe, hnm, hff⟩ := hpos.resolve_left (fun h => by rw [h.1] at h19; simp at h19)
      obtain ⟨x, hx⟩ : ∃ x, fs[j]! = x := ⟨_, rfl⟩
      have hxm : x ∈ fs := by rw [← hx, getElem!_pos fs j hj]; exact List.getElem_mem _
      rw [hx] at hff hnm
      obtain ⟨bL, cL, spL, rfl, rfl, hcap, hcm⟩ := own.block (by omega)
      have hxq := hbg x hxm
      have hlf : x.now.length ≤ 1000000 ∧ x.syn.length ≤ 1000000 := hwb.fewB hB x.vw (hpm.mem_iff.2 (List.mem_map.2 ⟨x, hxm, rfl⟩))
      rw [hpe]
      have hus : (beginsD D).2.used = ((usedN (fs.map (·.vw)) : Nat) : Int) := by rw [hwb.used, usedN_perm hpm]
      have hB2 : ∀ f ∈ fs, f.now.length ≤ 1000000 := fun f hf => (hwb.fewB hB f.vw (hpm.mem_iff.2 (List.mem_map.2 ⟨f, hf, rfl⟩))).1
      refine Vc.skip ?_
      refine Vc.seq ?_
      refine Vc.text (List.range 6) (sd [(0, .pure), (1, .pure), (2, .pure), (3, .pure), (4, .eff), (5, .pure)]) rfl ?_
      refine Rg.pure rfl rfl rfl (Pv.move rfl) ?_
      refine Rg.pure rfl rfl rfl (Pv.move rfl) ?_
      refine Rg.pure rfl rfl rfl (Pv.move rfl) ?_
      refine Rg.pure rfl rfl rfl (Pv.move rfl) ?_
      refine Rg.callH rfl rfl rfl (run_callF rfl) (fun F' hF' => rwrites_spec (F := F') (rb := rb) (room := (beginsD D).2.room) (ops := (beginsD D).2.ops) (armed := (beginsD D).2.armed) (vK := vK) (down := (beginsD D).2.down) (bg := bg) (bL := bL) (cL := cL) (spL := spL) hcap hcm hfl hB2 hj hx hxq.1 at_ (hb.mono fun b o h => hF' b o (.inr h)) hbl) rfl ?_
      rintro _ sw ⟨rfl, hsw⟩
      rw [← hus] at hsw
      obtain ⟨hw1, hw2⟩ := rwritten (at_ := (some at_)) hb7n hsrt hpm hj hx hnm hff hbg ownK hcap hcm rfl hsw
      rw [← hus]
      refine Rg.pure rfl rfl rfl (Pv.assign rfl) ?_
      refine Rg.nil ?_
      exact Vc.ret (Vc.retsH rfl (.cons (.tmp rfl) (.nil)) (⟨congrArg (Value.int .i64) hw1.symm, hw2⟩) pulled)
theorem rappend_spec (hR : RfAt rb D s) (hw : Dw n B D) (hn : n < 1000) (hB : B ≤ 1000000) (k : List UInt8) {vb : Value} {bs : List UInt8} (hb : Arg byteE F vb bs) (hbl : bs.length ≤ 1000000) :
    Spec Try.prog 34 #[.pointer (some ⟨rb, 0, none⟩), kS k, vb] F s fun v s' => v = .int .i64 (writeD D k none bs).1 ∧ RfAt rb (writeD D k none bs).2 s' := by
  obtain ⟨pb, cb, rfl⟩ := hb.shape
  refine Spec.of (n := 31) (vs := [.pointer (some ⟨rb, 0, none⟩), kS k, .slice pb bs.length cb]) Try.func34 rfl Try.ntmps34 rfl ?_
  refine Vc.seq ?_
  refine Vc.text (List.range 1) (sd [(0, .pure)]) rfl ?_
  refine Rg.pure rfl rfl rfl (Pv.assign rfl) ?_
  refine Rg.nil ?_
  refine Vc.seq ?_
  refine Vc.text (List.range 3) (sd [(0, .pure), (1, .eff), (2, .pure)]) rfl ?_
  refine Rg.pure rfl rfl rfl (Pv.move rfl) ?_
  refine Rg.callH rfl rfl rfl (run_callF rfl) (fun F' hF' => rbegins_spec (F := F') hR hw hn hB) rfl ?_
  rintro _ sb ⟨rfl, hRb⟩
  obtain ⟨fs, vL, sL, bg, vK, sK, hsrt, hpm, own, hbg, ownK, hpb⟩ := hRb.open_
  have h07 := begins_07 D
  have hwb := hw.begins
  have hfl : fs.length ≤ 1000 := by have := hpm.length_eq; rw [List.length_map] at this; have := hwb.cnt; omega
  have hpos := rpos hwb.nodup hpm k
  refine Rg.pure rfl rfl rfl (Pv.assign rfl) ?_
  refine Rg.nil ?_
  refine Vc.seq ?_
  refine Vc.seq ?_
  refine Vc.text (List.range 2) (sd [(0, .pure), (1, .pure)]) rfl ?_
  refine Rg.pure rfl rfl rfl (Pv.move rfl) ?_
  refine Rg.pure rfl rfl rfl (Pv.not rfl) ?_
  refine Rg.nil ?_
  refine Vc.cond rfl (fun h12 => ?_) (fun h12 => ?_)
  ·
    have hb7 : (beginsD D).1 = 7 := h07.resolve_left (by simpa using h12)
    refine Vc.seq ?_
    refine Vc.text (List.range 1) (sd [(0, .pure)]) rfl ?_
    refine Rg.pure rfl rfl rfl (Pv.assign rfl) ?_
    refine Rg.nil ?_
    exact Vc.ret (Vc.retsH rfl (.cons (.tmp rfl) (.nil)) (⟨by rw [writeD, if_pos hb7]; rfl, by rw [writeD, if_pos hb7]; exact hRb⟩) pulled)
  ·
    have hb0 : (beginsD D).1 = 0 := by simpa using h12
    have hb7n : ¬ (beginsD D).1 = 7 := by rw [hb0]; decide
    refine Vc.perm ((List.Perm.of_eq (List.append_nil sb)).trans hpb) ?_
    refine Vc.skip ?_
    refine Vc.seq ?_
    refine Vc.text (List.range 4) (sd [(0, .pure), (1, .pure), (2, .eff), (3, .pure)]) rfl ?_
    refine Rg.pure rfl rfl rfl (Pv.move rfl) ?_
    refine Rg.pure rfl rfl rfl (Pv.move rfl) ?_
    refine Rg.callP rfl rfl rfl (run_callF rfl) (rfind_w frz_pull (Arg.own own frz_sb) (by omega) k) ?_
    rintro _ rfl
    refine Rg.pure rfl rfl rfl (Pv.assign rfl) ?_
    refine Rg.nil ?_
    refine Vc.seq ?_
    refine Vc.seq ?_
    refine Vc.text (List.range 2) (sd [(0, .pure), (1, .pure)]) rfl ?_
    refine Rg.pure rfl rfl rfl (Pv.move rfl) ?_
    refine Rg.pure rfl rfl rfl (Pv.lss rfl rfl) ?_
    refine Rg.nil ?_
    refine Vc.cond rfl (fun h17 => ?_) (fun h17 => ?_)
    ·
      have hff : findF (beginsD D).2.files k = none := by
        rcases hpos with h | ⟨j, _, hpe, _⟩
        · exact h.2
        · rw [hpe] at h17; (simp at h17 <;> omega)
      refine Vc.seq ?_
      refine Vc.text (List.range 1) (sd [(0, .pure)]) rfl ?_
      refine Rg.pure rfl rfl rfl (Pv.assign rfl) ?_
      refine Rg.nil ?_
      exact Vc.ret (Vc.retsH rfl (.cons (.tmp rfl) (.nil)) (⟨by rw [writeD, if_neg hb7n, hff]; rfl, by rw [writeD, if_neg hb7n, hff]; exact RfAt.shut (fs := fs) hsrt hpm own hbg ownK (.refl _)⟩) pulled)
    ·
      obtain ⟨j, hj, hpe, hnm, hff⟩ := hpos.resolve_left (fun h => by rw [h.1] at h17; simp at h17)
      obtain ⟨x, hx⟩ : ∃ x, fs[j]! = x := ⟨_, rfl⟩
      have hxm : x ∈ fs := by rw [← hx, getElem!_pos fs j hj]; exact List.getElem_mem _
      rw [hx] at hff hnm
      obtain ⟨bL, cL, spL, rfl, rfl, hcap, hcm⟩ := own.block (by omega)
      have hxq := hbg x hxm
      have hlf : x.now.length ≤ 1000000 ∧ x.syn.length ≤ 1000000 := hwb.fewB hB x.vw (hpm.mem_iff.2 (List.mem_map.2 ⟨x, hxm, rfl⟩))
      rw [hpe]
      have hus : (beginsD D).2.used = ((usedN (fs.map (·.vw)) : Nat) : Int) := by rw [hwb.used, usedN_perm hpm]
      have hB2 : ∀ f ∈ fs, f.now.length ≤ 1000000 := fun f hf => (hwb.fewB hB f.vw (hpm.mem_iff.2 (List.mem_map.2 ⟨f, hf, rfl⟩))).1
      refine Vc.skip ?_
      refine Vc.seq ?_
      refine Vc.text (List.range 14) (sd [(0, .pure), (1, .pure), (2, .pure), (3, .pure), (4, .pure), (5, .read), (6, .pure), (7, .pure), (8, .pure), (9, .read), (10, .pure), (11, .pure), (12, .eff), (13, .pure)]) rfl ?_
      refine Rg.pure rfl rfl rfl (Pv.move rfl) ?_
      refine Rg.pure rfl rfl rfl (Pv.move rfl) ?_
      refine Rg.pure rfl rfl rfl (Pv.move rfl) ?_
      refine Rg.pure rfl rfl rfl (Pv.nilp rfl) ?_
      refine Rg.pure rfl rfl rfl (Pv.fa rfl) ?_
      refine Rg.read rfl rfl rfl (Ev.ld rfl rfl) ?_
      refine Rg.pure rfl rfl rfl (Pv.move rfl) ?_
      refine Rg.pure rfl rfl rfl (Pv.ixA (j) rfl rfl (by omega) (by omega)) ?_
      refine Rg.pure rfl rfl rfl (Pv.fa rfl) ?_
      refine Rg.read rfl rfl rfl (Ev.ldRf (E := fileE) (u := x.vn) j 1 rfl (by rw [show fileE.k = 3 from rfl]; omega) hj (by rw [hx]; rfl)) ?_
      refine Rg.pure rfl rfl rfl (Pv.lenS rfl) ?_
      refine Rg.pure rfl rfl rfl (Pv.move rfl) ?_
      refine Rg.callH rfl rfl rfl (run_callF rfl) (fun F' hF' => rwrites_spec (F := F') (rb := rb) (room := (beginsD D).2.room) (ops := (beginsD D).2.ops) (armed := (beginsD D).2.armed) (vK := vK) (down := (beginsD D).2.down) (bg := bg) (bL := bL) (cL := cL) (spL := spL) hcap hcm hfl hB2 hj hx hxq.1 (x.now.length : Int) (hb.mono fun b o h => hF' b o (.inr h)) hbl) rfl ?_
      rintro _ sw ⟨rfl, hsw⟩
      rw [← hus] at hsw
      obtain ⟨hw1, hw2⟩ := rwritten (at_ := none) hb7n hsrt hpm hj hx hnm hff hbg ownK hcap hcm rfl hsw
      rw [← hus]
      refine Rg.pure rfl rfl rfl (Pv.assign rfl) ?_
      refine Rg.nil ?_
      exact Vc.ret (Vc.retsH rfl (.cons (.tmp rfl) (.nil)) (⟨congrArg (Value.int .i64) hw1.symm, hw2⟩) pulled)
end
end Go.Proofs.Ytmocncadncgaaaa
