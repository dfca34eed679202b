/- The document's disk: Rename. -/
import Derived.Test.YtmocncadncgaaaaRfH
namespace Go.Proofs.Ytmocncadncgaaaa
set_option linter.unusedVariables false

section
variable {F : Fm} {rb n B : Nat} {D : Dk} {s : Hl}
theorem gone_files (D : Dk) (to : List UInt8) : (goneD D to).files = cutF D.files to := by
  unfold goneD
  split
  · next h => exact (cutF_of (findF_none h)).symm
  · rfl
theorem cutF_comm (X : List (List UInt8 × Fl)) (a b : List UInt8) : cutF (cutF X a) b = cutF (cutF X b) a := by
  unfold cutF
  rw [List.filter_filter, List.filter_filter]
  exact List.filter_congr fun p _ => Bool.and_comm _ _
set_option maxHeartbeats 4000000 in
theorem rrename_spec (hR : RfAt rb D s) (hw : Dw n B D) (hn : n < 1000) (hB : B ≤ 1000000) (k to : List UInt8) :
    Spec Try.prog 39 #[.pointer (some ⟨rb, 0, none⟩), kS k, kS to] F s fun v s' => v = .int .i64 (renameD D k to).1 ∧ RfAt rb (renameD D k to).2 s' := by
  refine Spec.of (n := 49) (vs := [.pointer (some ⟨rb, 0, none⟩), kS k, kS to]) Try.func39 rfl Try.ntmps39 rfl ?_
  refine Vc.seq ?_
  refine Vc.text (List.range 1) (sd [(0, .pure)]) rfl ?_
  refine Rg.pure rfl rfl rfl (Pv.assign rfl) ?_
  refine Rg.nil ?_
  refine Vc.seq ?_
  refine Vc.text (List.range 3) (sd [(0, .pure), (1, .eff), (2, .pure)]) rfl ?_
  refine Rg.pure rfl rfl rfl (Pv.move rfl) ?_
  refine Rg.callH rfl rfl rfl (run_callF rfl) (fun F' hF' => rbegins_spec (F := F') hR hw hn hB) rfl ?_
  rintro _ sb ⟨rfl, hRb⟩
  obtain ⟨fs, vL, sL, bg, vK, sK, hsrt, hpm, own, hbg, ownK, hpb⟩ := hRb.open_
  have h07 := begins_07 D
  have hwb := hw.begins
  have hfl : fs.length ≤ 1000 := by have := hpm.length_eq; rw [List.length_map] at this; have := hwb.cnt; omega
  have hpos := rpos hwb.nodup hpm k
  refine Rg.pure rfl rfl rfl (Pv.assign rfl) ?_
  refine Rg.nil ?_
  refine Vc.seq ?_
  refine Vc.seq ?_
  refine Vc.text (List.range 2) (sd [(0, .pure), (1, .pure)]) rfl ?_
  refine Rg.pure rfl rfl rfl (Pv.move rfl) ?_
  refine Rg.pure rfl rfl rfl (Pv.not rfl) ?_
  refine Rg.nil ?_
  refine Vc.cond rfl (fun h14 => ?_) (fun h14 => ?_)
  ·
    have hb7 : (beginsD D).1 = 7 := h07.resolve_left (by simpa using h14)
    refine Vc.seq ?_
    refine Vc.text (List.range 1) (sd [(0, .pure)]) rfl ?_
    refine Rg.pure rfl rfl rfl (Pv.assign rfl) ?_
    refine Rg.nil ?_
    exact Vc.ret (Vc.retsH rfl (.cons (.tmp rfl) (.nil)) (⟨by rw [renameD, if_pos hb7]; rfl, by rw [renameD, if_pos hb7]; exact hRb⟩) pulled)
  ·
    have hb0 : (beginsD D).1 = 0 := by simpa using h14
    have hb7n : ¬ (beginsD D).1 = 7 := by rw [hb0]; decide
    refine Vc.perm ((List.Perm.of_eq (List.append_nil sb)).trans hpb) ?_
    refine Vc.skip ?_
    refine Vc.seq ?_
    refine Vc.text (List.range 4) (sd [(0, .pure), (1, .pure), (2, .eff), (3, .pure)]) rfl ?_
    refine Rg.pure rfl rfl rfl (Pv.move rfl) ?_
    refine Rg.pure rfl rfl rfl (Pv.move rfl) ?_
    refine Rg.callP rfl rfl rfl (run_callF rfl) (rfind_w frz_pull (Arg.own own frz_sb) (by omega) k) ?_
    rintro _ rfl
    refine Rg.pure rfl rfl rfl (Pv.assign rfl) ?_
    refine Rg.nil ?_
    refine Vc.seq ?_
    refine Vc.seq ?_
    refine Vc.text (List.range 2) (sd [(0, .pure), (1, .pure)]) rfl ?_
    refine Rg.pure rfl rfl rfl (Pv.move rfl) ?_
    refine Rg.pure rfl rfl rfl (Pv.lss rfl rfl) ?_
    refine Rg.nil ?_
    refine Vc.cond rfl (fun h19 => ?_) (fun h19 => ?_)
    ·
      have hff : findF (beginsD D).2.files k = none := by
        rcases hpos with h | ⟨j, _, hpe, _⟩
        · exact h.2
        · rw [hpe] at h19; (simp at h19 <;> omega)
      refine Vc.seq ?_
      refine Vc.text (List.range 1) (sd [(0, .pure)]) rfl ?_
      refine Rg.pure rfl rfl rfl (Pv.assign rfl) ?_
      refine Rg.nil ?_
      exact Vc.ret (Vc.retsH rfl (.cons (.tmp rfl) (.nil)) (⟨by rw [renameD, if_neg hb7n, hff]; rfl, by rw [renameD, if_neg hb7n, hff]; exact RfAt.shut (fs := fs) hsrt hpm own hbg ownK (.refl _)⟩) pulled)
    ·
      obtain ⟨j, hj, hpe, hnm, hff⟩ := hpos.resolve_left (fun h => by rw [h.1] at h19; simp at h19)
      obtain ⟨x, hx⟩ : ∃ x, fs[j]! = x := ⟨_, rfl⟩
      have hxm : x ∈ fs := by rw [← hx, getElem!_pos fs j hj]; exact List.getElem_mem _
      rw [hx] at hff hnm
      obtain ⟨bL, cL, spL, rfl, rfl, hcap, hcm⟩ := own.block (by omega)
      have hxq := hbg x hxm
      have hlf : x.now.length ≤ 1000000 ∧ x.syn.length ≤ 1000000 := hwb.fewB hB x.vw (hpm.mem_iff.2 (List.mem_map.2 ⟨x, hxm, rfl⟩))
      rw [hpe]
      refine Vc.skip ?_
      refine Vc.seq ?_
      refine Vc.seq ?_
      refine Vc.text (List.range 3) (sd [(0, .pure), (1, .eff), (2, .pure)]) rfl ?_
      refine Rg.pure rfl rfl rfl (Pv.move rfl) ?_
      refine Rg.callP rfl rfl rfl (run_callF rfl) (rmay_spec _ ⟨to.toArray⟩) ?_
      rintro _ rfl
      refine Rg.pure rfl rfl rfl (Pv.not rfl) ?_
      refine Rg.nil ?_
      refine Vc.cond rfl (fun h22 => ?_) (fun h22 => ?_)
      ·
        have hmy : mayN ⟨to.toArray⟩ = false := by simpa using h22
        refine Vc.seq ?_
        refine Vc.text (List.range 1) (sd [(0, .pure)]) rfl ?_
        refine Rg.pure rfl rfl rfl (Pv.assign rfl) ?_
        refine Rg.nil ?_
        exact Vc.ret (Vc.retsH rfl (.cons (.tmp rfl) (.nil)) (⟨by rw [renameD, if_neg hb7n, hff]; simp only []; rw [if_pos hmy]; rfl, by rw [renameD, if_neg hb7n, hff]; simp only []; rw [if_pos hmy]; exact RfAt.shut (fs := fs) hsrt hpm own hbg ownK (.refl _)⟩) pulled)
      ·
        have hmy : mayN ⟨to.toArray⟩ = true := by simpa using h22
        have hmn : ¬ mayN ⟨to.toArray⟩ = false := by rw [hmy]; decide
        refine Vc.skip ?_
        refine Vc.seq ?_
        refine Vc.seq ?_
        refine Vc.text (List.range 3) (sd [(0, .pure), (1, .pure), (2, .pure)]) rfl ?_
        refine Rg.pure rfl rfl rfl (Pv.move rfl) ?_
        refine Rg.pure rfl rfl rfl (Pv.move rfl) ?_
        refine Rg.pure rfl rfl rfl (Pv.as (.bool (decide (k = to))) (Pv.eqlS (p := ⟨k.toArray⟩) (q := ⟨to.toArray⟩) rfl rfl) (congrArg Value.bool (bytes_dec _ _))) ?_
        refine Rg.nil ?_
        refine Vc.cond rfl (fun h25 => ?_) (fun h25 => ?_)
        ·
          have hkt : k = to := of_decide_eq_true h25
          refine Vc.seq ?_
          refine Vc.text (List.range 1) (sd [(0, .pure)]) rfl ?_
          refine Rg.pure rfl rfl rfl (Pv.assign rfl) ?_
          refine Rg.nil ?_
          exact Vc.ret (Vc.retsH rfl (.cons (.tmp rfl) (.nil)) (⟨by rw [renameD, if_neg hb7n, hff]; simp only []; rw [if_neg hmn, if_pos hkt]; rfl, by rw [renameD, if_neg hb7n, hff]; simp only []; rw [if_neg hmn, if_pos hkt]; exact RfAt.shut (fs := fs) hsrt hpm own hbg ownK (.refl _)⟩) pulled)
        ·
          have hkt : ¬ k = to := of_decide_eq_false h25
          refine Vc.skip ?_
          refine Vc.seq ?_
          refine Vc.text (List.range 9) (sd [(0, .pure), (1, .pure), (2, .pure), (3, .read), (4, .pure), (5, .pure), (6, .read), (7, .eff), (8, .eff)]) rfl ?_
          refine Rg.pure rfl rfl rfl (Pv.move rfl) ?_
          refine Rg.pure rfl rfl rfl (Pv.nilp rfl) ?_
          refine Rg.pure rfl rfl rfl (Pv.fa rfl) ?_
          refine Rg.read rfl rfl rfl (Ev.ld rfl rfl) ?_
          refine Rg.pure rfl rfl rfl (Pv.move rfl) ?_
          refine Rg.pure rfl rfl rfl (Pv.ixA (j) rfl rfl (by omega) (by omega)) ?_
          refine Rg.read rfl rfl rfl (Ev.as (fvV x) (Ev.ldR (E := fileE) j rfl (Nat.zero_add _) hj) (congrArg fvV hx)) ?_
          refine Rg.alloc rfl rfl rfl rfl (fun b9 => ?_)
          refine Rg.storeA rfl rfl rfl rfl rfl rfl rfl rfl ?_
          refine Rg.nil ?_
          refine Vc.seq ?_
          refine Vc.text (List.range 3) (sd [(0, .pure), (1, .pure), (2, .eff)]) rfl ?_
          refine Rg.pure rfl rfl rfl (Pv.move rfl) ?_
          refine Rg.pure rfl rfl rfl (Pv.move rfl) ?_
          refine Rg.callH rfl rfl rfl (run_callF rfl) (fun F' hF' => rcut_spec (F := F') (rb := rb) (room := (beginsD D).2.room) (ops := (beginsD D).2.ops) (armed := (beginsD D).2.armed) (vK := vK) (down := (beginsD D).2.down) own hfl j hj) rfl ?_
          rintro _ _ ⟨vL2, sL2, rfl, own2⟩
          simp only [List.cons_append, List.append_assoc, List.nil_append]
          have hct := cut_fs (k := k) hsrt hpm hj (by rw [hx]; exact hnm)
          have hgl : (fs.take j ++ fs.drop (j + 1)).length ≤ 1000 := by simp; omega
          have hgf : ∀ f ∈ fs.take j ++ fs.drop (j + 1), f ∈ fs := fun f hf => by
            rcases List.mem_append.1 hf with h | h
            · exact List.mem_of_mem_take h
            · exact List.mem_of_mem_drop h
          generalize fs.take j ++ fs.drop (j + 1) = gs at own2 hct hgl hgf
          have hpos2 := rpos (cutF_nodup (k := k) hwb.nodup) hct.1 to
          refine Rg.nil ?_
          refine Vc.seq ?_
          refine Vc.text (List.range 4) (sd [(0, .pure), (1, .pure), (2, .eff), (3, .pure)]) rfl ?_
          refine Rg.pure rfl rfl rfl (Pv.move rfl) ?_
          refine Rg.pure rfl rfl rfl (Pv.move rfl) ?_
          refine Rg.callP rfl rfl rfl (run_callF rfl) (rfind_w frz_pull (Arg.own own2 frz_sb) (by omega) to) ?_
          rintro _ rfl
          refine Rg.pure rfl rfl rfl (Pv.assign rfl) ?_
          refine Rg.nil ?_
          refine Vc.seq ?_
          refine Vc.seq ?_
          refine Vc.text (List.range 2) (sd [(0, .pure), (1, .pure)]) rfl ?_
          refine Rg.pure rfl rfl rfl (Pv.move rfl) ?_
          refine Rg.pure rfl rfl rfl (Pv.geq rfl rfl) ?_
          refine Rg.nil ?_
          refine Vc.cut3 (fun (us : List Fv) (v3 : Value) (s3 : Hl) => Own fileE v3 us s3 ∧ Srt us ∧ (cutF (cutF (beginsD D).2.files k) to).Perm (us.map (·.vw)) ∧ (∀ f ∈ us, f ∈ fs) ∧ us.length ≤ 1000) (fun us v3 s3 => [(0, .pointer (some ⟨rb, 0, none⟩)), (2, kS to), (9, .pointer (some ⟨b9, 0, none⟩))]) (fun us v3 s3 => (b9, cellsO (fvC x) 99) :: (rb, rfO (beginsD D).2.room v3 (beginsD D).2.ops (beginsD D).2.armed vK (beginsD D).2.down) :: (s3 ++ (bg ++ sK))) ?_ ?_
          ·
            refine Vc.cond rfl (fun h40 => ?_) (fun h40 => ?_)
            ·
              obtain ⟨j2, hj2, hpe2, hnm2, hff2⟩ := hpos2.resolve_left (fun h => by rw [h.1] at h40; simp at h40)
              rw [hpe2]
              have hct2 := cut_fs hct.2 hct.1 hj2 hnm2
              refine Vc.text (List.range 3) (sd [(0, .pure), (1, .pure), (2, .eff)]) rfl ?_
              refine Rg.pure rfl rfl rfl (Pv.move rfl) ?_
              refine Rg.pure rfl rfl rfl (Pv.move rfl) ?_
              refine Rg.callH rfl rfl rfl (run_callF rfl) (fun F' hF' => rcut_spec (F := F') (rb := rb) (room := (beginsD D).2.room) (ops := (beginsD D).2.ops) (armed := (beginsD D).2.armed) (vK := vK) (down := (beginsD D).2.down) own2 hgl j2 hj2) rfl ?_
              rintro _ _ ⟨vL3, sL3, rfl, own3⟩
              simp only [List.cons_append, List.append_assoc, List.nil_append]
              refine Rg.nil ?_
              exact Vc.inv3 _ vL3 sL3 ⟨own3, hct2.2, hct2.1, fun f hf => by
                rcases List.mem_append.1 hf with h | h
                · exact hgf f (List.mem_of_mem_take h)
                · exact hgf f (List.mem_of_mem_drop h), by simp; omega⟩ (.cons rfl (.cons rfl (.cons rfl .nil))) pulled
            ·
              have hff2 : findF (cutF (beginsD D).2.files k) to = none := by
                rcases hpos2 with h | ⟨j2, _, hpe2, _⟩
                · exact h.2
                · rw [hpe2] at h40; (simp at h40 <;> omega)
              refine Vc.skip ?_
              exact Vc.inv3 gs vL2 sL2 ⟨own2, hct.2, by rw [cutF_of (findF_none hff2)]; exact hct.1, hgf, hgl⟩ (.cons rfl (.cons rfl (.cons rfl .nil))) pulled
          ·
            rintro us v3 s3 ⟨own3, hsrt3, hpm3, huf, hul⟩
            have hno : ∀ f ∈ us, f.nm ≠ to := fun f hf e => by
              have := hpm3.mem_iff.2 (List.mem_map.2 ⟨f, hf, rfl⟩)
              have h2 := (List.mem_filter.1 this).2
              simp [e] at h2
            have hrd : renameD D k to = (0, { goneD (beginsD D).2 to with files := cutF (goneD (beginsD D).2 to).files k ++ [(to, ⟨x.now, x.syn⟩)] }) := by rw [renameD, if_neg hb7n, hff]; simp only []; rw [if_neg hmn, if_neg hkt]
            refine Vc.seq ?_
            refine Vc.text (List.range 3) (sd [(0, .pure), (1, .pure), (2, .eff)]) rfl ?_
            refine Rg.pure rfl rfl rfl (Pv.move rfl) ?_
            refine Rg.pure rfl rfl rfl (Pv.fa rfl) ?_
            refine Rg.store rfl rfl rfl rfl rfl rfl rfl rfl ?_
            refine Rg.nil ?_
            refine Vc.seq ?_
            refine Vc.text (List.range 3) (sd [(0, .pure), (1, .read), (2, .eff)]) rfl ?_
            refine Rg.pure rfl rfl rfl (Pv.move rfl) ?_
            refine Rg.read rfl rfl rfl (Ev.as (fvV (⟨to, x.now, x.syn, x.p, x.c, x.q, x.e⟩ : Fv)) (Ev.ldA rfl rfl) rfl) ?_
            refine Rg.callH rfl rfl rfl (run_callF rfl) (fun F' hF' => rputs_spec (F := F') (rb := rb) (room := (beginsD D).2.room) (ops := (beginsD D).2.ops) (armed := (beginsD D).2.armed) (vK := vK) (down := (beginsD D).2.down) own3 hul (⟨to, x.now, x.syn, x.p, x.c, x.q, x.e⟩ : Fv)) rfl ?_
            rintro _ _ ⟨m, vL4, sL4, hm, hlt, hge, rfl, own4⟩
            simp only [List.cons_append, List.append_assoc, List.nil_append]
            have hpt := puts_fs (y := (⟨to, x.now, x.syn, x.p, x.c, x.q, x.e⟩ : Fv)) hsrt3 hm hlt hge hno
            refine Rg.nil ?_
            refine Vc.seq ?_
            refine Vc.text (List.range 1) (sd [(0, .pure)]) rfl ?_
            refine Rg.pure rfl rfl rfl (Pv.assign rfl) ?_
            refine Rg.nil ?_
            exact Vc.ret (Vc.retsH (hl' := (rb, rfO (beginsD D).2.room vL4 (beginsD D).2.ops (beginsD D).2.armed vK (beginsD D).2.down) :: (sL4 ++ (bg ++ sK))) rfl (.cons (.tmp rfl) .nil) ⟨by rw [hrd]; rfl, by
              rw [hrd]
              have hg : (goneD (beginsD D).2 to).room = (beginsD D).2.room ∧ (goneD (beginsD D).2 to).ops = (beginsD D).2.ops ∧ (goneD (beginsD D).2 to).armed = (beginsD D).2.armed ∧ (goneD (beginsD D).2 to).keep = (beginsD D).2.keep ∧ (goneD (beginsD D).2 to).down = (beginsD D).2.down := by unfold goneD; split <;> simp
              refine RfAt.shut (fs := us.take m ++ (⟨to, x.now, x.syn, x.p, x.c, x.q, x.e⟩ : Fv) :: us.drop m) (vL := vL4) (sL := sL4) (vK := vK) (sK := sK) (bg := bg) hpt.2 ?_ own4 (fun f hf => ?_) (by show Own boolE vK (goneD (beginsD D).2 to).keep sK; rw [hg.2.2.2.1]; exact ownK) ?_
              · show (cutF (goneD (beginsD D).2 to).files k ++ [(to, (⟨x.now, x.syn⟩ : Fl))]).Perm _
                rw [gone_files, cutF_comm]
                exact (hpm3.append_right _).trans hpt.1
              · rcases List.mem_append.1 hf with hf | hf
                · exact hbg f (huf f (List.mem_of_mem_take hf))
                · rcases List.mem_cons.1 hf with rfl | hf
                  · exact (show ArgIn bg x.vn x.now ∧ ArgIn bg x.vs x.syn from hbg x hxm)
                  · exact hbg f (huf f (List.mem_of_mem_drop hf))
              · show List.Perm _ ((rb, rfO (goneD (beginsD D).2 to).room vL4 (goneD (beginsD D).2 to).ops (goneD (beginsD D).2 to).armed vK (goneD (beginsD D).2 to).down) :: _)
                rw [hg.1, hg.2.1, hg.2.2.1, hg.2.2.2.2]⟩ pulled)
end
end Go.Proofs.Ytmocncadncgaaaa
