/- The document's disk: Remove, ReadAt, List, Arm. -/
import Derived.Test.YtmocncadncgaaaaRfE
namespace Go.Proofs.Ytmocncadncgaaaa
set_option linter.unusedVariables false

section
variable {F : Fm} {rb n B : Nat} {D : Dk} {s : Hl}
theorem rremove_spec (hR : RfAt rb D s) (hw : Dw n B D) (hn : n < 1000) (hB : B ≤ 1000000) (k : List UInt8) :
    Spec Try.prog 40 #[.pointer (some ⟨rb, 0, none⟩), kS k] F s fun v s' => v = .int .i64 (removeD D k).1 ∧ RfAt rb (removeD D k).2 s' := by
  refine Spec.of (n := 19) (vs := [.pointer (some ⟨rb, 0, none⟩), kS k]) Try.func40 rfl Try.ntmps40 rfl ?_
  refine Vc.seq ?_
  refine Vc.text (List.range 1) (sd [(0, .pure)]) rfl ?_
  refine Rg.pure rfl rfl rfl (Pv.assign rfl) ?_
  refine Rg.nil ?_
  refine Vc.seq ?_
  refine Vc.text (List.range 3) (sd [(0, .pure), (1, .eff), (2, .pure)]) rfl ?_
  refine Rg.pure rfl rfl rfl (Pv.move rfl) ?_
  refine Rg.callH rfl rfl rfl (run_callF rfl) (fun F' hF' => rbegins_spec (F := F') hR hw hn hB) rfl ?_
  rintro _ sb ⟨rfl, hRb⟩
  obtain ⟨fs, vL, sL, bg, vK, sK, hsrt, hpm, own, hbg, ownK, hpb⟩ := hRb.open_
  have h07 := begins_07 D
  have hwb := hw.begins
  have hfl : fs.length ≤ 1000 := by have := hpm.length_eq; rw [List.length_map] at this; have := hwb.cnt; omega
  have hpos := rpos hwb.nodup hpm k
  refine Rg.pure rfl rfl rfl (Pv.assign rfl) ?_
  refine Rg.nil ?_
  refine Vc.seq ?_
  refine Vc.seq ?_
  refine Vc.text (List.range 2) (sd [(0, .pure), (1, .pure)]) rfl ?_
  refine Rg.pure rfl rfl rfl (Pv.move rfl) ?_
  refine Rg.pure rfl rfl rfl (Pv.not rfl) ?_
  refine Rg.nil ?_
  refine Vc.cond rfl (fun h10 => ?_) (fun h10 => ?_)
  ·
    have hb7 : (beginsD D).1 = 7 := h07.resolve_left (by simpa using h10)
    refine Vc.seq ?_
    refine Vc.text (List.range 1) (sd [(0, .pure)]) rfl ?_
    refine Rg.pure rfl rfl rfl (Pv.assign rfl) ?_
    refine Rg.nil ?_
    exact Vc.ret (Vc.retsH rfl (.cons (.tmp rfl) (.nil)) (⟨by rw [removeD, if_pos hb7]; rfl, by rw [removeD, if_pos hb7]; exact hRb⟩) pulled)
  ·
    have hb0 : (beginsD D).1 = 0 := by simpa using h10
    have hb7n : ¬ (beginsD D).1 = 7 := by rw [hb0]; decide
    refine Vc.perm ((List.Perm.of_eq (List.append_nil sb)).trans hpb) ?_
    refine Vc.skip ?_
    refine Vc.seq ?_
    refine Vc.text (List.range 4) (sd [(0, .pure), (1, .pure), (2, .eff), (3, .pure)]) rfl ?_
    refine Rg.pure rfl rfl rfl (Pv.move rfl) ?_
    refine Rg.pure rfl rfl rfl (Pv.move rfl) ?_
    refine Rg.callP rfl rfl rfl (run_callF rfl) (rfind_w frz_pull (Arg.own own frz_sb) (by omega) k) ?_
    rintro _ rfl
    refine Rg.pure rfl rfl rfl (Pv.assign rfl) ?_
    refine Rg.nil ?_
    refine Vc.seq ?_
    refine Vc.seq ?_
    refine Vc.text (List.range 2) (sd [(0, .pure), (1, .pure)]) rfl ?_
    refine Rg.pure rfl rfl rfl (Pv.move rfl) ?_
    refine Rg.pure rfl rfl rfl (Pv.lss rfl rfl) ?_
    refine Rg.nil ?_
    refine Vc.cond rfl (fun h15 => ?_) (fun h15 => ?_)
    ·
      have hff : findF (beginsD D).2.files k = none := by
        rcases hpos with h | ⟨j, _, hpe, _⟩
        · exact h.2
        · rw [hpe] at h15; (simp at h15 <;> omega)
      refine Vc.seq ?_
      refine Vc.text (List.range 1) (sd [(0, .pure)]) rfl ?_
      refine Rg.pure rfl rfl rfl (Pv.assign rfl) ?_
      refine Rg.nil ?_
      exact Vc.ret (Vc.retsH rfl (.cons (.tmp rfl) (.nil)) (⟨by rw [removeD, if_neg hb7n, hff]; rfl, by rw [removeD, if_neg hb7n, hff]; exact RfAt.shut (fs := fs) hsrt hpm own hbg ownK (.refl _)⟩) pulled)
    ·
      obtain ⟨j, hj, hpe, hnm, hff⟩ := hpos.resolve_left (fun h => by rw [h.1] at h15; simp at h15)
      rw [hpe]
      have hrd : removeD D k = (0, goneD (beginsD D).2 k) := by rw [removeD, if_neg hb7n, hff]
      have hgd : goneD (beginsD D).2 k = { (beginsD D).2 with files := cutF (beginsD D).2.files k, used := (beginsD D).2.used - (secs fs[j]!.now.length : Nat) } := by rw [goneD, hff]
      have hct := cut_fs hsrt hpm hj hnm
      refine Vc.skip ?_
      refine Vc.seq ?_
      refine Vc.text (List.range 3) (sd [(0, .pure), (1, .pure), (2, .eff)]) rfl ?_
      refine Rg.pure rfl rfl rfl (Pv.move rfl) ?_
      refine Rg.pure rfl rfl rfl (Pv.move rfl) ?_
      refine Rg.callH rfl rfl rfl (run_callF rfl) (fun F' hF' => rcut_spec (F := F') (rb := rb) (room := (beginsD D).2.room) (ops := (beginsD D).2.ops) (armed := (beginsD D).2.armed) (vK := vK) (down := (beginsD D).2.down) own hfl j hj) rfl ?_
      rintro _ _ ⟨vL2, sL2, rfl, own2⟩
      refine Rg.nil ?_
      refine Vc.seq ?_
      refine Vc.text (List.range 1) (sd [(0, .pure)]) rfl ?_
      refine Rg.pure rfl rfl rfl (Pv.assign rfl) ?_
      refine Rg.nil ?_
      exact Vc.ret (Vc.retsH (hl' := (rb, rfO (beginsD D).2.room vL2 (beginsD D).2.ops (beginsD D).2.armed vK (beginsD D).2.down) :: (sL2 ++ (bg ++ sK))) rfl (.cons (.tmp rfl) .nil) ⟨by rw [hrd]; rfl, by
        rw [hrd, hgd]
        exact RfAt.shut (D := { (beginsD D).2 with files := cutF (beginsD D).2.files k, used := (beginsD D).2.used - (secs fs[j]!.now.length : Nat) }) (bg := bg) hct.2 hct.1 own2 (fun f hf => by
          rcases List.mem_append.1 hf with hf | hf
          · exact hbg f (List.mem_of_mem_take hf)
          · exact hbg f (List.mem_of_mem_drop hf)) ownK (.refl _)⟩ pulled)
theorem rread_spec (hR : RfAt rb D s) (hw : Dw n B D) (hn : n < 1000) (hB : B ≤ 1000000) (k : List UInt8) (at_ q : Int) :
    Spec Try.prog 36 #[.pointer (some ⟨rb, 0, none⟩), kS k, .int .i64 at_, .int .i64 q] F s fun v s' => ∃ u s1 s2, v = .tuple #[u, .int .i64 (readD D k at_ q).2] ∧ Own byteE u (readD D k at_ q).1 s1 ∧ RfAt rb (beginsD D).2 s2 ∧ s' = s1 ++ s2 := by
  refine Spec.of (n := 58) (vs := [.pointer (some ⟨rb, 0, none⟩), kS k, .int .i64 at_, .int .i64 q]) Try.func36 rfl Try.ntmps36 rfl ?_
  refine Vc.seq ?_
  refine Vc.text (List.range 2) (sd [(0, .pure), (1, .pure)]) rfl ?_
  refine Rg.pure rfl rfl rfl (Pv.assign rfl) ?_
  refine Rg.pure rfl rfl rfl (Pv.assign rfl) ?_
  refine Rg.nil ?_
  refine Vc.seq ?_
  refine Vc.text (List.range 3) (sd [(0, .pure), (1, .eff), (2, .pure)]) rfl ?_
  refine Rg.pure rfl rfl rfl (Pv.move rfl) ?_
  refine Rg.callH rfl rfl rfl (run_callF rfl) (fun F' hF' => rbegins_spec (F := F') hR hw hn hB) rfl ?_
  rintro _ sb ⟨rfl, hRb⟩
  obtain ⟨fs, vL, sL, bg, vK, sK, hsrt, hpm, own, hbg, ownK, hpb⟩ := hRb.open_
  have h07 := begins_07 D
  have hwb := hw.begins
  have hfl : fs.length ≤ 1000 := by have := hpm.length_eq; rw [List.length_map] at this; have := hwb.cnt; omega
  have hpos := rpos hwb.nodup hpm k
  refine Rg.pure rfl rfl rfl (Pv.assign rfl) ?_
  refine Rg.nil ?_
  refine Vc.seq ?_
  refine Vc.seq ?_
  refine Vc.text (List.range 2) (sd [(0, .pure), (1, .pure)]) rfl ?_
  refine Rg.pure rfl rfl rfl (Pv.move rfl) ?_
  refine Rg.pure rfl rfl rfl (Pv.not rfl) ?_
  refine Rg.nil ?_
  refine Vc.cond rfl (fun h16 => ?_) (fun h16 => ?_)
  ·
    have hb7 : (beginsD D).1 = 7 := h07.resolve_left (by simpa using h16)
    refine Vc.seq ?_
    refine Vc.text (List.range 2) (sd [(0, .pure), (1, .pure)]) rfl ?_
    refine Rg.pure rfl rfl rfl (Pv.assign rfl) ?_
    refine Rg.pure rfl rfl rfl (Pv.assign rfl) ?_
    refine Rg.nil ?_
    exact Vc.ret (Vc.retsH rfl (.cons (.tmp rfl) (.cons (.tmp rfl) (.nil))) (⟨.slice none 0 0, [], sb, by rw [readD, if_pos hb7]; rfl, by rw [readD, if_pos hb7]; exact Own.nil, hRb, rfl⟩) pulled)
  ·
    have hb0 : (beginsD D).1 = 0 := by simpa using h16
    have hb7n : ¬ (beginsD D).1 = 7 := by rw [hb0]; decide
    refine Vc.perm ((List.Perm.of_eq (List.append_nil sb)).trans hpb) ?_
    refine Vc.skip ?_
    refine Vc.seq ?_
    refine Vc.text (List.range 4) (sd [(0, .pure), (1, .pure), (2, .eff), (3, .pure)]) rfl ?_
    refine Rg.pure rfl rfl rfl (Pv.move rfl) ?_
    refine Rg.pure rfl rfl rfl (Pv.move rfl) ?_
    refine Rg.callP rfl rfl rfl (run_callF rfl) (rfind_w frz_pull (Arg.own own frz_sb) (by omega) k) ?_
    rintro _ rfl
    refine Rg.pure rfl rfl rfl (Pv.assign rfl) ?_
    refine Rg.nil ?_
    refine Vc.seq ?_
    refine Vc.seq ?_
    refine Vc.text (List.range 2) (sd [(0, .pure), (1, .pure)]) rfl ?_
    refine Rg.pure rfl rfl rfl (Pv.move rfl) ?_
    refine Rg.pure rfl rfl rfl (Pv.lss rfl rfl) ?_
    refine Rg.nil ?_
    refine Vc.cond rfl (fun h21 => ?_) (fun h21 => ?_)
    ·
      have hff : findF (beginsD D).2.files k = none := by
        rcases hpos with h | ⟨j, _, hpe, _⟩
        · exact h.2
        · rw [hpe] at h21; (simp at h21 <;> omega)
      refine Vc.seq ?_
      refine Vc.text (List.range 2) (sd [(0, .pure), (1, .pure)]) rfl ?_
      refine Rg.pure rfl rfl rfl (Pv.assign rfl) ?_
      refine Rg.pure rfl rfl rfl (Pv.assign rfl) ?_
      refine Rg.nil ?_
      exact Vc.ret (Vc.retsH rfl (.cons (.tmp rfl) (.cons (.tmp rfl) (.nil))) (⟨.slice none 0 0, [], _, by rw [readD, if_neg hb7n, hff]; rfl, by rw [readD, if_neg hb7n, hff]; exact Own.nil, RfAt.shut (fs := fs) hsrt hpm own hbg ownK (.refl _), rfl⟩) pulled)
    ·
      obtain ⟨j, hj, hpe, hnm, hff⟩ := hpos.resolve_left (fun h => by rw [h.1] at h21; simp at h21)
      obtain ⟨x, hx⟩ : ∃ x, fs[j]! = x := ⟨_, rfl⟩
      have hxm : x ∈ fs := by rw [← hx, getElem!_pos fs j hj]; exact List.getElem_mem _
      rw [hx] at hff hnm
      obtain ⟨bL, cL, spL, rfl, rfl, hcap, hcm⟩ := own.block (by omega)
      have hxq := hbg x hxm
      have hlf : x.now.length ≤ 1000000 ∧ x.syn.length ≤ 1000000 := hwb.fewB hB x.vw (hpm.mem_iff.2 (List.mem_map.2 ⟨x, hxm, rfl⟩))
      refine Vc.skip ?_
      refine Vc.seq ?_
      refine Vc.text (List.range 9) (sd [(0, .pure), (1, .pure), (2, .pure), (3, .read), (4, .pure), (5, .pure), (6, .pure), (7, .read), (8, .pure)]) rfl ?_
      refine Rg.pure rfl rfl rfl (Pv.move rfl) ?_
      refine Rg.pure rfl rfl rfl (Pv.nilp rfl) ?_
      refine Rg.pure rfl rfl rfl (Pv.fa rfl) ?_
      refine Rg.read rfl rfl rfl (Ev.ld rfl rfl) ?_
      refine Rg.pure rfl rfl rfl (Pv.move rfl) ?_
      refine Rg.pure rfl rfl rfl (Pv.ixA (j) rfl rfl (by omega) (by omega)) ?_
      refine Rg.pure rfl rfl rfl (Pv.fa rfl) ?_
      refine Rg.read rfl rfl rfl (Ev.ldRf (E := fileE) (u := x.vn) j 1 rfl (by rw [show fileE.k = 3 from rfl]; omega) hj (by rw [hx]; rfl)) ?_
      refine Rg.pure rfl rfl rfl (Pv.assign rfl) ?_
      refine Rg.nil ?_
      refine Vc.seq ?_
      refine Vc.seq ?_
      refine Vc.cut1 (fun (mb : Bool) => mb = true ↔ (at_ < 0 ∨ q < 0 ∨ (x.now.length : Int) < at_ ∨ (x.now.length : Int) - at_ < q)) (fun mb => [(49, .bool mb), (2, .int .i64 at_), (3, .int .i64 q), (12, x.vn)]) (fun mb => (rb, rfO (beginsD D).2.room (.slice (some ⟨bL, 0, none⟩) fs.length cL) (beginsD D).2.ops (beginsD D).2.armed vK (beginsD D).2.down) :: (bL, rowS fileE fs spL) :: (bg ++ sK)) ?_ ?_
      ·
        refine Vc.text (List.range 20) (sd [(0, .pure), (1, .pure), (2, .pure), (3, .pure), (4, .pure), (5, .pure), (6, .pure), (7, .pure), (8, .pure), (9, .pure), (10, .pure), (11, .pure), (12, .pure), (13, .pure), (14, .pure), (15, .pure), (16, .pure), (17, .pure), (18, .pure), (19, .pure)]) rfl ?_
        refine Rg.pure rfl rfl rfl (Pv.move rfl) ?_
        refine Rg.pure rfl rfl rfl (Pv.lss rfl rfl) ?_
        refine Rg.pure rfl rfl rfl (Pv.move rfl) ?_
        refine Rg.split (t := 32) rfl (fun h32 => ?_) (fun h32 => ?_)
        ·
          simp only [decide_eq_true_eq] at h32
          iterate 2 (first | refine Rg.skipP rfl rfl rfl ?_ | refine Rg.skipR rfl rfl rfl ?_ | refine Rg.skipE rfl rfl rfl ?_)
          refine Rg.pure rfl rfl rfl (Pv.pickT rfl rfl) ?_
          refine Rg.pure rfl rfl rfl (Pv.move rfl) ?_
          iterate 4 (first | refine Rg.skipP rfl rfl rfl ?_ | refine Rg.skipR rfl rfl rfl ?_ | refine Rg.skipE rfl rfl rfl ?_)
          refine Rg.pure rfl rfl rfl (Pv.pickT rfl rfl) ?_
          refine Rg.pure rfl rfl rfl (Pv.move rfl) ?_
          iterate 6 (first | refine Rg.skipP rfl rfl rfl ?_ | refine Rg.skipR rfl rfl rfl ?_ | refine Rg.skipE rfl rfl rfl ?_)
          refine Rg.pure rfl rfl rfl (Pv.pickT rfl rfl) ?_
          refine Rg.nil ?_
          exact Vc.inv1 true ⟨fun _ => by omega, fun _ => rfl⟩ (.cons rfl (.cons rfl (.cons rfl (.cons rfl .nil)))) pulled
        ·
          simp only [decide_eq_false_iff_not] at h32
          refine Rg.pure rfl rfl rfl (Pv.move rfl) ?_
          refine Rg.pure rfl rfl rfl (Pv.lss rfl rfl) ?_
          refine Rg.pure rfl rfl rfl (Pv.pickF rfl rfl) ?_
          refine Rg.pure rfl rfl rfl (Pv.move rfl) ?_
          refine Rg.split (t := 36) rfl (fun h36 => ?_) (fun h36 => ?_)
          ·
            simp only [decide_eq_true_eq] at h36
            iterate 4 (first | refine Rg.skipP rfl rfl rfl ?_ | refine Rg.skipR rfl rfl rfl ?_ | refine Rg.skipE rfl rfl rfl ?_)
            refine Rg.pure rfl rfl rfl (Pv.pickT rfl rfl) ?_
            refine Rg.pure rfl rfl rfl (Pv.move rfl) ?_
            iterate 6 (first | refine Rg.skipP rfl rfl rfl ?_ | refine Rg.skipR rfl rfl rfl ?_ | refine Rg.skipE rfl rfl rfl ?_)
            refine Rg.pure rfl rfl rfl (Pv.pickT rfl rfl) ?_
            refine Rg.nil ?_
            exact Vc.inv1 true ⟨fun _ => by omega, fun _ => rfl⟩ (.cons rfl (.cons rfl (.cons rfl (.cons rfl .nil)))) pulled
          ·
            simp only [decide_eq_false_iff_not] at h36
            refine Rg.pure rfl rfl rfl (Pv.move rfl) ?_
            refine Rg.pure rfl rfl rfl (Pv.move rfl) ?_
            refine Rg.pure rfl rfl rfl (Pv.lenS rfl) ?_
            refine Rg.pure rfl rfl rfl (Pv.gtr rfl rfl) ?_
            refine Rg.pure rfl rfl rfl (Pv.pickF rfl rfl) ?_
            refine Rg.pure rfl rfl rfl (Pv.move rfl) ?_
            refine Rg.split (t := 42) rfl (fun h42 => ?_) (fun h42 => ?_)
            ·
              simp only [decide_eq_true_eq] at h42
              iterate 6 (first | refine Rg.skipP rfl rfl rfl ?_ | refine Rg.skipR rfl rfl rfl ?_ | refine Rg.skipE rfl rfl rfl ?_)
              refine Rg.pure rfl rfl rfl (Pv.pickT rfl rfl) ?_
              refine Rg.nil ?_
              exact Vc.inv1 true ⟨fun _ => by omega, fun _ => rfl⟩ (.cons rfl (.cons rfl (.cons rfl (.cons rfl .nil)))) pulled
            ·
              simp only [decide_eq_false_iff_not] at h42
              refine Rg.pure rfl rfl rfl (Pv.move rfl) ?_
              refine Rg.pure rfl rfl rfl (Pv.move rfl) ?_
              refine Rg.pure rfl rfl rfl (Pv.lenS rfl) ?_
              refine Rg.pure rfl rfl rfl (Pv.move rfl) ?_
              refine Rg.pure rfl rfl rfl (Pv.sub rfl rfl (by omega)) ?_
              refine Rg.pure rfl rfl rfl (Pv.gtr rfl rfl) ?_
              refine Rg.pure rfl rfl rfl (Pv.pickF rfl rfl) ?_
              refine Rg.nil ?_
              exact Vc.inv1 _ ⟨fun h => by have := of_decide_eq_true h; omega, fun h => decide_eq_true (by omega)⟩ (.cons rfl (.cons rfl (.cons rfl (.cons rfl .nil)))) pulled
      ·
        rintro mb hmb
        refine Vc.cond rfl (fun h49 => ?_) (fun h49 => ?_)
        ·
          have hm := hmb.1 h49
          refine Vc.seq ?_
          refine Vc.text (List.range 2) (sd [(0, .pure), (1, .pure)]) rfl ?_
          refine Rg.pure rfl rfl rfl (Pv.assign rfl) ?_
          refine Rg.pure rfl rfl rfl (Pv.assign rfl) ?_
          refine Rg.nil ?_
          exact Vc.ret (Vc.retsH rfl (.cons (.tmp rfl) (.cons (.tmp rfl) (.nil))) (⟨.slice none 0 0, [], _, by rw [readD, if_neg hb7n, hff]; simp only []; rw [if_pos hm]; rfl, by rw [readD, if_neg hb7n, hff]; simp only []; rw [if_pos hm]; exact Own.nil, RfAt.shut (fs := fs) hsrt hpm own hbg ownK (.refl _), rfl⟩) pulled)
        ·
          have hm : ¬ (at_ < 0 ∨ q < 0 ∨ (x.now.length : Int) < at_ ∨ (x.now.length : Int) - at_ < q) := fun h => by rw [hmb.2 h] at h49; cases h49
          obtain ⟨a, rfl⟩ := Int.eq_ofNat_of_zero_le (show 0 ≤ at_ by omega)
          obtain ⟨m, rfl⟩ := Int.eq_ofNat_of_zero_le (show 0 ≤ q by omega)
          have hcn : x.now.length ≤ x.c := (hxq.1 (frz F bg) (fun b o h => Or.inl h)).cap.2
          have hrd : readD D k a m = ((x.now.drop a).take m, 0) := by rw [readD, if_neg hb7n, hff]; simp only []; rw [if_neg hm]; rfl
          refine Vc.skip ?_
          refine Vc.seq ?_
          refine Vc.text (List.range 10) (sd [(0, .eff), (1, .pure), (2, .pure), (3, .pure), (4, .pure), (5, .pure), (6, .pure), (7, .eff), (8, .pure), (9, .pure)]) rfl ?_
          refine Rg.bslice0 (E := byteE) rfl rfl rfl (fun b50 own50 => ?_)
          refine Rg.pure rfl rfl rfl (Pv.move rfl) ?_
          refine Rg.pure rfl rfl rfl (Pv.move rfl) ?_
          refine Rg.pure rfl rfl rfl (Pv.move rfl) ?_
          refine Rg.pure rfl rfl rfl (Pv.move rfl) ?_
          refine Rg.pure rfl rfl rfl (Pv.asI (a + m) (Pv.add rfl rfl (by omega)) (by omega)) ?_
          refine Rg.pure rfl rfl rfl (Pv.sl (lv := some (.int .i64 (a : Int))) (hv := some (.int .i64 ((a + m : Nat) : Int))) a (a + m) rfl rfl rfl (by omega) (by omega) (by simp)) ?_
          refine Rg.append rfl rfl rfl rfl rfl own50 (Arg.srcF (s := bg) (((hxq.1 _ (fun b o h => Or.inl h)).from (i := a) (by omega)).take (k := a + m - a) (by rw [List.length_drop]; omega))) (by simp <;> omega) (by simp [maxLen] <;> omega) rfl (fun v57 s57 own57 => ?_)
          refine Rg.pure rfl rfl rfl (Pv.assign rfl) ?_
          refine Rg.pure rfl rfl rfl (Pv.assign rfl) ?_
          refine Rg.nil ?_
          exact Vc.ret (Vc.retsH (hl' := s57 ++ ((rb, rfO (beginsD D).2.room (.slice (some ⟨bL, 0, none⟩) fs.length cL) (beginsD D).2.ops (beginsD D).2.armed vK (beginsD D).2.down) :: (bL, rowS fileE fs spL) :: (bg ++ sK))) rfl (.cons (.tmp rfl) (.cons (.tmp rfl) .nil)) ⟨v57, s57, _, by rw [hrd]; rfl, by rw [hrd]; simpa [Nat.add_sub_cancel_left] using own57, RfAt.shut (fs := fs) hsrt hpm own hbg ownK (.refl _), rfl⟩ pulled)
theorem rlist_spec (hR : RfAt rb D s) (hw : Dw n B D) (hn : n < 1000) (hB : B ≤ 1000000) :
    Spec Try.prog 41 #[.pointer (some ⟨rb, 0, none⟩)] F s fun v s' => ∃ u s1 s2, v = .tuple #[u, .bool (decide ((listD D).2 = 0))] ∧ Own strE u (listD D).1 s1 ∧ RfAt rb (beginsD D).2 s2 ∧ s' = s1 ++ s2 := by
  refine Spec.of (n := 33) (vs := [.pointer (some ⟨rb, 0, none⟩)]) Try.func41 rfl Try.ntmps41 rfl ?_
  refine Vc.seq ?_
  refine Vc.text (List.range 2) (sd [(0, .pure), (1, .pure)]) rfl ?_
  refine Rg.pure rfl rfl rfl (Pv.assign rfl) ?_
  refine Rg.pure rfl rfl rfl (Pv.assign rfl) ?_
  refine Rg.nil ?_
  refine Vc.seq ?_
  refine Vc.text (List.range 3) (sd [(0, .pure), (1, .eff), (2, .pure)]) rfl ?_
  refine Rg.pure rfl rfl rfl (Pv.move rfl) ?_
  refine Rg.callH rfl rfl rfl (run_callF rfl) (fun F' hF' => rbegins_spec (F := F') hR hw hn hB) rfl ?_
  rintro _ sb ⟨rfl, hRb⟩
  obtain ⟨fs, vL, sL, bg, vK, sK, hsrt, hpm, own, hbg, ownK, hpb⟩ := hRb.open_
  have h07 := begins_07 D
  have hwb := hw.begins
  have hfl : fs.length ≤ 1000 := by have := hpm.length_eq; rw [List.length_map] at this; have := hwb.cnt; omega
  refine Rg.pure rfl rfl rfl (Pv.assign rfl) ?_
  refine Rg.nil ?_
  refine Vc.seq ?_
  refine Vc.seq ?_
  refine Vc.text (List.range 2) (sd [(0, .pure), (1, .pure)]) rfl ?_
  refine Rg.pure rfl rfl rfl (Pv.move rfl) ?_
  refine Rg.pure rfl rfl rfl (Pv.not rfl) ?_
  refine Rg.nil ?_
  refine Vc.cond rfl (fun h10 => ?_) (fun h10 => ?_)
  ·
    have hb7 : (beginsD D).1 = 7 := h07.resolve_left (by simpa using h10)
    refine Vc.seq ?_
    refine Vc.text (List.range 2) (sd [(0, .pure), (1, .pure)]) rfl ?_
    refine Rg.pure rfl rfl rfl (Pv.assign rfl) ?_
    refine Rg.pure rfl rfl rfl (Pv.assign rfl) ?_
    refine Rg.nil ?_
    exact Vc.ret (Vc.retsH rfl (.cons (.tmp rfl) (.cons (.tmp rfl) (.nil))) (⟨.slice none 0 0, [], sb, by rw [listD, if_pos hb7]; rfl, by rw [listD, if_pos hb7]; exact Own.nil, hRb, rfl⟩) pulled)
  ·
    have hb0 : (beginsD D).1 = 0 := by simpa using h10
    have hb7n : ¬ (beginsD D).1 = 7 := by rw [hb0]; decide
    refine Vc.perm ((List.Perm.of_eq (List.append_nil sb)).trans hpb) ?_
    refine Vc.skip ?_
    refine Vc.seq ?_
    refine Vc.text (List.range 2) (sd [(0, .eff), (1, .pure)]) rfl ?_
    refine Rg.bslice0 (E := strE) rfl rfl rfl (fun b11 own11 => ?_)
    have hss : Go.Proofs.Ytmocncadncgaaaa.sortN ((beginsD D).2.files.map (·.1)) = fs.map (·.nm) := by
      have h1 : ((beginsD D).2.files.map (·.1)).Perm (fs.map (·.nm)) := by
        have := hpm.map (·.1)
        rwa [List.map_map] at this
      rw [sortN_perm h1]
      exact List.mergeSort_of_pairwise (hsrt.imp fun h => decide_eq_true (List.le_of_lt h))
    have hld : listD D = (fs.map (·.nm), 0) := by rw [listD, if_neg hb7n, hss]
    obtain ⟨pL, cL, rfl⟩ := own.shape
    have haf := Arg.own (F := frz F sL) own (fun b o h => .inl h)
    refine Rg.pure rfl rfl rfl (Pv.assign rfl) ?_
    refine Rg.nil ?_
    refine Vc.seq ?_
    refine Vc.seq ?_
    refine Vc.text (List.range 1) (sd [(0, .pure)]) rfl ?_
    refine Rg.pure rfl rfl rfl (Pv.assign rfl) ?_
    refine Rg.nil ?_
    refine Vc.block ?_
    refine Vc.loop3 (fun (i : Nat) (v : Value) (sv : Hl) => i ≤ fs.length ∧ Own strE v ((fs.take i).map (·.nm)) sv) (fun i v sv => [(0, .pointer (some ⟨rb, 0, none⟩)), (5, v), (6, .int .i64 (i : Int))]) (fun i v sv => sv ++ ((rb, rfO (beginsD D).2.room (.slice pL fs.length cL) (beginsD D).2.ops (beginsD D).2.armed vK (beginsD D).2.down) :: (sL ++ (bg ++ sK)))) (fun i v sv => fs.length - i) 0 _ _ ⟨Nat.zero_le _, own11⟩ (.cons rfl (.cons rfl (.cons rfl .nil))) pulled ?_
    rintro i v sv ⟨hi, ov⟩
    have hvl : ((fs.take i).map (·.nm)).length = i := by rw [List.length_map, List.length_take]; omega
    refine Vc.seq ?_
    refine Vc.seq ?_
    refine Vc.text (List.range 7) (sd [(0, .pure), (1, .pure), (2, .pure), (3, .pure), (4, .read), (5, .pure), (6, .pure)]) rfl ?_
    refine Rg.pure rfl rfl rfl (Pv.move rfl) ?_
    refine Rg.pure rfl rfl rfl (Pv.move rfl) ?_
    refine Rg.pure rfl rfl rfl (Pv.nilp rfl) ?_
    refine Rg.pure rfl rfl rfl (Pv.fa rfl) ?_
    refine Rg.read rfl rfl rfl (Ev.ld rfl rfl) ?_
    refine Rg.pure rfl rfl rfl (Pv.lenS rfl) ?_
    refine Rg.pure rfl rfl rfl (Pv.lss rfl rfl) ?_
    refine Rg.nil ?_
    refine Vc.cond rfl (fun h18 => ?_) (fun h18 => ?_)
    ·
      simp only [decide_eq_true_eq] at h18
      have hi1 : i < fs.length := by omega
      obtain ⟨bL, oL, cL', e, _⟩ := haf.block (by omega)
      cases e
      have htk : fs.take (i + 1) = fs.take i ++ [fs[i]!] := by rw [List.take_succ_eq_append_getElem hi1, getElem!_pos fs i hi1]
      refine Vc.skip ?_
      refine Vc.seq ?_
      refine Vc.block ?_
      refine Vc.text (List.range 12) (sd [(0, .pure), (1, .pure), (2, .pure), (3, .pure), (4, .read), (5, .pure), (6, .pure), (7, .pure), (8, .read), (9, .eff), (10, .eff), (11, .pure)]) rfl ?_
      refine Rg.pure rfl rfl rfl (Pv.move rfl) ?_
      refine Rg.pure rfl rfl rfl (Pv.move rfl) ?_
      refine Rg.pure rfl rfl rfl (Pv.nilp rfl) ?_
      refine Rg.pure rfl rfl rfl (Pv.fa rfl) ?_
      refine Rg.read rfl rfl rfl (Ev.ld rfl rfl) ?_
      refine Rg.pure rfl rfl rfl (Pv.move rfl) ?_
      refine Rg.pure rfl rfl rfl (Pv.ixA (i) rfl rfl (by omega) (by omega)) ?_
      refine Rg.pure rfl rfl rfl (Pv.fa rfl) ?_
      refine Rg.read rfl rfl rfl (Ev.ldSf (E := fileE) (u := kS fs[i]!.nm) i 0 (Arg.srcF (s := sL) haf) rfl rfl rfl hi1 rfl) ?_
      refine Rg.bslice1 rfl rfl rfl rfl rfl rfl rfl (fun b30 => ?_)
      refine Rg.append rfl rfl rfl rfl rfl ov (Src.one (y := fs[i]!.nm) rfl) (by simp <;> omega) (by simp [maxLen] <;> omega) rfl (fun v31 s31 own31 => ?_)
      refine Rg.pure rfl rfl rfl (Pv.assign rfl) ?_
      refine Rg.nil ?_
      refine Vc.blk ?_
      refine Vc.text (List.range 3) (sd [(0, .pure), (1, .pure), (2, .pure)]) rfl ?_
      refine Rg.pure rfl rfl rfl (Pv.move rfl) ?_
      refine Rg.pure rfl rfl rfl (Pv.asI (i + 1) (Pv.add rfl rfl (by omega)) (by omega)) ?_
      refine Rg.pure rfl rfl rfl (Pv.assign rfl) ?_
      refine Rg.nil ?_
      exact Vc.inv3 (i + 1) v31 s31 ⟨⟨by omega, by rw [htk, List.map_append]; exact own31⟩, by omega⟩ (.cons rfl (.cons rfl (.cons rfl .nil))) pulled
    ·
      simp only [decide_eq_false_iff_not] at h18
      rw [List.take_of_length_le (by omega)] at ov
      refine Vc.exit rfl ?_
      refine Vc.seq ?_
      refine Vc.text (List.range 3) (sd [(0, .pure), (1, .pure), (2, .pure)]) rfl ?_
      refine Rg.pure rfl rfl rfl (Pv.move rfl) ?_
      refine Rg.pure rfl rfl rfl (Pv.assign rfl) ?_
      refine Rg.pure rfl rfl rfl (Pv.assign rfl) ?_
      refine Rg.nil ?_
      exact Vc.ret (Vc.retsH (hl' := sv ++ ((rb, rfO (beginsD D).2.room (.slice pL fs.length cL) (beginsD D).2.ops (beginsD D).2.armed vK (beginsD D).2.down) :: (sL ++ (bg ++ sK)))) rfl (.cons (.tmp rfl) (.cons (.tmp rfl) .nil)) ⟨v, sv, _, by rw [hld]; rfl, by rw [hld]; exact ov, RfAt.shut (fs := fs) hsrt hpm own hbg ownK (.refl _), rfl⟩ pulled)
theorem rarm_spec (hR : RfAt rb D s) (m : Int) {kv : Value} {ks : List Bool} (hk : Arg boolE F kv ks) (hkl : ks.length < 1073741824) :
    Spec Try.prog 43 #[.pointer (some ⟨rb, 0, none⟩), .int .i64 m, kv] F s fun _ s' => RfAt rb { D with armed := max m 0, keep := ks } s' := by
  obtain ⟨fs, vL, sL, bg, vK, sK, hsrt, hpm, own, hbg, ownK, hpb⟩ := hR.open_
  refine Spec.perm ?_ hpb
  obtain ⟨pk, ck, rfl⟩ := hk.shape
  refine Spec.of (n := 17) (vs := [.pointer (some ⟨rb, 0, none⟩), .int .i64 m, .slice pk ks.length ck]) Try.func43 rfl Try.ntmps43 rfl ?_
  refine Vc.seq ?_
  refine Vc.text (List.range 6) (sd [(0, .pure), (1, .pure), (2, .pure), (3, .pure), (4, .pure), (5, .eff)]) rfl ?_
  refine Rg.pure rfl rfl rfl (Pv.move rfl) ?_
  refine Rg.pure rfl rfl rfl (Pv.move rfl) ?_
  refine Rg.pure rfl rfl rfl (Pv.as (.int .i64 (max m 0)) (Pv.max rfl rfl) (congrArg (Value.int .i64) (by omega))) ?_
  refine Rg.pure rfl rfl rfl (Pv.nilp rfl) ?_
  refine Rg.pure rfl rfl rfl (Pv.fa rfl) ?_
  refine Rg.store rfl rfl rfl rfl rfl rfl rfl rfl ?_
  refine Rg.nil ?_
  refine Vc.text (List.range 7) (sd [(0, .pure), (1, .eff), (2, .pure), (3, .eff), (4, .pure), (5, .pure), (6, .eff)]) rfl ?_
  refine Rg.pure rfl rfl rfl (Pv.move rfl) ?_
  refine Rg.bslice0 (E := boolE) rfl rfl rfl (fun b12 own12 => ?_)
  refine Rg.pure rfl rfl rfl (Pv.move rfl) ?_
  refine Rg.append rfl rfl rfl rfl rfl own12 hk.src (by simp <;> omega) (by simp [maxLen] <;> omega) rfl (fun v14 s14 own14 => ?_)
  refine Rg.pure rfl rfl rfl (Pv.nilp rfl) ?_
  refine Rg.pure rfl rfl rfl (Pv.fa rfl) ?_
  refine Rg.store rfl rfl rfl rfl rfl own14.one rfl rfl ?_
  refine Rg.nil ?_
  exact Vc.fin (Vc.retsH rfl .nil ((show RfAt rb { D with armed := max m 0, keep := ks } ((rb, rfO D.room vL D.ops (max m 0) v14 D.down) :: (sL ++ (bg ++ s14))) from RfAt.shut (D := { D with armed := max m 0, keep := ks }) hsrt hpm own hbg own14 (.refl _))) pulled)
end
end Go.Proofs.Ytmocncadncgaaaa
