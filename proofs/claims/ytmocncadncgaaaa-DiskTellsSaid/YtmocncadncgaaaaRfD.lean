/- The document's disk: begins, Arm; files at their places. -/
import Derived.Test.YtmocncadncgaaaaRfC
namespace Go.Proofs.Ytmocncadncgaaaa
set_option linter.unusedVariables false

theorem frz_pull {F : Fm} {hl : Hl} {b : Nat} {o : Obj} {rest : Hl} [h : Pull1 hl b o rest] : (frz F hl).at_ b o := Or.inl (h.perm.mem_iff.2 List.mem_cons_self)
theorem begins_keep (D : Dk) : (beginsD D).2.keep = D.keep := by
  unfold beginsD crashD
  simp only
  split
  · split
    · split <;> rfl
    · rfl
  · rfl
theorem begins_07 (D : Dk) : (beginsD D).1 = 0 ∨ (beginsD D).1 = 7 := by
  show (if _ then 7 else 0 : Int) = 0 ∨ (if _ then 7 else 0 : Int) = 7
  split <;> simp
set_option maxHeartbeats 2000000 in
theorem rbegins_spec {F : Fm} {rb n B : Nat} {D : Dk} {s : Hl} (h : RfAt rb D s) (hw : Dw n B D) (hn : n < 1000) (hB : B ≤ 1000000) :
    Spec Try.prog 61 #[.pointer (some ⟨rb, 0, none⟩)] F s fun v s' => v = .bool (decide ((beginsD D).1 = 0)) ∧ RfAt rb (beginsD D).2 s' := by
  obtain ⟨vK, sK, h0, ⟨fs, vL, sL, bg, hsrt, hpm, own, hbg, hp0⟩, ownK, hp⟩ := h
  have hp1 : s.Perm ((rb, rfO D.room vL D.ops D.armed vK D.down) :: (sL ++ (bg ++ sK))) := hp.trans ((hp0.append_right sK).trans (List.Perm.of_eq (by simp)))
  refine Spec.perm ?_ hp1
  have ho := hw.ops' (by omega)
  have har := hw.armed
  refine Spec.of (n := 38) (vs := [.pointer (some ⟨rb, 0, none⟩)]) Try.func61 rfl Try.ntmps61 rfl ?_
  refine Vc.seq ?_
  refine Vc.text (List.range 1) (sd [(0, .pure)]) rfl ?_
  refine Rg.pure rfl rfl rfl (Pv.assign rfl) ?_
  refine Rg.nil ?_
  refine Vc.seq ?_
  refine Vc.text (List.range 8) (sd [(0, .pure), (1, .pure), (2, .pure), (3, .read), (4, .pure), (5, .pure), (6, .pure), (7, .eff)]) rfl ?_
  refine Rg.pure rfl rfl rfl (Pv.move rfl) ?_
  refine Rg.pure rfl rfl rfl (Pv.nilp rfl) ?_
  refine Rg.pure rfl rfl rfl (Pv.fa rfl) ?_
  refine Rg.read rfl rfl rfl (Ev.ld rfl rfl) ?_
  refine Rg.pure rfl rfl rfl (Pv.add rfl rfl (by omega)) ?_
  refine Rg.pure rfl rfl rfl (Pv.nilp rfl) ?_
  refine Rg.pure rfl rfl rfl (Pv.fa rfl) ?_
  refine Rg.store rfl rfl rfl rfl rfl rfl rfl rfl ?_
  refine Rg.nil ?_
  refine Vc.seq ?_
  refine Vc.seq ?_
  refine Vc.text (List.range 5) (sd [(0, .pure), (1, .pure), (2, .pure), (3, .read), (4, .pure)]) rfl ?_
  refine Rg.pure rfl rfl rfl (Pv.move rfl) ?_
  refine Rg.pure rfl rfl rfl (Pv.nilp rfl) ?_
  refine Rg.pure rfl rfl rfl (Pv.fa rfl) ?_
  refine Rg.read rfl rfl rfl (Ev.ld rfl rfl) ?_
  refine Rg.pure rfl rfl rfl (Pv.gtr rfl rfl) ?_
  refine Rg.nil ?_
  refine Vc.cut1 (fun (hh : Hl) => Rf0 rb (beginsD D).2 vK hh) (fun hh => [(0, .pointer (some ⟨rb, 0, none⟩))]) (fun hh => hh ++ sK) ?_ ?_
  ·
    refine Vc.cond rfl (fun h14 => ?_) (fun h14 => ?_)
    ·
      simp only [decide_eq_true_eq] at h14
      refine Vc.seq ?_
      refine Vc.text (List.range 8) (sd [(0, .pure), (1, .pure), (2, .pure), (3, .read), (4, .pure), (5, .pure), (6, .pure), (7, .eff)]) rfl ?_
      refine Rg.pure rfl rfl rfl (Pv.move rfl) ?_
      refine Rg.pure rfl rfl rfl (Pv.nilp rfl) ?_
      refine Rg.pure rfl rfl rfl (Pv.fa rfl) ?_
      refine Rg.read rfl rfl rfl (Ev.ld rfl rfl) ?_
      refine Rg.pure rfl rfl rfl (Pv.sub rfl rfl (by omega)) ?_
      refine Rg.pure rfl rfl rfl (Pv.nilp rfl) ?_
      refine Rg.pure rfl rfl rfl (Pv.fa rfl) ?_
      refine Rg.store rfl rfl rfl rfl rfl rfl rfl rfl ?_
      refine Rg.nil ?_
      refine Vc.seq ?_
      refine Vc.text (List.range 5) (sd [(0, .pure), (1, .pure), (2, .pure), (3, .read), (4, .pure)]) rfl ?_
      refine Rg.pure rfl rfl rfl (Pv.move rfl) ?_
      refine Rg.pure rfl rfl rfl (Pv.nilp rfl) ?_
      refine Rg.pure rfl rfl rfl (Pv.fa rfl) ?_
      refine Rg.read rfl rfl rfl (Ev.ld rfl rfl) ?_
      refine Rg.pure rfl rfl rfl (Pv.eql rfl rfl) ?_
      refine Rg.nil ?_
      refine Vc.cond rfl (fun h26 => ?_) (fun h26 => ?_)
      ·
        simp only [beq_iff_eq] at h26
        have hbd : (beginsD D).2 = crashD D.keep { D with ops := D.ops + 1, armed := 0 } := by simp only [beginsD]; rw [if_pos h14, if_pos h26]
        rw [h26]
        have hw' : Dw (n + 1) B { D with ops := D.ops + 1, armed := 0 } := ⟨hw.nodup, Nat.le_succ_of_le hw.cnt, hw.few, hw.used, ⟨by show 0 ≤ D.ops + 1; omega, by have := hw.ops.2; show D.ops + 1 ≤ ((n + 1 : Nat) : Int); omega⟩, (show (0 : Int) ≤ 0 ∧ (0 : Int) ≤ 9223372036854775807 by decide)⟩
        have hR : Rf0 rb { D with ops := D.ops + 1, armed := 0 } vK ((rb, rfO D.room vL (D.ops + 1) 0 vK D.down) :: (sL ++ bg)) := ⟨fs, vL, sL, bg, hsrt, hpm, own, hbg, .refl _⟩
        refine Vc.text (List.range 6) (sd [(0, .pure), (1, .pure), (2, .pure), (3, .pure), (4, .read), (5, .eff)]) rfl ?_
        refine Rg.pure rfl rfl rfl (Pv.move rfl) ?_
        refine Rg.pure rfl rfl rfl (Pv.move rfl) ?_
        refine Rg.pure rfl rfl rfl (Pv.nilp rfl) ?_
        refine Rg.pure rfl rfl rfl (Pv.fa rfl) ?_
        refine Rg.read rfl rfl rfl (Ev.ld rfl rfl) ?_
        refine Rg.callH rfl rfl rfl (run_callF rfl) (fun F' hF' => rcrash_spec (F := F') hR hw' (by omega) hB (Arg.own ownK fun b o h => hF' b o (.inl h))) rfl ?_
        rintro _ s32 h32
        refine Rg.nil ?_
        exact Vc.inv1 s32 (by rw [hbd]; exact h32) (.cons rfl .nil) pulled
      ·
        simp only [beq_eq_false_iff_ne, ne_eq] at h26
        have hbd : (beginsD D).2 = { D with ops := D.ops + 1, armed := D.armed - 1 } := by simp only [beginsD]; rw [if_pos h14, if_neg h26]
        refine Vc.skip ?_
        exact Vc.inv1 ((rb, rfO D.room vL (D.ops + 1) (D.armed - 1) vK D.down) :: (sL ++ bg)) (by rw [hbd]; exact ⟨fs, vL, sL, bg, hsrt, hpm, own, hbg, .refl _⟩) (.cons rfl .nil) (rest := []) (List.Perm.trans (pulled : List.Perm _ (((rb, rfO D.room vL (D.ops + 1) (D.armed - 1) vK D.down) :: (sL ++ (bg ++ sK))) ++ [])) (List.Perm.of_eq (by simp)))
    ·
      simp only [decide_eq_false_iff_not] at h14
      have hbd : (beginsD D).2 = { D with ops := D.ops + 1 } := by simp only [beginsD]; rw [if_neg h14]
      refine Vc.skip ?_
      exact Vc.inv1 ((rb, rfO D.room vL (D.ops + 1) D.armed vK D.down) :: (sL ++ bg)) (by rw [hbd]; exact ⟨fs, vL, sL, bg, hsrt, hpm, own, hbg, .refl _⟩) (.cons rfl .nil) (rest := []) (List.Perm.trans (pulled : List.Perm _ (((rb, rfO D.room vL (D.ops + 1) D.armed vK D.down) :: (sL ++ (bg ++ sK))) ++ [])) (List.Perm.of_eq (by simp)))
  ·
    rintro hh ⟨fs2, vL2, sL2, bg2, hsrt2, hpm2, own2, hbg2, hp2⟩
    refine Vc.perm (hp2.append_right sK) ?_
    simp only [List.cons_append, List.append_assoc]
    refine Vc.seq ?_
    refine Vc.text (List.range 6) (sd [(0, .pure), (1, .pure), (2, .pure), (3, .read), (4, .pure), (5, .pure)]) rfl ?_
    refine Rg.pure rfl rfl rfl (Pv.move rfl) ?_
    refine Rg.pure rfl rfl rfl (Pv.nilp rfl) ?_
    refine Rg.pure rfl rfl rfl (Pv.fa rfl) ?_
    refine Rg.read rfl rfl rfl (Ev.ld rfl rfl) ?_
    refine Rg.pure rfl rfl rfl (Pv.not rfl) ?_
    refine Rg.pure rfl rfl rfl (Pv.assign rfl) ?_
    refine Rg.nil ?_
    exact Vc.ret (Vc.retsH (hl' := (rb, rfO (beginsD D).2.room vL2 (beginsD D).2.ops (beginsD D).2.armed vK (beginsD D).2.down) :: (sL2 ++ (bg2 ++ sK))) rfl (.cons (.tmp rfl) .nil) ⟨congrArg Value.bool (by show (!(beginsD D).2.down) = decide ((if (beginsD D).2.down = true then 7 else 0 : Int) = 0); cases (beginsD D).2.down <;> rfl), vK, sK, _, ⟨fs2, vL2, sL2, bg2, hsrt2, hpm2, own2, hbg2, .refl _⟩, by rw [begins_keep]; exact ownK, List.Perm.of_eq (by simp)⟩ pulled)
theorem rpos {D : List (List UInt8 × Fl)} {fs : List Fv} (hn : (D.map (·.1)).Nodup) (hp : D.Perm (fs.map (·.vw))) (k : List UInt8) :
    (posI (fun f : Fv => decide (f.nm = k)) fs 0 = -1 ∧ findF D k = none) ∨ ∃ j, j < fs.length ∧ posI (fun f : Fv => decide (f.nm = k)) fs 0 = (j : Int) ∧ fs[j]!.nm = k ∧ findF D k = some ⟨fs[j]!.now, fs[j]!.syn⟩ := by
  rcases posI_spec (fun f : Fv => decide (f.nm = k)) fs 0 with ⟨h1, h2⟩ | ⟨A, x, B, hf, h2, h3, h4⟩
  · refine .inl ⟨h1, ?_⟩
    cases hx : findF D k with
    | none => rfl
    | some f =>
      obtain ⟨g, hg, e⟩ := List.mem_map.1 (hp.mem_iff.1 (findF_some hx))
      have := h2 g hg
      simp only [Fv.vw, Prod.mk.injEq] at e
      rw [decide_eq_true e.1] at this
      cases this
  · have hxk : x.nm = k := by simpa using h3
    have hl : A.length < fs.length := by rw [hf]; simp
    have hx : fs[A.length]! = x := by rw [getElem!_pos fs _ hl]; simp [hf]
    refine .inr ⟨A.length, hl, by rw [h4]; simp, by rw [hx]; exact hxk, ?_⟩
    rw [hx]
    exact findF_mem hn (hp.mem_iff.2 (List.mem_map.2 ⟨x, by rw [hf]; simp, by rw [← hxk]⟩))
theorem srt_nodup {fs : List Fv} (h : Srt fs) : (fs.map (·.nm)).Nodup := h.imp fun hab e => by rw [e] at hab; exact List.lt_irrefl _ hab
theorem vw_keys (fs : List Fv) : (fs.map (·.vw)).map (·.1) = fs.map (·.nm) := by rw [List.map_map]; rfl
theorem set_fs {D : List (List UInt8 × Fl)} {fs : List Fv} (hs : Srt fs) (hp : D.Perm (fs.map (·.vw))) {j : Nat} (hj : j < fs.length) {k : List UInt8} (hk : fs[j]!.nm = k) (y : Fv) (hy : y.nm = k) : (setF D k ⟨y.now, y.syn⟩).Perm ((fs.set j y).map (·.vw)) ∧ Srt (fs.set j y) := by
  have hn := srt_nodup hs
  have hsplit : fs = fs.take j ++ fs[j]! :: fs.drop (j + 1) := by
    rw [getElem!_pos fs j hj, ← List.drop_eq_getElem_cons hj, List.take_append_drop]
  have hset : fs.set j y = fs.take j ++ y :: fs.drop (j + 1) := by
    rw [List.set_eq_take_append_cons_drop, if_pos hj]
  have hnm : (fs.set j y).map (·.nm) = fs.map (·.nm) := by
    rw [hset]
    conv => rhs; rw [hsplit]
    rw [List.map_append, List.map_append, List.map_cons, List.map_cons, hy, hk]
  refine ⟨?_, by unfold Srt; rw [hnm]; exact hs⟩
  refine (setF_perm hp k _).trans (List.Perm.of_eq ?_)
  have h2 : ((fs.take j).map (·.vw) ++ (k, (⟨fs[j]!.now, fs[j]!.syn⟩ : Fl)) :: (fs.drop (j + 1)).map (·.vw)).map (·.1) |>.Nodup := by
    have e : ((fs.take j).map (·.vw) ++ (k, (⟨fs[j]!.now, fs[j]!.syn⟩ : Fl)) :: (fs.drop (j + 1)).map (·.vw)) = fs.map (·.vw) := by
      conv => rhs; rw [hsplit]
      rw [List.map_append, List.map_cons, ← hk]
    rw [e, vw_keys]
    exact hn
  have h3 := setF_mid (f' := ⟨y.now, y.syn⟩) h2
  have e : ((fs.take j).map (·.vw) ++ (k, (⟨fs[j]!.now, fs[j]!.syn⟩ : Fl)) :: (fs.drop (j + 1)).map (·.vw)) = fs.map (·.vw) := by
    conv => rhs; rw [hsplit]
    rw [List.map_append, List.map_cons, ← hk]
  rw [e] at h3
  rw [h3, hset, List.map_append, List.map_cons, ← hy]
end Go.Proofs.Ytmocncadncgaaaa
