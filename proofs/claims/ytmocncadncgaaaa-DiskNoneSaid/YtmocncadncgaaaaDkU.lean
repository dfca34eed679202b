/- Disks: Sync. -/
import Derived.Test.YtmocncadncgaaaaDkS
namespace Go.Proofs.Ytmocncadncgaaaa
set_option linter.unusedVariables false

def syncD (D : Dk) (k : List UInt8) : Int × Dk := if (beginsD D).1 = 7 then (7, (beginsD D).2) else match findF (beginsD D).2.files k with
  | none => (4, (beginsD D).2)
  | some f => (0, { (beginsD D).2 with files := setF (beginsD D).2.files k ⟨f.now, f.now⟩ })
theorem sync_spec {F : Fm} {db : Nat} {D : Dk} {s : Hl} (hD : DiskAt db D s) (hsz : D.files.length ≤ 1000) (hfb : FewB D.files) (ho : 0 ≤ D.ops ∧ D.ops ≤ 1000000) (ha : D.armed ≤ 9223372036854775807) (hfb2 : FewB (beginsD D).2.files)
    (k : List UInt8) :
    Spec Try.prog 25 #[.pointer (some ⟨db, 0, none⟩), kS k] F s fun v s' => v = .int .i64 (syncD D k).1 ∧ DiskAt db (syncD D k).2 s' := by
  refine Spec.of (n := 24) (vs := [.pointer (some ⟨db, 0, none⟩), kS k]) Try.func25 rfl Try.ntmps25 rfl ?_
  refine Vc.seq ?_
  refine Vc.text (List.range 1) (sd [(0, .pure)]) rfl ?_
  refine Rg.pure rfl rfl rfl (Pv.assign rfl) ?_
  refine Rg.nil ?_
  refine Vc.seq ?_
  refine Vc.text (List.range 8) (sd [(0, .pure), (1, .pure), (2, .eff), (3, .pure), (4, .pure), (5, .pure), (6, .pure), (7, .pure)]) rfl ?_
  refine Rg.pure rfl rfl rfl (Pv.move rfl) ?_
  refine Rg.pure rfl rfl rfl (Pv.move rfl) ?_
  refine Rg.callH rfl rfl rfl (run_callF rfl) (fun F' hF' => on_spec (F := F') hD hsz hfb ho ha k) rfl ?_
  rintro _ s10 ⟨p, e, rfl, hcase⟩
  refine Rg.pure rfl rfl rfl (Pv.move rfl) ?_
  refine Rg.pure rfl rfl rfl (Pv.extract rfl rfl) ?_
  refine Rg.pure rfl rfl rfl (Pv.extract rfl rfl) ?_
  refine Rg.pure rfl rfl rfl (Pv.assign rfl) ?_
  refine Rg.pure rfl rfl rfl (Pv.assign rfl) ?_
  refine Rg.nil ?_
  refine Vc.seq ?_
  refine Vc.seq ?_
  refine Vc.text (List.range 2) (sd [(0, .pure), (1, .pure)]) rfl ?_
  refine Rg.pure rfl rfl rfl (Pv.move rfl) ?_
  refine Rg.pure rfl rfl rfl (Pv.eql rfl rfl) ?_
  refine Rg.nil ?_
  refine Vc.cond rfl (fun h14 => ?_) (fun h14 => ?_)
  ·
    simp only [beq_iff_eq] at h14
    subst h14
    obtain ⟨hb0, _, fb, rfl, hfo⟩ := (hcase.resolve_left (fun h => by cases h.2.1)).resolve_left (fun h => by cases h.2.1)
    obtain ⟨mb, mo, kv, f, vn, vs, s1, s2, rest, hff, o1, o2, hp, hback⟩ := hfo.open_
    obtain ⟨pn, cn, rfl⟩ := o1.shape
    obtain ⟨hl1, hl2⟩ := hfb2.find hff
    have hwd : syncD D k = (0, { (beginsD D).2 with files := setF (beginsD D).2.files k ⟨f.now, f.now⟩ }) := by rw [syncD, if_neg (by omega), hff]
    refine Vc.perm ((List.Perm.of_eq (List.append_nil s10)).trans hp) ?_
    refine Vc.text (List.range 9) (sd [(0, .pure), (1, .pure), (2, .pure), (3, .pure), (4, .read), (5, .eff), (6, .pure), (7, .pure), (8, .eff)]) rfl ?_
    refine Rg.pure rfl rfl rfl (Pv.move rfl) ?_
    refine Rg.pure rfl rfl rfl (Pv.move rfl) ?_
    refine Rg.pure rfl rfl rfl (Pv.nilp rfl) ?_
    refine Rg.pure rfl rfl rfl (Pv.fa rfl) ?_
    refine Rg.read rfl rfl rfl (Ev.ld rfl rfl) ?_
    refine Rg.callA rfl rfl rfl (run_callF rfl) (clone_spec (Arg.own o1 frz_sb) (by omega)) ?_
    rintro v20 s20 o20
    refine Rg.pure rfl rfl rfl (Pv.nilp rfl) ?_
    refine Rg.pure rfl rfl rfl (Pv.fa rfl) ?_
    refine Rg.store rfl rfl rfl rfl rfl o20.one rfl rfl ?_
    refine Rg.nil ?_
    refine Vc.seq ?_
    refine Vc.text (List.range 2) (sd [(0, .pure), (1, .pure)]) rfl ?_
    refine Rg.pure rfl rfl rfl (Pv.move rfl) ?_
    refine Rg.pure rfl rfl rfl (Pv.assign rfl) ?_
    refine Rg.nil ?_
    exact Vc.ret (Vc.retsH rfl (.cons (.tmp rfl) (.nil)) (⟨by rw [hwd]; rfl, (show DiskAt db (syncD D k).2 ((fb, cellsO [.slice pn f.now.length cn, v20] 81) :: (s1 ++ (s20 ++ ((db, dkO mb (beginsD D).2.room (beginsD D).2.used (beginsD D).2.ops (beginsD D).2.armed kv (beginsD D).2.down) :: (mb, mo) :: rest)))) from by rw [hwd]; exact hback ⟨f.now, f.now⟩ (beginsD D).2.used _ v20 s1 s20 _ o1 o20 (.refl _))⟩) pulled)
  ·
    simp only [beq_eq_false_iff_ne, ne_eq] at h14
    have hres : syncD D k = (e, (beginsD D).2) ∧ DiskAt db (beginsD D).2 s10 := by
      rcases hcase with ⟨h1, rfl, h2⟩ | ⟨h1, rfl, h2, h3⟩ | ⟨_, h2, _⟩
      · exact ⟨by rw [syncD, if_pos h1], h2⟩
      · exact ⟨by rw [syncD, if_neg (by omega), h2], h3⟩
      · exact absurd h2 h14
    refine Vc.skip ?_
    refine Vc.seq ?_
    refine Vc.text (List.range 2) (sd [(0, .pure), (1, .pure)]) rfl ?_
    refine Rg.pure rfl rfl rfl (Pv.move rfl) ?_
    refine Rg.pure rfl rfl rfl (Pv.assign rfl) ?_
    refine Rg.nil ?_
    exact Vc.ret (Vc.retsH rfl (.cons (.tmp rfl) (.nil)) (⟨by rw [hres.1]; rfl, by rw [hres.1]; exact hres.2⟩) pulled)
end Go.Proofs.Ytmocncadncgaaaa
