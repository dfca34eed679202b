/- Disks: the begin of an operation. -/
import Derived.Test.YtmocncadncgaaaaDkL
namespace Go.Proofs.Ytmocncadncgaaaa
set_option linter.unusedVariables false

theorem down0_spec {F : Fm} {db : Nat} {D : Dk} {kv : Value} {s : Hl} (hD : Disk0 db D kv s) (hF : ∀ b o, (b, o) ∈ s → F.at_ b o) : Spec Try.prog 20 #[.pointer (some ⟨db, 0, none⟩)] F [] fun v _ => v = .bool D.down := by
  obtain ⟨mb, mc, ms, hf, hfl, hn, hbn, hold, hp⟩ := hD
  have : Fat F db (dkO mb D.room D.used D.ops D.armed kv D.down) := ⟨hF _ _ (hp.mem_iff.2 List.mem_cons_self)⟩
  exact down_spec (mb := mb) (room := D.room) (used := D.used) (ops := D.ops) (armed := D.armed) (keep := kv)
theorem begins_spec {F : Fm} {db : Nat} {D : Dk} {s : Hl} (hD : DiskAt db D s) (hsz : D.files.length ≤ 1000) (hfb : FewB D.files) (ho : 0 ≤ D.ops ∧ D.ops ≤ 1000000) (ha : D.armed ≤ 9223372036854775807) :
    Spec Try.prog 60 #[.pointer (some ⟨db, 0, none⟩)] F s fun v s' => v = .int .i64 (beginsD D).1 ∧ DiskAt db (beginsD D).2 s' := by
  obtain ⟨kv, sk, h0, ⟨mb, mc, ms, hf, hfl, hn, hbn, hold, hp0⟩, own, hp⟩ := hD.parts
  refine Spec.perm ?_ (hp.trans (hp0.append_right sk))
  have hw : IntKind.wrap .i64 (D.ops + 1) = D.ops + 1 := i64_wrap (by omega)
  refine Spec.of (n := 32) (vs := [.pointer (some ⟨db, 0, none⟩)]) Try.func60 rfl Try.ntmps60 rfl ?_
  refine Vc.seq ?_
  refine Vc.text (List.range 1) (sd [(0, .pure)]) rfl ?_
  refine Rg.pure rfl rfl rfl (Pv.assign rfl) ?_
  refine Rg.nil ?_
  refine Vc.seq ?_
  refine Vc.text (List.range 4) (sd [(0, .pure), (1, .pure), (2, .pure), (3, .eff)]) rfl ?_
  refine Rg.pure rfl rfl rfl (Pv.move rfl) ?_
  refine Rg.pure rfl rfl rfl (Pv.nilp rfl) ?_
  refine Rg.pure rfl rfl rfl (Pv.fa rfl) ?_
  refine Rg.callH rfl rfl rfl (run_callF rfl) (fun F' hF' => iadd_spec (F := F') (mb := mb) (room := D.room) (used := D.used) (ops := D.ops) (armed := D.armed) (keep := kv) (down := D.down) 1) rfl ?_
  rintro v6 _ rfl
  rw [hw]
  refine Rg.nil ?_
  refine Vc.seq ?_
  refine Vc.seq ?_
  refine Vc.text (List.range 5) (sd [(0, .pure), (1, .pure), (2, .pure), (3, .read), (4, .pure)]) rfl ?_
  refine Rg.pure rfl rfl rfl (Pv.move rfl) ?_
  refine Rg.pure rfl rfl rfl (Pv.nilp rfl) ?_
  refine Rg.pure rfl rfl rfl (Pv.fa rfl) ?_
  refine Rg.read rfl rfl rfl (Ev.ld rfl rfl) ?_
  refine Rg.pure rfl rfl rfl (Pv.gtr rfl rfl) ?_
  refine Rg.nil ?_
  refine Vc.cut2 (fun (D2 : Dk) (h : Hl) => D2 = (beginsD D).2 ∧ Disk0 db D2 kv h ∧ D2.keep = D.keep) (fun D2 h => [(0, .pointer (some ⟨db, 0, none⟩))]) (fun D2 h => h ++ sk) ?_ ?_
  ·
    refine Vc.cond rfl (fun h11 => ?_) (fun h11 => ?_)
    ·
      simp only [decide_eq_true_eq] at h11
      refine Vc.seq ?_
      refine Vc.text (List.range 8) (sd [(0, .pure), (1, .pure), (2, .pure), (3, .read), (4, .pure), (5, .pure), (6, .pure), (7, .eff)]) rfl ?_
      refine Rg.pure rfl rfl rfl (Pv.move rfl) ?_
      refine Rg.pure rfl rfl rfl (Pv.nilp rfl) ?_
      refine Rg.pure rfl rfl rfl (Pv.fa rfl) ?_
      refine Rg.read rfl rfl rfl (Ev.ld rfl rfl) ?_
      refine Rg.pure rfl rfl rfl (Pv.sub rfl rfl (by omega)) ?_
      refine Rg.pure rfl rfl rfl (Pv.nilp rfl) ?_
      refine Rg.pure rfl rfl rfl (Pv.fa rfl) ?_
      refine Rg.store rfl rfl rfl rfl rfl rfl rfl rfl ?_
      refine Rg.nil ?_
      refine Vc.seq ?_
      refine Vc.text (List.range 5) (sd [(0, .pure), (1, .pure), (2, .pure), (3, .read), (4, .pure)]) rfl ?_
      refine Rg.pure rfl rfl rfl (Pv.move rfl) ?_
      refine Rg.pure rfl rfl rfl (Pv.nilp rfl) ?_
      refine Rg.pure rfl rfl rfl (Pv.fa rfl) ?_
      refine Rg.read rfl rfl rfl (Ev.ld rfl rfl) ?_
      refine Rg.pure rfl rfl rfl (Pv.eql rfl rfl) ?_
      refine Rg.nil ?_
      refine Vc.cond rfl (fun h23 => ?_) (fun h23 => ?_)
      ·
        simp only [beq_iff_eq] at h23
        refine Vc.text (List.range 6) (sd [(0, .pure), (1, .pure), (2, .pure), (3, .pure), (4, .read), (5, .eff)]) rfl ?_
        refine Rg.pure rfl rfl rfl (Pv.move rfl) ?_
        refine Rg.pure rfl rfl rfl (Pv.move rfl) ?_
        refine Rg.pure rfl rfl rfl (Pv.nilp rfl) ?_
        refine Rg.pure rfl rfl rfl (Pv.fa rfl) ?_
        refine Rg.read rfl rfl rfl (Ev.ld rfl rfl) ?_
        refine Rg.callH rfl rfl rfl (run_callF rfl) (fun F' hF' => crash_spec (F := F') (D := { D with ops := D.ops + 1, armed := D.armed - 1 }) (kv0 := kv) (h0 := (db, dkO mb D.room D.used (D.ops + 1) (D.armed - 1) kv D.down) :: (mb, mapO kS ms mc) :: hf) ⟨mb, mc, ms, hf, hfl, hn, hbn, hold, .refl _⟩ (Arg.own own fun b o hb => hF' b o (.inl (by simp [hb]))) hsz hfb) rfl ?_
        rintro v29 s29 hD29
        refine Rg.nil ?_
        exact Vc.inv2 (crashD D.keep { D with ops := D.ops + 1, armed := D.armed - 1 }) s29 ⟨by simp only [beginsD]; rw [if_pos h11, if_pos h23, h23], hD29, by unfold crashD; split <;> rfl⟩ (.cons rfl .nil) pulled
      ·
        simp only [beq_eq_false_iff_ne, ne_eq] at h23
        refine Vc.skip ?_
        exact Vc.inv2 { D with ops := D.ops + 1, armed := D.armed - 1 } ((db, dkO mb D.room D.used (D.ops + 1) (D.armed - 1) kv D.down) :: (mb, mapO kS ms mc) :: hf) ⟨by simp only [beginsD]; rw [if_pos h11, if_neg h23], ⟨mb, mc, ms, hf, hfl, hn, hbn, hold, .refl _⟩, rfl⟩ (.cons rfl .nil) pulled
    ·
      simp only [decide_eq_false_iff_not] at h11
      refine Vc.skip ?_
      exact Vc.inv2 { D with ops := D.ops + 1 } ((db, dkO mb D.room D.used (D.ops + 1) D.armed kv D.down) :: (mb, mapO kS ms mc) :: hf) ⟨by simp only [beginsD]; rw [if_neg h11], ⟨mb, mc, ms, hf, hfl, hn, hbn, hold, .refl _⟩, rfl⟩ (.cons rfl .nil) pulled
  ·
    rintro D2 h ⟨rfl, hD2, hke⟩
    have hfst : (beginsD D).1 = if (beginsD D).2.down = true then 7 else 0 := rfl
    refine Vc.seq ?_
    refine Vc.seq ?_
    refine Vc.text (List.range 2) (sd [(0, .pure), (1, .eff)]) rfl ?_
    refine Rg.pure rfl rfl rfl (Pv.move rfl) ?_
    refine Rg.callP rfl rfl rfl (run_callF rfl) (down0_spec hD2 frz_sb) ?_
    rintro _ rfl
    refine Rg.nil ?_
    refine Vc.cond rfl (fun h31 => ?_) (fun h31 => ?_)
    ·
      refine Vc.seq ?_
      refine Vc.text (List.range 1) (sd [(0, .pure)]) rfl ?_
      refine Rg.pure rfl rfl rfl (Pv.assign rfl) ?_
      refine Rg.nil ?_
      exact Vc.ret (Vc.retsH rfl (.cons (.tmp rfl) (.nil)) (⟨congrArg (Value.int .i64) (by rw [hfst, if_pos h31]), (show DiskAt db (beginsD D).2 (h ++ sk) from DiskAt.mk hD2 (hke ▸ own) (.refl _))⟩) pulled)
    ·
      refine Vc.skip ?_
      refine Vc.seq ?_
      refine Vc.text (List.range 1) (sd [(0, .pure)]) rfl ?_
      refine Rg.pure rfl rfl rfl (Pv.assign rfl) ?_
      refine Rg.nil ?_
      exact Vc.ret (Vc.retsH rfl (.cons (.tmp rfl) (.nil)) (⟨congrArg (Value.int .i64) (by rw [hfst, if_neg (by simpa using h31)]), (show DiskAt db (beginsD D).2 (h ++ sk) from DiskAt.mk hD2 (hke ▸ own) (.refl _))⟩) pulled)
end Go.Proofs.Ytmocncadncgaaaa
