/- Disks: Append, WriteAt. -/
import Derived.Test.YtmocncadncgaaaaDkQ
namespace Go.Proofs.Ytmocncadncgaaaa
set_option linter.unusedVariables false

theorem perm_ap {α : Type} (a x b : α) (s1 s2 rest : List α) : ((a :: x :: s1) ++ (s2 ++ (b :: rest))).Perm (x :: (s1 ++ (s2 ++ (a :: b :: rest)))) := by
  have e1 : ((a :: x :: s1) ++ (s2 ++ (b :: rest))) = ([a] ++ (x :: (s1 ++ s2))) ++ (b :: rest) := by simp
  have e2 : x :: (s1 ++ (s2 ++ (a :: b :: rest))) = ((x :: (s1 ++ s2)) ++ [a]) ++ (b :: rest) := by simp
  rw [e1, e2]
  exact List.perm_append_comm.append_right _
/-- bytes at a place of a file; none: at its end -/
def writeD (D : Dk) (k : List UInt8) (at_ : Option Int) (bs : List UInt8) : Int × Dk := if (beginsD D).1 = 7 then (7, (beginsD D).2) else match findF (beginsD D).2.files k with
  | none => (4, (beginsD D).2)
  | some f => ((wrG (beginsD D).2.room (beginsD D).2.used f.now (at_.getD f.now.length) bs).1, { (beginsD D).2 with files := setF (beginsD D).2.files k ⟨(wrG (beginsD D).2.room (beginsD D).2.used f.now (at_.getD f.now.length) bs).2.2, f.synced⟩, used := (wrG (beginsD D).2.room (beginsD D).2.used f.now (at_.getD f.now.length) bs).2.1 })
theorem append_spec {F : Fm} {db : Nat} {D : Dk} {s : Hl} (hD : DiskAt db D s) (hsz : D.files.length ≤ 1000) (hfb : FewB D.files) (ho : 0 ≤ D.ops ∧ D.ops ≤ 1000000) (ha : D.armed ≤ 9223372036854775807) (hfb2 : FewB (beginsD D).2.files) (hu : 0 ≤ (beginsD D).2.used ∧ (beginsD D).2.used ≤ 1099511627776)
    (k : List UInt8) {vb : Value} {bs : List UInt8} (hb : Arg byteE F vb bs) (hbl : bs.length ≤ 1000000) :
    Spec Try.prog 15 #[.pointer (some ⟨db, 0, none⟩), kS k, vb] F s fun v s' => v = .int .i64 (writeD D k none bs).1 ∧ DiskAt db (writeD D k none bs).2 s' := by
  obtain ⟨pb, cb, rfl⟩ := hb.shape
  refine Spec.of (n := 27) (vs := [.pointer (some ⟨db, 0, none⟩), kS k, .slice pb bs.length cb]) Try.func15 rfl Try.ntmps15 rfl ?_
  refine Vc.seq ?_
  refine Vc.text (List.range 1) (sd [(0, .pure)]) rfl ?_
  refine Rg.pure rfl rfl rfl (Pv.assign rfl) ?_
  refine Rg.nil ?_
  refine Vc.seq ?_
  refine Vc.text (List.range 8) (sd [(0, .pure), (1, .pure), (2, .eff), (3, .pure), (4, .pure), (5, .pure), (6, .pure), (7, .pure)]) rfl ?_
  refine Rg.pure rfl rfl rfl (Pv.move rfl) ?_
  refine Rg.pure rfl rfl rfl (Pv.move rfl) ?_
  refine Rg.callH rfl rfl rfl (run_callF rfl) (fun F' hF' => on_spec (F := F') hD hsz hfb ho ha k) rfl ?_
  rintro _ s12 ⟨p, e, rfl, hcase⟩
  refine Rg.pure rfl rfl rfl (Pv.move rfl) ?_
  refine Rg.pure rfl rfl rfl (Pv.extract rfl rfl) ?_
  refine Rg.pure rfl rfl rfl (Pv.extract rfl rfl) ?_
  refine Rg.pure rfl rfl rfl (Pv.assign rfl) ?_
  refine Rg.pure rfl rfl rfl (Pv.assign rfl) ?_
  refine Rg.nil ?_
  refine Vc.seq ?_
  refine Vc.seq ?_
  refine Vc.text (List.range 2) (sd [(0, .pure), (1, .pure)]) rfl ?_
  refine Rg.pure rfl rfl rfl (Pv.move rfl) ?_
  refine Rg.pure rfl rfl rfl (Pv.neq rfl rfl) ?_
  refine Rg.nil ?_
  refine Vc.cond rfl (fun h16 => ?_) (fun h16 => ?_)
  ·
    simp only [bne_iff_ne, ne_eq] at h16
    have hres : writeD D k none bs = (e, (beginsD D).2) ∧ DiskAt db (beginsD D).2 s12 := by
      rcases hcase with ⟨h1, rfl, h2⟩ | ⟨h1, rfl, h2, h3⟩ | ⟨_, h2, _⟩
      · exact ⟨by rw [writeD, if_pos h1], h2⟩
      · exact ⟨by rw [writeD, if_neg (by omega), h2], h3⟩
      · exact absurd h2 h16
    refine Vc.seq ?_
    refine Vc.text (List.range 2) (sd [(0, .pure), (1, .pure)]) rfl ?_
    refine Rg.pure rfl rfl rfl (Pv.move rfl) ?_
    refine Rg.pure rfl rfl rfl (Pv.assign rfl) ?_
    refine Rg.nil ?_
    exact Vc.ret (Vc.retsH rfl (.cons (.tmp rfl) (.nil)) (⟨by rw [hres.1]; rfl, by rw [hres.1]; exact hres.2⟩) pulled)
  ·
    simp only [bne_eq_false_iff_eq] at h16
    subst h16
    obtain ⟨hb0, _, fb, rfl, hfo⟩ := (hcase.resolve_left (fun h => by cases h.2.1)).resolve_left (fun h => by cases h.2.1)
    obtain ⟨mb, mo, kv, f, vn, vs, s1, s2, rest, hff, o1, o2, hp, hback⟩ := hfo.open_
    obtain ⟨pn, cn, rfl⟩ := o1.shape
    obtain ⟨hl1, hl2⟩ := hfb2.find hff
    have hwd : writeD D k none bs = ((wrG (beginsD D).2.room (beginsD D).2.used f.now (f.now.length : Nat) bs).1, { (beginsD D).2 with files := setF (beginsD D).2.files k ⟨(wrG (beginsD D).2.room (beginsD D).2.used f.now (f.now.length : Nat) bs).2.2, f.synced⟩, used := (wrG (beginsD D).2.room (beginsD D).2.used f.now (f.now.length : Nat) bs).2.1 }) := by rw [writeD, if_neg (by omega), hff]; rfl
    refine Vc.perm ((List.Perm.of_eq (List.append_nil s12)).trans hp) ?_
    refine Vc.skip ?_
    refine Vc.seq ?_
    refine Vc.text (List.range 10) (sd [(0, .pure), (1, .pure), (2, .pure), (3, .pure), (4, .pure), (5, .read), (6, .pure), (7, .pure), (8, .eff), (9, .pure)]) rfl ?_
    refine Rg.pure rfl rfl rfl (Pv.move rfl) ?_
    refine Rg.pure rfl rfl rfl (Pv.move rfl) ?_
    refine Rg.pure rfl rfl rfl (Pv.move rfl) ?_
    refine Rg.pure rfl rfl rfl (Pv.nilp rfl) ?_
    refine Rg.pure rfl rfl rfl (Pv.fa rfl) ?_
    refine Rg.read rfl rfl rfl (Ev.ld rfl rfl) ?_
    refine Rg.pure rfl rfl rfl (Pv.lenS rfl) ?_
    refine Rg.pure rfl rfl rfl (Pv.move rfl) ?_
    refine Rg.callH rfl rfl rfl (run_callF rfl) (fun F' hF' => writes_spec (F := F') (db := db) (mb := mb) (fb := fb) (room := (beginsD D).2.room) (used := (beginsD D).2.used) (ops := (beginsD D).2.ops) (armed := (beginsD D).2.armed) (keep := kv) (vs := vs) (down := (beginsD D).2.down) o1 (hb.mono fun b o h => hF' b o (.inr h)) (f.now.length : Nat) (by omega) (by omega) hu) rfl ?_
    rintro _ _ ⟨rfl, vn', s1', o1', rfl⟩
    refine Rg.pure rfl rfl rfl (Pv.assign rfl) ?_
    refine Rg.nil ?_
    exact Vc.ret (Vc.retsH rfl (.cons (.tmp rfl) (.nil)) (⟨by rw [hwd]; rfl, (show DiskAt db (writeD D k none bs).2 (((db, dkO mb (beginsD D).2.room (wrG (beginsD D).2.room (beginsD D).2.used f.now (f.now.length : Nat) bs).2.1 (beginsD D).2.ops (beginsD D).2.armed kv (beginsD D).2.down) :: (fb, cellsO [vn', vs] 81) :: s1') ++ (s2 ++ ((mb, mo) :: rest))) from by rw [hwd]; exact hback ⟨_, _⟩ _ vn' vs s1' s2 _ o1' o2 (perm_ap _ _ _ _ _ _))⟩) pulled)
theorem writeAt_spec {F : Fm} {db : Nat} {D : Dk} {s : Hl} (hD : DiskAt db D s) (hsz : D.files.length ≤ 1000) (hfb : FewB D.files) (ho : 0 ≤ D.ops ∧ D.ops ≤ 1000000) (ha : D.armed ≤ 9223372036854775807) (hfb2 : FewB (beginsD D).2.files) (hu : 0 ≤ (beginsD D).2.used ∧ (beginsD D).2.used ≤ 1099511627776)
    (k : List UInt8) {vb : Value} {bs : List UInt8} (at_ : Int) (hb : Arg byteE F vb bs) (hbl : bs.length ≤ 1000000) :
    Spec Try.prog 26 #[.pointer (some ⟨db, 0, none⟩), kS k, .int .i64 at_, vb] F s fun v s' => v = .int .i64 (writeD D k (some at_) bs).1 ∧ DiskAt db (writeD D k (some at_) bs).2 s' := by
  obtain ⟨pb, cb, rfl⟩ := hb.shape
  refine Spec.of (n := 25) (vs := [.pointer (some ⟨db, 0, none⟩), kS k, .int .i64 at_, .slice pb bs.length cb]) Try.func26 rfl Try.ntmps26 rfl ?_
  refine Vc.seq ?_
  refine Vc.text (List.range 1) (sd [(0, .pure)]) rfl ?_
  refine Rg.pure rfl rfl rfl (Pv.assign rfl) ?_
  refine Rg.nil ?_
  refine Vc.seq ?_
  refine Vc.text (List.range 8) (sd [(0, .pure), (1, .pure), (2, .eff), (3, .pure), (4, .pure), (5, .pure), (6, .pure), (7, .pure)]) rfl ?_
  refine Rg.pure rfl rfl rfl (Pv.move rfl) ?_
  refine Rg.pure rfl rfl rfl (Pv.move rfl) ?_
  refine Rg.callH rfl rfl rfl (run_callF rfl) (fun F' hF' => on_spec (F := F') hD hsz hfb ho ha k) rfl ?_
  rintro _ s14 ⟨p, e, rfl, hcase⟩
  refine Rg.pure rfl rfl rfl (Pv.move rfl) ?_
  refine Rg.pure rfl rfl rfl (Pv.extract rfl rfl) ?_
  refine Rg.pure rfl rfl rfl (Pv.extract rfl rfl) ?_
  refine Rg.pure rfl rfl rfl (Pv.assign rfl) ?_
  refine Rg.pure rfl rfl rfl (Pv.assign rfl) ?_
  refine Rg.nil ?_
  refine Vc.seq ?_
  refine Vc.seq ?_
  refine Vc.text (List.range 2) (sd [(0, .pure), (1, .pure)]) rfl ?_
  refine Rg.pure rfl rfl rfl (Pv.move rfl) ?_
  refine Rg.pure rfl rfl rfl (Pv.neq rfl rfl) ?_
  refine Rg.nil ?_
  refine Vc.cond rfl (fun h18 => ?_) (fun h18 => ?_)
  ·
    simp only [bne_iff_ne, ne_eq] at h18
    have hres : writeD D k (some at_) bs = (e, (beginsD D).2) ∧ DiskAt db (beginsD D).2 s14 := by
      rcases hcase with ⟨h1, rfl, h2⟩ | ⟨h1, rfl, h2, h3⟩ | ⟨_, h2, _⟩
      · exact ⟨by rw [writeD, if_pos h1], h2⟩
      · exact ⟨by rw [writeD, if_neg (by omega), h2], h3⟩
      · exact absurd h2 h18
    refine Vc.seq ?_
    refine Vc.text (List.range 2) (sd [(0, .pure), (1, .pure)]) rfl ?_
    refine Rg.pure rfl rfl rfl (Pv.move rfl) ?_
    refine Rg.pure rfl rfl rfl (Pv.assign rfl) ?_
    refine Rg.nil ?_
    exact Vc.ret (Vc.retsH rfl (.cons (.tmp rfl) (.nil)) (⟨by rw [hres.1]; rfl, by rw [hres.1]; exact hres.2⟩) pulled)
  ·
    simp only [bne_eq_false_iff_eq] at h18
    subst h18
    obtain ⟨hb0, _, fb, rfl, hfo⟩ := (hcase.resolve_left (fun h => by cases h.2.1)).resolve_left (fun h => by cases h.2.1)
    obtain ⟨mb, mo, kv, f, vn, vs, s1, s2, rest, hff, o1, o2, hp, hback⟩ := hfo.open_
    obtain ⟨pn, cn, rfl⟩ := o1.shape
    obtain ⟨hl1, hl2⟩ := hfb2.find hff
    have hwd : writeD D k (some at_) bs = ((wrG (beginsD D).2.room (beginsD D).2.used f.now at_ bs).1, { (beginsD D).2 with files := setF (beginsD D).2.files k ⟨(wrG (beginsD D).2.room (beginsD D).2.used f.now at_ bs).2.2, f.synced⟩, used := (wrG (beginsD D).2.room (beginsD D).2.used f.now at_ bs).2.1 }) := by rw [writeD, if_neg (by omega), hff]; rfl
    refine Vc.perm ((List.Perm.of_eq (List.append_nil s14)).trans hp) ?_
    refine Vc.skip ?_
    refine Vc.seq ?_
    refine Vc.text (List.range 6) (sd [(0, .pure), (1, .pure), (2, .pure), (3, .pure), (4, .eff), (5, .pure)]) rfl ?_
    refine Rg.pure rfl rfl rfl (Pv.move rfl) ?_
    refine Rg.pure rfl rfl rfl (Pv.move rfl) ?_
    refine Rg.pure rfl rfl rfl (Pv.move rfl) ?_
    refine Rg.pure rfl rfl rfl (Pv.move rfl) ?_
    refine Rg.callH rfl rfl rfl (run_callF rfl) (fun F' hF' => writes_spec (F := F') (db := db) (mb := mb) (fb := fb) (room := (beginsD D).2.room) (used := (beginsD D).2.used) (ops := (beginsD D).2.ops) (armed := (beginsD D).2.armed) (keep := kv) (vs := vs) (down := (beginsD D).2.down) o1 (hb.mono fun b o h => hF' b o (.inr h)) at_ (by omega) (by omega) hu) rfl ?_
    rintro _ _ ⟨rfl, vn', s1', o1', rfl⟩
    refine Rg.pure rfl rfl rfl (Pv.assign rfl) ?_
    refine Rg.nil ?_
    exact Vc.ret (Vc.retsH rfl (.cons (.tmp rfl) (.nil)) (⟨by rw [hwd]; rfl, (show DiskAt db (writeD D k (some at_) bs).2 (((db, dkO mb (beginsD D).2.room (wrG (beginsD D).2.room (beginsD D).2.used f.now at_ bs).2.1 (beginsD D).2.ops (beginsD D).2.armed kv (beginsD D).2.down) :: (fb, cellsO [vn', vs] 81) :: s1') ++ (s2 ++ ((mb, mo) :: rest))) from by rw [hwd]; exact hback ⟨_, _⟩ _ vn' vs s1' s2 _ o1' o2 (perm_ap _ _ _ _ _ _))⟩) pulled)
end Go.Proofs.Ytmocncadncgaaaa
