/- Disks: Create. -/
import Derived.Test.YtmocncadncgaaaaDkV
namespace Go.Proofs.Ytmocncadncgaaaa
set_option linter.unusedVariables false

theorem FilesAt.snoc {ms : List (Me (List UInt8))} {fs : List (List UInt8 × Fl)} {hl s1 s2 : Hl} {k : List UInt8} {f : Fl} {b born : Nat} {vn vs : Value} (h : FilesAt ms fs hl) (own1 : Own byteE vn f.now s1) (own2 : Own byteE vs f.synced s2) :
    ∃ hl', hl'.Perm ((b, cellsO [vn, vs] 81) :: (s1 ++ (s2 ++ hl))) ∧ FilesAt (ms ++ [⟨k, .pointer (some ⟨b, 0, Option.none⟩), born⟩]) (fs ++ [(k, f)]) hl' := by
  induction h with
  | nil => exact ⟨_, .refl _, .cons .nil own1 own2⟩
  | @cons ms fs hl t1 t2 k2 f2 b2 born2 vn2 vs2 h o1 o2 ih =>
    obtain ⟨hl', hp, h'⟩ := ih
    exact ⟨_, (((hp.append_left t2).append_left t1).cons _).trans (perm_move _ _ _ _ _ _ _), .cons h' o1 o2⟩
theorem findF_none {fs : List (List UInt8 × Fl)} {k : List UInt8} (h : findF fs k = Option.none) : ∀ p ∈ fs, p.1 ≠ k := by
  intro p hp e
  unfold findF at h
  rw [Option.map_eq_none_iff, List.find?_eq_none] at h
  exact h p hp (by simp [e])
theorem FilesAt.notIn {ms : List (Me (List UInt8))} {fs : List (List UInt8 × Fl)} {hl : Hl} (h : FilesAt ms fs hl) {k : List UInt8} (hn : findF fs k = Option.none) : ∀ m ∈ ms, m.k ≠ k := by
  intro m hm e
  have : m.k ∈ fs.map (·.1) := by rw [← h.keys]; exact List.mem_map.2 ⟨m, hm, rfl⟩
  obtain ⟨p, hp, hpk⟩ := List.mem_map.1 this
  exact findF_none hn p hp (hpk.trans e)
def createD (D : Dk) (k : List UInt8) : Int × Dk := if (beginsD D).1 = 7 then (7, (beginsD D).2) else if mayN ⟨k.toArray⟩ = false then (1, (beginsD D).2) else match findF (beginsD D).2.files k with
  | .some _ => (5, (beginsD D).2)
  | .none => (0, { (beginsD D).2 with files := (beginsD D).2.files ++ [(k, ⟨[], []⟩)] })
theorem create_spec {F : Fm} {db : Nat} {D : Dk} {s : Hl} (hD : DiskAt db D s) (hsz : D.files.length ≤ 1000) (hfb : FewB D.files) (ho : 0 ≤ D.ops ∧ D.ops ≤ 1000000) (ha : D.armed ≤ 9223372036854775807) (k : List UInt8) :
    Spec Try.prog 14 #[.pointer (some ⟨db, 0, Option.none⟩), kS k] F s fun v s' => v = .int .i64 (createD D k).1 ∧ DiskAt db (createD D k).2 s' := by
  refine Spec.of (n := 31) (vs := [.pointer (some ⟨db, 0, Option.none⟩), kS k]) Try.func14 rfl Try.ntmps14 rfl ?_
  refine Vc.seq ?_
  refine Vc.text (List.range 1) (sd [(0, .pure)]) rfl ?_
  refine Rg.pure rfl rfl rfl (Pv.assign rfl) ?_
  refine Rg.nil ?_
  refine Vc.seq ?_
  refine Vc.seq ?_
  refine Vc.text (List.range 8) (sd [(0, .pure), (1, .pure), (2, .eff), (3, .pure), (4, .pure), (5, .pure), (6, .pure), (7, .pure)]) rfl ?_
  refine Rg.pure rfl rfl rfl (Pv.move rfl) ?_
  refine Rg.pure rfl rfl rfl (Pv.move rfl) ?_
  refine Rg.callH rfl rfl rfl (run_callF rfl) (fun F' hF' => on_spec (F := F') hD hsz hfb ho ha k) rfl ?_
  rintro _ s10 ⟨p, e, rfl, hcase⟩
  refine Rg.pure rfl rfl rfl (Pv.move rfl) ?_
  refine Rg.pure rfl rfl rfl (Pv.extract rfl rfl) ?_
  refine Rg.pure rfl rfl rfl (Pv.extract rfl rfl) ?_
  refine Rg.pure rfl rfl rfl (Pv.assign rfl) ?_
  refine Rg.pure rfl rfl rfl (Pv.assign rfl) ?_
  refine Rg.nil ?_
  refine Vc.block ?_
  refine Vc.seq ?_
  refine Vc.text (List.range 3) (sd [(0, .pure), (1, .pure), (2, .pure)]) rfl ?_
  refine Rg.pure rfl rfl rfl (Pv.move rfl) ?_
  refine Rg.pure rfl rfl rfl (Pv.eql rfl rfl) ?_
  refine Rg.pure rfl rfl rfl (Pv.assign rfl) ?_
  refine Rg.nil ?_
  refine Vc.cond rfl (fun h13 => ?_) (fun h13 => ?_)
  ·
    simp only [beq_iff_eq] at h13
    subst h13
    have hres : createD D k = (7, (beginsD D).2) ∧ DiskAt db (beginsD D).2 s10 := by
      rcases hcase with ⟨h1, _, h2⟩ | ⟨h1, h2, _⟩ | ⟨_, h2, _⟩
      · exact ⟨by rw [createD, if_pos h1], h2⟩
      · cases h2
      · cases h2
    refine Vc.seq ?_
    refine Vc.text (List.range 2) (sd [(0, .pure), (1, .pure)]) rfl ?_
    refine Rg.pure rfl rfl rfl (Pv.move rfl) ?_
    refine Rg.pure rfl rfl rfl (Pv.assign rfl) ?_
    refine Rg.nil ?_
    exact Vc.ret (Vc.retsH rfl (.cons (.tmp rfl) (.nil)) (⟨by rw [hres.1]; rfl, by rw [hres.1]; exact hres.2⟩) pulled)
  ·
    simp only [beq_eq_false_iff_ne, ne_eq] at h13
    replace hcase := hcase.resolve_left (fun h => h13 h.2.1)
    have hb0 : (beginsD D).1 = 0 := by rcases hcase with h | h <;> exact h.1
    have hat : DiskAt db (beginsD D).2 s10 := by
      rcases hcase with h | ⟨_, _, fb, _, h⟩
      · exact h.2.2.2
      · exact h.at
    refine Vc.seq ?_
    refine Vc.text (List.range 4) (sd [(0, .pure), (1, .eff), (2, .pure), (3, .pure)]) rfl ?_
    refine Rg.pure rfl rfl rfl (Pv.move rfl) ?_
    refine Rg.callP rfl rfl rfl (run_callF rfl) (may_spec _ ⟨k.toArray⟩) ?_
    rintro _ rfl
    refine Rg.pure rfl rfl rfl (Pv.not rfl) ?_
    refine Rg.pure rfl rfl rfl (Pv.assign rfl) ?_
    refine Rg.nil ?_
    refine Vc.cond rfl (fun h17 => ?_) (fun h17 => ?_)
    ·
      simp only [Bool.not_eq_true'] at h17
      refine Vc.seq ?_
      refine Vc.text (List.range 1) (sd [(0, .pure)]) rfl ?_
      refine Rg.pure rfl rfl rfl (Pv.assign rfl) ?_
      refine Rg.nil ?_
      exact Vc.ret (Vc.retsH rfl (.cons (.tmp rfl) (.nil)) (⟨by rw [createD, if_neg (by omega), if_pos h17]; rfl, by rw [createD, if_neg (by omega), if_pos h17]; exact hat⟩) pulled)
    ·
      simp only [Bool.not_eq_false'] at h17
      refine Vc.seq ?_
      refine Vc.text (List.range 3) (sd [(0, .pure), (1, .pure), (2, .pure)]) rfl ?_
      refine Rg.pure rfl rfl rfl (Pv.move rfl) ?_
      refine Rg.pure rfl rfl rfl (Pv.eql rfl rfl) ?_
      refine Rg.pure rfl rfl rfl (Pv.assign rfl) ?_
      refine Rg.nil ?_
      refine Vc.cond rfl (fun h21 => ?_) (fun h21 => ?_)
      ·
        simp only [beq_iff_eq] at h21
        subst h21
        obtain ⟨_, _, fb, _, hfo⟩ := hcase.resolve_left (fun h => by cases h.2.1)
        obtain ⟨mb, mo, kv, f, vn, vs, s1, s2, rest, hff, _⟩ := hfo.open_
        refine Vc.seq ?_
        refine Vc.text (List.range 1) (sd [(0, .pure)]) rfl ?_
        refine Rg.pure rfl rfl rfl (Pv.assign rfl) ?_
        refine Rg.nil ?_
        exact Vc.ret (Vc.retsH rfl (.cons (.tmp rfl) (.nil)) (⟨by rw [createD, if_neg (by omega), if_neg (by rw [h17]; decide), hff]; rfl, by rw [createD, if_neg (by omega), if_neg (by rw [h17]; decide), hff]; exact hat⟩) pulled)
      ·
        simp only [beq_eq_false_iff_ne, ne_eq] at h21
        obtain ⟨_, _, hff, _⟩ := hcase.resolve_right (fun h => h21 h.2.1)
        have hcd : createD D k = (0, { (beginsD D).2 with files := (beginsD D).2.files ++ [(k, ⟨[], []⟩)] }) := by rw [createD, if_neg (by omega), if_neg (by rw [h17]; decide), hff]
        obtain ⟨mb, mc, ms, hf, kv, sk, hfl, hn, hbn, hold, own, hp⟩ := hat
        refine Vc.perm ((List.Perm.of_eq (List.append_nil s10)).trans hp) ?_
        refine Vc.skip ?_
        refine Vc.blk ?_
        refine Vc.seq ?_
        refine Vc.text (List.range 8) (sd [(0, .pure), (1, .pure), (2, .pure), (3, .read), (4, .pure), (5, .pure), (6, .eff), (7, .eff)]) rfl ?_
        refine Rg.pure rfl rfl rfl (Pv.move rfl) ?_
        refine Rg.pure rfl rfl rfl (Pv.nilp rfl) ?_
        refine Rg.pure rfl rfl rfl (Pv.fa rfl) ?_
        refine Rg.read rfl rfl rfl (Ev.ld rfl rfl) ?_
        refine Rg.pure rfl rfl rfl (Pv.move rfl) ?_
        refine Rg.pure rfl rfl rfl (Pv.build rfl rfl) ?_
        refine Rg.box rfl rfl rfl rfl rfl (fun b30 => ?_)
        refine Rg.mapPut (ms := ms) (k := k) rfl rfl rfl rfl rfl rfl (hfl.notIn hff) hn rfl ?_
        refine Rg.nil ?_
        refine Vc.seq ?_
        refine Vc.text (List.range 1) (sd [(0, .pure)]) rfl ?_
        refine Rg.pure rfl rfl rfl (Pv.assign rfl) ?_
        refine Rg.nil ?_
        exact Vc.ret (Vc.retsH rfl (.cons (.tmp rfl) (.nil)) (⟨by rw [hcd]; rfl, (show DiskAt db (createD D k).2 ((b30, cellsO [.slice Option.none 0 0, .slice Option.none 0 0] 81) :: (db, dkO mb (beginsD D).2.room (beginsD D).2.used (beginsD D).2.ops (beginsD D).2.armed kv (beginsD D).2.down) :: (mb, mapO kS (ms ++ [⟨k, .pointer (some ⟨b30, 0, Option.none⟩), mc⟩]) (mc + 1)) :: (hf ++ sk)) from by
          rw [hcd]
          obtain ⟨hf', hpf, hfl'⟩ := hfl.snoc (k := k) (f := ⟨[], []⟩) (b := b30) (born := mc) (vn := .slice Option.none 0 0) (vs := .slice Option.none 0 0) .nil .nil
          refine ⟨mb, mc + 1, _, hf', kv, sk, hfl', ?_, ?_, ?_, own, ?_⟩
          · rw [List.map_append, List.map_cons, List.map_nil, List.nodup_append]
            exact ⟨hn, by simp, fun a ha' b hb' => by
              obtain ⟨m, hm, rfl⟩ := List.mem_map.1 ha'
              rw [List.mem_singleton] at hb'
              subst hb'
              exact hfl.notIn hff m hm⟩
          · rw [List.map_append, List.map_cons, List.map_nil, List.nodup_append]
            exact ⟨hbn, by simp, fun a ha' b hb' => by
              obtain ⟨m, hm, rfl⟩ := List.mem_map.1 ha'
              rw [List.mem_singleton] at hb'
              subst hb'
              have := hold m hm
              omega⟩
          · intro m hm
            rcases List.mem_append.1 hm with h | h
            · have := hold m h
              omega
            · rw [List.mem_singleton] at h
              subst h
              exact Nat.lt_succ_self mc
          · refine List.Perm.trans ?_ (((hpf.append_right sk).cons _).cons _).symm
            simp only [List.nil_append, List.cons_append]
            exact (List.Perm.swap _ _ _).trans ((List.Perm.swap _ _ _).cons _))⟩) pulled)
end Go.Proofs.Ytmocncadncgaaaa
