/- Disks: Size. -/
import Derived.Test.YtmocncadncgaaaaDkO
namespace Go.Proofs.Ytmocncadncgaaaa
set_option linter.unusedVariables false

def sizeD (D : Dk) (k : List UInt8) : Int × Int := if (beginsD D).1 = 7 then (0, 7) else match findF (beginsD D).2.files k with
  | none => (0, 4)
  | some f => (((f.now.length : Nat) : Int), 0)
theorem size_spec {F : Fm} {db : Nat} {D : Dk} {s : Hl} (hD : DiskAt db D s) (hsz : D.files.length ≤ 1000) (hfb : FewB D.files) (ho : 0 ≤ D.ops ∧ D.ops ≤ 1000000) (ha : D.armed ≤ 9223372036854775807) (k : List UInt8) :
    Spec Try.prog 16 #[.pointer (some ⟨db, 0, none⟩), kS k] F s fun v s' => v = .tuple #[.int .i64 (sizeD D k).1, .int .i64 (sizeD D k).2] ∧ DiskAt db (beginsD D).2 s' := by
  refine Spec.of (n := 22) (vs := [.pointer (some ⟨db, 0, none⟩), kS k]) Try.func16 rfl Try.ntmps16 rfl ?_
  refine Vc.seq ?_
  refine Vc.text (List.range 2) (sd [(0, .pure), (1, .pure)]) rfl ?_
  refine Rg.pure rfl rfl rfl (Pv.assign rfl) ?_
  refine Rg.pure rfl rfl rfl (Pv.assign rfl) ?_
  refine Rg.nil ?_
  refine Vc.seq ?_
  refine Vc.text (List.range 8) (sd [(0, .pure), (1, .pure), (2, .eff), (3, .pure), (4, .pure), (5, .pure), (6, .pure), (7, .pure)]) rfl ?_
  refine Rg.pure rfl rfl rfl (Pv.move rfl) ?_
  refine Rg.pure rfl rfl rfl (Pv.move rfl) ?_
  refine Rg.callH rfl rfl rfl (run_callF rfl) (fun F' hF' => on_spec (F := F') hD hsz hfb ho ha k) rfl ?_
  rintro _ s11 ⟨p, e, rfl, hcase⟩
  refine Rg.pure rfl rfl rfl (Pv.move rfl) ?_
  refine Rg.pure rfl rfl rfl (Pv.extract rfl rfl) ?_
  refine Rg.pure rfl rfl rfl (Pv.extract rfl rfl) ?_
  refine Rg.pure rfl rfl rfl (Pv.assign rfl) ?_
  refine Rg.pure rfl rfl rfl (Pv.assign rfl) ?_
  refine Rg.nil ?_
  refine Vc.seq ?_
  refine Vc.seq ?_
  refine Vc.text (List.range 2) (sd [(0, .pure), (1, .pure)]) rfl ?_
  refine Rg.pure rfl rfl rfl (Pv.move rfl) ?_
  refine Rg.pure rfl rfl rfl (Pv.neq rfl rfl) ?_
  refine Rg.nil ?_
  refine Vc.cond rfl (fun h15 => ?_) (fun h15 => ?_)
  ·
    simp only [bne_iff_ne, ne_eq] at h15
    have hres : sizeD D k = (0, e) ∧ DiskAt db (beginsD D).2 s11 := by
      rcases hcase with ⟨h1, rfl, h2⟩ | ⟨h1, rfl, h2, h3⟩ | ⟨_, h2, _⟩
      · exact ⟨by rw [sizeD, if_pos h1], h2⟩
      · exact ⟨by rw [sizeD, if_neg (by omega), h2], h3⟩
      · exact absurd h2 h15
    refine Vc.seq ?_
    refine Vc.text (List.range 3) (sd [(0, .pure), (1, .pure), (2, .pure)]) rfl ?_
    refine Rg.pure rfl rfl rfl (Pv.move rfl) ?_
    refine Rg.pure rfl rfl rfl (Pv.assign rfl) ?_
    refine Rg.pure rfl rfl rfl (Pv.assign rfl) ?_
    refine Rg.nil ?_
    exact Vc.ret (Vc.retsH rfl (.cons (.tmp rfl) (.cons (.tmp rfl) (.nil))) (⟨by rw [hres.1]; rfl, hres.2⟩) pulled)
  ·
    simp only [bne_eq_false_iff_eq] at h15
    subst h15
    obtain ⟨hb0, _, fb, rfl, hfo⟩ := (hcase.resolve_left (fun h => by cases h.2.1)).resolve_left (fun h => by cases h.2.1)
    have hat := hfo.at
    obtain ⟨mb, mo, kv, f, vn, vs, s1, s2, rest, hff, o1, o2, hp, _⟩ := hfo.open_
    obtain ⟨pn, cn, rfl⟩ := o1.shape
    have hsd : sizeD D k = (((f.now.length : Nat) : Int), 0) := by rw [sizeD, if_neg (by omega), hff]
    have hat2 := fun hl (h : hl.Perm s11) => (show DiskAt db (beginsD D).2 hl from by obtain ⟨a, b, c, d, e, g, h1, h2, h3, h4, h5, h6⟩ := hat; exact ⟨a, b, c, d, e, g, h1, h2, h3, h4, h5, h.trans h6⟩)
    refine Vc.perm ((List.Perm.of_eq (List.append_nil s11)).trans hp) ?_
    refine Vc.skip ?_
    refine Vc.seq ?_
    refine Vc.text (List.range 7) (sd [(0, .pure), (1, .pure), (2, .pure), (3, .read), (4, .pure), (5, .pure), (6, .pure)]) rfl ?_
    refine Rg.pure rfl rfl rfl (Pv.move rfl) ?_
    refine Rg.pure rfl rfl rfl (Pv.nilp rfl) ?_
    refine Rg.pure rfl rfl rfl (Pv.fa rfl) ?_
    refine Rg.read rfl rfl rfl (Ev.ld rfl rfl) ?_
    refine Rg.pure rfl rfl rfl (Pv.lenS rfl) ?_
    refine Rg.pure rfl rfl rfl (Pv.assign rfl) ?_
    refine Rg.pure rfl rfl rfl (Pv.assign rfl) ?_
    refine Rg.nil ?_
    exact Vc.ret (Vc.retsH rfl (.cons (.tmp rfl) (.cons (.tmp rfl) (.nil))) (⟨by rw [hsd]; rfl, hat2 _ hp.symm⟩) pulled)
end Go.Proofs.Ytmocncadncgaaaa
