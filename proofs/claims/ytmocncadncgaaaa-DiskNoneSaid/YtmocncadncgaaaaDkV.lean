/- Disks: ReadAt. -/
import Derived.Test.YtmocncadncgaaaaDkU
namespace Go.Proofs.Ytmocncadncgaaaa
set_option linter.unusedVariables false

def readD (D : Dk) (k : List UInt8) (at_ n : Int) : List UInt8 × Int := if (beginsD D).1 = 7 then ([], 7) else match findF (beginsD D).2.files k with
  | none => ([], 4)
  | some f => if at_ < 0 ∨ n < 0 ∨ (f.now.length : Int) < at_ ∨ (f.now.length : Int) - at_ < n then ([], 1) else ((f.now.drop at_.toNat).take n.toNat, 0)
theorem readAt_spec {F : Fm} {db : Nat} {D : Dk} {s : Hl} (hD : DiskAt db D s) (hsz : D.files.length ≤ 1000) (hfb : FewB D.files) (ho : 0 ≤ D.ops ∧ D.ops ≤ 1000000) (ha : D.armed ≤ 9223372036854775807) (hfb2 : FewB (beginsD D).2.files)
    (k : List UInt8) (at_ n : Int) :
    Spec Try.prog 24 #[.pointer (some ⟨db, 0, none⟩), kS k, .int .i64 at_, .int .i64 n] F s fun v s' => ∃ u s1 s2, v = .tuple #[u, .int .i64 (readD D k at_ n).2] ∧ Own byteE u (readD D k at_ n).1 s1 ∧ DiskAt db (beginsD D).2 s2 ∧ s' = s1 ++ s2 := by
  refine Spec.of (n := 59) (vs := [.pointer (some ⟨db, 0, none⟩), kS k, .int .i64 at_, .int .i64 n]) Try.func24 rfl Try.ntmps24 rfl ?_
  refine Vc.seq ?_
  refine Vc.text (List.range 2) (sd [(0, .pure), (1, .pure)]) rfl ?_
  refine Rg.pure rfl rfl rfl (Pv.assign rfl) ?_
  refine Rg.pure rfl rfl rfl (Pv.assign rfl) ?_
  refine Rg.nil ?_
  refine Vc.seq ?_
  refine Vc.text (List.range 8) (sd [(0, .pure), (1, .pure), (2, .eff), (3, .pure), (4, .pure), (5, .pure), (6, .pure), (7, .pure)]) rfl ?_
  refine Rg.pure rfl rfl rfl (Pv.move rfl) ?_
  refine Rg.pure rfl rfl rfl (Pv.move rfl) ?_
  refine Rg.callH rfl rfl rfl (run_callF rfl) (fun F' hF' => on_spec (F := F') hD hsz hfb ho ha k) rfl ?_
  rintro _ s15 ⟨p, e, rfl, hcase⟩
  refine Rg.pure rfl rfl rfl (Pv.move rfl) ?_
  refine Rg.pure rfl rfl rfl (Pv.extract rfl rfl) ?_
  refine Rg.pure rfl rfl rfl (Pv.extract rfl rfl) ?_
  refine Rg.pure rfl rfl rfl (Pv.assign rfl) ?_
  refine Rg.pure rfl rfl rfl (Pv.assign rfl) ?_
  refine Rg.nil ?_
  refine Vc.seq ?_
  refine Vc.block ?_
  refine Vc.seq ?_
  refine Vc.text (List.range 3) (sd [(0, .pure), (1, .pure), (2, .pure)]) rfl ?_
  refine Rg.pure rfl rfl rfl (Pv.move rfl) ?_
  refine Rg.pure rfl rfl rfl (Pv.neq rfl rfl) ?_
  refine Rg.pure rfl rfl rfl (Pv.assign rfl) ?_
  refine Rg.nil ?_
  refine Vc.cond rfl (fun h18 => ?_) (fun h18 => ?_)
  ·
    simp only [bne_iff_ne, ne_eq] at h18
    have hres : readD D k at_ n = ([], e) ∧ DiskAt db (beginsD D).2 s15 := by
      rcases hcase with ⟨h1, rfl, h2⟩ | ⟨h1, rfl, h2, h3⟩ | ⟨_, h2, _⟩
      · exact ⟨by rw [readD, if_pos h1], h2⟩
      · exact ⟨by rw [readD, if_neg (by omega), h2], h3⟩
      · exact absurd h2 h18
    refine Vc.seq ?_
    refine Vc.text (List.range 3) (sd [(0, .pure), (1, .pure), (2, .pure)]) rfl ?_
    refine Rg.pure rfl rfl rfl (Pv.move rfl) ?_
    refine Rg.pure rfl rfl rfl (Pv.assign rfl) ?_
    refine Rg.pure rfl rfl rfl (Pv.assign rfl) ?_
    refine Rg.nil ?_
    exact Vc.ret (Vc.retsH rfl (.cons (.tmp rfl) (.cons (.tmp rfl) (.nil))) (⟨.slice none 0 0, [], s15, by rw [hres.1]; rfl, by rw [hres.1]; exact .nil, hres.2, rfl⟩) pulled)
  ·
    simp only [bne_eq_false_iff_eq] at h18
    subst h18
    obtain ⟨hb0, _, fb, rfl, hfo⟩ := (hcase.resolve_left (fun h => by cases h.2.1)).resolve_left (fun h => by cases h.2.1)
    have hat := hfo.at
    obtain ⟨mb, mo, kv, f, vn, vs, s1, s2, rest, hff, o1, o2, hp, hback⟩ := hfo.open_
    obtain ⟨pn, cn, rfl⟩ := o1.shape
    have hcn : f.now.length ≤ cn := (Arg.own (F := frz F s1) o1 fun b o hb => Or.inl hb).cap.2
    obtain ⟨hl1, hl2⟩ := hfb2.find hff
    have hrd : readD D k at_ n = if at_ < 0 ∨ n < 0 ∨ (f.now.length : Int) < at_ ∨ (f.now.length : Int) - at_ < n then ([], 1) else ((f.now.drop at_.toNat).take n.toNat, 0) := by rw [readD, if_neg (by omega), hff]
    have hat2 := fun hl (h : hl.Perm s15) => (show DiskAt db (beginsD D).2 hl from by obtain ⟨a, b, c, d, e, g, h1, h2, h3, h4, h5, h6⟩ := hat; exact ⟨a, b, c, d, e, g, h1, h2, h3, h4, h5, h.trans h6⟩)
    refine Vc.perm ((List.Perm.of_eq (List.append_nil s15)).trans hp) ?_
    refine Vc.seq ?_
    refine Vc.text (List.range 27) (sd [(0, .pure), (1, .pure), (2, .pure), (3, .pure), (4, .pure), (5, .pure), (6, .pure), (7, .pure), (8, .pure), (9, .pure), (10, .pure), (11, .read), (12, .pure), (13, .pure), (14, .pure), (15, .pure), (16, .pure), (17, .pure), (18, .pure), (19, .pure), (20, .read), (21, .pure), (22, .pure), (23, .pure), (24, .pure), (25, .pure), (26, .pure)]) rfl ?_
    refine Rg.pure rfl rfl rfl (Pv.move rfl) ?_
    refine Rg.pure rfl rfl rfl (Pv.lss rfl rfl) ?_
    refine Rg.pure rfl rfl rfl (Pv.move rfl) ?_
    refine Rg.split (t := 25) rfl (fun h25 => ?_) (fun h25 => ?_)
    ·
      simp only [decide_eq_true_eq] at h25
      iterate 2 (first | refine Rg.skipP rfl rfl rfl ?_ | refine Rg.skipR rfl rfl rfl ?_ | refine Rg.skipE rfl rfl rfl ?_)
      refine Rg.pure rfl rfl rfl (Pv.pickT rfl rfl) ?_
      refine Rg.pure rfl rfl rfl (Pv.move rfl) ?_
      iterate 7 (first | refine Rg.skipP rfl rfl rfl ?_ | refine Rg.skipR rfl rfl rfl ?_ | refine Rg.skipE rfl rfl rfl ?_)
      refine Rg.pure rfl rfl rfl (Pv.pickT rfl rfl) ?_
      refine Rg.pure rfl rfl rfl (Pv.move rfl) ?_
      iterate 9 (first | refine Rg.skipP rfl rfl rfl ?_ | refine Rg.skipR rfl rfl rfl ?_ | refine Rg.skipE rfl rfl rfl ?_)
      refine Rg.pure rfl rfl rfl (Pv.pickT rfl rfl) ?_
      refine Rg.pure rfl rfl rfl (Pv.assign rfl) ?_
      refine Rg.nil ?_
      refine Vc.cond rfl (fun h22 => ?_) (fun h22 => absurd h22 (by cases h22))
      try simp only [decide_eq_true_eq] at h22
      refine Vc.seq ?_
      refine Vc.text (List.range 2) (sd [(0, .pure), (1, .pure)]) rfl ?_
      refine Rg.pure rfl rfl rfl (Pv.assign rfl) ?_
      refine Rg.pure rfl rfl rfl (Pv.assign rfl) ?_
      refine Rg.nil ?_
      exact Vc.ret (Vc.retsH rfl (.cons (.tmp rfl) (.cons (.tmp rfl) (.nil))) (⟨.slice none 0 0, [], _, by rw [hrd, if_pos (by omega)]; rfl, by rw [hrd, if_pos (by omega)]; exact .nil, hat2 _ hp.symm, rfl⟩) pulled)
    ·
      simp only [decide_eq_false_iff_not] at h25
      refine Rg.pure rfl rfl rfl (Pv.move rfl) ?_
      refine Rg.pure rfl rfl rfl (Pv.lss rfl rfl) ?_
      refine Rg.pure rfl rfl rfl (Pv.pickF rfl rfl) ?_
      refine Rg.pure rfl rfl rfl (Pv.move rfl) ?_
      refine Rg.split (t := 29) rfl (fun h29 => ?_) (fun h29 => ?_)
      ·
        simp only [decide_eq_true_eq] at h29
        iterate 7 (first | refine Rg.skipP rfl rfl rfl ?_ | refine Rg.skipR rfl rfl rfl ?_ | refine Rg.skipE rfl rfl rfl ?_)
        refine Rg.pure rfl rfl rfl (Pv.pickT rfl rfl) ?_
        refine Rg.pure rfl rfl rfl (Pv.move rfl) ?_
        iterate 9 (first | refine Rg.skipP rfl rfl rfl ?_ | refine Rg.skipR rfl rfl rfl ?_ | refine Rg.skipE rfl rfl rfl ?_)
        refine Rg.pure rfl rfl rfl (Pv.pickT rfl rfl) ?_
        refine Rg.pure rfl rfl rfl (Pv.assign rfl) ?_
        refine Rg.nil ?_
        refine Vc.cond rfl (fun h22 => ?_) (fun h22 => absurd h22 (by cases h22))
        try simp only [decide_eq_true_eq] at h22
        refine Vc.seq ?_
        refine Vc.text (List.range 2) (sd [(0, .pure), (1, .pure)]) rfl ?_
        refine Rg.pure rfl rfl rfl (Pv.assign rfl) ?_
        refine Rg.pure rfl rfl rfl (Pv.assign rfl) ?_
        refine Rg.nil ?_
        exact Vc.ret (Vc.retsH rfl (.cons (.tmp rfl) (.cons (.tmp rfl) (.nil))) (⟨.slice none 0 0, [], _, by rw [hrd, if_pos (by omega)]; rfl, by rw [hrd, if_pos (by omega)]; exact .nil, hat2 _ hp.symm, rfl⟩) pulled)
      ·
        simp only [decide_eq_false_iff_not] at h29
        refine Rg.pure rfl rfl rfl (Pv.move rfl) ?_
        refine Rg.pure rfl rfl rfl (Pv.move rfl) ?_
        refine Rg.pure rfl rfl rfl (Pv.nilp rfl) ?_
        refine Rg.pure rfl rfl rfl (Pv.fa rfl) ?_
        refine Rg.read rfl rfl rfl (Ev.ld rfl rfl) ?_
        refine Rg.pure rfl rfl rfl (Pv.lenS rfl) ?_
        refine Rg.pure rfl rfl rfl (Pv.gtr rfl rfl) ?_
        refine Rg.pure rfl rfl rfl (Pv.pickF rfl rfl) ?_
        refine Rg.pure rfl rfl rfl (Pv.move rfl) ?_
        refine Rg.split (t := 38) rfl (fun h38 => ?_) (fun h38 => ?_)
        ·
          simp only [decide_eq_true_eq] at h38
          iterate 9 (first | refine Rg.skipP rfl rfl rfl ?_ | refine Rg.skipR rfl rfl rfl ?_ | refine Rg.skipE rfl rfl rfl ?_)
          refine Rg.pure rfl rfl rfl (Pv.pickT rfl rfl) ?_
          refine Rg.pure rfl rfl rfl (Pv.assign rfl) ?_
          refine Rg.nil ?_
          refine Vc.cond rfl (fun h22 => ?_) (fun h22 => absurd h22 (by cases h22))
          try simp only [decide_eq_true_eq] at h22
          refine Vc.seq ?_
          refine Vc.text (List.range 2) (sd [(0, .pure), (1, .pure)]) rfl ?_
          refine Rg.pure rfl rfl rfl (Pv.assign rfl) ?_
          refine Rg.pure rfl rfl rfl (Pv.assign rfl) ?_
          refine Rg.nil ?_
          exact Vc.ret (Vc.retsH rfl (.cons (.tmp rfl) (.cons (.tmp rfl) (.nil))) (⟨.slice none 0 0, [], _, by rw [hrd, if_pos (by omega)]; rfl, by rw [hrd, if_pos (by omega)]; exact .nil, hat2 _ hp.symm, rfl⟩) pulled)
        ·
          simp only [decide_eq_false_iff_not] at h38
          refine Rg.pure rfl rfl rfl (Pv.move rfl) ?_
          refine Rg.pure rfl rfl rfl (Pv.move rfl) ?_
          refine Rg.pure rfl rfl rfl (Pv.nilp rfl) ?_
          refine Rg.pure rfl rfl rfl (Pv.fa rfl) ?_
          refine Rg.read rfl rfl rfl (Ev.ld rfl rfl) ?_
          refine Rg.pure rfl rfl rfl (Pv.lenS rfl) ?_
          refine Rg.pure rfl rfl rfl (Pv.move rfl) ?_
          refine Rg.pure rfl rfl rfl (Pv.sub rfl rfl (by omega)) ?_
          refine Rg.pure rfl rfl rfl (Pv.gtr rfl rfl) ?_
          refine Rg.pure rfl rfl rfl (Pv.pickF rfl rfl) ?_
          refine Rg.pure rfl rfl rfl (Pv.assign rfl) ?_
          refine Rg.nil ?_
          refine Vc.cond rfl (fun h22 => ?_) (fun h22 => ?_)
          ·
            try simp only [decide_eq_true_eq] at h22
            refine Vc.seq ?_
            refine Vc.text (List.range 2) (sd [(0, .pure), (1, .pure)]) rfl ?_
            refine Rg.pure rfl rfl rfl (Pv.assign rfl) ?_
            refine Rg.pure rfl rfl rfl (Pv.assign rfl) ?_
            refine Rg.nil ?_
            exact Vc.ret (Vc.retsH rfl (.cons (.tmp rfl) (.cons (.tmp rfl) (.nil))) (⟨.slice none 0 0, [], _, by rw [hrd, if_pos (by omega)]; rfl, by rw [hrd, if_pos (by omega)]; exact .nil, hat2 _ hp.symm, rfl⟩) pulled)
          ·
            simp only [decide_eq_false_iff_not] at h22
            obtain ⟨a, rfl⟩ : ∃ a : Nat, at_ = a := ⟨at_.toNat, by omega⟩
            obtain ⟨m, rfl⟩ : ∃ m : Nat, n = m := ⟨n.toNat, by omega⟩
            refine Vc.skip ?_
            refine Vc.blk ?_
            refine Vc.seq ?_
            refine Vc.text (List.range 12) (sd [(0, .pure), (1, .pure), (2, .pure), (3, .read), (4, .pure), (5, .pure), (6, .pure), (7, .pure), (8, .pure), (9, .eff), (10, .pure), (11, .pure)]) rfl ?_
            refine Rg.pure rfl rfl rfl (Pv.move rfl) ?_
            refine Rg.pure rfl rfl rfl (Pv.nilp rfl) ?_
            refine Rg.pure rfl rfl rfl (Pv.fa rfl) ?_
            refine Rg.read rfl rfl rfl (Ev.ld rfl rfl) ?_
            refine Rg.pure rfl rfl rfl (Pv.move rfl) ?_
            refine Rg.pure rfl rfl rfl (Pv.move rfl) ?_
            refine Rg.pure rfl rfl rfl (Pv.move rfl) ?_
            refine Rg.pure rfl rfl rfl (Pv.asI (a + m) (Pv.add rfl rfl (by omega)) (by omega)) ?_
            refine Rg.pure rfl rfl rfl (Pv.sl (lv := some (.int .i64 (a : Int))) (hv := some (.int .i64 ((a + m : Nat) : Int))) a (a + m) rfl rfl rfl (by omega) (by omega) (by simp)) ?_
            refine Rg.callA rfl rfl rfl (run_callF rfl) (clone_spec (((Arg.own o1 frz_sb).from (i := a) (by omega)).take (k := a + m - a) (by simp; omega)) (by simp; omega)) ?_
            rintro v58 s58 o58
            refine Rg.pure rfl rfl rfl (Pv.assign rfl) ?_
            refine Rg.pure rfl rfl rfl (Pv.assign rfl) ?_
            refine Rg.nil ?_
            exact Vc.ret (Vc.retsH rfl (.cons (.tmp rfl) (.cons (.tmp rfl) (.nil))) (⟨v58, s58, _, by rw [hrd, if_neg (by omega)]; rfl, by rw [hrd, if_neg (by omega)]; rw [Nat.add_sub_cancel_left] at o58; exact o58, hat2 _ hp.symm, rfl⟩) pulled)
end Go.Proofs.Ytmocncadncgaaaa
