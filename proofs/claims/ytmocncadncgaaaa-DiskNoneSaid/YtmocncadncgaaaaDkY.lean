/- Disks: Remove. -/
import Derived.Test.YtmocncadncgaaaaDkX
namespace Go.Proofs.Ytmocncadncgaaaa
set_option linter.unusedVariables false

def removeD (D : Dk) (k : List UInt8) : Int × Dk := if (beginsD D).1 = 7 then (7, (beginsD D).2) else match findF (beginsD D).2.files k with
  | .none => (4, (beginsD D).2)
  | .some _ => (0, goneD (beginsD D).2 k)
theorem FileOf.m {db : Nat} {D : Dk} {k : List UInt8} {fb : Nat} {hl : Hl} (h : FileOf db D k fb hl) : ∃ mb mc ms kv m f, DiskM db D mb mc ms kv hl ∧ m ∈ ms ∧ m.k = k ∧ m.v = .pointer (some ⟨fb, 0, Option.none⟩) ∧ findF D.files k = some f := by
  obtain ⟨mb, mc, ms, hf, kv, sk, m, h1, h2, h3, h4, own, hmm, hmk, hmv, hp⟩ := h
  obtain ⟨fb2, f, vn, vs, s1, s2, rest, hmv2, hff, _⟩ := h1.get h2 hmm
  exact ⟨mb, mc, ms, kv, m, f, ⟨hf, sk, h1, h2, h3, h4, own, hp⟩, hmm, hmk, hmv, by rw [← hmk]; exact hff⟩
theorem remove_spec {F : Fm} {db : Nat} {D : Dk} {s : Hl} (hD : DiskAt db D s) (hsz : D.files.length ≤ 1000) (hfb : FewB D.files) (ho : 0 ≤ D.ops ∧ D.ops ≤ 1000000) (ha : D.armed ≤ 9223372036854775807) (hfb2 : FewB (beginsD D).2.files)
    (hu : -1000000000 ≤ (beginsD D).2.used ∧ (beginsD D).2.used ≤ 1000000000) (k : List UInt8) :
    Spec Try.prog 30 #[.pointer (some ⟨db, 0, Option.none⟩), kS k] F s fun v s' => v = .int .i64 (removeD D k).1 ∧ DiskAt db (removeD D k).2 s' := by
  refine Spec.of (n := 19) (vs := [.pointer (some ⟨db, 0, Option.none⟩), kS k]) Try.func30 rfl Try.ntmps30 rfl ?_
  refine Vc.seq ?_
  refine Vc.text (List.range 1) (sd [(0, .pure)]) rfl ?_
  refine Rg.pure rfl rfl rfl (Pv.assign rfl) ?_
  refine Rg.nil ?_
  refine Vc.seq ?_
  refine Vc.text (List.range 8) (sd [(0, .pure), (1, .pure), (2, .eff), (3, .pure), (4, .pure), (5, .pure), (6, .pure), (7, .pure)]) rfl ?_
  refine Rg.pure rfl rfl rfl (Pv.move rfl) ?_
  refine Rg.pure rfl rfl rfl (Pv.move rfl) ?_
  refine Rg.callH rfl rfl rfl (run_callF rfl) (fun F' hF' => on_spec (F := F') hD hsz hfb ho ha k) rfl ?_
  rintro _ s10 ⟨p, e, rfl, hcase⟩
  refine Rg.pure rfl rfl rfl (Pv.move rfl) ?_
  refine Rg.pure rfl rfl rfl (Pv.extract rfl rfl) ?_
  refine Rg.pure rfl rfl rfl (Pv.extract rfl rfl) ?_
  refine Rg.pure rfl rfl rfl (Pv.assign rfl) ?_
  refine Rg.pure rfl rfl rfl (Pv.assign rfl) ?_
  refine Rg.nil ?_
  refine Vc.seq ?_
  refine Vc.seq ?_
  refine Vc.text (List.range 2) (sd [(0, .pure), (1, .pure)]) rfl ?_
  refine Rg.pure rfl rfl rfl (Pv.move rfl) ?_
  refine Rg.pure rfl rfl rfl (Pv.eql rfl rfl) ?_
  refine Rg.nil ?_
  refine Vc.cond rfl (fun h14 => ?_) (fun h14 => ?_)
  ·
    simp only [beq_iff_eq] at h14
    subst h14
    obtain ⟨hb0, _, fb, rfl, hfo⟩ := (hcase.resolve_left (fun h => by cases h.2.1)).resolve_left (fun h => by cases h.2.1)
    obtain ⟨mb, mc, ms, kv, m, f, hM, hmm, hmk, hmv, hff⟩ := hfo.m
    have hrd : removeD D k = (0, goneD (beginsD D).2 k) := by rw [removeD, if_neg (by omega), hff]
    refine Vc.text (List.range 3) (sd [(0, .pure), (1, .pure), (2, .eff)]) rfl ?_
    refine Rg.pure rfl rfl rfl (Pv.move rfl) ?_
    refine Rg.pure rfl rfl rfl (Pv.move rfl) ?_
    refine Rg.callH rfl rfl rfl (run_callF rfl) (fun F' hF' => gone_spec (F := F') hM hfb2 hu k) rfl ?_
    rintro v17 s17 hM17
    refine Rg.nil ?_
    refine Vc.seq ?_
    refine Vc.text (List.range 2) (sd [(0, .pure), (1, .pure)]) rfl ?_
    refine Rg.pure rfl rfl rfl (Pv.move rfl) ?_
    refine Rg.pure rfl rfl rfl (Pv.assign rfl) ?_
    refine Rg.nil ?_
    exact Vc.ret (Vc.retsH rfl (.cons (.tmp rfl) (.nil)) (⟨by rw [hrd]; rfl, by rw [hrd]; exact hM17.at⟩) pulled)
  ·
    simp only [beq_eq_false_iff_ne, ne_eq] at h14
    have hres : removeD D k = (e, (beginsD D).2) ∧ DiskAt db (beginsD D).2 s10 := by
      rcases hcase with ⟨h1, rfl, h2⟩ | ⟨h1, rfl, h2, h3⟩ | ⟨_, h2, _⟩
      · exact ⟨by rw [removeD, if_pos h1], h2⟩
      · exact ⟨by rw [removeD, if_neg (by omega), h2], h3⟩
      · exact absurd h2 h14
    refine Vc.skip ?_
    refine Vc.seq ?_
    refine Vc.text (List.range 2) (sd [(0, .pure), (1, .pure)]) rfl ?_
    refine Rg.pure rfl rfl rfl (Pv.move rfl) ?_
    refine Rg.pure rfl rfl rfl (Pv.assign rfl) ?_
    refine Rg.nil ?_
    exact Vc.ret (Vc.retsH rfl (.cons (.tmp rfl) (.nil)) (⟨by rw [hres.1]; rfl, by rw [hres.1]; exact hres.2⟩) pulled)
end Go.Proofs.Ytmocncadncgaaaa
