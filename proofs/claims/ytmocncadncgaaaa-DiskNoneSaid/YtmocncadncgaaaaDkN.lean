/- Disks: an operation on a file begins. -/
import Derived.Test.YtmocncadncgaaaaDkM
namespace Go.Proofs.Ytmocncadncgaaaa
set_option linter.unusedVariables false

/-- A disk of which a file is open: its block is fb. -/
def FileOf (db : Nat) (D : Dk) (k : List UInt8) (fb : Nat) (hl : Hl) : Prop := ∃ mb mc ms hf kv sk m, FilesAt ms D.files hf ∧ (ms.map (·.k)).Nodup ∧ (ms.map (·.born)).Nodup ∧ (∀ m ∈ ms, m.born < mc) ∧ Own boolE kv D.keep sk ∧
  m ∈ ms ∧ m.k = k ∧ m.v = .pointer (some ⟨fb, 0, none⟩) ∧ hl.Perm ((db, dkO mb D.room D.used D.ops D.armed kv D.down) :: (mb, mapO kS ms mc) :: (hf ++ sk))
theorem FileOf.at {db : Nat} {D : Dk} {k : List UInt8} {fb : Nat} {hl : Hl} (h : FileOf db D k fb hl) : DiskAt db D hl := by
  obtain ⟨mb, mc, ms, hf, kv, sk, m, h1, h2, h3, h4, own, _, _, _, hp⟩ := h
  exact ⟨mb, mc, ms, hf, kv, sk, h1, h2, h3, h4, own, hp⟩
theorem FilesAt.none {ms : List (Me (List UInt8))} {fs : List (List UInt8 × Fl)} {hl : Hl} (h : FilesAt ms fs hl) {k : List UInt8} (hn : findM ms k = none) : findF fs k = none := by
  have h1 := findM_none.1 hn
  unfold findF
  rw [List.find?_eq_none.2]
  · rfl
  · intro p hp
    simp only [decide_eq_true_eq]
    intro e
    have : k ∈ ms.map (·.k) := by rw [h.keys]; exact List.mem_map.2 ⟨p, hp, e⟩
    obtain ⟨m, hm, hk⟩ := List.mem_map.1 this
    exact h1 m hm hk
theorem on_spec {F : Fm} {db : Nat} {D : Dk} {s : Hl} (hD : DiskAt db D s) (hsz : D.files.length ≤ 1000) (hfb : FewB D.files) (ho : 0 ≤ D.ops ∧ D.ops ≤ 1000000) (ha : D.armed ≤ 9223372036854775807) (k : List UInt8) :
    Spec Try.prog 45 #[.pointer (some ⟨db, 0, none⟩), kS k] F s fun v s' => ∃ p e, v = .tuple #[.pointer p, .int .i64 e] ∧
      (((beginsD D).1 = 7 ∧ e = 7 ∧ DiskAt db (beginsD D).2 s') ∨ ((beginsD D).1 = 0 ∧ e = 4 ∧ findF (beginsD D).2.files k = none ∧ DiskAt db (beginsD D).2 s') ∨
        ((beginsD D).1 = 0 ∧ e = 0 ∧ ∃ fb, p = some ⟨fb, 0, none⟩ ∧ FileOf db (beginsD D).2 k fb s')) := by
  refine Spec.of (n := 22) (vs := [.pointer (some ⟨db, 0, none⟩), kS k]) Try.func45 rfl Try.ntmps45 rfl ?_
  refine Vc.seq ?_
  refine Vc.text (List.range 2) (sd [(0, .pure), (1, .pure)]) rfl ?_
  refine Rg.pure rfl rfl rfl (Pv.assign rfl) ?_
  refine Rg.pure rfl rfl rfl (Pv.assign rfl) ?_
  refine Rg.nil ?_
  refine Vc.seq ?_
  refine Vc.seq ?_
  refine Vc.text (List.range 3) (sd [(0, .pure), (1, .eff), (2, .pure)]) rfl ?_
  refine Rg.pure rfl rfl rfl (Pv.move rfl) ?_
  refine Rg.callH rfl rfl rfl (run_callF rfl) (fun F' hF' => begins_spec (F := F') hD hsz hfb ho ha) rfl ?_
  rintro _ s9 ⟨rfl, hD9⟩
  have hb70 : (beginsD D).1 = 7 ∨ (beginsD D).1 = 0 := by show (if _ then 7 else 0 : Int) = 7 ∨ (if _ then 7 else 0 : Int) = 0; split <;> simp
  refine Rg.pure rfl rfl rfl (Pv.assign rfl) ?_
  refine Rg.nil ?_
  refine Vc.seq ?_
  refine Vc.text (List.range 2) (sd [(0, .pure), (1, .pure)]) rfl ?_
  refine Rg.pure rfl rfl rfl (Pv.move rfl) ?_
  refine Rg.pure rfl rfl rfl (Pv.neq rfl rfl) ?_
  refine Rg.nil ?_
  refine Vc.cond rfl (fun h11 => ?_) (fun h11 => ?_)
  ·
    simp only [bne_iff_ne, ne_eq] at h11
    have hb7 := hb70.resolve_right h11
    refine Vc.seq ?_
    refine Vc.text (List.range 3) (sd [(0, .pure), (1, .pure), (2, .pure)]) rfl ?_
    refine Rg.pure rfl rfl rfl (Pv.move rfl) ?_
    refine Rg.pure rfl rfl rfl (Pv.assign rfl) ?_
    refine Rg.pure rfl rfl rfl (Pv.assign rfl) ?_
    refine Rg.nil ?_
    exact Vc.ret (Vc.retsH rfl (.cons (.tmp rfl) (.cons (.tmp rfl) (.nil))) (⟨none, (beginsD D).1, rfl, .inl ⟨hb7, hb7, hD9⟩⟩) pulled)
  ·
    simp only [bne_eq_false_iff_eq] at h11
    obtain ⟨mb, mc, ms, hf, kv, sk, hfl, hn, hbn, hold, own, hp⟩ := hD9
    obtain ⟨p, hpv, hp1, hp2⟩ : ∃ p : Option Addr, ((findM ms k).map (·.v)).getD (.pointer none) = .pointer p ∧ (p = none → findM ms k = none) ∧ (p.isSome = true → ∃ fb m, p = some ⟨fb, 0, none⟩ ∧ m ∈ ms ∧ m.k = k ∧ m.v = .pointer (some ⟨fb, 0, none⟩)) := by
      cases hm : findM ms k with
      | none => exact ⟨none, rfl, fun _ => rfl, fun h => by cases h⟩
      | some m =>
        have hmm : m ∈ ms := List.mem_of_find?_eq_some hm
        have hmk : m.k = k := by simpa using List.find?_some hm
        obtain ⟨fb, f, vn, vs, t1, t2, rest, hmv, _⟩ := hfl.get hn hmm
        exact ⟨some ⟨fb, 0, none⟩, by simpa using hmv, fun h => (by cases h), fun _ => ⟨fb, m, rfl, hmm, hmk, hmv⟩⟩
    refine Vc.perm ((List.Perm.of_eq (List.append_nil s9)).trans hp) ?_
    refine Vc.skip ?_
    refine Vc.seq ?_
    refine Vc.seq ?_
    refine Vc.text (List.range 7) (sd [(0, .pure), (1, .pure), (2, .pure), (3, .read), (4, .pure), (5, .read), (6, .pure)]) rfl ?_
    refine Rg.pure rfl rfl rfl (Pv.move rfl) ?_
    refine Rg.pure rfl rfl rfl (Pv.nilp rfl) ?_
    refine Rg.pure rfl rfl rfl (Pv.fa rfl) ?_
    refine Rg.read rfl rfl rfl (Ev.ld rfl rfl) ?_
    refine Rg.pure rfl rfl rfl (Pv.move rfl) ?_
    refine Rg.read rfl rfl rfl (Ev.as (.pointer p) (Ev.lookup rfl rfl hn) hpv) ?_
    refine Rg.pure rfl rfl rfl (Pv.assign rfl) ?_
    refine Rg.nil ?_
    refine Vc.seq ?_
    refine Vc.text (List.range 2) (sd [(0, .pure), (1, .pure)]) rfl ?_
    refine Rg.pure rfl rfl rfl (Pv.move rfl) ?_
    refine Rg.pure rfl rfl rfl (Pv.neqNil rfl rfl) ?_
    refine Rg.nil ?_
    refine Vc.cond rfl (fun h20 => ?_) (fun h20 => ?_)
    ·
      obtain ⟨fb, m, rfl, hmm, hmk, hmv⟩ := hp2 h20
      refine Vc.seq ?_
      refine Vc.text (List.range 3) (sd [(0, .pure), (1, .pure), (2, .pure)]) rfl ?_
      refine Rg.pure rfl rfl rfl (Pv.move rfl) ?_
      refine Rg.pure rfl rfl rfl (Pv.assign rfl) ?_
      refine Rg.pure rfl rfl rfl (Pv.assign rfl) ?_
      refine Rg.nil ?_
      exact Vc.ret (Vc.retsH rfl (.cons (.tmp rfl) (.cons (.tmp rfl) (.nil))) ((show ∃ p e, Value.tuple #[.pointer (some ⟨fb, 0, none⟩), .int .i64 0] = .tuple #[.pointer p, .int .i64 e] ∧ (((beginsD D).1 = 7 ∧ e = 7 ∧ DiskAt db (beginsD D).2 ((db, dkO mb (beginsD D).2.room (beginsD D).2.used (beginsD D).2.ops (beginsD D).2.armed kv (beginsD D).2.down) :: (mb, mapO kS ms mc) :: (hf ++ sk))) ∨ ((beginsD D).1 = 0 ∧ e = 4 ∧ findF (beginsD D).2.files k = none ∧ DiskAt db (beginsD D).2 ((db, dkO mb (beginsD D).2.room (beginsD D).2.used (beginsD D).2.ops (beginsD D).2.armed kv (beginsD D).2.down) :: (mb, mapO kS ms mc) :: (hf ++ sk))) ∨ ((beginsD D).1 = 0 ∧ e = 0 ∧ ∃ fb, p = some ⟨fb, 0, none⟩ ∧ FileOf db (beginsD D).2 k fb ((db, dkO mb (beginsD D).2.room (beginsD D).2.used (beginsD D).2.ops (beginsD D).2.armed kv (beginsD D).2.down) :: (mb, mapO kS ms mc) :: (hf ++ sk)))) from
        ⟨_, _, rfl, .inr (.inr ⟨h11, rfl, fb, rfl, mb, mc, ms, hf, kv, sk, m, hfl, hn, hbn, hold, own, hmm, hmk, hmv, .refl _⟩)⟩)) pulled)
    ·
      have hpn : p = none := by cases p with | none => rfl | some a => cases h20
      subst hpn
      refine Vc.skip ?_
      refine Vc.seq ?_
      refine Vc.text (List.range 2) (sd [(0, .pure), (1, .pure)]) rfl ?_
      refine Rg.pure rfl rfl rfl (Pv.assign rfl) ?_
      refine Rg.pure rfl rfl rfl (Pv.assign rfl) ?_
      refine Rg.nil ?_
      exact Vc.ret (Vc.retsH rfl (.cons (.tmp rfl) (.cons (.tmp rfl) (.nil))) ((show ∃ p e, Value.tuple #[.pointer none, .int .i64 4] = .tuple #[.pointer p, .int .i64 e] ∧ (((beginsD D).1 = 7 ∧ e = 7 ∧ DiskAt db (beginsD D).2 ((db, dkO mb (beginsD D).2.room (beginsD D).2.used (beginsD D).2.ops (beginsD D).2.armed kv (beginsD D).2.down) :: (mb, mapO kS ms mc) :: (hf ++ sk))) ∨ ((beginsD D).1 = 0 ∧ e = 4 ∧ findF (beginsD D).2.files k = none ∧ DiskAt db (beginsD D).2 ((db, dkO mb (beginsD D).2.room (beginsD D).2.used (beginsD D).2.ops (beginsD D).2.armed kv (beginsD D).2.down) :: (mb, mapO kS ms mc) :: (hf ++ sk))) ∨ ((beginsD D).1 = 0 ∧ e = 0 ∧ ∃ fb, p = some ⟨fb, 0, none⟩ ∧ FileOf db (beginsD D).2 k fb ((db, dkO mb (beginsD D).2.room (beginsD D).2.used (beginsD D).2.ops (beginsD D).2.armed kv (beginsD D).2.down) :: (mb, mapO kS ms mc) :: (hf ++ sk)))) from
        ⟨_, _, rfl, .inr (.inl ⟨h11, rfl, hfl.none (hp1 rfl), mb, mc, ms, hf, kv, sk, hfl, hn, hbn, hold, own, .refl _⟩)⟩)) pulled)
end Go.Proofs.Ytmocncadncgaaaa
