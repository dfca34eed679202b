/- Disks: gone, Remove, Rename. -/
import Derived.Test.YtmocncadncgaaaaDkW
namespace Go.Proofs.Ytmocncadncgaaaa
set_option linter.unusedVariables false

def cutF (fs : List (List UInt8 × Fl)) (k : List UInt8) : List (List UInt8 × Fl) := fs.filter fun p => !decide (p.1 = k)
theorem cutM_of {ms : List (Me (List UInt8))} {k : List UInt8} (h : ∀ m ∈ ms, m.k ≠ k) : cutM ms k = ms := by
  rw [cutM, List.filter_eq_self]
  intro y hy
  simp [h y hy]
theorem cutF_of {fs : List (List UInt8 × Fl)} {k : List UInt8} (h : ∀ p ∈ fs, p.1 ≠ k) : cutF fs k = fs := by
  rw [cutF, List.filter_eq_self]
  intro y hy
  simp [h y hy]
theorem FilesAt.pick {ms : List (Me (List UInt8))} {fs : List (List UInt8 × Fl)} {hl : Hl} (h : FilesAt ms fs hl) (hn : (ms.map (·.k)).Nodup) {m : Me (List UInt8)} (hm : m ∈ ms) :
    ∃ b f vn vs s1 s2 rest, m.v = .pointer (some ⟨b, 0, Option.none⟩) ∧ findF fs m.k = some f ∧ hl.Perm ((b, cellsO [vn, vs] 81) :: (s1 ++ (s2 ++ rest))) ∧ Own byteE vn f.now s1 ∧ Own byteE vs f.synced s2 ∧
      FilesAt (cutM ms m.k) (cutF fs m.k) rest := by
  induction h with
  | nil => cases hm
  | @cons ms fs hl s1 s2 k f b born vn vs h own1 own2 ih =>
    rw [List.map_cons, List.nodup_cons] at hn
    have hks := h.keys
    rcases List.mem_cons.1 hm with rfl | hm'
    · have h1 : ∀ m ∈ ms, m.k ≠ k := fun m hm e => hn.1 (List.mem_map.2 ⟨m, hm, e⟩)
      have h2 : ∀ p ∈ fs, p.1 ≠ k := fun p hp e => hn.1 (by rw [hks]; exact List.mem_map.2 ⟨p, hp, e⟩)
      refine ⟨b, f, vn, vs, s1, s2, hl, rfl, by simp [findF], .refl _, own1, own2, ?_⟩
      have e1 := cutM_of h1
      have e2 := cutF_of h2
      simp only [cutM, cutF] at e1 e2
      simp only [cutM, cutF, List.filter_cons, decide_true, Bool.not_true, Bool.false_eq_true, ↓reduceIte, e1, e2]
      exact h
    · obtain ⟨b2, f2, vn2, vs2, t1, t2, rest, e1, e2, hp, o1, o2, hc⟩ := ih hn.2 hm'
      have hne : k ≠ m.k := fun e => hn.1 (List.mem_map.2 ⟨m, hm', e.symm⟩)
      refine ⟨b2, f2, vn2, vs2, t1, t2, (b, cellsO [vn, vs] 81) :: (s1 ++ (s2 ++ rest)), e1, ?_, (((hp.append_left s2).append_left s1).cons _).trans (perm_move _ _ _ _ _ _ _), o1, o2, ?_⟩
      · simp only [findF, List.find?_cons] at e2 ⊢
        rw [decide_eq_false hne]
        exact e2
      · simp only [cutM, cutF] at hc ⊢
        simp only [List.filter_cons, decide_eq_false hne, Bool.not_false, ↓reduceIte]
        exact .cons hc own1 own2
/-- A disk whose map is open to view. -/
def DiskM (db : Nat) (D : Dk) (mb mc : Nat) (ms : List (Me (List UInt8))) (kv : Value) (hl : Hl) : Prop := ∃ hf sk, FilesAt ms D.files hf ∧ (ms.map (·.k)).Nodup ∧ (ms.map (·.born)).Nodup ∧ (∀ m ∈ ms, m.born < mc) ∧ Own boolE kv D.keep sk ∧
  hl.Perm ((db, dkO mb D.room D.used D.ops D.armed kv D.down) :: (mb, mapO kS ms mc) :: (hf ++ sk))
theorem DiskM.at {db : Nat} {D : Dk} {mb mc : Nat} {ms : List (Me (List UInt8))} {kv : Value} {hl : Hl} (h : DiskM db D mb mc ms kv hl) : DiskAt db D hl := by
  obtain ⟨hf, sk, h1, h2, h3, h4, h5, h6⟩ := h
  exact ⟨mb, mc, ms, hf, kv, sk, h1, h2, h3, h4, h5, h6⟩
theorem cutM_keys {ms : List (Me (List UInt8))} {k : List UInt8} (h : (ms.map (·.k)).Nodup) : ((cutM ms k).map (·.k)).Nodup := h.sublist (List.filter_sublist.map _)
theorem cutM_born {ms : List (Me (List UInt8))} {k : List UInt8} (h : (ms.map (·.born)).Nodup) : ((cutM ms k).map (·.born)).Nodup := h.sublist (List.filter_sublist.map _)
theorem cutM_old {ms : List (Me (List UInt8))} {k : List UInt8} {mc : Nat} (h : ∀ m ∈ ms, m.born < mc) : ∀ m ∈ cutM ms k, m.born < mc := fun m hm => h m (List.mem_filter.1 hm).1
def goneD (D : Dk) (k : List UInt8) : Dk := match findF D.files k with
  | .none => D
  | .some f => { D with files := cutF D.files k, used := D.used - (secs f.now.length : Nat) }
theorem gone_none {F : Fm} {db : Nat} {D : Dk} {mb mc : Nat} {ms : List (Me (List UInt8))} {kv : Value} {s : Hl} (hD : DiskM db D mb mc ms kv s) (hfb : FewB D.files) (hu : -1000000000 ≤ D.used ∧ D.used ≤ 1000000000) (k : List UInt8) (hm : findM ms k = Option.none) :
    Spec Try.prog 59 #[.pointer (some ⟨db, 0, Option.none⟩), kS k] F s fun _ s' => DiskM db (goneD D k) mb mc (cutM ms k) kv s' := by
  obtain ⟨hf, sk, hfl, hn, hbn, hold, own, hp⟩ := hD
  refine Spec.perm ?_ hp
  have h1 := findM_none.1 hm
  have hff := hfl.none hm
  have hg : goneD D k = D := by rw [goneD, hff]
  refine Spec.of (n := 31) (vs := [.pointer (some ⟨db, 0, Option.none⟩), kS k]) Try.func59 rfl Try.ntmps59 rfl ?_
  refine Vc.seq ?_
  refine Vc.text (List.range 7) (sd [(0, .pure), (1, .pure), (2, .pure), (3, .read), (4, .pure), (5, .read), (6, .pure)]) rfl ?_
  refine Rg.pure rfl rfl rfl (Pv.move rfl) ?_
  refine Rg.pure rfl rfl rfl (Pv.nilp rfl) ?_
  refine Rg.pure rfl rfl rfl (Pv.fa rfl) ?_
  refine Rg.read rfl rfl rfl (Ev.ld rfl rfl) ?_
  refine Rg.pure rfl rfl rfl (Pv.move rfl) ?_
  refine Rg.read rfl rfl rfl (Ev.as (.pointer Option.none) (Ev.lookup rfl rfl hn) (by rw [hm]; rfl)) ?_
  refine Rg.pure rfl rfl rfl (Pv.assign rfl) ?_
  refine Rg.nil ?_
  refine Vc.seq ?_
  refine Vc.text (List.range 2) (sd [(0, .pure), (1, .pure)]) rfl ?_
  refine Rg.pure rfl rfl rfl (Pv.move rfl) ?_
  refine Rg.pure rfl rfl rfl (Pv.neqNil rfl rfl) ?_
  refine Rg.nil ?_
  refine Vc.cond rfl (fun h12 => absurd h12 (by (cases h12))) (fun h12 => ?_)
  refine Vc.skip ?_
  exact Vc.fin (Vc.retsH rfl .nil ((show DiskM db (goneD D k) mb mc (cutM ms k) kv ((db, dkO mb D.room D.used D.ops D.armed kv D.down) :: (mb, mapO kS ms mc) :: (hf ++ sk)) from by rw [hg, cutM_of h1]; exact ⟨hf, sk, hfl, hn, hbn, hold, own, .refl _⟩)) pulled)
theorem gone_some {F : Fm} {db : Nat} {D : Dk} {mb mc : Nat} {ms : List (Me (List UInt8))} {kv : Value} {s : Hl} (hD : DiskM db D mb mc ms kv s) (hfb : FewB D.files) (hu : -1000000000 ≤ D.used ∧ D.used ≤ 1000000000) (k : List UInt8) (m : Me (List UInt8)) (hm : findM ms k = some m) :
    Spec Try.prog 59 #[.pointer (some ⟨db, 0, Option.none⟩), kS k] F s fun _ s' => DiskM db (goneD D k) mb mc (cutM ms k) kv s' := by
  obtain ⟨hf, sk, hfl, hn, hbn, hold, own, hp⟩ := hD
  refine Spec.perm ?_ hp
  have hmm : m ∈ ms := List.mem_of_find?_eq_some hm
  have hmk : m.k = k := by simpa using List.find?_some hm
  obtain ⟨fb, f, vn, vs, s1, s2, rest, hmv, hff, hperm, o1, o2, hc⟩ := hfl.pick hn hmm
  rw [hmk] at hff hc
  obtain ⟨hl1, hl2⟩ := hfb.find hff
  obtain ⟨pn, cn, rfl⟩ := o1.shape
  have hsec : secs f.now.length ≤ 1000000 := by unfold secs; omega
  have hg : goneD D k = { D with files := cutF D.files k, used := D.used - (secs f.now.length : Nat) } := by rw [goneD, hff]
  refine Spec.perm ?_ (perm_open _ _ _ _ _ _ _ _ _ hperm rfl)
  refine Spec.of (n := 31) (vs := [.pointer (some ⟨db, 0, Option.none⟩), kS k]) Try.func59 rfl Try.ntmps59 rfl ?_
  refine Vc.seq ?_
  refine Vc.text (List.range 7) (sd [(0, .pure), (1, .pure), (2, .pure), (3, .read), (4, .pure), (5, .read), (6, .pure)]) rfl ?_
  refine Rg.pure rfl rfl rfl (Pv.move rfl) ?_
  refine Rg.pure rfl rfl rfl (Pv.nilp rfl) ?_
  refine Rg.pure rfl rfl rfl (Pv.fa rfl) ?_
  refine Rg.read rfl rfl rfl (Ev.ld rfl rfl) ?_
  refine Rg.pure rfl rfl rfl (Pv.move rfl) ?_
  refine Rg.read rfl rfl rfl (Ev.as (.pointer (some ⟨fb, 0, Option.none⟩)) (Ev.lookup rfl rfl hn) (by rw [hm]; exact hmv)) ?_
  refine Rg.pure rfl rfl rfl (Pv.assign rfl) ?_
  refine Rg.nil ?_
  refine Vc.seq ?_
  refine Vc.text (List.range 2) (sd [(0, .pure), (1, .pure)]) rfl ?_
  refine Rg.pure rfl rfl rfl (Pv.move rfl) ?_
  refine Rg.pure rfl rfl rfl (Pv.neqNil rfl rfl) ?_
  refine Rg.nil ?_
  refine Vc.cond rfl (fun h12 => ?_) (fun h12 => absurd h12 (by (cases h12)))
  refine Vc.seq ?_
  refine Vc.draw [13] (sd [(0, .pure), (1, .pure), (2, .pure), (3, .read), (4, .pure), (5, .pure), (6, .pure), (7, .read), (8, .pure), (9, .eff), (10, .pure), (11, .pure), (12, .pure), (13, .eff)]) mixed (by kernel_rfl) ?_
  refine Rg.pure rfl rfl rfl (Pv.move rfl) ?_
  refine Rg.pure rfl rfl rfl (Pv.nilp rfl) ?_
  refine Rg.pure rfl rfl rfl (Pv.fa rfl) ?_
  refine Rg.read rfl rfl rfl (Ev.ld rfl rfl) ?_
  refine Rg.pure rfl rfl rfl (Pv.move rfl) ?_
  refine Rg.pure rfl rfl rfl (Pv.nilp rfl) ?_
  refine Rg.pure rfl rfl rfl (Pv.fa rfl) ?_
  refine Rg.read rfl rfl rfl (Ev.ld rfl rfl) ?_
  refine Rg.pure rfl rfl rfl (Pv.lenS rfl) ?_
  refine Rg.callP rfl rfl rfl (run_callF rfl) (sectors_spec _ f.now.length (by omega)) ?_
  rintro _ rfl
  refine Rg.pure rfl rfl rfl (Pv.sub rfl rfl (by omega)) ?_
  refine Rg.pure rfl rfl rfl (Pv.nilp rfl) ?_
  refine Rg.pure rfl rfl rfl (Pv.fa rfl) ?_
  refine Rg.store rfl rfl rfl rfl rfl rfl rfl rfl ?_
  refine Rg.nil ?_
  refine Vc.text (List.range 6) (sd [(0, .pure), (1, .pure), (2, .pure), (3, .read), (4, .pure), (5, .eff)]) rfl ?_
  refine Rg.pure rfl rfl rfl (Pv.move rfl) ?_
  refine Rg.pure rfl rfl rfl (Pv.nilp rfl) ?_
  refine Rg.pure rfl rfl rfl (Pv.fa rfl) ?_
  refine Rg.read rfl rfl rfl (Ev.ld rfl rfl) ?_
  refine Rg.pure rfl rfl rfl (Pv.move rfl) ?_
  refine Rg.mapDel (ms := ms) (k := k) rfl rfl rfl rfl rfl ⟨m, hmm, hmk⟩ hn rfl ?_
  refine Rg.nil ?_
  exact Vc.fin (Vc.retsH rfl .nil ((show DiskM db (goneD D k) mb mc (cutM ms k) kv ((db, dkO mb D.room (D.used - (secs f.now.length : Nat)) D.ops D.armed kv D.down) :: (mb, mapO kS (cutM ms k) mc) :: (rest ++ sk)) from by rw [hg]; exact ⟨rest, sk, hc, cutM_keys hn, cutM_born hbn, cutM_old hold, own, .refl _⟩)) pulled)
theorem gone_spec {F : Fm} {db : Nat} {D : Dk} {mb mc : Nat} {ms : List (Me (List UInt8))} {kv : Value} {s : Hl} (hD : DiskM db D mb mc ms kv s) (hfb : FewB D.files) (hu : -1000000000 ≤ D.used ∧ D.used ≤ 1000000000) (k : List UInt8) :
    Spec Try.prog 59 #[.pointer (some ⟨db, 0, Option.none⟩), kS k] F s fun _ s' => DiskM db (goneD D k) mb mc (cutM ms k) kv s' := by
  cases hm : findM ms k with
  | none => exact gone_none hD hfb hu k hm
  | some m => exact gone_some hD hfb hu k m hm
end Go.Proofs.Ytmocncadncgaaaa
