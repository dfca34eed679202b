/- Disks: Restart, Crash over a whole disk; Rename; List. -/
import Derived.Test.YtmocncadncgaaaaDkT
namespace Go.Proofs.Ytmocncadncgaaaa
set_option linter.unusedVariables false

theorem DiskAt.perm {db : Nat} {D : Dk} {h1 h2 : Hl} (h : DiskAt db D h1) (hp : h2.Perm h1) : DiskAt db D h2 := by
  obtain ⟨a, b, c, d, e, g, p1, p2, p3, p4, p5, p6⟩ := h
  exact ⟨a, b, c, d, e, g, p1, p2, p3, p4, p5, hp.trans p6⟩
theorem restartD_spec {F : Fm} {db : Nat} {D : Dk} {s : Hl} (hD : DiskAt db D s) : Spec Try.prog 22 #[.pointer (some ⟨db, 0, none⟩)] F s fun _ s' => DiskAt db { D with down := false } s' := by
  obtain ⟨mb, mc, ms, hf, kv, sk, hfl, hn, hbn, hold, own, hp⟩ := hD
  refine Spec.perm ?_ hp
  refine Spec.of (n := 6) (vs := [.pointer (some ⟨db, 0, none⟩)]) Try.func22 rfl Try.ntmps22 rfl ?_
  refine Vc.text (List.range 4) (sd [(0, .pure), (1, .pure), (2, .pure), (3, .eff)]) rfl ?_
  refine Rg.pure rfl rfl rfl (Pv.move rfl) ?_
  refine Rg.pure rfl rfl rfl (Pv.nilp rfl) ?_
  refine Rg.pure rfl rfl rfl (Pv.fa rfl) ?_
  refine Rg.callH rfl rfl rfl (run_callF rfl) (fun F' hF' => bstore_spec (mb := mb) (room := D.room) (used := D.used) (ops := D.ops) (armed := D.armed) (keep := kv) (down := D.down) false) rfl ?_
  rintro v5 _ rfl
  refine Rg.nil ?_
  exact Vc.fin (Vc.retsH rfl .nil ((show DiskAt db { D with down := false } ((db, dkO mb D.room D.used D.ops D.armed kv false) :: (mb, mapO kS ms mc) :: (hf ++ sk)) from ⟨mb, mc, ms, hf, kv, sk, hfl, hn, hbn, hold, own, .refl _⟩)) pulled)
theorem Spec.frame {P : Program} {f : Nat} {args : Array Value} {F : Fm} {h1 rest : Hl} {post : Value → Hl → Prop} (h : Spec P f args (frz F rest) h1 post) : Spec P f args F (h1 ++ rest) fun v s => ∃ s1, post v s1 ∧ s = s1 ++ rest := fun w hw => by
  obtain ⟨k1, k2, k3⟩ := Hp.frz_iff.1 hw
  exact (h w k1).mono fun e w' ⟨v, hl', he, hpost, hh⟩ => ⟨v, hl' ++ rest, he, ⟨hl', hpost, rfl⟩, Hp.frz_iff.2 ⟨hh, k2, k3⟩⟩
theorem crashD_spec {F : Fm} {db n B : Nat} {D : Dk} {s : Hl} (hD : DiskAt db D s) (hw : Dw n B D) (hn : n ≤ 1000) (hB : B ≤ 1000000) {kv : Value} {ks : List Bool} (hk : Arg boolE F kv ks) :
    Spec Try.prog 23 #[.pointer (some ⟨db, 0, none⟩), kv] F s fun _ s' => DiskAt db (crashD ks D) s' := by
  obtain ⟨kv0, sk, h0, hD0, own, hp⟩ := hD.parts
  refine (Spec.perm (Spec.frame (crash_spec (F := frz F sk) hD0 (hk.mono fun b o h => Or.inr h) (hw.sz hn) (hw.fewB hB))) hp).mono fun v s ⟨s1, h1, e⟩ => ?_
  subst e
  exact DiskAt.mk h1 (by rw [(crash_room ks D).2.2]; exact own) (.refl _)

theorem findF_cut {fs : List (List UInt8 × Fl)} {k k' : List UInt8} (h : k ≠ k') : findF (cutF fs k') k = findF fs k := by
  unfold findF cutF
  rw [List.find?_filter]
  congr 2
  funext p
  by_cases e : p.1 = k
  · simp [e, h]
  · simp [e]
def renameD (D : Dk) (k to : List UInt8) : Int × Dk := if (beginsD D).1 = 7 then (7, (beginsD D).2) else match findF (beginsD D).2.files k with
  | .none => (4, (beginsD D).2)
  | .some f => if mayN ⟨to.toArray⟩ = false then (1, (beginsD D).2) else if k = to then (0, (beginsD D).2)
    else (0, { goneD (beginsD D).2 to with files := cutF (goneD (beginsD D).2 to).files k ++ [(to, f)] })
theorem goneD_find {D : Dk} {k to : List UInt8} (h : k ≠ to) : findF (goneD D to).files k = findF D.files k := by
  unfold goneD
  split
  · rfl
  · exact findF_cut h
theorem goneD_none {D : Dk} {to : List UInt8} : findF (goneD D to).files to = none := by
  unfold goneD
  split
  · assumption
  · show findF (cutF D.files to) to = none
    unfold findF cutF
    rw [List.find?_filter, Option.map_eq_none_iff, List.find?_eq_none]
    intro p hp
    simp
theorem findF_none_cut {fs : List (List UInt8 × Fl)} {k k' : List UInt8} (h : findF fs k = none) : findF (cutF fs k') k = none := by
  by_cases e : k = k'
  · subst e
    unfold findF cutF
    rw [List.find?_filter, Option.map_eq_none_iff, List.find?_eq_none]
    intro p hp
    simp
  · rw [findF_cut e]; exact h
theorem kS_ne {a b : List UInt8} : ((⟨a.toArray⟩ : ByteArray) = ⟨b.toArray⟩) ↔ a = b := ⟨fun h => by simpa using h, fun h => by rw [h]⟩
theorem rename_spec {F : Fm} {db n B : Nat} {D : Dk} {s : Hl} (hD : DiskAt db D s) (hw : Dw n B D) (hnn : n < 1000) (hB : B ≤ 1000000) (k to : List UInt8) :
    Spec Try.prog 27 #[.pointer (some ⟨db, 0, Option.none⟩), kS k, kS to] F s fun v s' => v = .int .i64 (renameD D k to).1 ∧ DiskAt db (renameD D k to).2 s' := by
  have hwb := hw.begins
  have hub := hwb.usedB (by omega) hB
  refine Spec.of (n := 41) (vs := [.pointer (some ⟨db, 0, Option.none⟩), kS k, kS to]) Try.func27 rfl Try.ntmps27 rfl ?_
  refine Vc.seq ?_
  refine Vc.text (List.range 1) (sd [(0, .pure)]) rfl ?_
  refine Rg.pure rfl rfl rfl (Pv.assign rfl) ?_
  refine Rg.nil ?_
  refine Vc.seq ?_
  refine Vc.text (List.range 8) (sd [(0, .pure), (1, .pure), (2, .eff), (3, .pure), (4, .pure), (5, .pure), (6, .pure), (7, .pure)]) rfl ?_
  refine Rg.pure rfl rfl rfl (Pv.move rfl) ?_
  refine Rg.pure rfl rfl rfl (Pv.move rfl) ?_
  refine Rg.callH rfl rfl rfl (run_callF rfl) (fun F' hF' => on_spec (F := F') hD (hw.sz (by omega)) (hw.fewB hB) (hw.ops' (by omega)) hw.armed.2 k) rfl ?_
  rintro _ s12 ⟨p, e, rfl, hcase⟩
  refine Rg.pure rfl rfl rfl (Pv.move rfl) ?_
  refine Rg.pure rfl rfl rfl (Pv.extract rfl rfl) ?_
  refine Rg.pure rfl rfl rfl (Pv.extract rfl rfl) ?_
  refine Rg.pure rfl rfl rfl (Pv.assign rfl) ?_
  refine Rg.pure rfl rfl rfl (Pv.assign rfl) ?_
  refine Rg.nil ?_
  refine Vc.seq ?_
  refine Vc.block ?_
  refine Vc.seq ?_
  refine Vc.text (List.range 3) (sd [(0, .pure), (1, .pure), (2, .pure)]) rfl ?_
  refine Rg.pure rfl rfl rfl (Pv.move rfl) ?_
  refine Rg.pure rfl rfl rfl (Pv.neq rfl rfl) ?_
  refine Rg.pure rfl rfl rfl (Pv.assign rfl) ?_
  refine Rg.nil ?_
  refine Vc.cond rfl (fun h15 => ?_) (fun h15 => ?_)
  ·
    simp only [bne_iff_ne, ne_eq] at h15
    have hres : renameD D k to = (e, (beginsD D).2) ∧ DiskAt db (beginsD D).2 s12 := by
      rcases hcase with ⟨h1, rfl, h2⟩ | ⟨h1, rfl, h2, h3⟩ | ⟨_, h2, _⟩
      · exact ⟨by rw [renameD, if_pos h1], h2⟩
      · exact ⟨by rw [renameD, if_neg (by omega), h2], h3⟩
      · exact absurd h2 h15
    refine Vc.seq ?_
    refine Vc.text (List.range 2) (sd [(0, .pure), (1, .pure)]) rfl ?_
    refine Rg.pure rfl rfl rfl (Pv.move rfl) ?_
    refine Rg.pure rfl rfl rfl (Pv.assign rfl) ?_
    refine Rg.nil ?_
    exact Vc.ret (Vc.retsH rfl (.cons (.tmp rfl) (.nil)) (⟨by rw [hres.1]; rfl, by rw [hres.1]; exact hres.2⟩) pulled)
  ·
    simp only [bne_eq_false_iff_eq] at h15
    subst h15
    obtain ⟨hb0, _, fb, rfl, hfo⟩ := (hcase.resolve_left (fun h => by cases h.2.1)).resolve_left (fun h => by cases h.2.1)
    have hat := hfo.at
    obtain ⟨mb, mc, ms, kv, m, f, hM, hmm, hmk, hmv, hff⟩ := hfo.m
    have hrd : renameD D k to = if mayN ⟨to.toArray⟩ = false then (1, (beginsD D).2) else if k = to then (0, (beginsD D).2) else (0, { goneD (beginsD D).2 to with files := cutF (goneD (beginsD D).2 to).files k ++ [(to, f)] }) := by rw [renameD, if_neg (by omega), hff]
    refine Vc.seq ?_
    refine Vc.text (List.range 4) (sd [(0, .pure), (1, .eff), (2, .pure), (3, .pure)]) rfl ?_
    refine Rg.pure rfl rfl rfl (Pv.move rfl) ?_
    refine Rg.callP rfl rfl rfl (run_callF rfl) (may_spec _ ⟨to.toArray⟩) ?_
    rintro _ rfl
    refine Rg.pure rfl rfl rfl (Pv.not rfl) ?_
    refine Rg.pure rfl rfl rfl (Pv.assign rfl) ?_
    refine Rg.nil ?_
    refine Vc.cond rfl (fun h19 => ?_) (fun h19 => ?_)
    ·
      simp only [Bool.not_eq_true'] at h19
      refine Vc.seq ?_
      refine Vc.text (List.range 1) (sd [(0, .pure)]) rfl ?_
      refine Rg.pure rfl rfl rfl (Pv.assign rfl) ?_
      refine Rg.nil ?_
      exact Vc.ret (Vc.retsH rfl (.cons (.tmp rfl) (.nil)) (⟨by rw [hrd, if_pos h19]; rfl, by rw [hrd, if_pos h19]; exact hat⟩) pulled)
    ·
      simp only [Bool.not_eq_false'] at h19
      rw [if_neg (by rw [h19]; decide)] at hrd
      refine Vc.seq ?_
      refine Vc.text (List.range 4) (sd [(0, .pure), (1, .pure), (2, .pure), (3, .pure)]) rfl ?_
      refine Rg.pure rfl rfl rfl (Pv.move rfl) ?_
      refine Rg.pure rfl rfl rfl (Pv.move rfl) ?_
      refine Rg.pure rfl rfl rfl (Pv.eqlS rfl rfl) ?_
      refine Rg.pure rfl rfl rfl (Pv.assign rfl) ?_
      refine Rg.nil ?_
      refine Vc.cond rfl (fun h23 => ?_) (fun h23 => ?_)
      ·
        simp only [decide_eq_true_eq] at h23
        rw [kS_ne] at h23
        refine Vc.seq ?_
        refine Vc.text (List.range 1) (sd [(0, .pure)]) rfl ?_
        refine Rg.pure rfl rfl rfl (Pv.assign rfl) ?_
        refine Rg.nil ?_
        exact Vc.ret (Vc.retsH rfl (.cons (.tmp rfl) (.nil)) (⟨by rw [hrd, if_pos h23]; rfl, by rw [hrd, if_pos h23]; exact hat⟩) pulled)
      ·
        simp only [decide_eq_false_iff_not] at h23
        rw [kS_ne] at h23
        rw [if_neg h23] at hrd
        refine Vc.skip ?_
        refine Vc.blk ?_
        refine Vc.seq ?_
        refine Vc.text (List.range 3) (sd [(0, .pure), (1, .pure), (2, .eff)]) rfl ?_
        refine Rg.pure rfl rfl rfl (Pv.move rfl) ?_
        refine Rg.pure rfl rfl rfl (Pv.move rfl) ?_
        refine Rg.callH rfl rfl rfl (run_callF rfl) (fun F' hF' => gone_spec (F := F') hM (hwb.fewB hB) (by omega) to) rfl ?_
        rintro v29 s29 hM29
        obtain ⟨hf, sk, hfl, hn, hbn, hold, own, hp⟩ := hM29
        have hmm2 : m ∈ cutM ms to := List.mem_filter.2 ⟨hmm, by simpa [hmk] using h23⟩
        obtain ⟨fb2, f2, vn, vs, s1, s2, rest, hmv2, hff2, hperm, o1, o2, hc⟩ := hfl.pick hn hmm2
        rw [hmv] at hmv2
        cases hmv2
        rw [hmk, goneD_find h23, hff] at hff2
        cases hff2
        rw [hmk] at hc
        have hno : ∀ x ∈ cutM (cutM ms to) k, x.k ≠ to := fun x hx => by simpa using (List.mem_filter.1 (List.mem_filter.1 hx).1).2
        refine Rg.nil ?_
        refine Vc.seq ?_
        refine Vc.perm ((List.Perm.of_eq (List.append_nil s29)).trans hp) ?_
        refine Vc.text (List.range 6) (sd [(0, .pure), (1, .pure), (2, .pure), (3, .read), (4, .pure), (5, .eff)]) rfl ?_
        refine Rg.pure rfl rfl rfl (Pv.move rfl) ?_
        refine Rg.pure rfl rfl rfl (Pv.nilp rfl) ?_
        refine Rg.pure rfl rfl rfl (Pv.fa rfl) ?_
        refine Rg.read rfl rfl rfl (Ev.ld rfl rfl) ?_
        refine Rg.pure rfl rfl rfl (Pv.move rfl) ?_
        refine Rg.mapDel (ms := cutM ms to) (k := k) rfl rfl rfl rfl rfl ⟨m, hmm2, hmk⟩ hn rfl ?_
        refine Rg.nil ?_
        refine Vc.seq ?_
        refine Vc.text (List.range 7) (sd [(0, .pure), (1, .pure), (2, .pure), (3, .read), (4, .pure), (5, .pure), (6, .eff)]) rfl ?_
        refine Rg.pure rfl rfl rfl (Pv.move rfl) ?_
        refine Rg.pure rfl rfl rfl (Pv.nilp rfl) ?_
        refine Rg.pure rfl rfl rfl (Pv.fa rfl) ?_
        refine Rg.read rfl rfl rfl (Ev.ld rfl rfl) ?_
        refine Rg.pure rfl rfl rfl (Pv.move rfl) ?_
        refine Rg.pure rfl rfl rfl (Pv.move rfl) ?_
        refine Rg.mapPut (ms := cutM (cutM ms to) k) (k := to) rfl rfl rfl rfl rfl rfl hno (cutM_keys hn) rfl ?_
        refine Rg.nil ?_
        refine Vc.seq ?_
        refine Vc.text (List.range 1) (sd [(0, .pure)]) rfl ?_
        refine Rg.pure rfl rfl rfl (Pv.assign rfl) ?_
        refine Rg.nil ?_
        exact Vc.ret (Vc.retsH rfl (.cons (.tmp rfl) (.nil)) (⟨by rw [hrd]; rfl, (show DiskAt db (renameD D k to).2 ((db, dkO mb (goneD (beginsD D).2 to).room (goneD (beginsD D).2 to).used (goneD (beginsD D).2 to).ops (goneD (beginsD D).2 to).armed kv (goneD (beginsD D).2 to).down) :: (mb, mapO kS (cutM (cutM ms to) k ++ [⟨to, .pointer (some ⟨fb, 0, Option.none⟩), mc⟩]) (mc + 1)) :: (hf ++ sk)) from by
          rw [hrd]
          obtain ⟨hf', hpf, hfl'⟩ := hc.snoc (k := to) (f := f) (b := fb) (born := mc) (vn := vn) (vs := vs) o1 o2
          refine ⟨mb, mc + 1, _, hf', kv, sk, hfl', ?_, ?_, ?_, own, ?_⟩
          · rw [List.map_append, List.map_cons, List.map_nil, List.nodup_append]
            exact ⟨cutM_keys hn, by simp, fun a ha' b hb' => by
              obtain ⟨x, hx, rfl⟩ := List.mem_map.1 ha'
              rw [List.mem_singleton] at hb'
              subst hb'
              exact hno x hx⟩
          · rw [List.map_append, List.map_cons, List.map_nil, List.nodup_append]
            exact ⟨cutM_born hbn, by simp, fun a ha' b hb' => by
              obtain ⟨x, hx, rfl⟩ := List.mem_map.1 ha'
              rw [List.mem_singleton] at hb'
              subst hb'
              have := cutM_old hold x hx
              omega⟩
          · intro x hx
            rcases List.mem_append.1 hx with h | h
            · have := cutM_old hold x h
              omega
            · rw [List.mem_singleton] at h
              subst h
              exact Nat.lt_succ_self mc
          · exact (((hperm.trans hpf.symm).append_right sk).cons _).cons _)⟩) pulled)
theorem Dw.rename {n B : Nat} {D : Dk} (h : Dw n B D) (k to : List UInt8) : Dw (n + 1) B (renameD D k to).2 := by
  have hb := h.begins
  have hl : (beginsD D).2.files.length ≤ n := by rw [begins_cnt]; exact h.cnt
  unfold renameD
  split
  · exact hb
  · split
    · exact hb
    · rename_i f hf
      split
      · exact hb
      · split
        · exact hb
        · rename_i hne
          have hg := hb.gone to
          have hfg : findF (goneD (beginsD D).2 to).files k = some f := by rw [goneD_find hne]; exact hf
          have hno : findF (cutF (goneD (beginsD D).2 to).files k) to = none := findF_none_cut goneD_none
          have hgl : (goneD (beginsD D).2 to).files.length ≤ (beginsD D).2.files.length := by
            unfold goneD
            split
            · exact Nat.le_refl _
            · exact List.length_filter_le _ _
          refine ⟨keys_app_nodup (cutF_nodup hg.nodup) hno, ?_, fun p hp => ?_, ?_, hg.ops, hg.armed⟩
          · have := List.length_filter_le (fun p : List UInt8 × Fl => !decide (p.1 = k)) (goneD (beginsD D).2 to).files
            show (cutF (goneD (beginsD D).2 to).files k ++ [(to, f)]).length ≤ n + 1
            unfold cutF
            rw [List.length_append, List.length_singleton]
            omega
          · rcases List.mem_append.1 hp with hp | hp
            · exact hg.few p (List.mem_filter.1 hp).1
            · rw [List.mem_singleton] at hp; subst hp; exact hb.find hf
          · show (goneD (beginsD D).2 to).used = (usedN (cutF (goneD (beginsD D).2 to).files k ++ [(to, f)]) : Nat)
            have := usedN_cut hg.nodup hfg
            rw [hg.used, usedN_append, usedN_cons]
            show _ = ((_ + (secs f.now.length + 0) : Nat) : Int)
            omega
/-- the names -/
def listD (D : Dk) : List (List UInt8) × Int := if (beginsD D).1 = 7 then ([], 7) else (Go.Proofs.Ytmocncadncgaaaa.sortN ((beginsD D).2.files.map (·.1)), 0)
theorem list_spec {F : Fm} {db n B : Nat} {D : Dk} {s : Hl} (hD : DiskAt db D s) (hw : Dw n B D) (hnn : n < 1000) (hB : B ≤ 1000000) :
    Spec Try.prog 28 #[.pointer (some ⟨db, 0, Option.none⟩)] F s fun v s' => ∃ u s1 s2, v = .tuple #[u, .int .i64 (listD D).2] ∧ Own strE u (listD D).1 s1 ∧ DiskAt db (beginsD D).2 s2 ∧ s' = s1 ++ s2 := by
  have hwb := hw.begins
  have hcl := hwb.cnt
  refine Spec.of (n := 16) (vs := [.pointer (some ⟨db, 0, Option.none⟩)]) Try.func28 rfl Try.ntmps28 rfl ?_
  refine Vc.seq ?_
  refine Vc.text (List.range 2) (sd [(0, .pure), (1, .pure)]) rfl ?_
  refine Rg.pure rfl rfl rfl (Pv.assign rfl) ?_
  refine Rg.pure rfl rfl rfl (Pv.assign rfl) ?_
  refine Rg.nil ?_
  refine Vc.seq ?_
  refine Vc.seq ?_
  refine Vc.text (List.range 3) (sd [(0, .pure), (1, .eff), (2, .pure)]) rfl ?_
  refine Rg.pure rfl rfl rfl (Pv.move rfl) ?_
  refine Rg.callH rfl rfl rfl (run_callF rfl) (fun F' hF' => begins_spec (F := F') hD (hw.sz (by omega)) (hw.fewB hB) (hw.ops' (by omega)) hw.armed.2) rfl ?_
  rintro _ s6 ⟨rfl, hD6⟩
  have hb70 : (beginsD D).1 = 7 ∨ (beginsD D).1 = 0 := by show (if _ then 7 else 0 : Int) = 7 ∨ (if _ then 7 else 0 : Int) = 0; split <;> simp
  refine Rg.pure rfl rfl rfl (Pv.assign rfl) ?_
  refine Rg.nil ?_
  refine Vc.seq ?_
  refine Vc.text (List.range 2) (sd [(0, .pure), (1, .pure)]) rfl ?_
  refine Rg.pure rfl rfl rfl (Pv.move rfl) ?_
  refine Rg.pure rfl rfl rfl (Pv.neq rfl rfl) ?_
  refine Rg.nil ?_
  refine Vc.cond rfl (fun h8 => ?_) (fun h8 => ?_)
  ·
    simp only [bne_iff_ne, ne_eq] at h8
    have hb7 := hb70.resolve_right h8
    refine Vc.seq ?_
    refine Vc.text (List.range 3) (sd [(0, .pure), (1, .pure), (2, .pure)]) rfl ?_
    refine Rg.pure rfl rfl rfl (Pv.move rfl) ?_
    refine Rg.pure rfl rfl rfl (Pv.assign rfl) ?_
    refine Rg.pure rfl rfl rfl (Pv.assign rfl) ?_
    refine Rg.nil ?_
    exact Vc.ret (Vc.retsH rfl (.cons (.tmp rfl) (.cons (.tmp rfl) (.nil))) (⟨.slice Option.none 0 0, [], s6, by rw [listD, if_pos hb7, hb7]; rfl, by rw [listD, if_pos hb7]; exact .nil, hD6, rfl⟩) pulled)
  ·
    simp only [bne_eq_false_iff_eq] at h8
    obtain ⟨mb, mc, ms, hf, kv, sk, hfl, hn, hbn, hold, own, hp⟩ := hD6
    have hml : ms.length ≤ 1000 := by have := congrArg List.length hfl.keys; simp at this; omega
    refine Vc.perm ((List.Perm.of_eq (List.append_nil s6)).trans hp) ?_
    refine Vc.skip ?_
    refine Vc.seq ?_
    refine Vc.text (List.range 8) (sd [(0, .pure), (1, .pure), (2, .pure), (3, .read), (4, .eff), (5, .eff), (6, .pure), (7, .pure)]) rfl ?_
    refine Rg.pure rfl rfl rfl (Pv.move rfl) ?_
    refine Rg.pure rfl rfl rfl (Pv.nilp rfl) ?_
    refine Rg.pure rfl rfl rfl (Pv.fa rfl) ?_
    refine Rg.read rfl rfl rfl (Ev.ld rfl rfl) ?_
    refine Rg.callA rfl rfl rfl (run_callF rfl) keysF_spec ?_
    rintro _ _ ⟨bx, rfl, rfl⟩
    refine Rg.callH rfl rfl rfl (run_callF rfl) (fun F' hF' => sortedS_spec (F := F') (Sp := fun pre => pre.length ≤ ms.length) (S := fun ys => ys.Perm (ms.map (·.k))) (lb := [.pointer (some ⟨bx, 0, Option.none⟩)]) (hi := [(bx, cellsO [.map (some mb)] 65)]) (fun F'' h => keys_iter (h _ _ (hF' mb _ (.inl (by simp)))) hold hbn) (fun pre x h => by simp at h; omega) (fun ys h => by have := h.length_eq; simp at this; omega)) rfl ?_
    rintro v15 s15 ⟨ys, hys, own15⟩
    have hsn : Go.Proofs.Ytmocncadncgaaaa.sortN ys = Go.Proofs.Ytmocncadncgaaaa.sortN ((beginsD D).2.files.map (·.1)) := sortN_perm (by rw [← hfl.keys]; exact hys)
    rw [hsn] at own15
    refine Rg.pure rfl rfl rfl (Pv.assign rfl) ?_
    refine Rg.pure rfl rfl rfl (Pv.assign rfl) ?_
    refine Rg.nil ?_
    exact Vc.ret (Vc.retsH rfl (.cons (.tmp rfl) (.cons (.tmp rfl) (.nil))) (⟨v15, s15, _, by rw [listD, if_neg (by omega)]; rfl, by rw [listD, if_neg (by omega)]; exact own15, (show DiskAt db (beginsD D).2 ((db, dkO mb (beginsD D).2.room (beginsD D).2.used (beginsD D).2.ops (beginsD D).2.armed kv (beginsD D).2.down) :: (mb, mapO kS ms mc) :: (hf ++ sk)) from ⟨mb, mc, ms, hf, kv, sk, hfl, hn, hbn, hold, own, .refl _⟩), rfl⟩) pulled)
end Go.Proofs.Ytmocncadncgaaaa
