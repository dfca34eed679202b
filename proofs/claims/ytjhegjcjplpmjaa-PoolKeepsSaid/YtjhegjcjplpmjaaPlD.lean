/- Pools: clean. -/
import Derived.Test.YtjhegjcjplpmjaaPlC
namespace Go.Proofs.Ytjhegjcjplpmjaa
set_option linter.unusedVariables false

abbrev Dq (n : Nat) (D : Dk) : Prop := Dw n (300 * n) D
theorem Dq.up {n m B : Nat} {D : Dk} (h : Dw n B D) (hn : n ≤ m) (hB : B ≤ 300 * m) : Dq m D := h.mono hn hB
theorem setP_self {ps : List (Pl × Pg)} (hn : (ps.map (·.1)).Nodup) {k : Pl} {x : Pg} (h : findP ps k = some x) : setP ps k x = ps := by
  unfold setP
  conv => rhs; rw [← List.map_id ps]
  refine List.map_congr_left fun p hp => ?_
  by_cases e : p.1 = k
  · rw [if_pos e]
    have := findP_mem hn (k := p.1) (x := p.2) hp
    rw [e, h] at this
    cases this
    rw [← e]; rfl
  · rw [if_neg e]; rfl
theorem perm_pg {α : Type} (a b x : α) (A sc hp s rest t : List α) (h : hp.Perm (x :: (s ++ rest))) (hA : A.Perm (a :: b :: (sc ++ hp))) : (A ++ t).Perm (a :: b :: x :: (s ++ (rest ++ (sc ++ t)))) := by
  refine (hA.append_right t).trans ?_
  have e1 : a :: b :: x :: (s ++ (rest ++ (sc ++ t))) = a :: b :: (((x :: (s ++ rest)) ++ sc) ++ t) := by simp
  have e2 : a :: b :: (sc ++ hp) ++ t = a :: b :: ((sc ++ hp) ++ t) := by simp
  rw [e1, e2]
  refine (((?_ : (sc ++ hp).Perm ((x :: (s ++ rest)) ++ sc)).append_right t).cons b).cons a
  exact List.perm_append_comm.trans (h.append_right sc)
theorem clean_spec {F : Fm} {pb db fr ck n : Nat} {L : List Pl} {P : List (Pl × Pg)} {D D' : Dk} {s1 s2 : Hl} (hP : PoolAt pb db fr ck L P s1) (hD : DiskAt db D s2) (hw : Dq n D) (hn : n < 1000) (hPn : (P.map (·.1)).Nodup)
    (pl : Pl) (hpl : pl.k < 1048576) {x : Pg} (hx : findP P pl = some x) (hxl : x.b.length ≤ 300) (hE : x.dirty = true → writeD D pl.nm (some ((pl.k * 64 : Nat) : Int)) x.b = (0, D')) (hE' : x.dirty = false → D' = D) :
    Spec Try.prog 32 #[.pointer (some ⟨pb, 0, none⟩), plV pl] F (s1 ++ s2) fun v s' => ∃ h1 h2, v = .int .i64 0 ∧ s' = h1 ++ h2 ∧ PoolAt pb db fr ck L (setP P pl ⟨x.b, false⟩) h1 ∧ DiskAt db D' h2 ∧ Dq (n + 1) D' := by
  obtain ⟨cb, mb, mc, ms, sc, hp, hC, hpg, hnd, hbn, hold, hperm⟩ := hP
  rcases findM_page hpg hnd pl with ⟨_, h⟩ | ⟨m, x', hfm, hmm, hmk, hx'⟩
  · rw [hx] at h; cases h
  rw [hx] at hx'
  cases hx'
  obtain ⟨xb, x', vx, sx, rest, hmv, hfx, hpp, ox, hset, _⟩ := hpg.get hnd hmm
  rw [hmk, hx] at hfx
  cases hfx
  rw [hmk] at hset
  obtain ⟨px, cx, rfl⟩ := ox.shape
  refine Spec.perm ?_ (perm_pg _ _ _ _ _ _ _ _ _ hpp hperm)
  have hback : ∀ (y : Pg) (sd : Hl), y.b = x.b → ∃ h1, ((pb, cellsO [.pointer (some ⟨db, 0, none⟩), .pointer (some ⟨cb, 0, none⟩), .map (some mb)] 57) :: (mb, mapO plV ms mc) :: (xb, cellsO [.slice px x.b.length cx, .bool y.dirty] 62) :: (sx ++ (rest ++ (sc ++ sd)))).Perm (h1 ++ sd) ∧ PoolAt pb db fr ck L (setP P pl y) h1 := fun y sd hy => by
    obtain ⟨hl', hp', hpg'⟩ := hset y (.slice px x.b.length cx) sx (by rw [hy]; exact ox)
    exact ⟨_, (perm_pg _ _ _ _ _ _ _ _ _ hp' (.refl _)).symm, cb, mb, mc, ms, sc, hl', hC, hpg', hnd, hbn, hold, .refl _⟩
  refine Spec.of (n := 38) (vs := [.pointer (some ⟨pb, 0, none⟩), plV pl]) Try.func32 rfl Try.ntmps32 rfl ?_
  refine Vc.seq ?_
  refine Vc.text (List.range 2) (sd [(0, .eff), (1, .pure)]) rfl ?_
  refine Rg.box rfl rfl rfl rfl rfl (fun b3 => ?_)
  refine Rg.pure rfl rfl rfl (Pv.assign rfl) ?_
  refine Rg.nil ?_
  refine Vc.seq ?_
  refine Vc.draw [] (sd [(0, .pure), (1, .pure), (2, .pure), (3, .read), (4, .read), (5, .read), (6, .pure)]) mixed (by kernel_rfl) ?_
  refine Rg.pure rfl rfl rfl (Pv.move rfl) ?_
  refine Rg.pure rfl rfl rfl (Pv.nilp rfl) ?_
  refine Rg.pure rfl rfl rfl (Pv.fa rfl) ?_
  refine Rg.read rfl rfl rfl (Ev.ld rfl rfl) ?_
  refine Rg.read rfl rfl rfl (Ev.ldA rfl rfl) ?_
  refine Rg.read rfl rfl rfl (Ev.as (.pointer (some ⟨xb, 0, none⟩)) (Ev.lookup (kv := plV) (k := pl) rfl rfl hnd) (by rw [hfm, Option.map_some, Option.getD_some, hmv])) ?_
  refine Rg.pure rfl rfl rfl (Pv.assign rfl) ?_
  refine Rg.nil ?_
  refine Vc.seq ?_
  refine Vc.seq ?_
  refine Vc.text (List.range 5) (sd [(0, .pure), (1, .pure), (2, .pure), (3, .read), (4, .pure)]) rfl ?_
  refine Rg.pure rfl rfl rfl (Pv.move rfl) ?_
  refine Rg.pure rfl rfl rfl (Pv.nilp rfl) ?_
  refine Rg.pure rfl rfl rfl (Pv.fa rfl) ?_
  refine Rg.read rfl rfl rfl (Ev.ld rfl rfl) ?_
  refine Rg.pure rfl rfl rfl (Pv.not rfl) ?_
  refine Rg.nil ?_
  refine Vc.cond rfl (fun h17 => ?_) (fun h17 => ?_)
  ·
    have hd : x.dirty = false := by simpa using h17
    have e0 := hE' hd
    subst e0
    obtain ⟨h1, hpm, hPA⟩ := hback x s2 rfl
    refine Vc.seq ?_
    refine Vc.text (List.range 1) (sd [(0, .pure)]) rfl ?_
    refine Rg.pure rfl rfl rfl (Pv.assign rfl) ?_
    refine Rg.nil ?_
    exact Vc.ret (Vc.retsH (hl' := h1 ++ s2) rfl (.cons (.tmp rfl) .nil) ⟨h1, s2, rfl, rfl, by rw [← hd]; exact hPA, hD, Dq.up hw (by omega) (by omega)⟩ (List.Perm.trans pulled (hpm.append_right _)))
  ·
    have hd : x.dirty = true := by simpa using h17
    have e0 := hE hd
    refine Vc.skip ?_
    refine Vc.seq ?_
    refine Vc.draw [13] (sd [(0, .pure), (1, .pure), (2, .pure), (3, .read), (4, .pure), (5, .read), (6, .pure), (7, .read), (8, .pure), (9, .pure), (10, .pure), (11, .pure), (12, .read), (13, .eff), (14, .pure)]) mixed (by kernel_rfl) ?_
    refine Rg.pure rfl rfl rfl (Pv.move rfl) ?_
    refine Rg.pure rfl rfl rfl (Pv.nilp rfl) ?_
    refine Rg.pure rfl rfl rfl (Pv.fa rfl) ?_
    refine Rg.read rfl rfl rfl (Ev.ld rfl rfl) ?_
    refine Rg.pure rfl rfl rfl (Pv.fa rfl) ?_
    refine Rg.read rfl rfl rfl (Ev.ld rfl rfl) ?_
    refine Rg.pure rfl rfl rfl (Pv.fa rfl) ?_
    refine Rg.read rfl rfl rfl (Ev.ld rfl rfl) ?_
    refine Rg.pure rfl rfl rfl (Pv.asI (pl.k * 64) (Pv.mul rfl rfl (by omega)) (by omega)) ?_
    refine Rg.pure rfl rfl rfl (Pv.move rfl) ?_
    refine Rg.pure rfl rfl rfl (Pv.nilp rfl) ?_
    refine Rg.pure rfl rfl rfl (Pv.fa rfl) ?_
    refine Rg.read rfl rfl rfl (Ev.ld rfl rfl) ?_
    refine Rg.callH rfl rfl rfl (run_callF rfl) (fun F' hF' => writeAt_w (F := F') hD hw (by omega) (by omega) pl.nm ((pl.k * 64 : Nat) : Int) (Arg.own ox fun b o hb => hF' b o (.inl (by simp [hb]))) (by omega) e0) rfl ?_
    rintro _ s31 ⟨rfl, hD31, hw31⟩
    obtain ⟨h1, hpm, hPA⟩ := hback ⟨x.b, false⟩ s31 rfl
    refine Rg.pure rfl rfl rfl (Pv.assign rfl) ?_
    refine Rg.nil ?_
    refine Vc.seq ?_
    refine Vc.text (List.range 6) (sd [(0, .pure), (1, .pure), (2, .pure), (3, .pure), (4, .pure), (5, .eff)]) rfl ?_
    refine Rg.pure rfl rfl rfl (Pv.move rfl) ?_
    refine Rg.pure rfl rfl rfl (Pv.move rfl) ?_
    refine Rg.pure rfl rfl rfl (Pv.as (.bool false) (Pv.neq rfl rfl) rfl) ?_
    refine Rg.pure rfl rfl rfl (Pv.nilp rfl) ?_
    refine Rg.pure rfl rfl rfl (Pv.fa rfl) ?_
    refine Rg.store rfl rfl rfl rfl rfl rfl rfl rfl ?_
    refine Rg.nil ?_
    refine Vc.seq ?_
    refine Vc.text (List.range 2) (sd [(0, .pure), (1, .pure)]) rfl ?_
    refine Rg.pure rfl rfl rfl (Pv.move rfl) ?_
    refine Rg.pure rfl rfl rfl (Pv.assign rfl) ?_
    refine Rg.nil ?_
    exact Vc.ret (Vc.retsH (hl' := h1 ++ s31) rfl (.cons (.tmp rfl) .nil) ⟨h1, s31, rfl, rfl, hPA, hD31, Dq.up hw31 (by omega) (by omega)⟩ (List.Perm.trans pulled (hpm.append_right _)))
end Go.Proofs.Ytjhegjcjplpmjaa
