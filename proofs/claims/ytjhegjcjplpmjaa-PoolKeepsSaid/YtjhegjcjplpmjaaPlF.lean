/- Pools: held. -/
import Derived.Test.YtjhegjcjplpmjaaPlE
namespace Go.Proofs.Ytjhegjcjplpmjaa
set_option linter.unusedVariables false

/-- A pool of which a page is open: its block is xb. -/
def PageOf (pb db fr ck : Nat) (L : List Pl) (P : List (Pl × Pg)) (pl : Pl) (xb : Nat) (hl : Hl) : Prop := ∃ cb mb mc ms sc hp m, Cachep cb fr ck (L.map fun p => (p, 0)) sc ∧ PagesAt ms P hp ∧ (ms.map (·.k)).Nodup ∧ (ms.map (·.born)).Nodup ∧ (∀ m ∈ ms, m.born < mc) ∧
  m ∈ ms ∧ m.k = pl ∧ m.v = .pointer (some ⟨xb, 0, none⟩) ∧ hl.Perm ((pb, cellsO [.pointer (some ⟨db, 0, none⟩), .pointer (some ⟨cb, 0, none⟩), .map (some mb)] 57) :: (mb, mapO plV ms mc) :: (sc ++ hp))
theorem PageOf.at {pb db fr ck : Nat} {L : List Pl} {P : List (Pl × Pg)} {pl : Pl} {xb : Nat} {hl : Hl} (h : PageOf pb db fr ck L P pl xb hl) : PoolAt pb db fr ck L P hl := by
  obtain ⟨cb, mb, mc, ms, sc, hp, m, h1, h2, h3, h4, h5, _, _, _, h6⟩ := h
  exact ⟨cb, mb, mc, ms, sc, hp, h1, h2, h3, h4, h5, h6⟩
theorem PageOf.open_ {pb db fr ck : Nat} {L : List Pl} {P : List (Pl × Pg)} {pl : Pl} {xb : Nat} {hl : Hl} (h : PageOf pb db fr ck L P pl xb hl) : ∃ x v s rest, findP P pl = some x ∧ Own byteE v x.b s ∧ hl.Perm ((xb, cellsO [v, .bool x.dirty] 62) :: (s ++ rest)) ∧
    ∀ (x' : Pg) v' s' hl', Own byteE v' x'.b s' → hl'.Perm ((xb, cellsO [v', .bool x'.dirty] 62) :: (s' ++ rest)) → PoolAt pb db fr ck L (setP P pl x') hl' := by
  obtain ⟨cb, mb, mc, ms, sc, hp, m, hC, hpg, hnd, hbn, hold, hmm, hmk, hmv, hperm⟩ := h
  obtain ⟨xb2, x, v, s, rest, hmv2, hfx, hpp, ox, hset, _⟩ := hpg.get hnd hmm
  rw [hmv] at hmv2
  cases hmv2
  rw [hmk] at hfx hset
  have hgo : ∀ (y : Nat × Obj) (s rest hp : Hl), hp.Perm (y :: (s ++ rest)) → ((pb, cellsO [.pointer (some ⟨db, 0, none⟩), .pointer (some ⟨cb, 0, none⟩), .map (some mb)] 57) :: (mb, mapO plV ms mc) :: (sc ++ hp)).Perm (y :: (s ++ ((pb, cellsO [.pointer (some ⟨db, 0, none⟩), .pointer (some ⟨cb, 0, none⟩), .map (some mb)] 57) :: (mb, mapO plV ms mc) :: (sc ++ rest)))) := fun y s rest hp h => by
    have := (h.append_left ((pb, cellsO [.pointer (some ⟨db, 0, none⟩), .pointer (some ⟨cb, 0, none⟩), .map (some mb)] 57) :: (mb, mapO plV ms mc) :: sc))
    simp only [List.cons_append] at this
    refine this.trans ?_
    have e : ((pb, cellsO [.pointer (some ⟨db, 0, none⟩), .pointer (some ⟨cb, 0, none⟩), .map (some mb)] 57) :: (mb, mapO plV ms mc) :: (sc ++ y :: (s ++ rest))) = ((pb, cellsO [.pointer (some ⟨db, 0, none⟩), .pointer (some ⟨cb, 0, none⟩), .map (some mb)] 57) :: (mb, mapO plV ms mc) :: sc) ++ ((y :: s) ++ rest) := by simp
    have e2 : (y :: (s ++ ((pb, cellsO [.pointer (some ⟨db, 0, none⟩), .pointer (some ⟨cb, 0, none⟩), .map (some mb)] 57) :: (mb, mapO plV ms mc) :: (sc ++ rest)))) = (y :: s) ++ (((pb, cellsO [.pointer (some ⟨db, 0, none⟩), .pointer (some ⟨cb, 0, none⟩), .map (some mb)] 57) :: (mb, mapO plV ms mc) :: sc) ++ rest) := by simp
    rw [e, e2, ← List.append_assoc, ← List.append_assoc]
    exact List.perm_append_comm.append_right rest
  refine ⟨x, v, s, _, hfx, ox, hperm.trans (hgo _ _ _ _ hpp), fun x' v' s' hl' o' hl2 => ?_⟩
  obtain ⟨hp', hpp', hpg'⟩ := hset x' v' s' o'
  exact ⟨cb, mb, mc, ms, sc, hp', hC, hpg', hnd, hbn, hold, hl2.trans (hgo _ _ _ _ hpp').symm⟩
theorem perm_sw {α : Type} (y : α) (s t r : List α) : (y :: (s ++ (t ++ r))).Perm (t ++ (y :: (s ++ r))) := by
  have e1 : (y :: (s ++ (t ++ r))) = (y :: s) ++ (t ++ r) := by simp
  have e2 : (t ++ (y :: (s ++ r))) = t ++ ((y :: s) ++ r) := by simp
  rw [e1, e2, ← List.append_assoc, ← List.append_assoc]
  exact List.perm_append_comm.append_right r
theorem nodup_snoc {ms : List (Me Pl)} {m : Me Pl} (hn : (ms.map (·.k)).Nodup) (h : ∀ x ∈ ms, x.k ≠ m.k) : ((ms ++ [m]).map (·.k)).Nodup := by
  rw [List.map_append, List.map_cons, List.map_nil, List.nodup_append]
  exact ⟨hn, by simp, fun a ha b hb => by
    obtain ⟨x, hx, rfl⟩ := List.mem_map.1 ha
    rw [List.mem_singleton] at hb
    subst hb
    exact h x hx⟩
theorem born_snoc {ms : List (Me Pl)} {k : Pl} {v : Value} {mc : Nat} (hn : (ms.map (·.born)).Nodup) (h : ∀ x ∈ ms, x.born < mc) : ((ms ++ [(⟨k, v, mc⟩ : Me Pl)]).map (·.born)).Nodup := by
  rw [List.map_append, List.map_cons, List.map_nil, List.nodup_append]
  exact ⟨hn, by simp, fun a ha b hb => by
    obtain ⟨x, hx, rfl⟩ := List.mem_map.1 ha
    rw [List.mem_singleton] at hb
    rw [hb]
    exact Nat.ne_of_lt (h x hx)⟩
theorem old_snoc {ms : List (Me Pl)} {k : Pl} {v : Value} {mc : Nat} (h : ∀ x ∈ ms, x.born < mc) : ∀ x ∈ ms ++ [(⟨k, v, mc⟩ : Me Pl)], x.born < mc + 1 := by
  intro x hx
  rcases List.mem_append.1 hx with hx | hx
  · have := h x hx
    omega
  · rw [List.mem_singleton] at hx
    subst hx
    exact Nat.lt_succ_self mc
section
variable {F : Fm} {pb db fr ck n : Nat} {O : List UInt8 → Option (List UInt8)} {L : List Pl} {P : List (Pl × Pg)} {D : Dk} {s1 s2 : Hl}
theorem room_spec (hP : PoolAt pb db fr ck L P s1) (hD : DiskAt db D s2) (hw : Dq n D) (hn : n < 1000) (hI : PInv O fr D L P) (hck : ck < 1000000) (hfr : 1 ≤ fr ∧ fr ≤ 1000) (pl : Pl) (hno : findP P pl = none) (hsm : ∀ nm own, O nm = some own → own.length ≤ 300) :
    Spec Try.prog 64 #[.pointer (some ⟨pb, 0, none⟩), plV pl] F (s1 ++ s2) fun v s' => ∃ h1 h2 L1 P1 D1, v = .int .i64 0 ∧ s' = h1 ++ h2 ∧ PoolAt pb db fr (ck + 1) (L1 ++ [pl]) P1 h1 ∧ DiskAt db D1 h2 ∧ Dq (n + 1) D1 ∧ PInv O fr D1 L1 P1 ∧ P1.length < fr ∧ findP P1 pl = none ∧ (P.length < fr → D1 = D ∧ P1 = P) ∧ (∀ q x, (q, x) ∈ P1 → (q, x) ∈ P) := by
  by_cases hcap : P.length < fr
  · exact (room_few hP hI hck hfr.2 pl hno hcap).mono fun v s' ⟨h1, hv, hs, hPA⟩ => ⟨h1, s2, L, P, D, hv, hs, hPA, hD, hw.mono (by omega) (by omega), hI, hcap, hno, fun _ => ⟨rfl, rfl⟩, fun _ _ h => h⟩
  · have hLl : L.length = P.length := by have := hI.perm.length_eq; simpa using this
    cases L with
    | nil => simp at hLl; omega
    | cons g L0 =>
      have hcap2 := hI.cap
      exact (room_full hP hD hw hn hI hck hfr.2 pl hno (by omega) hsm).mono fun v s' ⟨h1, h2, D', hv, hs, hPA, hD', hw', hI', hl⟩ => ⟨h1, h2, L0, cutP P g, D', hv, hs, hPA, hD', hw', hI', by omega, by
        cases h : findP (cutP P g) pl with
        | none => rfl
        | some y => exact absurd rfl (findP_none hno _ (mem_cutP.1 (findP_some h)).1), fun h => absurd h hcap, fun q x h => (mem_cutP.1 h).1⟩
theorem held_hit (hP : PoolAt pb db fr ck L P s1) (hI : PInv O fr D L P) (hck : ck < 1000000) (hfr : fr ≤ 1000) (pl : Pl) {x : Pg} (hx : findP P pl = some x) (size : Int) :
    Spec Try.prog 47 #[.pointer (some ⟨pb, 0, none⟩), plV pl, .int .i64 size] F (s1 ++ s2) fun v s' => ∃ xb h1, v = .tuple #[.pointer (some ⟨xb, 0, none⟩), .int .i64 0] ∧ s' = h1 ++ s2 ∧ PageOf pb db fr (ck + 1) ((L.filter fun q => !decide (q = pl)) ++ [pl]) P pl xb h1 := by
  obtain ⟨cb, mb, mc, ms, sc, hp, hC, hpg, hnd, hbn, hold, hperm⟩ := hP
  refine Spec.perm ?_ (perm_pool _ _ _ _ _ _ hperm)
  have hLl : L.length = P.length := by have := hI.perm.length_eq; simpa using this
  have hcap := hI.cap
  have hpL : pl ∈ L := hI.perm.mem_iff.2 (List.mem_map.2 ⟨_, findP_some hx, rfl⟩)
  have hu := useK_hit hpL fr
  rcases findM_page hpg hnd pl with ⟨_, h⟩ | ⟨m, x', hfm, hmm, hmk, hx'⟩
  · rw [hx] at h; cases h
  obtain ⟨xb, _, _, _, _, hmv, _⟩ := hpg.get hnd hmm
  refine Spec.of (n := 72) (vs := [.pointer (some ⟨pb, 0, none⟩), plV pl, .int .i64 size]) Try.func47 rfl Try.ntmps47 rfl ?_
  refine Vc.seq ?_
  refine Vc.text (List.range 3) (sd [(0, .eff), (1, .pure), (2, .pure)]) rfl ?_
  refine Rg.box rfl rfl rfl rfl rfl (fun b4 => ?_)
  refine Rg.pure rfl rfl rfl (Pv.assign rfl) ?_
  refine Rg.pure rfl rfl rfl (Pv.assign rfl) ?_
  refine Rg.nil ?_
  refine Vc.seq ?_
  refine Vc.seq ?_
  refine Vc.draw [] (sd [(0, .pure), (1, .pure), (2, .pure), (3, .read), (4, .read), (5, .read), (6, .pure)]) mixed (by kernel_rfl) ?_
  refine Rg.pure rfl rfl rfl (Pv.move rfl) ?_
  refine Rg.pure rfl rfl rfl (Pv.nilp rfl) ?_
  refine Rg.pure rfl rfl rfl (Pv.fa rfl) ?_
  refine Rg.read rfl rfl rfl (Ev.ld rfl rfl) ?_
  refine Rg.read rfl rfl rfl (Ev.ldA rfl rfl) ?_
  refine Rg.read rfl rfl rfl (Ev.as (.pointer (some ⟨xb, 0, none⟩)) (Ev.lookup (kv := plV) (k := pl) rfl rfl hnd) (by rw [hfm, Option.map_some, Option.getD_some, hmv])) ?_
  refine Rg.pure rfl rfl rfl (Pv.assign rfl) ?_
  refine Rg.nil ?_
  refine Vc.seq ?_
  refine Vc.text (List.range 2) (sd [(0, .pure), (1, .pure)]) rfl ?_
  refine Rg.pure rfl rfl rfl (Pv.move rfl) ?_
  refine Rg.pure rfl rfl rfl (Pv.neqNil rfl rfl) ?_
  refine Rg.nil ?_
  refine Vc.cond rfl (fun h21 => ?_) (fun h21 => absurd h21 (by simp))
  refine Vc.seq ?_
  refine Vc.draw [5] (sd [(0, .pure), (1, .pure), (2, .pure), (3, .read), (4, .read), (5, .eff)]) mixed (by kernel_rfl) ?_
  refine Rg.pure rfl rfl rfl (Pv.move rfl) ?_
  refine Rg.pure rfl rfl rfl (Pv.nilp rfl) ?_
  refine Rg.pure rfl rfl rfl (Pv.fa rfl) ?_
  refine Rg.read rfl rfl rfl (Ev.ld rfl rfl) ?_
  refine Rg.read rfl rfl rfl (Ev.ldA rfl rfl) ?_
  refine Rg.callH rfl rfl rfl (run_callF rfl) (fun F' hF' => use_somep F' hC pl (by omega) (by rw [List.length_map]; omega) hu) rfl ?_
  rintro _ s27 ⟨rfl, hC27⟩
  refine Rg.nil ?_
  refine Vc.seq ?_
  refine Vc.text (List.range 3) (sd [(0, .pure), (1, .pure), (2, .pure)]) rfl ?_
  refine Rg.pure rfl rfl rfl (Pv.move rfl) ?_
  refine Rg.pure rfl rfl rfl (Pv.assign rfl) ?_
  refine Rg.pure rfl rfl rfl (Pv.assign rfl) ?_
  refine Rg.nil ?_
  exact Vc.ret (Vc.retsH (hl' := (pb, cellsO [.pointer (some ⟨db, 0, none⟩), .pointer (some ⟨cb, 0, none⟩), .map (some mb)] 57) :: (mb, mapO plV ms mc) :: (s27 ++ (hp ++ s2))) rfl (.cons (.tmp rfl) (.cons (.tmp rfl) .nil)) ⟨xb, (pb, cellsO [.pointer (some ⟨db, 0, none⟩), .pointer (some ⟨cb, 0, none⟩), .map (some mb)] 57) :: (mb, mapO plV ms mc) :: (s27 ++ hp), rfl, by simp, cb, mb, mc, ms, s27, hp, m, by rw [List.map_append]; exact hC27, hpg, hnd, hbn, hold, hmm, hmk, hmv, .refl _⟩ pulled)
theorem held_miss (hP : PoolAt pb db fr ck L P s1) (hD : DiskAt db D s2) (hw : Dq n D) (hn : n < 998) (hI : PInv O fr D L P) (hck : ck < 1000000) (hfr : 1 ≤ fr ∧ fr ≤ 1000) (pl : Pl) (hno : findP P pl = none) (hsm : ∀ nm own, O nm = some own → own.length ≤ 300) {own : List UInt8} (ho : O pl.nm = some own) (hk : 64 * pl.k < own.length) :
    Spec Try.prog 47 #[.pointer (some ⟨pb, 0, none⟩), plV pl, .int .i64 (own.length : Int)] F (s1 ++ s2) fun v s' => ∃ xb h1 h2 L' P' D', v = .tuple #[.pointer (some ⟨xb, 0, none⟩), .int .i64 0] ∧ s' = h1 ++ h2 ∧ PageOf pb db fr (ck + 1) L' P' pl xb h1 ∧ DiskAt db D' h2 ∧ Dq (n + 2) D' ∧ PInv O fr D' L' P' ∧
      (P.length < fr → D' = { D with ops := D.ops + 1 } ∧ P'.length = P.length + 1) ∧ (∀ q x, (q, x) ∈ P' → x.dirty = true → (q, x) ∈ P) := by
  have hno0 := hno
  have hPA0 := hP
  have hsm1 := hsm _ _ ho
  obtain ⟨cb, mb, mc, ms, sc, hp, hC, hpg, hnd, hbn, hold, hperm⟩ := hP
  refine Spec.perm ?_ (perm_pool _ _ _ _ _ _ hperm)
  have hfm : findM ms pl = none := by
    rcases findM_page hpg hnd pl with ⟨h, _⟩ | ⟨m, x', _, _, _, hx'⟩
    · exact h
    · rw [hno] at hx'; cases hx'
  have hPA : PoolAt pb db fr ck L P ((pb, cellsO [.pointer (some ⟨db, 0, none⟩), .pointer (some ⟨cb, 0, none⟩), .map (some mb)] 57) :: (mb, mapO plV ms mc) :: (sc ++ hp)) := ⟨cb, mb, mc, ms, sc, hp, hC, hpg, hnd, hbn, hold, .refl _⟩
  refine Spec.of (n := 72) (vs := [.pointer (some ⟨pb, 0, none⟩), plV pl, .int .i64 (own.length : Int)]) Try.func47 rfl Try.ntmps47 rfl ?_
  refine Vc.seq ?_
  refine Vc.text (List.range 3) (sd [(0, .eff), (1, .pure), (2, .pure)]) rfl ?_
  refine Rg.box rfl rfl rfl rfl rfl (fun b4 => ?_)
  refine Rg.pure rfl rfl rfl (Pv.assign rfl) ?_
  refine Rg.pure rfl rfl rfl (Pv.assign rfl) ?_
  refine Rg.nil ?_
  refine Vc.seq ?_
  refine Vc.seq ?_
  refine Vc.draw [] (sd [(0, .pure), (1, .pure), (2, .pure), (3, .read), (4, .read), (5, .read), (6, .pure)]) mixed (by kernel_rfl) ?_
  refine Rg.pure rfl rfl rfl (Pv.move rfl) ?_
  refine Rg.pure rfl rfl rfl (Pv.nilp rfl) ?_
  refine Rg.pure rfl rfl rfl (Pv.fa rfl) ?_
  refine Rg.read rfl rfl rfl (Ev.ld rfl rfl) ?_
  refine Rg.read rfl rfl rfl (Ev.ldA rfl rfl) ?_
  refine Rg.read rfl rfl rfl (Ev.as (.pointer none) (Ev.lookup (kv := plV) (k := pl) rfl rfl hnd) (by rw [hfm]; rfl)) ?_
  refine Rg.pure rfl rfl rfl (Pv.assign rfl) ?_
  refine Rg.nil ?_
  refine Vc.seq ?_
  refine Vc.text (List.range 2) (sd [(0, .pure), (1, .pure)]) rfl ?_
  refine Rg.pure rfl rfl rfl (Pv.move rfl) ?_
  refine Rg.pure rfl rfl rfl (Pv.neqNil rfl rfl) ?_
  refine Rg.nil ?_
  refine Vc.cond rfl (fun h21 => absurd h21 (by decide)) (fun h21 => ?_)
  refine Vc.skip ?_
  refine Vc.seq ?_
  refine Vc.seq ?_
  refine Vc.text (List.range 4) (sd [(0, .pure), (1, .read), (2, .eff), (3, .pure)]) rfl ?_
  refine Rg.pure rfl rfl rfl (Pv.move rfl) ?_
  refine Rg.read rfl rfl rfl (Ev.ldA rfl rfl) ?_
  refine Rg.callH rfl rfl rfl (run_callF rfl) (fun F' hF' => Spec.pool (room_spec (F := F') hPA hD hw (by omega) hI hck hfr pl hno hsm)) rfl ?_
  rintro _ _ ⟨h1, h2, L1, P1, D1, rfl, rfl, ⟨cb', mb', mc', ms', sc', hp', hC', hpg', hnd', hbn', hold', hperm'⟩, hD1, hw1, hI1, hcap1, hno1, hsame, hsub⟩
  obtain ⟨hrd, hbg, hI2⟩ := hI1.read ho hk hno1 hcap1
  refine Rg.pure rfl rfl rfl (Pv.assign rfl) ?_
  refine Rg.nil ?_
  refine Vc.seq ?_
  refine Vc.text (List.range 2) (sd [(0, .pure), (1, .pure)]) rfl ?_
  refine Rg.pure rfl rfl rfl (Pv.move rfl) ?_
  refine Rg.pure rfl rfl rfl (Pv.neq rfl rfl) ?_
  refine Rg.nil ?_
  refine Vc.cond rfl (fun h33 => absurd h33 (by decide)) (fun h33 => ?_)
  refine Vc.perm ((perm_pool _ _ _ _ _ _ hperm').append_right _) ?_
  simp only [List.cons_append, List.append_assoc]
  have hno2 : ∀ m ∈ ms', m.k ≠ pl := fun m hm e => by
    have : pl ∈ P1.map (·.1) := by rw [← hpg'.keys]; exact List.mem_map.2 ⟨m, hm, e⟩
    obtain ⟨p, hp, e2⟩ := List.mem_map.1 this
    exact findP_none hno1 p hp e2
  refine Vc.skip ?_
  refine Vc.seq ?_
  refine Vc.text (List.range 4) (sd [(0, .pure), (1, .read), (2, .pure), (3, .pure)]) rfl ?_
  refine Rg.pure rfl rfl rfl (Pv.fa rfl) ?_
  refine Rg.read rfl rfl rfl (Ev.ld rfl rfl) ?_
  refine Rg.pure rfl rfl rfl (Pv.asI (pl.k * 64) (Pv.mul rfl rfl (by omega)) (by omega)) ?_
  refine Rg.pure rfl rfl rfl (Pv.assign rfl) ?_
  refine Rg.nil ?_
  refine Vc.seq ?_
  refine Vc.draw [11] (sd [(0, .pure), (1, .pure), (2, .pure), (3, .read), (4, .pure), (5, .read), (6, .pure), (7, .pure), (8, .pure), (9, .pure), (10, .pure), (11, .eff), (12, .pure), (13, .pure), (14, .pure), (15, .pure), (16, .pure)]) mixed (by kernel_rfl) ?_
  refine Rg.pure rfl rfl rfl (Pv.move rfl) ?_
  refine Rg.pure rfl rfl rfl (Pv.nilp rfl) ?_
  refine Rg.pure rfl rfl rfl (Pv.fa rfl) ?_
  refine Rg.read rfl rfl rfl (Ev.ld rfl rfl) ?_
  refine Rg.pure rfl rfl rfl (Pv.fa rfl) ?_
  refine Rg.read rfl rfl rfl (Ev.ld rfl rfl) ?_
  refine Rg.pure rfl rfl rfl (Pv.move rfl) ?_
  refine Rg.pure rfl rfl rfl (Pv.move rfl) ?_
  refine Rg.pure rfl rfl rfl (Pv.move rfl) ?_
  refine Rg.pure rfl rfl rfl (Pv.asI (own.length - pl.k * 64) (Pv.sub rfl rfl (by omega)) (by omega)) ?_
  refine Rg.pure rfl rfl rfl (Pv.asI (min 64 (own.length - pl.k * 64)) (Pv.min rfl rfl) (by omega)) ?_
  refine Rg.callH rfl rfl rfl (run_callF rfl) (fun F' hF' => readAt_w (F := F') hD1 hw1 (by omega) (by omega) pl.nm ((pl.k * 64 : Nat) : Int) ((min 64 (own.length - pl.k * 64) : Nat) : Int) hrd hbg) rfl ?_
  rintro _ _ ⟨u, sx, h3, rfl, ox, hD2, hw2, rfl⟩
  obtain ⟨pu, cu, rfl⟩ := ox.shape
  rw [List.append_assoc]
  refine Rg.pure rfl rfl rfl (Pv.move rfl) ?_
  refine Rg.pure rfl rfl rfl (Pv.extract rfl rfl) ?_
  refine Rg.pure rfl rfl rfl (Pv.extract rfl rfl) ?_
  refine Rg.pure rfl rfl rfl (Pv.assign rfl) ?_
  refine Rg.pure rfl rfl rfl (Pv.assign rfl) ?_
  refine Rg.nil ?_
  refine Vc.seq ?_
  refine Vc.seq ?_
  refine Vc.text (List.range 2) (sd [(0, .pure), (1, .pure)]) rfl ?_
  refine Rg.pure rfl rfl rfl (Pv.move rfl) ?_
  refine Rg.pure rfl rfl rfl (Pv.neq rfl rfl) ?_
  refine Rg.nil ?_
  refine Vc.cond rfl (fun h54 => absurd h54 (by decide)) (fun h54 => ?_)
  refine Vc.skip ?_
  refine Vc.seq ?_
  refine Vc.text (List.range 4) (sd [(0, .pure), (1, .pure), (2, .eff), (3, .pure)]) rfl ?_
  refine Rg.pure rfl rfl rfl (Pv.move rfl) ?_
  refine Rg.pure rfl rfl rfl (Pv.build (c := #[.slice pu (chunk own pl.k).length cu, .bool false]) rfl rfl) ?_
  refine Rg.box rfl rfl rfl rfl rfl (fun b64 => ?_)
  refine Rg.pure rfl rfl rfl (Pv.assign rfl) ?_
  refine Rg.nil ?_
  refine Vc.seq ?_
  refine Vc.draw [6] (sd [(0, .pure), (1, .pure), (2, .pure), (3, .read), (4, .read), (5, .pure), (6, .eff)]) mixed (by kernel_rfl) ?_
  refine Rg.pure rfl rfl rfl (Pv.move rfl) ?_
  refine Rg.pure rfl rfl rfl (Pv.nilp rfl) ?_
  refine Rg.pure rfl rfl rfl (Pv.fa rfl) ?_
  refine Rg.read rfl rfl rfl (Ev.ld rfl rfl) ?_
  refine Rg.read rfl rfl rfl (Ev.ldA rfl rfl) ?_
  refine Rg.pure rfl rfl rfl (Pv.move rfl) ?_
  refine Rg.mapPut (kv := plV) (k := pl) rfl rfl rfl rfl rfl rfl (hno2) (hnd') rfl ?_
  refine Rg.nil ?_
  refine Vc.seq ?_
  refine Vc.text (List.range 3) (sd [(0, .pure), (1, .pure), (2, .pure)]) rfl ?_
  refine Rg.pure rfl rfl rfl (Pv.move rfl) ?_
  refine Rg.pure rfl rfl rfl (Pv.assign rfl) ?_
  refine Rg.pure rfl rfl rfl (Pv.assign rfl) ?_
  refine Rg.nil ?_
  obtain ⟨hlp, hpp, hpgN⟩ := hpg'.snoc (k := pl) (x := ⟨chunk own pl.k, false⟩) (b := b64) (born := mc') ox
  exact Vc.ret (Vc.retsH (hl' := (pb, cellsO [.pointer (some ⟨db, 0, none⟩), .pointer (some ⟨cb', 0, none⟩), .map (some mb')] 57) :: (mb', mapO plV (ms' ++ [⟨pl, .pointer (some ⟨b64, 0, none⟩), mc'⟩]) (mc' + 1)) :: (b64, cellsO [.slice pu (chunk own pl.k).length cu, .bool false] 62) :: (sx ++ (sc' ++ (hp' ++ h3)))) rfl (.cons (.tmp rfl) (.cons (.tmp rfl) .nil))
    ⟨b64, (pb, cellsO [.pointer (some ⟨db, 0, none⟩), .pointer (some ⟨cb', 0, none⟩), .map (some mb')] 57) :: (mb', mapO plV (ms' ++ [⟨pl, .pointer (some ⟨b64, 0, none⟩), mc'⟩]) (mc' + 1)) :: (b64, cellsO [.slice pu (chunk own pl.k).length cu, .bool false] 62) :: (sx ++ (sc' ++ hp')), h3, L1 ++ [pl], P1 ++ [(pl, ⟨chunk own pl.k, false⟩)], _, rfl, by simp,
      ⟨cb', mb', mc' + 1, ms' ++ [⟨pl, .pointer (some ⟨b64, 0, none⟩), mc'⟩], sc', hlp, ⟨pl, .pointer (some ⟨b64, 0, none⟩), mc'⟩, hC', hpgN, nodup_snoc hnd' hno2, born_snoc hbn' hold', old_snoc hold', by simp, rfl, rfl, (((perm_sw _ _ _ _).trans (hpp.symm.append_left _)).cons _).cons _⟩, hD2, hw2.mono (by omega) (by omega), hI2, fun h => by obtain ⟨e1, e2⟩ := hsame h; rw [e1, e2]; exact ⟨rfl, by simp⟩, fun q x hq hx => by
        rcases List.mem_append.1 hq with h | h
        · exact hsub q x h
        · rw [List.mem_singleton] at h; cases h; cases hx⟩ pulled)
end
end Go.Proofs.Ytjhegjcjplpmjaa
