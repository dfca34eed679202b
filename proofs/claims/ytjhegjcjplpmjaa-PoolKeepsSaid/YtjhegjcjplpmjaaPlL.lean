/- Pools: Flush, Drop. -/
import Derived.Test.YtjhegjcjplpmjaaPlK
namespace Go.Proofs.Ytjhegjcjplpmjaa
set_option linter.unusedVariables false

theorem findP_key {P : List (Pl × Pg)} {g : Pl} (h : g ∈ P.map (·.1)) : ∃ x, findP P g = some x := by
  cases hx : findP P g with
  | some x => exact ⟨x, rfl⟩
  | none =>
    obtain ⟨p, hp, e⟩ := List.mem_map.1 h
    exact absurd e (findP_none hx p hp)
section
variable {F : Fm} {pb db fr ck n : Nat} {O : List UInt8 → Option (List UInt8)} {L : List Pl} {P : List (Pl × Pg)} {D : Dk} {s1 s2 : Hl}
theorem PInv.pgLen (hI : PInv O fr D L P) (hsm : ∀ nm own, O nm = some own → own.length ≤ 300) {g : Pl} {x : Pg} (hx : findP P g = some x) : x.b.length ≤ 300 ∧ g.k < 1048576 := by
  obtain ⟨own, h1, h2, h3⟩ := hI.pg g x (findP_some hx)
  have := hsm _ own h1
  rw [h3, chunk_len]
  omega
set_option maxHeartbeats 1000000 in
theorem flush_spec (hP : PoolAt pb db fr ck L P s1) (hD : DiskAt db D s2) (hw : Dq n D) (hn : n + fr < 990) (hI : PInv O fr D L P) (hsm : ∀ nm own, O nm = some own → own.length ≤ 300) (nm : List UInt8) :
    Spec Try.prog 15 #[.pointer (some ⟨pb, 0, none⟩), kS nm] F (s1 ++ s2) fun v s' => ∃ h1 h2 P' D', v = .int .i64 0 ∧ s' = h1 ++ h2 ∧ PoolAt pb db fr ck L P' h1 ∧ DiskAt db D' h2 ∧ Dq (n + fr) D' ∧ PInv O fr D' L P' ∧ P'.length = P.length ∧ (∀ q x, (q, x) ∈ P' → x.dirty = true → q.nm ≠ nm ∧ ∃ x0, (q, x0) ∈ P ∧ x0.dirty = true) := by
  have hcap := hI.cap
  refine Spec.of (n := 23) (vs := [.pointer (some ⟨pb, 0, none⟩), kS nm]) Try.func15 rfl Try.ntmps15 rfl ?_
  refine Vc.seq ?_
  refine Vc.text (List.range 1) (sd [(0, .pure)]) rfl ?_
  refine Rg.pure rfl rfl rfl (Pv.assign rfl) ?_
  refine Rg.nil ?_
  refine Vc.seq ?_
  refine Vc.seq ?_
  refine Vc.text (List.range 5) (sd [(0, .pure), (1, .pure), (2, .eff), (3, .pure), (4, .pure)]) rfl ?_
  refine Rg.pure rfl rfl rfl (Pv.move rfl) ?_
  refine Rg.pure rfl rfl rfl (Pv.move rfl) ?_
  refine Rg.callA rfl rfl rfl (run_callF rfl) (of_spec hP frz_sb (by omega) nm) ?_
  rintro v10 s10 ⟨ys, own10, hys⟩
  have hyl : ys.length ≤ P.length := by rw [hys.length_eq]; exact Nat.le_trans (List.length_filter_le _ _) (by rw [List.length_map]; exact Nat.le_refl _)
  obtain ⟨q10, c10, rfl⟩ := own10.shape
  refine Rg.pure rfl rfl rfl (Pv.lenS rfl) ?_
  refine Rg.pure rfl rfl rfl (Pv.move rfl) ?_
  refine Rg.nil ?_
  refine Vc.block ?_
  refine Vc.loop5 (fun (i : Nat) (P1 : List (Pl × Pg)) (D1 : Dk) (h1 h2 : Hl) => i ≤ ys.length ∧ PoolAt pb db fr ck L P1 h1 ∧ DiskAt db D1 h2 ∧ Dq (n + i) D1 ∧ PInv O fr D1 L P1 ∧ P1.map (·.1) = P.map (·.1) ∧ (∀ q x, (q, x) ∈ P1 → x.dirty = true → q ∉ ys.take i ∧ ∃ x0, (q, x0) ∈ P ∧ x0.dirty = true)) (fun i P1 D1 h1 h2 => [(0, .pointer (some ⟨pb, 0, none⟩)), (10, .slice q10 ys.length c10), (11, .int .i64 (ys.length : Int)), (12, .int .i64 (i : Int))]) (fun i P1 D1 h1 h2 => h1 ++ (h2 ++ s10)) (fun i P1 D1 h1 h2 => ys.length - i) 0 P D s1 s2 ⟨Nat.zero_le _, hP, hD, hw, hI, rfl, fun q x h1 h2 => ⟨by simp, x, h1, h2⟩⟩ (.cons rfl (.cons rfl (.cons rfl (.cons rfl .nil)))) pulled ?_
  rintro i P1 D1 h1 h2 ⟨hi, hP1, hD1, hw1, hI1, hk1, hdn⟩
  refine Vc.seq ?_
  refine Vc.text (List.range 1) (sd [(0, .pure)]) rfl ?_
  refine Rg.pure rfl rfl rfl (Pv.lss rfl rfl) ?_
  refine Rg.nil ?_
  refine Vc.seq ?_
  refine Vc.cond rfl (fun h13 => ?_) (fun h13 => ?_)
  ·
    simp only [decide_eq_true_eq] at h13
    have hi1 : i < ys.length := by omega
    obtain ⟨bN, cN, spN, e, rfl, _, _⟩ := own10.block (by omega)
    cases e
    obtain ⟨g, hg⟩ : ∃ g, ys[i]! = g := ⟨_, rfl⟩
    have hgy : g ∈ ys := by rw [← hg, getElem!_pos ys i hi1]; exact List.getElem_mem _
    have htk : ys.take (i + 1) = ys.take i ++ [g] := by rw [List.take_succ_eq_append_getElem hi1, ← getElem!_pos ys i hi1, hg]
    obtain ⟨x, hx⟩ := findP_key (P := P1) (g := g) (by rw [hk1]; exact (List.mem_filter.1 (hys.mem_iff.1 hgy)).1)
    obtain ⟨hxl, hgk⟩ := hI1.pgLen hsm hx
    obtain ⟨D2, hE, hE', hI2, _, _⟩ := hI1.clean hx
    refine Vc.skip ?_
    refine Vc.seq ?_
    refine Vc.block ?_
    refine Vc.seq ?_
    refine Vc.text (List.range 4) (sd [(0, .pure), (1, .read), (2, .eff), (3, .eff)]) rfl ?_
    refine Rg.pure rfl rfl rfl (Pv.ixA (i) rfl rfl (by omega) (by omega)) ?_
    refine Rg.read rfl rfl rfl (Ev.as (plV g) (Ev.ldR (E := placeE) i rfl (Nat.zero_add _) (by omega)) (congrArg plV hg)) ?_
    refine Rg.alloc rfl rfl rfl rfl (fun b6 => ?_)
    refine Rg.storeA rfl rfl rfl rfl rfl rfl rfl rfl ?_
    refine Rg.nil ?_
    refine Vc.seq ?_
    refine Vc.text (List.range 4) (sd [(0, .pure), (1, .read), (2, .eff), (3, .pure)]) rfl ?_
    refine Rg.pure rfl rfl rfl (Pv.move rfl) ?_
    refine Rg.read rfl rfl rfl (Ev.ldA rfl rfl) ?_
    refine Rg.callH rfl rfl rfl (run_callF rfl) (fun F' hF' => clean_spec (F := F') hP1 hD1 hw1 (by omega) hI1.keys g hgk hx hxl hE hE') rfl ?_
    rintro _ _ ⟨h1', h2', rfl, rfl, hP2, hD2, hw2⟩
    rw [List.append_assoc]
    refine Rg.pure rfl rfl rfl (Pv.assign rfl) ?_
    refine Rg.nil ?_
    refine Vc.seq ?_
    refine Vc.text (List.range 2) (sd [(0, .pure), (1, .pure)]) rfl ?_
    refine Rg.pure rfl rfl rfl (Pv.move rfl) ?_
    refine Rg.pure rfl rfl rfl (Pv.neq rfl rfl) ?_
    refine Rg.nil ?_
    refine Vc.cond rfl (fun h20 => absurd h20 (by decide)) (fun h20 => ?_)
    refine Vc.skip ?_
    refine Vc.blk ?_
    refine Vc.text (List.range 2) (sd [(0, .pure), (1, .pure)]) rfl ?_
    refine Rg.pure rfl rfl rfl (Pv.asI (i + 1) (Pv.add rfl rfl (by omega)) (by omega)) ?_
    refine Rg.pure rfl rfl rfl (Pv.move rfl) ?_
    refine Rg.nil ?_
    exact Vc.inv5 (i + 1) (setP P1 g ⟨x.b, false⟩) D2 h1' h2' ⟨⟨by omega, hP2, hD2, hw2, hI2, by rw [setP_keys, hk1], fun q y hq hy => by
      rcases mem_setP hq with e | ⟨hq, hne⟩
      · cases e; cases hy
      · obtain ⟨a1, a2⟩ := hdn q y hq hy
        exact ⟨by rw [htk]; simp [a1, hne], a2⟩⟩, by omega⟩ (.cons rfl (.cons rfl (.cons rfl (.cons rfl .nil)))) pulled
  ·
    simp only [decide_eq_false_iff_not] at h13
    obtain rfl : i = ys.length := by omega
    rw [List.take_length] at hdn
    refine Vc.exit rfl ?_
    refine Vc.seq ?_
    refine Vc.text (List.range 1) (sd [(0, .pure)]) rfl ?_
    refine Rg.pure rfl rfl rfl (Pv.assign rfl) ?_
    refine Rg.nil ?_
    exact Vc.ret (Vc.retsH (hl' := h1 ++ h2) rfl (.cons (.tmp rfl) .nil) ⟨h1, h2, P1, D1, rfl, rfl, hP1, hD1, hw1.mono (by omega) (by omega), hI1, by have := congrArg List.length hk1; simpa using this, fun q x hq hx => by
      obtain ⟨a1, a2⟩ := hdn q x hq hx
      refine ⟨fun e => a1 (hys.mem_iff.2 (List.mem_filter.2 ⟨?_, by simpa using e⟩)), a2⟩
      rw [← hk1]
      exact List.mem_map.2 ⟨_, hq, rfl⟩⟩ pulled)
set_option maxHeartbeats 1000000 in
theorem dropP_spec (hP : PoolAt pb db fr ck L P s1) (hN : P.length < 1073741824) (hk : (P.map (·.1)).Nodup) (hL : L.Perm (P.map (·.1))) (nm : List UInt8) :
    Spec Try.prog 20 #[.pointer (some ⟨pb, 0, none⟩), kS nm] F s1 fun _ s' => ∃ L' P', PoolAt pb db fr ck L' P' s' ∧ (P'.map (·.1)).Nodup ∧ L'.Perm (P'.map (·.1)) ∧ (∀ q x, (q, x) ∈ P' ↔ (q, x) ∈ P ∧ q.nm ≠ nm) := by
  refine Spec.of (n := 26) (vs := [.pointer (some ⟨pb, 0, none⟩), kS nm]) Try.func20 rfl Try.ntmps20 rfl ?_
  refine Vc.seq ?_
  refine Vc.text (List.range 5) (sd [(0, .pure), (1, .pure), (2, .eff), (3, .pure), (4, .pure)]) rfl ?_
  refine Rg.pure rfl rfl rfl (Pv.move rfl) ?_
  refine Rg.pure rfl rfl rfl (Pv.move rfl) ?_
  refine Rg.callA rfl rfl rfl (run_callF rfl) (of_spec hP frz_sb hN nm) ?_
  rintro v8 s8 ⟨ys, own8, hys⟩
  have hyl : ys.length ≤ P.length := by rw [hys.length_eq]; exact Nat.le_trans (List.length_filter_le _ _) (by rw [List.length_map]; exact Nat.le_refl _)
  have hyn : ys.Nodup := hys.nodup_iff.2 (hk.sublist List.filter_sublist)
  obtain ⟨q8, c8, rfl⟩ := own8.shape
  refine Rg.pure rfl rfl rfl (Pv.lenS rfl) ?_
  refine Rg.pure rfl rfl rfl (Pv.move rfl) ?_
  refine Rg.nil ?_
  refine Vc.block ?_
  refine Vc.loop4 (fun (i : Nat) (L1 : List Pl) (P1 : List (Pl × Pg)) (h1 : Hl) => i ≤ ys.length ∧ PoolAt pb db fr ck L1 P1 h1 ∧ (P1.map (·.1)).Nodup ∧ L1.Perm (P1.map (·.1)) ∧ (∀ q x, (q, x) ∈ P1 ↔ (q, x) ∈ P ∧ q ∉ ys.take i)) (fun i L1 P1 h1 => [(0, .pointer (some ⟨pb, 0, none⟩)), (8, .slice q8 ys.length c8), (9, .int .i64 (ys.length : Int)), (10, .int .i64 (i : Int))]) (fun i L1 P1 h1 => h1 ++ s8) (fun i L1 P1 h1 => ys.length - i) 0 L P s1 ⟨Nat.zero_le _, hP, hk, hL, fun q x => by simp⟩ (.cons rfl (.cons rfl (.cons rfl (.cons rfl .nil)))) pulled ?_
  rintro i L1 P1 h1 ⟨hi, ⟨cb, mb, mc, ms, sc, hp, hC, hpg, hnd, hbn, hold, hperm⟩, hk1, hL1, hmm1⟩
  refine Vc.seq ?_
  refine Vc.text (List.range 1) (sd [(0, .pure)]) rfl ?_
  refine Rg.pure rfl rfl rfl (Pv.lss rfl rfl) ?_
  refine Rg.nil ?_
  refine Vc.seq ?_
  refine Vc.cond rfl (fun h11 => ?_) (fun h11 => ?_)
  ·
    simp only [decide_eq_true_eq] at h11
    have hi1 : i < ys.length := by omega
    obtain ⟨bN, cN, spN, e, rfl, _, _⟩ := own8.block (by omega)
    cases e
    obtain ⟨g, hg⟩ : ∃ g, ys[i]! = g := ⟨_, rfl⟩
    have hgi : ys[i] = g := by rw [← hg, getElem!_pos ys i hi1]
    have hgy : g ∈ ys := by rw [← hgi]; exact List.getElem_mem _
    have htk : ys.take (i + 1) = ys.take i ++ [g] := by rw [List.take_succ_eq_append_getElem hi1, hgi]
    have hgn : g ∉ ys.take i := by
      have h2 := hyn
      rw [← List.take_append_drop i ys, List.nodup_append] at h2
      intro hm
      exact h2.2.2 g hm g (by rw [List.drop_eq_getElem_cons hi1, hgi]; exact List.mem_cons_self) rfl
    have hgP : g ∈ P1.map (·.1) := by
      obtain ⟨p, hp, e⟩ := List.mem_map.1 (List.mem_filter.1 (hys.mem_iff.1 hgy)).1
      exact List.mem_map.2 ⟨p, (hmm1 p.1 p.2).2 ⟨hp, by rw [e]; exact hgn⟩, e⟩
    obtain ⟨x, hx⟩ := findP_key hgP
    rcases findM_page hpg hnd g with ⟨_, h⟩ | ⟨m, x', hfm, hmm, hmk, hx'⟩
    · rw [hx] at h; cases h
    obtain ⟨xb, x2, vx, sx, rest, hmv, hfx, hpp, ox, _, hcutpg⟩ := hpg.get hnd hmm
    rw [hmk] at hcutpg
    have hgL : g ∈ L1 := hL1.mem_iff.2 hgP
    refine Vc.perm (perm_pg _ _ _ _ _ _ _ _ _ hpp hperm) ?_
    refine Vc.skip ?_
    refine Vc.seq ?_
    refine Vc.block ?_
    refine Vc.seq ?_
    refine Vc.text (List.range 4) (sd [(0, .pure), (1, .read), (2, .eff), (3, .eff)]) rfl ?_
    refine Rg.pure rfl rfl rfl (Pv.ixA (i) rfl rfl (by omega) (by omega)) ?_
    refine Rg.read rfl rfl rfl (Ev.as (plV g) (Ev.ldR (E := placeE) i rfl (Nat.zero_add _) (by omega)) (congrArg plV hg)) ?_
    refine Rg.alloc rfl rfl rfl rfl (fun b5 => ?_)
    refine Rg.storeA rfl rfl rfl rfl rfl rfl rfl rfl ?_
    refine Rg.nil ?_
    refine Vc.seq ?_
    refine Vc.draw [5] (sd [(0, .pure), (1, .pure), (2, .pure), (3, .read), (4, .read), (5, .eff)]) mixed (by kernel_rfl) ?_
    refine Rg.pure rfl rfl rfl (Pv.move rfl) ?_
    refine Rg.pure rfl rfl rfl (Pv.nilp rfl) ?_
    refine Rg.pure rfl rfl rfl (Pv.fa rfl) ?_
    refine Rg.read rfl rfl rfl (Ev.ld rfl rfl) ?_
    refine Rg.read rfl rfl rfl (Ev.ldA rfl rfl) ?_
    refine Rg.mapDel (kv := plV) (k := g) rfl rfl rfl rfl rfl (⟨m, hmm, hmk⟩) (hnd) rfl ?_
    refine Rg.nil ?_
    refine Vc.draw [5] (sd [(0, .pure), (1, .pure), (2, .pure), (3, .read), (4, .read), (5, .eff)]) mixed (by kernel_rfl) ?_
    refine Rg.pure rfl rfl rfl (Pv.move rfl) ?_
    refine Rg.pure rfl rfl rfl (Pv.nilp rfl) ?_
    refine Rg.pure rfl rfl rfl (Pv.fa rfl) ?_
    refine Rg.read rfl rfl rfl (Ev.ld rfl rfl) ?_
    refine Rg.read rfl rfl rfl (Ev.ldA rfl rfl) ?_
    refine Rg.callH rfl rfl rfl (run_callF rfl) (fun F' hF' => drop_specp F' hC g) rfl ?_
    rintro v24 s24 ⟨_, hC24⟩
    rw [if_pos (show hasK (Zk L1) g = true from by rw [hasK_Z]; simpa using hgL), pinsK_Z, if_neg (Nat.lt_irrefl 0), dropK_Z] at hC24
    refine Rg.nil ?_
    refine Vc.blk ?_
    refine Vc.text (List.range 2) (sd [(0, .pure), (1, .pure)]) rfl ?_
    refine Rg.pure rfl rfl rfl (Pv.asI (i + 1) (Pv.add rfl rfl (by omega)) (by omega)) ?_
    refine Rg.pure rfl rfl rfl (Pv.move rfl) ?_
    refine Rg.nil ?_
    exact Vc.inv4 (i + 1) (L1.filter fun q => !decide (q = g)) (cutP P1 g) ((pb, cellsO [.pointer (some ⟨db, 0, none⟩), .pointer (some ⟨cb, 0, none⟩), .map (some mb)] 57) :: (mb, mapO plV (cutM ms g) mc) :: (s24 ++ rest)) ⟨⟨by omega, ⟨cb, mb, mc, cutM ms g, s24, rest, hC24, hcutpg, hnd.sublist (List.filter_sublist.map _), hbn.sublist (List.filter_sublist.map _), fun m hm => hold m (List.mem_filter.1 hm).1, .refl _⟩, by rw [cutP_keys]; exact hk1.sublist List.filter_sublist, by rw [cutP_keys]; exact hL1.filter _, fun q y => by
      rw [mem_cutP, hmm1, htk]
      simp only [List.mem_append, List.mem_singleton, not_or]
      exact ⟨fun h => ⟨h.1.1, h.1.2, h.2⟩, fun h => ⟨⟨h.1, h.2.1⟩, h.2.2⟩⟩⟩, by omega⟩ (.cons rfl (.cons rfl (.cons rfl (.cons rfl .nil)))) (List.Perm.trans (pulled : List.Perm _ (((pb, cellsO [.pointer (some ⟨db, 0, none⟩), .pointer (some ⟨cb, 0, none⟩), .map (some mb)] 57) :: (mb, mapO plV (cutM ms g) mc) :: (s24 ++ (rest ++ [(bN, rowS placeE ys spN)]))) ++ _)) (List.Perm.of_eq (by simp; rfl)))
  ·
    simp only [decide_eq_false_iff_not] at h11
    obtain rfl : i = ys.length := by omega
    rw [List.take_length] at hmm1
    refine Vc.exit rfl ?_
    exact Vc.fin (Vc.retsH rfl .nil (⟨L1, P1, ⟨cb, mb, mc, ms, sc, hp, hC, hpg, hnd, hbn, hold, hperm⟩, hk1, hL1, fun q x => by
      rw [hmm1]
      exact ⟨fun h => ⟨h.1, fun e => h.2 (hys.mem_iff.2 (List.mem_filter.2 ⟨List.mem_map.2 ⟨_, h.1, rfl⟩, by simpa using e⟩))⟩, fun h => ⟨h.1, fun hm => h.2 (by simpa using (List.mem_filter.1 (hys.mem_iff.1 hm)).2)⟩⟩⟩) pulled)
end
end Go.Proofs.Ytjhegjcjplpmjaa
