/- The statements' functions: shown, RecordTells, RecordReads. The statements' functions: RecordTells, RecordReads. The statements' functions: RecordThen, RecordOne. The statements' functions: RecordOne, RecordRoom. The statements' functions: RecordDown. -/
import Derived.Test.YtbhaahohaccecaaRcH
namespace Go.Proofs.Ytbhaahohaccecaa
set_option linter.unusedVariables false

theorem torn_same (t : List UInt8) (ks : List Bool) : ∀ n, tornG t t ks n = (t, ks)
  | 0 => rfl
  | n + 1 => by
    have : sameSec t t n = true := by
      unfold sameSec secTo
      rw [decide_eq_true (Nat.min_le_right _ _), decide_eq_true rfl]
      rfl
    rw [tornG_succ, torn_same t ks n, tornStep, if_pos this]
theorem up1 {k : List UInt8} {f : Fl} {room ops : Int} : Up (d1 k f room ops false) := ⟨rfl, rfl⟩
theorem bump1 {k : List UInt8} {f : Fl} {room ops : Int} {dn : Bool} (j : Int) : bump (d1 k f room ops dn) j = d1 k f room (ops + j) dn := rfl
theorem wblk1 {k now sy : List UInt8} {room ops : Int} {l : List Rk} : ∀ q, ((secs (now.length + (blkB l q).length) : Nat) : Int) ≤ room → wBlk (d1 k ⟨now, sy⟩ room ops false) k l q = (0, d1 k ⟨now ++ blkB l q, sy⟩ room (ops + q) false)
  | 0, _ => by simp [wBlk, blkB]
  | q + 1, h => by
    have hl : (blkB l (q + 1)).length = (blkB l q).length + (encG (recsB (chunk l q))).length := by rw [blkB_succ, List.length_append]
    have hs := secs_mono (show now.length + (blkB l q).length ≤ now.length + (blkB l (q + 1)).length by omega)
    have ih := wblk1 (k := k) (now := now) (sy := sy) (room := room) (ops := ops) (l := l) q (by omega)
    rw [wBlk, ih, if_neg (by simp), app1 _ (by rw [List.length_append, Nat.add_assoc, ← hl]; exact h), blkB_succ, List.append_assoc]
    rw [show ops + (q : Int) + 1 = ops + ((q + 1 : Nat) : Int) by omega]
theorem write1G {k : List UInt8} {room ops : Int} {l : List Rk} (hk : mayN ⟨k.toArray⟩ = true) (h : ((secs (bytesG l).length : Nat) : Int) ≤ room) : writeG (d0 room ops) k l = (0, d1 k ⟨bytesG l, bytesG l⟩ room (ops + (nblk l + 2 : Nat)) false) := by
  have hb := wblk1 (k := k) (now := []) (sy := []) (room := room) (ops := ops + 1) (l := l) (nblk l) (by simpa [bytesG] using h)
  rw [List.nil_append] at hb
  rw [writeG, create1 hk, if_neg (by simp), hb, if_pos rfl]
  simp only
  rw [sync1, show ops + 1 + (nblk l : Int) + 1 = ops + ((nblk l + 2 : Nat) : Int) by omega]
  rfl
theorem bytesG_le {l : List Rk} (h : l.length ≤ 160) : (bytesG l).length ≤ 3224 := by
  have h1 := blkB_le l (nblk l)
  have h2 : nblk l ≤ 4 := by unfold nblk; omega
  unfold bytesG
  omega
theorem read1_w {F : Fm} {db n B : Nat} {k : List UInt8} {f : Fl} {room ops : Int} {s : Hl} (hD : DiskAt db (d1 k f room ops false) s) (hw : Dw n B (d1 k f room ops false)) (hn : n < 600) (hB : B ≤ 4200) {l : List Rk} {e : Nat} (hr : readG f.now = (l, e)) :
    Spec Try.prog 13 #[.pointer (some ⟨db, 0, none⟩), kS k] F s fun v s' => ∃ u h1 h2, ∃ j : Int, v = .tuple #[u, .int .i64 (e : Int)] ∧ s' = h1 ++ h2 ∧ Own recE u (if e = 0 then l else []) h1 ∧ DiskAt db (d1 k f room (ops + j) false) h2 ∧ Dw (n + 200) B (d1 k f room (ops + j) false) := by
  have hfl := (hw.find find1).1
  refine (read_spec hD hw (by omega) (by omega) k up1 find1).mono fun v s ⟨u, h1, h2, j, e1, e2, e3, e4, e5⟩ => ?_
  rw [hr] at e1 e3
  exact ⟨u, h1, h2, ((1 + j : Nat) : Int), e1, e2, e3, e5, (hw.bump (1 + j)).mono (by omega) (Nat.le_refl _)⟩
theorem write_w {F : Fm} {db n B : Nat} {D D' : Dk} {s : Hl} {e : Int} (hD : DiskAt db D s) (hw : Dw n B D) (hn : n < 900) (hB : B ≤ 800000) (nm : List UInt8) {vl : Value} {l : List Rk} (ha : Arg recE F vl l) (hl : l.length ≤ 160) (hE : writeG D nm l = (e, D')) :
    Spec Try.prog 22 #[.pointer (some ⟨db, 0, none⟩), kS nm, vl] F s fun v s' => v = .int .i64 e ∧ DiskAt db D' s' ∧ Dw (n + 6) (B + 4024) D' :=
  (write_spec hD hw hn hB nm ha (by omega)).mono fun v s ⟨h1, h2⟩ => by
    have h3 := hw.writeG nm l
    have hnb : nblk l ≤ 4 := by unfold nblk; omega
    rw [hE] at h1 h2 h3
    exact ⟨h1, h2, h3.mono (by omega) (by omega)⟩
theorem readN_w {F : Fm} {db n B : Nat} {D D' : Dk} {s : Hl} (hD : DiskAt db D s) (hw : Dw n B D) (hn : n < 800) (hB : B ≤ 1000000) (nm : List UInt8) {m e : Int} (hE : sizeD D nm = (m, e)) (he : e ≠ 0) (hD' : (beginsD D).2 = D') :
    Spec Try.prog 13 #[.pointer (some ⟨db, 0, none⟩), kS nm] F s fun v s' => v = .tuple #[.slice none 0 0, .int .i64 e] ∧ DiskAt db D' s' ∧ Dw (n + 1) B D' :=
  (read_none hD hw hn hB nm hE he).mono fun v s ⟨h1, h2⟩ => by
    have h3 := hw.begins
    rw [hD'] at h2 h3
    exact ⟨h1, h2, h3⟩
theorem find1n {k k2 : List UInt8} {f : Fl} (h : k ≠ k2) : findF [(k, f)] k2 = none := by simp [findF, h]
theorem size1n {k k2 : List UInt8} {f : Fl} {room ops : Int} (h : k ≠ k2) : sizeD (d1 k f room ops false) k2 = (0, 4) := up1.sizeN (find1n h)
theorem create1n {k : List UInt8} {f : Fl} {room ops : Int} (hk : mayN ⟨k.toArray⟩ = true) : createD (d1 k f room ops false) k = (5, d1 k f room (ops + 1) false) := by
  simp only [createD, begins1, hk, find1]
  rfl
theorem bytes_one (x : Rk) : (bytesG [x]).length = 22 := by
  have h : bytesG [x] = encG (recsB [x]) := by simp [bytesG, blkB, nblk, chunk]
  rw [h, encG_length, recsB_length]
  rfl
set_option maxHeartbeats 1000000 in
theorem shown_spec (F : Fm) : Spec Try.prog 9 #[] F [] fun v _ => v = .bool true := by
  have hb22 := bytes_one ⟨5, 6⟩
  have hrg : readG (bytesG [⟨5, 6⟩]) = ([⟨5, 6⟩], 0) := readG_bytes (fun r hr => by simp at hr; subst hr; exact ⟨by decide, by decide⟩)
  have hnb : nblk [(⟨5, 6⟩ : Rk)] = 1 := rfl
  refine Spec.of (n := 70) (vs := []) Try.func9 rfl Try.ntmps9 rfl ?_
  refine Vc.seq ?_
  refine Vc.text (List.range 1) (sd [(0, .pure)]) rfl ?_
  refine Rg.pure rfl rfl rfl (Pv.assign rfl) ?_
  refine Rg.nil ?_
  refine Vc.seq ?_
  refine Vc.text (List.range 2) (sd [(0, .eff), (1, .pure)]) rfl ?_
  refine Rg.callA rfl rfl rfl (run_callF rfl) (new_w _ 100 100 (by decide)) ?_
  rintro _ s10 ⟨db, rfl, hD10, hw10⟩
  refine Rg.pure rfl rfl rfl (Pv.assign rfl) ?_
  refine Rg.nil ?_
  refine Vc.seq ?_
  refine Vc.seq ?_
  refine Vc.text (List.range 2) (sd [(0, .pure), (1, .pure)]) rfl ?_
  refine Rg.pure rfl rfl rfl (Pv.move rfl) ?_
  refine Rg.pure rfl rfl rfl (Pv.eqlNil rfl rfl) ?_
  refine Rg.nil ?_
  refine Vc.cond rfl (fun h12 => absurd h12 (by (cases h12))) (fun h12 => ?_)
  refine Vc.skip ?_
  refine Vc.seq ?_
  refine Vc.text (List.range 5) (sd [(0, .pure), (1, .pure), (2, .eff), (3, .eff), (4, .pure)]) rfl ?_
  refine Rg.pure rfl rfl rfl (Pv.move rfl) ?_
  refine Rg.pure rfl rfl rfl (Pv.build (c := #[.int .u64 5, .int .u64 6]) rfl rfl) ?_
  refine Rg.bslice1R (E := recE) (e := 39) (⟨5, 6⟩ : Rk) rfl rfl rfl rfl rfl rfl rfl rfl (fun b15 own15 => ?_)
  refine Rg.callH rfl rfl rfl (run_callF rfl) (fun F' hF' => write_w (F := F') hD10 hw10 (by omega) (by omega) [102] (l := [⟨5, 6⟩]) (Arg.own own15 fun b o hb => hF' b o (.inl (by simpa using hb))) (by simp) (write1G (by decide) (by rw [hb22]; decide))) rfl ?_
  rintro _ s16 ⟨rfl, hD16, hw16⟩
  refine Rg.pure rfl rfl rfl (Pv.assign rfl) ?_
  refine Rg.nil ?_
  refine Vc.seq ?_
  refine Vc.text (List.range 7) (sd [(0, .pure), (1, .eff), (2, .pure), (3, .pure), (4, .pure), (5, .pure), (6, .pure)]) rfl ?_
  refine Rg.pure rfl rfl rfl (Pv.move rfl) ?_
  refine Rg.callH rfl rfl rfl (run_callF rfl) (fun F' hF' => read1_w (F := F') hD16 hw16 (by omega) (by omega) hrg) rfl ?_
  rintro _ _ ⟨u19, q19, s19, j19, rfl, rfl, own19, hD19, hw19⟩
  rw [List.append_assoc]
  rw [if_pos rfl] at own19
  obtain ⟨b19, c19, sp19, rfl, rfl, _, _⟩ := own19.block (by decide)
  refine Rg.pure rfl rfl rfl (Pv.move rfl) ?_
  refine Rg.pure rfl rfl rfl (Pv.extract rfl rfl) ?_
  refine Rg.pure rfl rfl rfl (Pv.extract rfl rfl) ?_
  refine Rg.pure rfl rfl rfl (Pv.assign rfl) ?_
  refine Rg.pure rfl rfl rfl (Pv.assign rfl) ?_
  refine Rg.nil ?_
  refine Vc.seq ?_
  refine Vc.text (List.range 7) (sd [(0, .pure), (1, .eff), (2, .pure), (3, .pure), (4, .pure), (5, .pure), (6, .pure)]) rfl ?_
  refine Rg.pure rfl rfl rfl (Pv.move rfl) ?_
  refine Rg.callH rfl rfl rfl (run_callF rfl) (fun F' hF' => size_w (F := F') hD19 hw19 (by omega) (by omega) [102] size1 (congrArg Prod.snd begins1)) rfl ?_
  rintro _ s24 ⟨rfl, hD24, hw24⟩
  refine Rg.pure rfl rfl rfl (Pv.move rfl) ?_
  refine Rg.pure rfl rfl rfl (Pv.extract rfl rfl) ?_
  refine Rg.pure rfl rfl rfl (Pv.extract rfl rfl) ?_
  refine Rg.pure rfl rfl rfl (Pv.assign rfl) ?_
  refine Rg.pure rfl rfl rfl (Pv.assign rfl) ?_
  refine Rg.nil ?_
  refine Vc.seq ?_
  refine Vc.text (List.range 7) (sd [(0, .pure), (1, .eff), (2, .pure), (3, .pure), (4, .pure), (5, .pure), (6, .pure)]) rfl ?_
  refine Rg.pure rfl rfl rfl (Pv.move rfl) ?_
  refine Rg.callH rfl rfl rfl (run_callF rfl) (fun F' hF' => readN_w (F := F') hD24 hw24 (by omega) (by omega) [103] (size1n (by decide)) (by decide) (congrArg Prod.snd begins1)) rfl ?_
  rintro _ s29 ⟨rfl, hD29, hw29⟩
  refine Rg.pure rfl rfl rfl (Pv.move rfl) ?_
  refine Rg.pure rfl rfl rfl (Pv.extract rfl rfl) ?_
  refine Rg.pure rfl rfl rfl (Pv.extract rfl rfl) ?_
  refine Rg.pure rfl rfl rfl (Pv.assign rfl) ?_
  refine Rg.pure rfl rfl rfl (Pv.assign rfl) ?_
  refine Rg.nil ?_
  refine Vc.seq ?_
  refine Vc.text (List.range 3) (sd [(0, .pure), (1, .eff), (2, .pure)]) rfl ?_
  refine Rg.pure rfl rfl rfl (Pv.move rfl) ?_
  refine Rg.callH rfl rfl rfl (run_callF rfl) (fun F' hF' => write_w (F := F') hD29 hw29 (by omega) (by omega) [102] (l := []) Arg.nil (by simp) (show writeG (d1 [102] _ 100 _ false) [102] [] = (5, d1 [102] _ 100 _ false) from by rw [writeG, create1n (by decide), if_pos (by simp)])) rfl ?_
  rintro _ s33 ⟨rfl, hD33, hw33⟩
  refine Rg.pure rfl rfl rfl (Pv.assign rfl) ?_
  refine Rg.nil ?_
  refine Vc.seq ?_
  refine Vc.text (List.range 37) (sd [(0, .pure), (1, .pure), (2, .pure), (3, .pure), (4, .pure), (5, .pure), (6, .pure), (7, .pure), (8, .pure), (9, .pure), (10, .pure), (11, .pure), (12, .pure), (13, .pure), (14, .pure), (15, .read), (16, .pure), (17, .pure), (18, .pure), (19, .pure), (20, .pure), (21, .pure), (22, .pure), (23, .pure), (24, .pure), (25, .pure), (26, .pure), (27, .pure), (28, .pure), (29, .pure), (30, .pure), (31, .pure), (32, .pure), (33, .pure), (34, .pure), (35, .pure), (36, .pure)]) rfl ?_
  refine Rg.pure rfl rfl rfl (Pv.move rfl) ?_
  refine Rg.pure rfl rfl rfl (Pv.eql rfl rfl) ?_
  refine Rg.pure rfl rfl rfl (Pv.move rfl) ?_
  refine Rg.split (t := 36) rfl (fun h36 => ?_) (fun h36 => absurd h36 (by decide))
  refine Rg.pure rfl rfl rfl (Pv.move rfl) ?_
  refine Rg.pure rfl rfl rfl (Pv.eql rfl rfl) ?_
  refine Rg.pure rfl rfl rfl (Pv.pickT rfl rfl) ?_
  refine Rg.pure rfl rfl rfl (Pv.move rfl) ?_
  refine Rg.split (t := 40) rfl (fun h40 => ?_) (fun h40 => absurd h40 (by decide))
  refine Rg.pure rfl rfl rfl (Pv.move rfl) ?_
  refine Rg.pure rfl rfl rfl (Pv.lenS rfl) ?_
  refine Rg.pure rfl rfl rfl (Pv.eql rfl rfl) ?_
  refine Rg.pure rfl rfl rfl (Pv.pickT rfl rfl) ?_
  refine Rg.pure rfl rfl rfl (Pv.move rfl) ?_
  refine Rg.split (t := 45) rfl (fun h45 => ?_) (fun h45 => absurd h45 (by decide))
  refine Rg.pure rfl rfl rfl (Pv.move rfl) ?_
  refine Rg.pure rfl rfl rfl (Pv.ixA 0 rfl rfl (by rfl) (by decide)) ?_
  refine Rg.pure rfl rfl rfl (Pv.fa rfl) ?_
  refine Rg.read rfl rfl rfl (Ev.as (.int .u64 6) (Ev.ldRf (E := recE) 0 1 rfl rfl (by decide) rfl) rfl) ?_
  refine Rg.pure rfl rfl rfl (Pv.eql rfl rfl) ?_
  refine Rg.pure rfl rfl rfl (Pv.pickT rfl rfl) ?_
  refine Rg.pure rfl rfl rfl (Pv.move rfl) ?_
  refine Rg.split (t := 52) rfl (fun h52 => ?_) (fun h52 => absurd h52 (by decide))
  refine Rg.pure rfl rfl rfl (Pv.move rfl) ?_
  refine Rg.pure rfl rfl rfl (Pv.eql rfl rfl) ?_
  refine Rg.pure rfl rfl rfl (Pv.pickT rfl rfl) ?_
  refine Rg.pure rfl rfl rfl (Pv.move rfl) ?_
  refine Rg.split (t := 56) rfl (fun h56 => ?_) (fun h56 => absurd h56 (by simp [hb22]))
  refine Rg.pure rfl rfl rfl (Pv.move rfl) ?_
  refine Rg.pure rfl rfl rfl (Pv.eql rfl rfl) ?_
  refine Rg.pure rfl rfl rfl (Pv.pickT rfl rfl) ?_
  refine Rg.pure rfl rfl rfl (Pv.move rfl) ?_
  refine Rg.split (t := 60) rfl (fun h60 => ?_) (fun h60 => absurd h60 (by decide))
  refine Rg.pure rfl rfl rfl (Pv.move rfl) ?_
  refine Rg.pure rfl rfl rfl (Pv.eql rfl rfl) ?_
  refine Rg.pure rfl rfl rfl (Pv.pickT rfl rfl) ?_
  refine Rg.pure rfl rfl rfl (Pv.move rfl) ?_
  refine Rg.split (t := 64) rfl (fun h64 => ?_) (fun h64 => absurd h64 (by decide))
  refine Rg.pure rfl rfl rfl (Pv.move rfl) ?_
  refine Rg.pure rfl rfl rfl (Pv.eql rfl rfl) ?_
  refine Rg.pure rfl rfl rfl (Pv.pickT rfl rfl) ?_
  refine Rg.pure rfl rfl rfl (Pv.move rfl) ?_
  refine Rg.pure rfl rfl rfl (Pv.pickT rfl rfl) ?_
  refine Rg.pure rfl rfl rfl (Pv.assign rfl) ?_
  refine Rg.nil ?_
  refine Vc.ret (Vc.rets rfl (.cons (.tmp rfl) (.nil)) ?_)
  rfl
end Go.Proofs.Ytbhaahohaccecaa

namespace Go.Proofs.Ytbhaahohaccecaa
set_option linter.unusedVariables false

set_option maxHeartbeats 1000000 in
theorem RecordTells_spec (F : Fm) (v0 : Value) (l0 : List Rk) (h0 : Arg recE F v0 l0) (hI0 : ∀ r ∈ l0, RIn r) :
    Spec Try.prog 7 #[v0] F [] fun v _ => v = .bool true := by
  obtain ⟨p0, c0, rfl⟩ := h0.shape
  obtain ⟨l, hl⟩ : ∃ l, l = l0.take 160 := ⟨_, rfl⟩
  have hll : l.length ≤ 160 := by rw [hl, List.length_take]; omega
  have hI : ∀ r ∈ l, RIn r := fun r hr => hI0 r (List.mem_of_mem_take (hl ▸ hr))
  have hrg := readG_bytes hI
  have hbl := bytesG_le hll
  refine Spec.of (n := 80) (vs := [.slice p0 l0.length c0]) Try.func7 rfl Try.ntmps7 rfl ?_
  refine Vc.seq ?_
  refine Vc.text (List.range 1) (sd [(0, .pure)]) rfl ?_
  refine Rg.pure rfl rfl rfl (Pv.assign rfl) ?_
  refine Rg.nil ?_
  refine Vc.seq ?_
  refine Vc.text (List.range 2) (sd [(0, .eff), (1, .pure)]) rfl ?_
  refine Rg.callP rfl rfl rfl (run_callF rfl) (shown_spec _) ?_
  rintro _ rfl
  refine Rg.pure rfl rfl rfl (Pv.assign rfl) ?_
  refine Rg.nil ?_
  refine Vc.seq ?_
  refine Vc.text (List.range 3) (sd [(0, .pure), (1, .eff), (2, .pure)]) rfl ?_
  refine Rg.pure rfl rfl rfl (Pv.move rfl) ?_
  refine Rg.callA rfl rfl rfl (run_callF rfl) (few_spec (h0.mono fun b o h => Or.inr h)) ?_
  rintro v15 s15 own15
  rw [← hl] at own15
  refine Rg.pure rfl rfl rfl (Pv.assign rfl) ?_
  refine Rg.nil ?_
  refine Vc.seq ?_
  refine Vc.text (List.range 2) (sd [(0, .eff), (1, .pure)]) rfl ?_
  refine Rg.callA rfl rfl rfl (run_callF rfl) (new_w _ 1000 1000 (by decide)) ?_
  rintro _ s16 ⟨db, rfl, hD16, hw16⟩
  refine Rg.pure rfl rfl rfl (Pv.assign rfl) ?_
  refine Rg.nil ?_
  refine Vc.seq ?_
  refine Vc.seq ?_
  refine Vc.text (List.range 2) (sd [(0, .pure), (1, .pure)]) rfl ?_
  refine Rg.pure rfl rfl rfl (Pv.move rfl) ?_
  refine Rg.pure rfl rfl rfl (Pv.eqlNil rfl rfl) ?_
  refine Rg.nil ?_
  refine Vc.cond rfl (fun h18 => absurd h18 (by (cases h18))) (fun h18 => ?_)
  refine Vc.skip ?_
  refine Vc.seq ?_
  refine Vc.text (List.range 4) (sd [(0, .pure), (1, .pure), (2, .eff), (3, .pure)]) rfl ?_
  refine Rg.pure rfl rfl rfl (Pv.move rfl) ?_
  refine Rg.pure rfl rfl rfl (Pv.move rfl) ?_
  refine Rg.callH rfl rfl rfl (run_callF rfl) (fun F' hF' => write_w (F := F') hD16 hw16 (by omega) (by omega) [102] (Arg.own own15 fun b o hb => hF' b o (.inl (by simp [hb]))) hll (write1G (by decide) (by unfold secs; omega))) rfl ?_
  rintro _ s21 ⟨rfl, hD21, hw21⟩
  refine Rg.pure rfl rfl rfl (Pv.assign rfl) ?_
  refine Rg.nil ?_
  refine Vc.seq ?_
  refine Vc.text (List.range 2) (sd [(0, .pure), (1, .eff)]) rfl ?_
  refine Rg.pure rfl rfl rfl (Pv.move rfl) ?_
  refine Rg.callH rfl rfl rfl (run_callF rfl) (fun F' hF' => crash_w (F := F') hD21 hw21 (by omega) (by omega) Arg.nilB (crash1 [])) rfl ?_
  rintro v23 s23 ⟨hD23, hw23⟩
  rw [torn_same] at hD23 hw23
  refine Rg.nil ?_
  refine Vc.seq ?_
  refine Vc.text (List.range 2) (sd [(0, .pure), (1, .eff)]) rfl ?_
  refine Rg.pure rfl rfl rfl (Pv.move rfl) ?_
  refine Rg.callH rfl rfl rfl (run_callF rfl) (fun F' hF' => restart_w (F := F') hD23 hw23) rfl ?_
  rintro v25 s25 ⟨hD25, hw25⟩
  refine Rg.nil ?_
  refine Vc.seq ?_
  refine Vc.text (List.range 3) (sd [(0, .pure), (1, .eff), (2, .pure)]) rfl ?_
  refine Rg.pure rfl rfl rfl (Pv.move rfl) ?_
  refine Rg.callA rfl rfl rfl (run_callF rfl) (bytes_spec (Arg.own own15 frz_sb) (by omega)) ?_
  rintro v27 s27 own27
  obtain ⟨p27, c27, rfl⟩ := own27.shape
  refine Rg.pure rfl rfl rfl (Pv.assign rfl) ?_
  refine Rg.nil ?_
  refine Vc.seq ?_
  refine Vc.text (List.range 7) (sd [(0, .pure), (1, .eff), (2, .pure), (3, .pure), (4, .pure), (5, .pure), (6, .pure)]) rfl ?_
  refine Rg.pure rfl rfl rfl (Pv.move rfl) ?_
  refine Rg.callH rfl rfl rfl (run_callF rfl) (fun F' hF' => size_w (F := F') hD25 hw25 (by omega) (by omega) [102] size1 (congrArg Prod.snd begins1)) rfl ?_
  rintro _ s30 ⟨rfl, hD30, hw30⟩
  refine Rg.pure rfl rfl rfl (Pv.move rfl) ?_
  refine Rg.pure rfl rfl rfl (Pv.extract rfl rfl) ?_
  refine Rg.pure rfl rfl rfl (Pv.extract rfl rfl) ?_
  refine Rg.pure rfl rfl rfl (Pv.assign rfl) ?_
  refine Rg.pure rfl rfl rfl (Pv.assign rfl) ?_
  refine Rg.nil ?_
  refine Vc.seq ?_
  refine Vc.text (List.range 9) (sd [(0, .pure), (1, .pure), (2, .pure), (3, .eff), (4, .pure), (5, .pure), (6, .pure), (7, .pure), (8, .pure)]) rfl ?_
  refine Rg.pure rfl rfl rfl (Pv.move rfl) ?_
  refine Rg.pure rfl rfl rfl (Pv.move rfl) ?_
  refine Rg.pure rfl rfl rfl (Pv.lenS rfl) ?_
  refine Rg.callH rfl rfl rfl (run_callF rfl) (fun F' hF' => readAt_w (F := F') hD30 hw30 (by omega) (by omega) [102] 0 ((bytesG l).length : Nat) read1all (congrArg Prod.snd begins1)) rfl ?_
  rintro _ _ ⟨u37, q37, s37, rfl, own37, hD37, hw37, rfl⟩
  rw [List.append_assoc]
  refine Rg.pure rfl rfl rfl (Pv.move rfl) ?_
  refine Rg.pure rfl rfl rfl (Pv.extract rfl rfl) ?_
  refine Rg.pure rfl rfl rfl (Pv.extract rfl rfl) ?_
  refine Rg.pure rfl rfl rfl (Pv.assign rfl) ?_
  refine Rg.pure rfl rfl rfl (Pv.assign rfl) ?_
  refine Rg.nil ?_
  refine Vc.seq ?_
  refine Vc.text (List.range 7) (sd [(0, .pure), (1, .eff), (2, .pure), (3, .pure), (4, .pure), (5, .pure), (6, .pure)]) rfl ?_
  refine Rg.pure rfl rfl rfl (Pv.move rfl) ?_
  refine Rg.callH rfl rfl rfl (run_callF rfl) (fun F' hF' => read1_w (F := F') hD37 hw37 (by omega) (by omega) hrg) rfl ?_
  rintro _ _ ⟨u42, q42, s42, j42, rfl, rfl, own42, hD42, hw42⟩
  rw [List.append_assoc]
  rw [if_pos rfl] at own42
  refine Rg.pure rfl rfl rfl (Pv.move rfl) ?_
  refine Rg.pure rfl rfl rfl (Pv.extract rfl rfl) ?_
  refine Rg.pure rfl rfl rfl (Pv.extract rfl rfl) ?_
  refine Rg.pure rfl rfl rfl (Pv.assign rfl) ?_
  refine Rg.pure rfl rfl rfl (Pv.assign rfl) ?_
  refine Rg.nil ?_
  refine Vc.seq ?_
  refine Vc.text (List.range 36) (sd [(0, .pure), (1, .pure), (2, .pure), (3, .pure), (4, .pure), (5, .pure), (6, .pure), (7, .pure), (8, .pure), (9, .pure), (10, .pure), (11, .pure), (12, .pure), (13, .pure), (14, .pure), (15, .pure), (16, .pure), (17, .pure), (18, .pure), (19, .pure), (20, .pure), (21, .read), (22, .pure), (23, .read), (24, .pure), (25, .pure), (26, .pure), (27, .pure), (28, .pure), (29, .pure), (30, .pure), (31, .pure), (32, .pure), (33, .eff), (34, .pure), (35, .pure)]) rfl ?_
  refine Rg.pure rfl rfl rfl (Pv.move rfl) ?_
  refine Rg.pure rfl rfl rfl (Pv.move rfl) ?_
  refine Rg.split (t := 46) rfl (fun h46 => ?_) (fun h46 => absurd h46 (by decide))
  refine Rg.pure rfl rfl rfl (Pv.move rfl) ?_
  refine Rg.pure rfl rfl rfl (Pv.eql rfl rfl) ?_
  refine Rg.pure rfl rfl rfl (Pv.pickT rfl rfl) ?_
  refine Rg.pure rfl rfl rfl (Pv.move rfl) ?_
  refine Rg.split (t := 50) rfl (fun h50 => ?_) (fun h50 => absurd h50 (by decide))
  refine Rg.pure rfl rfl rfl (Pv.move rfl) ?_
  refine Rg.pure rfl rfl rfl (Pv.eql rfl rfl) ?_
  refine Rg.pure rfl rfl rfl (Pv.pickT rfl rfl) ?_
  refine Rg.pure rfl rfl rfl (Pv.move rfl) ?_
  refine Rg.split (t := 54) rfl (fun h54 => ?_) (fun h54 => absurd h54 (by decide))
  refine Rg.pure rfl rfl rfl (Pv.move rfl) ?_
  refine Rg.pure rfl rfl rfl (Pv.move rfl) ?_
  refine Rg.pure rfl rfl rfl (Pv.lenS rfl) ?_
  refine Rg.pure rfl rfl rfl (Pv.eql rfl rfl) ?_
  refine Rg.pure rfl rfl rfl (Pv.pickT rfl rfl) ?_
  refine Rg.pure rfl rfl rfl (Pv.move rfl) ?_
  refine Rg.split (t := 60) rfl (fun h60 => ?_) (fun h60 => absurd h60 (by simp))
  refine Rg.pure rfl rfl rfl (Pv.move rfl) ?_
  refine Rg.pure rfl rfl rfl (Pv.eql rfl rfl) ?_
  refine Rg.pure rfl rfl rfl (Pv.pickT rfl rfl) ?_
  refine Rg.pure rfl rfl rfl (Pv.move rfl) ?_
  refine Rg.split (t := 64) rfl (fun h64 => ?_) (fun h64 => absurd h64 (by decide))
  refine Rg.pure rfl rfl rfl (Pv.move rfl) ?_
  refine Rg.read rfl rfl rfl (Ev.str ((Arg.own (F := frz F q37) own37 fun b o hb => Or.inl hb).srcF) rfl) ?_
  refine Rg.pure rfl rfl rfl (Pv.move rfl) ?_
  refine Rg.read rfl rfl rfl (Ev.str ((Arg.own (F := frz F s27) own27 fun b o hb => Or.inl hb).srcF) rfl) ?_
  refine Rg.pure rfl rfl rfl (Pv.eqlS rfl rfl) ?_
  refine Rg.pure rfl rfl rfl (Pv.pickT rfl rfl) ?_
  refine Rg.pure rfl rfl rfl (Pv.move rfl) ?_
  refine Rg.split (t := 71) rfl (fun h71 => ?_) (fun h71 => absurd h71 (by simp))
  refine Rg.pure rfl rfl rfl (Pv.move rfl) ?_
  refine Rg.pure rfl rfl rfl (Pv.eql rfl rfl) ?_
  refine Rg.pure rfl rfl rfl (Pv.pickT rfl rfl) ?_
  refine Rg.pure rfl rfl rfl (Pv.move rfl) ?_
  refine Rg.split (t := 75) rfl (fun h75 => ?_) (fun h75 => absurd h75 (by decide))
  refine Rg.pure rfl rfl rfl (Pv.move rfl) ?_
  refine Rg.pure rfl rfl rfl (Pv.move rfl) ?_
  refine Rg.callP rfl rfl rfl (run_callF rfl) (same_spec (Arg.own own42 frz_sb) (Arg.own own15 frz_sb) (by omega) (by omega)) ?_
  rintro _ rfl
  refine Rg.pure rfl rfl rfl (Pv.pickT rfl rfl) ?_
  refine Rg.pure rfl rfl rfl (Pv.assign rfl) ?_
  refine Rg.nil ?_
  refine Vc.ret (Vc.rets rfl (.cons (.tmp rfl) (.nil)) ?_)
  exact congrArg Value.bool (by simp)

set_option maxHeartbeats 2000000 in
theorem RecordReads_spec (F : Fm) (v0 : Value) (xs : List UInt8) (h0 : Arg byteE F v0 xs) :
    Spec Try.prog 3 #[v0] F [] fun v _ => v = .bool true := by
  obtain ⟨p0, c0, rfl⟩ := h0.shape
  obtain ⟨b, hbl, _, hbc, hb⟩ := h0.upTo' 3000
  rw [← hbl] at hb hbc
  obtain ⟨L, hL⟩ : ∃ L, L = (readG b).1 := ⟨_, rfl⟩
  obtain ⟨e, he⟩ : ∃ e, e = (readG b).2 := ⟨_, rfl⟩
  have hrg : readG b = (L, e) := by rw [hL, he]
  have hLl : L.length * 16 ≤ b.length := by rw [hL]; exact readG_few b
  have hwl : (if e = 0 then L else []).length ≤ L.length := by split <;> simp
  refine Spec.of (n := 127) (vs := [.slice p0 xs.length c0]) Try.func3 rfl Try.ntmps3 rfl ?_
  refine Vc.seq ?_
  refine Vc.text (List.range 1) (sd [(0, .pure)]) rfl ?_
  refine Rg.pure rfl rfl rfl (Pv.assign rfl) ?_
  refine Rg.nil ?_
  refine Vc.seq ?_
  refine Vc.text (List.range 2) (sd [(0, .eff), (1, .pure)]) rfl ?_
  refine Rg.callP rfl rfl rfl (run_callF rfl) (shown_spec _) ?_
  rintro _ rfl
  refine Rg.pure rfl rfl rfl (Pv.assign rfl) ?_
  refine Rg.nil ?_
  refine Vc.seq ?_
  refine Vc.text (List.range 6) (sd [(0, .pure), (1, .pure), (2, .pure), (3, .pure), (4, .pure), (5, .pure)]) rfl ?_
  refine Rg.pure rfl rfl rfl (Pv.move rfl) ?_
  refine Rg.pure rfl rfl rfl (Pv.move rfl) ?_
  refine Rg.pure rfl rfl rfl (Pv.lenS rfl) ?_
  refine Rg.pure rfl rfl rfl (Pv.asI (b.length) (Pv.min rfl rfl) (by omega)) ?_
  refine Rg.pure rfl rfl rfl (Pv.slTo (b.length) rfl rfl (by omega)) ?_
  refine Rg.pure rfl rfl rfl (Pv.assign rfl) ?_
  refine Rg.nil ?_
  refine Vc.seq ?_
  refine Vc.text (List.range 2) (sd [(0, .eff), (1, .pure)]) rfl ?_
  refine Rg.callA rfl rfl rfl (run_callF rfl) (new_w _ 1000 1000 (by decide)) ?_
  rintro _ s22 ⟨db, rfl, hD22, hw22⟩
  refine Rg.pure rfl rfl rfl (Pv.assign rfl) ?_
  refine Rg.nil ?_
  refine Vc.seq ?_
  refine Vc.seq ?_
  refine Vc.text (List.range 13) (sd [(0, .pure), (1, .pure), (2, .pure), (3, .pure), (4, .eff), (5, .pure), (6, .pure), (7, .pure), (8, .pure), (9, .pure), (10, .eff), (11, .pure), (12, .pure)]) rfl ?_
  refine Rg.pure rfl rfl rfl (Pv.move rfl) ?_
  refine Rg.pure rfl rfl rfl (Pv.eqlNil rfl rfl) ?_
  refine Rg.pure rfl rfl rfl (Pv.move rfl) ?_
  refine Rg.split (t := 25) rfl (fun h25 => absurd h25 (by (cases h25))) (fun h25 => ?_)
  refine Rg.pure rfl rfl rfl (Pv.move rfl) ?_
  refine Rg.callH rfl rfl rfl (run_callF rfl) (fun F' hF' => create_w (F := F') hD22 hw22 (by omega) (by omega) [102] (create1 (by decide))) rfl ?_
  rintro _ s27 ⟨rfl, hD27, hw27⟩
  refine Rg.pure rfl rfl rfl (Pv.neq rfl rfl) ?_
  refine Rg.pure rfl rfl rfl (Pv.pickF rfl rfl) ?_
  refine Rg.pure rfl rfl rfl (Pv.move rfl) ?_
  refine Rg.split (t := 30) rfl (fun h30 => absurd h30 (by decide)) (fun h30 => ?_)
  refine Rg.pure rfl rfl rfl (Pv.move rfl) ?_
  refine Rg.pure rfl rfl rfl (Pv.move rfl) ?_
  refine Rg.callH rfl rfl rfl (run_callF rfl) (fun F' hF' => append_w (F := F') hD27 hw27 (by omega) (by omega) [102] (hb.mono fun b o h => hF' b o (.inr h)) (by omega) (app1 b (by simp [secs]; omega))) rfl ?_
  rintro _ s33 ⟨rfl, hD33, hw33⟩
  rw [List.nil_append] at hD33 hw33
  refine Rg.pure rfl rfl rfl (Pv.neq rfl rfl) ?_
  refine Rg.pure rfl rfl rfl (Pv.pickF rfl rfl) ?_
  refine Rg.nil ?_
  refine Vc.cond rfl (fun h35 => absurd h35 (by decide)) (fun h35 => ?_)
  refine Vc.skip ?_
  refine Vc.seq ?_
  refine Vc.text (List.range 7) (sd [(0, .pure), (1, .eff), (2, .pure), (3, .pure), (4, .pure), (5, .pure), (6, .pure)]) rfl ?_
  refine Rg.pure rfl rfl rfl (Pv.move rfl) ?_
  refine Rg.callH rfl rfl rfl (run_callF rfl) (fun F' hF' => read1_w (F := F') hD33 hw33 (by omega) (by omega) hrg) rfl ?_
  rintro _ _ ⟨u38, q38, s38, j38, rfl, rfl, own38, hD38, hw38⟩
  rw [List.append_assoc]
  refine Rg.pure rfl rfl rfl (Pv.move rfl) ?_
  refine Rg.pure rfl rfl rfl (Pv.extract rfl rfl) ?_
  refine Rg.pure rfl rfl rfl (Pv.extract rfl rfl) ?_
  refine Rg.pure rfl rfl rfl (Pv.assign rfl) ?_
  refine Rg.pure rfl rfl rfl (Pv.assign rfl) ?_
  refine Rg.nil ?_
  refine Vc.seq ?_
  refine Vc.text (List.range 7) (sd [(0, .pure), (1, .eff), (2, .pure), (3, .pure), (4, .pure), (5, .pure), (6, .pure)]) rfl ?_
  refine Rg.pure rfl rfl rfl (Pv.move rfl) ?_
  refine Rg.callA rfl rfl rfl (run_callF rfl) (rread_spec (hb.mono fun b o h => Or.inr h) (by omega)) ?_
  rintro _ s43 ⟨u43, rfl, own43⟩
  rw [hrg] at own43 ⊢
  replace own43 : Own recE u43 (if e = 0 then L else []) s43 := own43
  generalize hW : (if e = 0 then L else []) = W at own38 own43 hwl
  obtain ⟨p43, c43, rfl⟩ := own43.shape
  refine Rg.pure rfl rfl rfl (Pv.move rfl) ?_
  refine Rg.pure rfl rfl rfl (Pv.extract rfl rfl) ?_
  refine Rg.pure rfl rfl rfl (Pv.extract rfl rfl) ?_
  refine Rg.pure rfl rfl rfl (Pv.assign rfl) ?_
  refine Rg.pure rfl rfl rfl (Pv.assign rfl) ?_
  refine Rg.nil ?_
  refine Vc.seq ?_
  refine Vc.seq ?_
  refine Vc.text (List.range 9) (sd [(0, .pure), (1, .pure), (2, .pure), (3, .pure), (4, .pure), (5, .pure), (6, .eff), (7, .pure), (8, .pure)]) rfl ?_
  refine Rg.pure rfl rfl rfl (Pv.move rfl) ?_
  refine Rg.pure rfl rfl rfl (Pv.move rfl) ?_
  refine Rg.pure rfl rfl rfl (Pv.neq rfl rfl) ?_
  refine Rg.pure rfl rfl rfl (Pv.move rfl) ?_
  refine Rg.split (t := 49) rfl (fun h49 => absurd h49 (by simp)) (fun h49 => ?_)
  refine Rg.pure rfl rfl rfl (Pv.move rfl) ?_
  refine Rg.pure rfl rfl rfl (Pv.move rfl) ?_
  refine Rg.callP rfl rfl rfl (run_callF rfl) (same_spec (Arg.own own38 frz_sb) (Arg.own own43 frz_sb) (by omega) (by omega)) ?_
  rintro _ rfl
  refine Rg.pure rfl rfl rfl (Pv.not rfl) ?_
  refine Rg.pure rfl rfl rfl (Pv.pickF rfl rfl) ?_
  refine Rg.nil ?_
  refine Vc.cond rfl (fun h54 => absurd h54 (by simp)) (fun h54 => ?_)
  refine Vc.skip ?_
  refine Vc.seq ?_
  refine Vc.text (List.range 7) (sd [(0, .pure), (1, .eff), (2, .pure), (3, .pure), (4, .pure), (5, .pure), (6, .pure)]) rfl ?_
  refine Rg.pure rfl rfl rfl (Pv.move rfl) ?_
  refine Rg.callH rfl rfl rfl (run_callF rfl) (fun F' hF' => newReader_spec (F := F') hD38 hw38 (by omega) (by omega) [102] size1) rfl ?_
  rintro _ _ ⟨pr, g1, g2, rfl, rfl, hD57, hw57, hr⟩
  obtain ⟨rb, rfl, hR⟩ := hr rfl
  replace hR := hR b.length rfl
  rw [List.append_assoc]
  rw [congrArg Prod.snd begins1] at hD57 hw57
  refine Rg.pure rfl rfl rfl (Pv.move rfl) ?_
  refine Rg.pure rfl rfl rfl (Pv.extract rfl rfl) ?_
  refine Rg.pure rfl rfl rfl (Pv.extract rfl rfl) ?_
  refine Rg.pure rfl rfl rfl (Pv.assign rfl) ?_
  refine Rg.pure rfl rfl rfl (Pv.assign rfl) ?_
  refine Rg.nil ?_
  refine Vc.seq ?_
  refine Vc.seq ?_
  refine Vc.text (List.range 6) (sd [(0, .pure), (1, .pure), (2, .pure), (3, .pure), (4, .pure), (5, .pure)]) rfl ?_
  refine Rg.pure rfl rfl rfl (Pv.move rfl) ?_
  refine Rg.pure rfl rfl rfl (Pv.neq rfl rfl) ?_
  refine Rg.pure rfl rfl rfl (Pv.move rfl) ?_
  refine Rg.split (t := 62) rfl (fun h62 => absurd h62 (by decide)) (fun h62 => ?_)
  refine Rg.pure rfl rfl rfl (Pv.move rfl) ?_
  refine Rg.pure rfl rfl rfl (Pv.eqlNil rfl rfl) ?_
  refine Rg.pure rfl rfl rfl (Pv.pickF rfl rfl) ?_
  refine Rg.nil ?_
  refine Vc.cond rfl (fun h65 => absurd h65 (by (cases h65))) (fun h65 => ?_)
  refine Vc.skip ?_
  refine Vc.seq ?_
  refine Vc.text (List.range 1) (sd [(0, .pure)]) rfl ?_
  refine Rg.pure rfl rfl rfl (Pv.assign rfl) ?_
  refine Rg.nil ?_
  refine Vc.seq ?_
  refine Vc.seq ?_
  refine Vc.text (List.range 1) (sd [(0, .pure)]) rfl ?_
  refine Rg.pure rfl rfl rfl (Pv.assign rfl) ?_
  refine Rg.nil ?_
  refine Vc.block ?_
  refine Vc.loop6 (fun (i : Nat) (told : List Rk) (R : Rs) (q1 q2 : Hl) (ops : Int) => i ≤ 400 ∧ told.length ≤ i ∧ Rok b R ∧ ((restR b R).1 = [] ∨ told.length = i) ∧ told ++ (restR b R).1 = L ∧ (restR b R).2 = e ∧ RdAt rb db [102] R q1 ∧ DiskAt db (d1 [102] ⟨b, []⟩ 1000 ops false) q2 ∧ Dw (300 + i) (0 + b.length) (d1 [102] ⟨b, []⟩ 1000 ops false)) (fun i told R q1 q2 ops => [(3, .bool true), (7, .slice p43 W.length c43), (8, .int .i64 (e : Int)), (9, .pointer (some ⟨rb, 0, none⟩)), (11, .int .i64 (told.length : Int)), (12, .int .i64 (i : Int))]) (fun i told R q1 q2 ops => q1 ++ (q2 ++ s43)) (fun i told R q1 q2 ops => 400 - i) 0 [] ⟨0, b.length, [], false, 0⟩ g1 g2 _ ⟨by omega, by simp, ⟨rfl, Nat.zero_le _, Nat.zero_le _, Nat.le_refl _, fun h => absurd rfl h⟩, .inr rfl, by rw [rest_start, hrg]; rfl, by rw [rest_start, hrg], hR, hD57, hw57.mono (by omega) (by omega)⟩ (.cons rfl (.cons rfl (.cons rfl (.cons rfl (.cons rfl (.cons rfl .nil)))))) pulled ?_
  rintro i told R q1 q2 ops ⟨hi, htl, hok, hri, htot, hend, hR, hD, hw⟩
  have hok2 := next_ok hok
  have hall := congrArg List.length htot
  rw [List.length_append] at hall
  rw [← List.append_assoc]
  refine Vc.seq ?_
  refine Vc.seq ?_
  refine Vc.text (List.range 2) (sd [(0, .pure), (1, .pure)]) rfl ?_
  refine Rg.pure rfl rfl rfl (Pv.move rfl) ?_
  refine Rg.pure rfl rfl rfl (Pv.lss rfl rfl) ?_
  refine Rg.nil ?_
  refine Vc.cond rfl (fun h67 => ?_) (fun h67 => ?_)
  ·
    simp only [decide_eq_true_eq] at h67
    refine Vc.skip ?_
    refine Vc.seq ?_
    refine Vc.block ?_
    refine Vc.seq ?_
    refine Vc.text (List.range 10) (sd [(0, .pure), (1, .eff), (2, .pure), (3, .pure), (4, .pure), (5, .pure), (6, .eff), (7, .eff), (8, .pure), (9, .pure)]) rfl ?_
    refine Rg.pure rfl rfl rfl (Pv.move rfl) ?_
    refine Rg.callH rfl rfl rfl (run_callF rfl) (fun F' hF' => next_w (F := F') hR hD hw (by omega) (by omega) up1 find1 hok) rfl ?_
    rintro _ _ ⟨h1, h2, rfl, rfl, hD72, hR72⟩
    rw [List.append_assoc]
    rw [bump1] at hD72
    have hw72 : Dw (300 + i + 1) (0 + b.length) (d1 [102] ⟨b, []⟩ 1000 (ops + ((opsR R : Nat) : Int)) false) := (hw.bump (opsR R)).mono (by have : opsR R ≤ 1 := (by unfold opsR; split <;> omega); omega) (Nat.le_refl _)
    have hcase : (∃ x l, (restR b R).1 = x :: l ∧ (nextG b R).1 = x ∧ (nextG b R).2.1 = true ∧ (nextG b R).2.2.1 = 0 ∧ restR b (nextG b R).2.2.2 = (l, e)) ∨ ((restR b R).1 = [] ∧ (nextG b R).1 = ⟨0, 0⟩ ∧ (nextG b R).2.1 = false ∧ (nextG b R).2.2.1 = e ∧ restR b (nextG b R).2.2.2 = ([], e)) := by
      rcases rest_next hok with ⟨e', g1, g2, g3⟩ | ⟨x, l, e', g1, g2, g3⟩
      · obtain rfl : e' = e := by rw [← hend, g1]
        exact .inr ⟨by rw [g1], by rw [g2], by rw [g2], by rw [g2], g3⟩
      · obtain rfl : e' = e := by rw [← hend, g1]
        exact .inl ⟨x, l, by rw [g1], by rw [g2], by rw [g2], by rw [g2], g3⟩
    generalize hnx : (nextG b R).1 = nx at hcase ⊢
    generalize hnb : (nextG b R).2.1 = nb at hcase ⊢
    generalize hne : (nextG b R).2.2.1 = ne at hcase ⊢
    generalize hnR : (nextG b R).2.2.2 = nR at hcase hR72 hok2 ⊢
    have hT : nb = true → ∃ x l, (restR b R).1 = x :: l ∧ nx = x ∧ ne = 0 ∧ restR b nR = (l, e) := fun h => by
      rcases hcase with ⟨x, l, a1, a2, a3, a4, a5⟩ | ⟨a1, a2, a3, a4, a5⟩
      · exact ⟨x, l, a1, a2, a4, a5⟩
      · rw [a3] at h; cases h
    have hFa : nb = false → (restR b R).1 = [] ∧ nx = ⟨0, 0⟩ ∧ ne = e ∧ restR b nR = ([], e) := fun h => by
      rcases hcase with ⟨x, l, a1, a2, a3, a4, a5⟩ | ⟨a1, a2, a3, a4, a5⟩
      · rw [a3] at h; cases h
      · exact ⟨a1, a2, a4, a5⟩
    refine Rg.pure rfl rfl rfl (Pv.move rfl) ?_
    refine Rg.pure rfl rfl rfl (Pv.extract rfl rfl) ?_
    refine Rg.pure rfl rfl rfl (Pv.extract rfl rfl) ?_
    refine Rg.pure rfl rfl rfl (Pv.extract rfl rfl) ?_
    refine Rg.alloc rfl rfl rfl rfl (fun b13 => ?_)
    refine Rg.storeA rfl rfl rfl rfl rfl rfl rfl rfl ?_
    refine Rg.pure rfl rfl rfl (Pv.assign rfl) ?_
    refine Rg.pure rfl rfl rfl (Pv.assign rfl) ?_
    refine Rg.nil ?_
    refine Vc.seq ?_
    refine Vc.seq ?_
    refine Vc.cut1 (fun (bb : Bool) => bb = false) (fun bb => [(112, .bool bb), (3, .bool true), (7, .slice p43 W.length c43), (8, .int .i64 (e : Int)), (9, .pointer (some ⟨rb, 0, none⟩)), (11, .int .i64 (told.length : Int)), (12, .int .i64 (i : Int)), (14, .bool nb)]) (fun bb => h1 ++ (h2 ++ s43)) ?_ ?_
    ·
      refine Vc.draw [] (sd [(0, .pure), (1, .pure), (2, .pure), (3, .pure), (4, .pure), (5, .pure), (6, .pure), (7, .pure), (8, .pure), (9, .pure), (10, .pure), (11, .pure), (12, .pure), (13, .read), (14, .pure), (15, .pure), (16, .pure), (17, .read), (18, .pure), (19, .pure), (20, .pure), (21, .pure), (22, .pure), (23, .pure), (24, .pure), (25, .pure), (26, .pure), (27, .pure), (28, .pure), (29, .pure), (30, .pure), (31, .read), (32, .pure), (33, .pure), (34, .pure), (35, .pure), (36, .pure)]) mixed (by kernel_rfl) ?_
      refine Rg.pure rfl rfl rfl (Pv.move rfl) ?_
      refine Rg.pure rfl rfl rfl (Pv.move rfl) ?_
      refine Rg.split (t := 77) rfl (fun h77 => ?_) (fun h77 => ?_)
      ·
        obtain ⟨x, l, hr1, hx, hne0, hr2⟩ := hT h77
        refine Rg.pure rfl rfl rfl (Pv.move rfl) ?_
        refine Rg.pure rfl rfl rfl (Pv.neq rfl rfl) ?_
        refine Rg.pure rfl rfl rfl (Pv.move rfl) ?_
        refine Rg.split (t := 80) rfl (fun h80 => absurd h80 (by simp [hne0])) (fun h80 => ?_)
        refine Rg.pure rfl rfl rfl (Pv.move rfl) ?_
        refine Rg.pure rfl rfl rfl (Pv.eql rfl rfl) ?_
        refine Rg.pure rfl rfl rfl (Pv.move rfl) ?_
        refine Rg.split (t := 83) rfl (fun h83 => ?_) (fun h83 => ?_)
        ·
          simp only [beq_iff_eq] at h83
          have he0 : e = 0 := by omega
          rw [if_pos he0] at hW
          subst hW
          have hget : L[told.length]! = x := by rw [← htot, hr1, getElem!_pos _ _ (by simp), List.getElem_append_right (Nat.le_refl _)]; simp
          have hlt : told.length < L.length := by rw [hr1] at hall; simp at hall; omega
          obtain ⟨b43, c43', sp43, e43, rfl, _, _⟩ := own43.block (by omega)
          cases e43
          refine Rg.pure rfl rfl rfl (Pv.move rfl) ?_
          refine Rg.pure rfl rfl rfl (Pv.move rfl) ?_
          refine Rg.pure rfl rfl rfl (Pv.lenS rfl) ?_
          refine Rg.pure rfl rfl rfl (Pv.geq rfl rfl) ?_
          refine Rg.pure rfl rfl rfl (Pv.move rfl) ?_
          refine Rg.split (t := 88) rfl (fun h88 => absurd h88 (by simp only [decide_eq_true_eq]; omega)) (fun h88 => ?_)
          refine Rg.read rfl rfl rfl (Ev.ldA rfl rfl) ?_
          refine Rg.pure rfl rfl rfl (Pv.move rfl) ?_
          refine Rg.pure rfl rfl rfl (Pv.move rfl) ?_
          refine Rg.pure rfl rfl rfl (Pv.ixA (told.length) rfl rfl (by omega) (by omega)) ?_
          refine Rg.read rfl rfl rfl (Ev.as (recV nx) (Ev.ldS (E := recE) told.length ((Arg.own (F := frz F [(b43, rowS recE L sp43)]) own43 fun b o hb => Or.inl hb).srcF) rfl rfl rfl hlt) (by rw [hget, hx]; rfl)) ?_
          refine Rg.pure rfl rfl rfl (Pv.neqE recE _ _ rfl rfl) ?_
          refine Rg.pure rfl rfl rfl (Pv.pickF rfl rfl) ?_
          refine Rg.pure rfl rfl rfl (Pv.pickT rfl rfl) ?_
          refine Rg.pure rfl rfl rfl (Pv.pickF rfl rfl) ?_
          refine Rg.pure rfl rfl rfl (Pv.pickT rfl rfl) ?_
          refine Rg.pure rfl rfl rfl (Pv.move rfl) ?_
          refine Rg.split (t := 99) rfl (fun h99 => absurd h99 (by simp)) (fun h99 => ?_)
          refine Rg.pure rfl rfl rfl (Pv.move rfl) ?_
          refine Rg.pure rfl rfl rfl (Pv.not rfl) ?_
          refine Rg.pure rfl rfl rfl (Pv.move rfl) ?_
          refine Rg.split (t := 102) rfl (fun h102 => absurd h102 (by simp [h77])) (fun h102 => ?_)
          iterate 8 (first | refine Rg.skipP rfl rfl rfl ?_ | refine Rg.skipR rfl rfl rfl ?_ | refine Rg.skipE rfl rfl rfl ?_)
          refine Rg.pure rfl rfl rfl (Pv.pickF rfl rfl) ?_
          refine Rg.pure rfl rfl rfl (Pv.pickF rfl rfl) ?_
          refine Rg.nil ?_
          exact Vc.inv1 false rfl (.cons rfl (.cons rfl (.cons rfl (.cons rfl (.cons rfl (.cons rfl (.cons rfl (.cons rfl .nil)))))))) pulled
        ·
          iterate 12 (first | refine Rg.skipP rfl rfl rfl ?_ | refine Rg.skipR rfl rfl rfl ?_ | refine Rg.skipE rfl rfl rfl ?_)
          refine Rg.pure rfl rfl rfl (Pv.pickF rfl rfl) ?_
          refine Rg.pure rfl rfl rfl (Pv.pickF rfl rfl) ?_
          refine Rg.pure rfl rfl rfl (Pv.pickT rfl rfl) ?_
          refine Rg.pure rfl rfl rfl (Pv.move rfl) ?_
          refine Rg.pure rfl rfl rfl (Pv.move rfl) ?_
          refine Rg.pure rfl rfl rfl (Pv.not rfl) ?_
          refine Rg.pure rfl rfl rfl (Pv.move rfl) ?_
          refine Rg.split (t := 102) rfl (fun h102 => absurd h102 (by simp [h77])) (fun h102 => ?_)
          iterate 8 (first | refine Rg.skipP rfl rfl rfl ?_ | refine Rg.skipR rfl rfl rfl ?_ | refine Rg.skipE rfl rfl rfl ?_)
          refine Rg.pure rfl rfl rfl (Pv.pickF rfl rfl) ?_
          refine Rg.pure rfl rfl rfl (Pv.pickF rfl rfl) ?_
          refine Rg.nil ?_
          exact Vc.inv1 false rfl (.cons rfl (.cons rfl (.cons rfl (.cons rfl (.cons rfl (.cons rfl (.cons rfl (.cons rfl .nil)))))))) pulled
      ·
        obtain ⟨hr1, hx, hne0, hr2⟩ := hFa h77
        iterate 20 (first | refine Rg.skipP rfl rfl rfl ?_ | refine Rg.skipR rfl rfl rfl ?_ | refine Rg.skipE rfl rfl rfl ?_)
        refine Rg.pure rfl rfl rfl (Pv.pickF rfl rfl) ?_
        refine Rg.pure rfl rfl rfl (Pv.move rfl) ?_
        refine Rg.pure rfl rfl rfl (Pv.move rfl) ?_
        refine Rg.pure rfl rfl rfl (Pv.not rfl) ?_
        refine Rg.pure rfl rfl rfl (Pv.move rfl) ?_
        refine Rg.split (t := 102) rfl (fun h102 => ?_) (fun h102 => absurd h102 (by simp [h77]))
        refine Rg.pure rfl rfl rfl (Pv.move rfl) ?_
        refine Rg.pure rfl rfl rfl (Pv.move rfl) ?_
        refine Rg.pure rfl rfl rfl (Pv.neq rfl rfl) ?_
        refine Rg.pure rfl rfl rfl (Pv.move rfl) ?_
        refine Rg.split (t := 106) rfl (fun h106 => absurd h106 (by simp [hne0])) (fun h106 => ?_)
        refine Rg.read rfl rfl rfl (Ev.ldA rfl rfl) ?_
        refine Rg.pure rfl rfl rfl (Pv.build (c := #[.int .u64 0, .int .u64 0]) rfl rfl) ?_
        refine Rg.pure rfl rfl rfl (Pv.neqE recE nx ⟨0, 0⟩ rfl rfl) ?_
        refine Rg.pure rfl rfl rfl (Pv.pickF rfl rfl) ?_
        refine Rg.pure rfl rfl rfl (Pv.pickT rfl rfl) ?_
        refine Rg.pure rfl rfl rfl (Pv.pickF rfl rfl) ?_
        refine Rg.nil ?_
        exact Vc.inv1 _ (by simp [hx]) (.cons rfl (.cons rfl (.cons rfl (.cons rfl (.cons rfl (.cons rfl (.cons rfl (.cons rfl .nil)))))))) pulled
    ·
      rintro bb rfl
      refine Vc.cond rfl (fun h112 => absurd h112 (by decide)) (fun h112 => ?_)
      refine Vc.skip ?_
      refine Vc.seq ?_
      refine Vc.text (List.range 1) (sd [(0, .pure)]) rfl ?_
      refine Rg.pure rfl rfl rfl (Pv.move rfl) ?_
      refine Rg.nil ?_
      refine Vc.cond rfl (fun h113 => ?_) (fun h113 => ?_)
      ·
        obtain ⟨x, l, hr1, hx, hne0, hr2⟩ := hT h113
        refine Vc.text (List.range 3) (sd [(0, .pure), (1, .pure), (2, .pure)]) rfl ?_
        refine Rg.pure rfl rfl rfl (Pv.move rfl) ?_
        refine Rg.pure rfl rfl rfl (Pv.asI (told.length + 1) (Pv.add rfl rfl (by omega)) (by omega)) ?_
        refine Rg.pure rfl rfl rfl (Pv.assign rfl) ?_
        refine Rg.nil ?_
        refine Vc.blk ?_
        refine Vc.text (List.range 3) (sd [(0, .pure), (1, .pure), (2, .pure)]) rfl ?_
        refine Rg.pure rfl rfl rfl (Pv.move rfl) ?_
        refine Rg.pure rfl rfl rfl (Pv.asI (i + 1) (Pv.add rfl rfl (by omega)) (by omega)) ?_
        refine Rg.pure rfl rfl rfl (Pv.assign rfl) ?_
        refine Rg.nil ?_
        exact Vc.inv6 (i + 1) (told ++ [x]) nR h1 h2 _ ⟨⟨by omega, by simp; omega, hok2, .inr (by
          rcases hri with h | h
          · rw [h] at hr1; cases hr1
          · simp; omega), by rw [hr2, List.append_assoc, ← htot, hr1]; rfl, by rw [hr2], hR72, hD72, hw72⟩, by omega⟩ (.cons rfl (.cons rfl (.cons rfl (.cons rfl (.cons (by rw [List.length_append]; rfl) (.cons rfl .nil)))))) pulled
      ·
        obtain ⟨hr1, hx, hne0, hr2⟩ := hFa h113
        refine Vc.skip ?_
        refine Vc.blk ?_
        refine Vc.text (List.range 3) (sd [(0, .pure), (1, .pure), (2, .pure)]) rfl ?_
        refine Rg.pure rfl rfl rfl (Pv.move rfl) ?_
        refine Rg.pure rfl rfl rfl (Pv.asI (i + 1) (Pv.add rfl rfl (by omega)) (by omega)) ?_
        refine Rg.pure rfl rfl rfl (Pv.assign rfl) ?_
        refine Rg.nil ?_
        exact Vc.inv6 (i + 1) told nR h1 h2 _ ⟨⟨by omega, by omega, hok2, .inl (by rw [hr2]), by rw [hr2, ← htot, hr1], by rw [hr2], hR72, hD72, hw72⟩, by omega⟩ (.cons rfl (.cons rfl (.cons rfl (.cons rfl (.cons rfl (.cons rfl .nil)))))) pulled
  ·
    simp only [decide_eq_false_iff_not] at h67
    have hnil : (restR b R).1 = [] := by
      rcases hri with h | h
      · exact h
      · exact absurd hall (by omega)
    rw [hnil, List.append_nil] at htot
    refine Vc.exit rfl ?_
    refine Vc.seq ?_
    refine Vc.text (List.range 12) (sd [(0, .pure), (1, .pure), (2, .pure), (3, .pure), (4, .pure), (5, .pure), (6, .pure), (7, .pure), (8, .pure), (9, .pure), (10, .pure), (11, .pure)]) rfl ?_
    refine Rg.pure rfl rfl rfl (Pv.move rfl) ?_
    refine Rg.pure rfl rfl rfl (Pv.move rfl) ?_
    refine Rg.split (t := 117) rfl (fun h117 => ?_) (fun h117 => absurd h117 (by decide))
    refine Rg.pure rfl rfl rfl (Pv.move rfl) ?_
    refine Rg.pure rfl rfl rfl (Pv.neq rfl rfl) ?_
    refine Rg.pure rfl rfl rfl (Pv.move rfl) ?_
    refine Rg.split (t := 120) rfl (fun h120 => ?_) (fun h120 => ?_)
    ·
      simp only [bne_iff_ne, ne_eq] at h120
      iterate 4 (first | refine Rg.skipP rfl rfl rfl ?_ | refine Rg.skipR rfl rfl rfl ?_ | refine Rg.skipE rfl rfl rfl ?_)
      refine Rg.pure rfl rfl rfl (Pv.pickT rfl rfl) ?_
      refine Rg.pure rfl rfl rfl (Pv.pickT rfl rfl) ?_
      refine Rg.pure rfl rfl rfl (Pv.assign rfl) ?_
      refine Rg.nil ?_
      refine Vc.ret (Vc.rets rfl (.cons (.tmp rfl) (.nil)) ?_)
      rfl
    ·
      simp only [bne_eq_false_iff_eq] at h120
      rw [if_pos (by omega)] at hW
      refine Rg.pure rfl rfl rfl (Pv.move rfl) ?_
      refine Rg.pure rfl rfl rfl (Pv.move rfl) ?_
      refine Rg.pure rfl rfl rfl (Pv.lenS rfl) ?_
      refine Rg.pure rfl rfl rfl (Pv.eql rfl rfl) ?_
      refine Rg.pure rfl rfl rfl (Pv.pickF rfl rfl) ?_
      refine Rg.pure rfl rfl rfl (Pv.pickT rfl rfl) ?_
      refine Rg.pure rfl rfl rfl (Pv.assign rfl) ?_
      refine Rg.nil ?_
      refine Vc.ret (Vc.rets rfl (.cons (.tmp rfl) (.nil)) ?_)
      exact congrArg Value.bool (by simp [← hW, htot])
end Go.Proofs.Ytbhaahohaccecaa

namespace Go.Proofs.Ytbhaahohaccecaa
set_option linter.unusedVariables false

theorem next_tell {c : List UInt8} {R : Rs} (h : Rok c R) {x : Rk} {l : List Rk} {e : Nat} (hr : restR c R = (x :: l, e)) : (nextG c R).1 = x ∧ (nextG c R).2.1 = true ∧ (nextG c R).2.2.1 = 0 ∧ restR c (nextG c R).2.2.2 = (l, e) := by
  rcases rest_next h with ⟨e', h1, h2, h3⟩ | ⟨x', l', e', h1, h2, h3⟩
  · rw [hr] at h1; cases h1
  · rw [hr] at h1; cases h1
    exact ⟨by rw [h2], by rw [h2], by rw [h2], h3⟩
theorem next_stop {c : List UInt8} {R : Rs} (h : Rok c R) {e : Nat} (hr : restR c R = ([], e)) : (nextG c R).1 = ⟨0, 0⟩ ∧ (nextG c R).2.1 = false ∧ (nextG c R).2.2.1 = e := by
  rcases rest_next h with ⟨e', h1, h2, h3⟩ | ⟨x', l', e', h1, h2, h3⟩
  · rw [hr] at h1; cases h1
    exact ⟨by rw [h2], by rw [h2], by rw [h2]⟩
  · rw [hr] at h1; cases h1
theorem blkG_take {c : List UInt8} {size : Nat} : ∀ (fuel at_ : Nat) (short : Bool), blkG c size fuel at_ short = blkG (c.take size) size fuel at_ short
  | 0, _, _ => rfl
  | fuel + 1, at_, short => by
    rw [blkG, blkG]
    split
    · rename_i hlt
      rw [show ((c.take size).drop at_).take (min 1006 (size - at_)) = (c.drop at_).take (min 1006 (size - at_)) from drop_take_take c (by omega)]
      simp only
      rw [blkG_take fuel]
    · rfl
theorem rest_front {a b : List UInt8} : restR (a ++ b) ⟨0, a.length, [], false, 0⟩ = readG a := by
  unfold restR readG
  simp only [recsOf_nil, List.nil_append]
  rw [blkG_take, List.take_left' rfl]
  simp
theorem opsR_le (R : Rs) : opsR R ≤ 1 := by unfold opsR; split <;> omega
set_option maxHeartbeats 1000000 in
theorem RecordThen_spec (F : Fm) (v0 v1 : Value) (l0 : List Rk) (xs : List UInt8) (h0 : Arg recE F v0 l0) (hI0 : ∀ r ∈ l0, RIn r) (h1 : Arg byteE F v1 xs) :
    Spec Try.prog 5 #[v0, v1] F [] fun v _ => v = .bool true := by
  obtain ⟨p0, c0, rfl⟩ := h0.shape
  obtain ⟨p1, c1, rfl⟩ := h1.shape
  obtain ⟨mo, hmo, _, hmc, hma⟩ := h1.upTo' 60
  rw [← hmo] at hma hmc
  obtain ⟨l, hl⟩ : ∃ l, l = l0.take 160 := ⟨_, rfl⟩
  have hll : l.length ≤ 160 := by rw [hl, List.length_take]; omega
  have hI : ∀ r ∈ l, RIn r := fun r hr => hI0 r (List.mem_of_mem_take (hl ▸ hr))
  have hrg := readG_bytes hI
  have hbl := bytesG_le hll
  refine Spec.of (n := 90) (vs := [.slice p0 l0.length c0, .slice p1 xs.length c1]) Try.func5 rfl Try.ntmps5 rfl ?_
  refine Vc.seq ?_
  refine Vc.text (List.range 1) (sd [(0, .pure)]) rfl ?_
  refine Rg.pure rfl rfl rfl (Pv.assign rfl) ?_
  refine Rg.nil ?_
  refine Vc.seq ?_
  refine Vc.text (List.range 2) (sd [(0, .eff), (1, .pure)]) rfl ?_
  refine Rg.callP rfl rfl rfl (run_callF rfl) (shown_spec _) ?_
  rintro _ rfl
  refine Rg.pure rfl rfl rfl (Pv.assign rfl) ?_
  refine Rg.nil ?_
  refine Vc.seq ?_
  refine Vc.text (List.range 3) (sd [(0, .pure), (1, .eff), (2, .pure)]) rfl ?_
  refine Rg.pure rfl rfl rfl (Pv.move rfl) ?_
  refine Rg.callA rfl rfl rfl (run_callF rfl) (few_spec (h0.mono fun b o h => Or.inr h)) ?_
  rintro v18 s18 own18
  rw [← hl] at own18
  obtain ⟨p18, c18, rfl⟩ := own18.shape
  refine Rg.pure rfl rfl rfl (Pv.assign rfl) ?_
  refine Rg.nil ?_
  refine Vc.seq ?_
  refine Vc.text (List.range 2) (sd [(0, .eff), (1, .pure)]) rfl ?_
  refine Rg.callA rfl rfl rfl (run_callF rfl) (new_w _ 1000 1000 (by decide)) ?_
  rintro _ s19 ⟨db, rfl, hD19, hw19⟩
  refine Rg.pure rfl rfl rfl (Pv.assign rfl) ?_
  refine Rg.nil ?_
  refine Vc.seq ?_
  refine Vc.seq ?_
  refine Vc.text (List.range 8) (sd [(0, .pure), (1, .pure), (2, .pure), (3, .pure), (4, .pure), (5, .eff), (6, .pure), (7, .pure)]) rfl ?_
  refine Rg.pure rfl rfl rfl (Pv.move rfl) ?_
  refine Rg.pure rfl rfl rfl (Pv.eqlNil rfl rfl) ?_
  refine Rg.pure rfl rfl rfl (Pv.move rfl) ?_
  refine Rg.split (t := 22) rfl (fun h22 => absurd h22 (by (cases h22))) (fun h22 => ?_)
  refine Rg.pure rfl rfl rfl (Pv.move rfl) ?_
  refine Rg.pure rfl rfl rfl (Pv.move rfl) ?_
  refine Rg.callH rfl rfl rfl (run_callF rfl) (fun F' hF' => write_w (F := F') hD19 hw19 (by omega) (by omega) [102] (Arg.own own18 fun b o hb => hF' b o (.inl (by simp [hb]))) hll (write1G (by decide) (by unfold secs; omega))) rfl ?_
  rintro _ s25 ⟨rfl, hD25, hw25⟩
  refine Rg.pure rfl rfl rfl (Pv.neq rfl rfl) ?_
  refine Rg.pure rfl rfl rfl (Pv.pickF rfl rfl) ?_
  refine Rg.nil ?_
  refine Vc.cond rfl (fun h27 => absurd h27 (by decide)) (fun h27 => ?_)
  refine Vc.skip ?_
  refine Vc.seq ?_
  refine Vc.text (List.range 7) (sd [(0, .pure), (1, .eff), (2, .pure), (3, .pure), (4, .pure), (5, .pure), (6, .pure)]) rfl ?_
  refine Rg.pure rfl rfl rfl (Pv.move rfl) ?_
  refine Rg.callH rfl rfl rfl (run_callF rfl) (fun F' hF' => newReader_spec (F := F') hD25 hw25 (by omega) (by omega) [102] size1) rfl ?_
  rintro _ _ ⟨pr, g1, g2, rfl, rfl, hD30, hw30, hr⟩
  obtain ⟨rb, rfl, hR⟩ := hr rfl
  replace hR := hR (bytesG l).length rfl
  rw [List.append_assoc]
  rw [congrArg Prod.snd begins1] at hD30 hw30
  refine Rg.pure rfl rfl rfl (Pv.move rfl) ?_
  refine Rg.pure rfl rfl rfl (Pv.extract rfl rfl) ?_
  refine Rg.pure rfl rfl rfl (Pv.extract rfl rfl) ?_
  refine Rg.pure rfl rfl rfl (Pv.assign rfl) ?_
  refine Rg.pure rfl rfl rfl (Pv.assign rfl) ?_
  refine Rg.nil ?_
  refine Vc.seq ?_
  refine Vc.seq ?_
  refine Vc.text (List.range 16) (sd [(0, .pure), (1, .pure), (2, .pure), (3, .pure), (4, .pure), (5, .pure), (6, .pure), (7, .pure), (8, .pure), (9, .pure), (10, .pure), (11, .pure), (12, .pure), (13, .eff), (14, .pure), (15, .pure)]) rfl ?_
  refine Rg.pure rfl rfl rfl (Pv.move rfl) ?_
  refine Rg.pure rfl rfl rfl (Pv.neq rfl rfl) ?_
  refine Rg.pure rfl rfl rfl (Pv.move rfl) ?_
  refine Rg.split (t := 35) rfl (fun h35 => absurd h35 (by decide)) (fun h35 => ?_)
  refine Rg.pure rfl rfl rfl (Pv.move rfl) ?_
  refine Rg.pure rfl rfl rfl (Pv.eqlNil rfl rfl) ?_
  refine Rg.pure rfl rfl rfl (Pv.pickF rfl rfl) ?_
  refine Rg.pure rfl rfl rfl (Pv.move rfl) ?_
  refine Rg.split (t := 39) rfl (fun h39 => absurd h39 (by (cases h39))) (fun h39 => ?_)
  refine Rg.pure rfl rfl rfl (Pv.move rfl) ?_
  refine Rg.pure rfl rfl rfl (Pv.move rfl) ?_
  refine Rg.pure rfl rfl rfl (Pv.move rfl) ?_
  refine Rg.pure rfl rfl rfl (Pv.lenS rfl) ?_
  refine Rg.pure rfl rfl rfl (Pv.asI (mo.length) (Pv.min rfl rfl) (by omega)) ?_
  refine Rg.pure rfl rfl rfl (Pv.slTo (mo.length) rfl rfl (by omega)) ?_
  refine Rg.callH rfl rfl rfl (run_callF rfl) (fun F' hF' => append_w (F := F') hD30 hw30 (by omega) (by omega) [102] (hma.mono fun b o h => hF' b o (.inr h)) (by omega) (app1 mo (by unfold secs; omega))) rfl ?_
  rintro _ s46 ⟨rfl, hD46, hw46⟩
  refine Rg.pure rfl rfl rfl (Pv.neq rfl rfl) ?_
  refine Rg.pure rfl rfl rfl (Pv.pickF rfl rfl) ?_
  refine Rg.nil ?_
  refine Vc.cond rfl (fun h48 => absurd h48 (by decide)) (fun h48 => ?_)
  refine Vc.skip ?_
  refine Vc.seq ?_
  refine Vc.seq ?_
  refine Vc.text (List.range 1) (sd [(0, .pure)]) rfl ?_
  refine Rg.pure rfl rfl rfl (Pv.assign rfl) ?_
  refine Rg.nil ?_
  refine Vc.block ?_
  refine Vc.loop5 (fun (i : Nat) (R : Rs) (q1 q2 : Hl) (ops : Int) => i ≤ l.length ∧ Rok (bytesG l ++ mo) R ∧ restR (bytesG l ++ mo) R = (l.drop i, 0) ∧ RdAt rb db [102] R q1 ∧ DiskAt db (d1 [102] ⟨bytesG l ++ mo, bytesG l⟩ 1000 ops false) q2 ∧ Dw (20 + i) 8000 (d1 [102] ⟨bytesG l ++ mo, bytesG l⟩ 1000 ops false)) (fun i R q1 q2 ops => [(0, .slice p18 l.length c18), (5, .bool true), (7, .pointer (some ⟨rb, 0, none⟩)), (9, .int .i64 (i : Int))]) (fun i R q1 q2 ops => q1 ++ (q2 ++ s18)) (fun i R q1 q2 ops => l.length - i) 0 ⟨0, (bytesG l).length, [], false, 0⟩ g1 s46 _ ⟨Nat.zero_le _, ⟨rfl, Nat.zero_le _, Nat.zero_le _, by simp, fun h => absurd rfl h⟩, by rw [rest_front, hrg]; rfl, hR, hD46, hw46.mono (by omega) (by omega)⟩ (.cons rfl (.cons rfl (.cons rfl (.cons rfl .nil)))) pulled ?_
  rintro i R q1 q2 ops ⟨hi, hok, hrest, hR, hD, hw⟩
  have hok2 := next_ok hok
  have hop := opsR_le R
  rw [← List.append_assoc]
  refine Vc.seq ?_
  refine Vc.seq ?_
  refine Vc.text (List.range 4) (sd [(0, .pure), (1, .pure), (2, .pure), (3, .pure)]) rfl ?_
  refine Rg.pure rfl rfl rfl (Pv.move rfl) ?_
  refine Rg.pure rfl rfl rfl (Pv.move rfl) ?_
  refine Rg.pure rfl rfl rfl (Pv.lenS rfl) ?_
  refine Rg.pure rfl rfl rfl (Pv.lss rfl rfl) ?_
  refine Rg.nil ?_
  refine Vc.cond rfl (fun h52 => ?_) (fun h52 => ?_)
  ·
    simp only [decide_eq_true_eq] at h52
    have hil : i < l.length := by omega
    obtain ⟨e1, e2, e3, e4⟩ := next_tell hok (x := l[i]!) (l := l.drop (i + 1)) (e := 0) (by rw [hrest, getElem!_pos l i hil, List.drop_eq_getElem_cons hil])
    obtain ⟨b18, c18', sp18, e18, rfl, _, _⟩ := own18.block (by omega)
    cases e18
    refine Vc.skip ?_
    refine Vc.seq ?_
    refine Vc.block ?_
    refine Vc.seq ?_
    refine Vc.text (List.range 10) (sd [(0, .pure), (1, .eff), (2, .pure), (3, .pure), (4, .pure), (5, .pure), (6, .eff), (7, .eff), (8, .pure), (9, .pure)]) rfl ?_
    refine Rg.pure rfl rfl rfl (Pv.move rfl) ?_
    refine Rg.callH rfl rfl rfl (run_callF rfl) (fun F' hF' => next_w (F := F') hR hD hw (by omega) (by omega) up1 find1 hok) rfl ?_
    rintro _ _ ⟨h1, h2, rfl, rfl, hD57, hR57⟩
    rw [List.append_assoc]
    rw [bump1] at hD57
    have hw57 : Dw (20 + i + 1) 8000 (d1 [102] ⟨bytesG l ++ mo, bytesG l⟩ 1000 (ops + ((opsR R : Nat) : Int)) false) := (hw.bump (opsR R)).mono (by omega) (Nat.le_refl _)
    rw [e1, e2, e3]
    refine Rg.pure rfl rfl rfl (Pv.move rfl) ?_
    refine Rg.pure rfl rfl rfl (Pv.extract rfl rfl) ?_
    refine Rg.pure rfl rfl rfl (Pv.extract rfl rfl) ?_
    refine Rg.pure rfl rfl rfl (Pv.extract rfl rfl) ?_
    refine Rg.alloc rfl rfl rfl rfl (fun b10 => ?_)
    refine Rg.storeA rfl rfl rfl rfl rfl rfl rfl rfl ?_
    refine Rg.pure rfl rfl rfl (Pv.assign rfl) ?_
    refine Rg.pure rfl rfl rfl (Pv.assign rfl) ?_
    refine Rg.nil ?_
    refine Vc.seq ?_
    refine Vc.draw [] (sd [(0, .pure), (1, .pure), (2, .pure), (3, .pure), (4, .pure), (5, .pure), (6, .pure), (7, .read), (8, .pure), (9, .pure), (10, .pure), (11, .read), (12, .pure), (13, .pure)]) mixed (by kernel_rfl) ?_
    refine Rg.pure rfl rfl rfl (Pv.move rfl) ?_
    refine Rg.pure rfl rfl rfl (Pv.not rfl) ?_
    refine Rg.pure rfl rfl rfl (Pv.move rfl) ?_
    refine Rg.split (t := 63) rfl (fun h63 => absurd h63 (by decide)) (fun h63 => ?_)
    refine Rg.pure rfl rfl rfl (Pv.move rfl) ?_
    refine Rg.pure rfl rfl rfl (Pv.neq rfl rfl) ?_
    refine Rg.pure rfl rfl rfl (Pv.pickF rfl rfl) ?_
    refine Rg.pure rfl rfl rfl (Pv.move rfl) ?_
    refine Rg.split (t := 67) rfl (fun h67 => absurd h67 (by decide)) (fun h67 => ?_)
    refine Rg.read rfl rfl rfl (Ev.ldA rfl rfl) ?_
    refine Rg.pure rfl rfl rfl (Pv.move rfl) ?_
    refine Rg.pure rfl rfl rfl (Pv.move rfl) ?_
    refine Rg.pure rfl rfl rfl (Pv.ixA (i) rfl rfl (by omega) (by omega)) ?_
    refine Rg.read rfl rfl rfl (Ev.as (recV l[i]!) (Ev.ldS (E := recE) i ((Arg.own (F := frz F [(b18, rowS recE l sp18)]) own18 fun b o hb => Or.inl hb).srcF) rfl rfl rfl (by omega)) rfl) ?_
    refine Rg.pure rfl rfl rfl (Pv.neqE recE _ _ rfl rfl) ?_
    refine Rg.pure rfl rfl rfl (Pv.pickF rfl rfl) ?_
    refine Rg.nil ?_
    refine Vc.cond rfl (fun h74 => absurd h74 (by simp)) (fun h74 => ?_)
    refine Vc.skip ?_
    refine Vc.blk ?_
    refine Vc.text (List.range 3) (sd [(0, .pure), (1, .pure), (2, .pure)]) rfl ?_
    refine Rg.pure rfl rfl rfl (Pv.move rfl) ?_
    refine Rg.pure rfl rfl rfl (Pv.asI (i + 1) (Pv.add rfl rfl (by omega)) (by omega)) ?_
    refine Rg.pure rfl rfl rfl (Pv.assign rfl) ?_
    refine Rg.nil ?_
    exact Vc.inv5 (i + 1) _ h1 h2 _ ⟨⟨by omega, hok2, e4, hR57, hD57, hw57⟩, by omega⟩ (.cons rfl (.cons rfl (.cons rfl (.cons rfl .nil)))) pulled
  ·
    simp only [decide_eq_false_iff_not] at h52
    obtain ⟨e1, e2, e3⟩ := next_stop hok (e := 0) (by rw [hrest, List.drop_eq_nil_of_le (by omega)])
    refine Vc.exit rfl ?_
    refine Vc.seq ?_
    refine Vc.text (List.range 10) (sd [(0, .pure), (1, .eff), (2, .pure), (3, .pure), (4, .pure), (5, .pure), (6, .eff), (7, .eff), (8, .pure), (9, .pure)]) rfl ?_
    refine Rg.pure rfl rfl rfl (Pv.move rfl) ?_
    refine Rg.callH rfl rfl rfl (run_callF rfl) (fun F' hF' => next_w (F := F') hR hD hw (by omega) (by omega) up1 find1 hok) rfl ?_
    rintro _ _ ⟨h1, h2, rfl, rfl, hD77, hR77⟩
    rw [List.append_assoc]
    rw [e1, e2, e3]
    refine Rg.pure rfl rfl rfl (Pv.move rfl) ?_
    refine Rg.pure rfl rfl rfl (Pv.extract rfl rfl) ?_
    refine Rg.pure rfl rfl rfl (Pv.extract rfl rfl) ?_
    refine Rg.pure rfl rfl rfl (Pv.extract rfl rfl) ?_
    refine Rg.alloc rfl rfl rfl rfl (fun b13 => ?_)
    refine Rg.storeA rfl rfl rfl rfl rfl rfl rfl rfl ?_
    refine Rg.pure rfl rfl rfl (Pv.assign rfl) ?_
    refine Rg.pure rfl rfl rfl (Pv.assign rfl) ?_
    refine Rg.nil ?_
    refine Vc.seq ?_
    refine Vc.text (List.range 10) (sd [(0, .pure), (1, .pure), (2, .pure), (3, .pure), (4, .pure), (5, .pure), (6, .pure), (7, .pure), (8, .pure), (9, .pure)]) rfl ?_
    refine Rg.pure rfl rfl rfl (Pv.move rfl) ?_
    refine Rg.pure rfl rfl rfl (Pv.move rfl) ?_
    refine Rg.split (t := 82) rfl (fun h82 => ?_) (fun h82 => absurd h82 (by decide))
    refine Rg.pure rfl rfl rfl (Pv.move rfl) ?_
    refine Rg.pure rfl rfl rfl (Pv.not rfl) ?_
    refine Rg.pure rfl rfl rfl (Pv.pickT rfl rfl) ?_
    refine Rg.pure rfl rfl rfl (Pv.move rfl) ?_
    refine Rg.split (t := 86) rfl (fun h86 => ?_) (fun h86 => absurd h86 (by decide))
    refine Rg.pure rfl rfl rfl (Pv.move rfl) ?_
    refine Rg.pure rfl rfl rfl (Pv.eql rfl rfl) ?_
    refine Rg.pure rfl rfl rfl (Pv.pickT rfl rfl) ?_
    refine Rg.pure rfl rfl rfl (Pv.assign rfl) ?_
    refine Rg.nil ?_
    refine Vc.ret (Vc.rets rfl (.cons (.tmp rfl) (.nil)) ?_)
    exact congrArg Value.bool (by decide)

/-! ### Two files -/
abbrev d2 (k1 k2 : List UInt8) (f1 f2 : Fl) (room ops : Int) : Dk := ⟨[(k1, f1), (k2, f2)], room, (secs f1.now.length : Nat) + (secs f2.now.length : Nat), ops, 0, [], false⟩
section
variable {k1 k2 : List UInt8} {f1 f2 : Fl} {room ops : Int} {n2 y2 : List UInt8}
theorem up2 : Up (d2 k1 k2 f1 f2 room ops) := ⟨rfl, rfl⟩
theorem begins2 : beginsD (d2 k1 k2 f1 f2 room ops) = (0, d2 k1 k2 f1 f2 room (ops + 1)) := begins_up rfl rfl
theorem find2a : findF [(k1, f1), (k2, f2)] k1 = some f1 := by simp [findF]
theorem find2b (hk : k1 ≠ k2) : findF [(k1, f1), (k2, f2)] k2 = some f2 := by simp [findF, hk]
theorem set2b (hk : k1 ≠ k2) (f' : Fl) : setF [(k1, f1), (k2, f2)] k2 f' = [(k1, f1), (k2, f')] := by simp [setF, hk]
theorem create2 (hk : k1 ≠ k2) (hm : mayN ⟨k2.toArray⟩ = true) : createD (d1 k1 f1 room ops false) k2 = (0, d2 k1 k2 f1 ⟨[], []⟩ room (ops + 1)) := by
  simp only [createD, begins1, hm, find1n hk]
  rw [if_neg (by decide), if_neg (by decide)]
  congr 2
theorem app2 (hk : k1 ≠ k2) (bs : List UInt8) : writeD (d2 k1 k2 f1 ⟨n2, y2⟩ room ops) k2 none bs = if ((secs f1.now.length : Nat) : Int) + (secs (n2.length + bs.length) : Nat) ≤ room then (0, d2 k1 k2 f1 ⟨n2 ++ bs, y2⟩ room (ops + 1)) else (6, d2 k1 k2 f1 ⟨n2, y2⟩ room (ops + 1)) := by
  simp only [writeD, begins2, find2b hk, set2b hk, Option.getD_none]
  have hm : max n2.length (n2.length + bs.length) = n2.length + bs.length := by omega
  by_cases h : ((secs f1.now.length : Nat) : Int) + (secs (n2.length + bs.length) : Nat) ≤ room
  · have hw : wrG room (((secs f1.now.length : Nat) : Int) + (secs n2.length : Nat)) n2 ((n2.length : Nat) : Int) bs = (0, ((secs f1.now.length : Nat) : Int) + (secs (n2 ++ bs).length : Nat), n2 ++ bs) := by
      unfold wrG
      rw [if_neg (by omega), Int.toNat_natCast, hm, if_neg (by omega), putAt_end, List.length_append]
      congr 2
      omega
    rw [hw, if_pos h]
    rfl
  · have hw : wrG room (((secs f1.now.length : Nat) : Int) + (secs n2.length : Nat)) n2 ((n2.length : Nat) : Int) bs = (6, ((secs f1.now.length : Nat) : Int) + (secs n2.length : Nat), n2) := by
      unfold wrG
      rw [if_neg (by omega), Int.toNat_natCast, hm, if_pos (by omega)]
    rw [hw, if_neg h]
    rfl
theorem sync2 (hk : k1 ≠ k2) : syncD (d2 k1 k2 f1 ⟨n2, y2⟩ room ops) k2 = (0, d2 k1 k2 f1 ⟨n2, n2⟩ room (ops + 1)) := by
  simp only [syncD, begins2, find2b hk, set2b hk]
  rfl
/-- do so many blocks fit? -/
def fits (f1 : Fl) (room : Int) (l : List Rk) (q : Nat) : Prop := ((secs f1.now.length : Nat) : Int) + (secs (blkB l q).length : Nat) ≤ room
instance (f1 : Fl) (room : Int) (l : List Rk) (q : Nat) : Decidable (fits f1 room l q) := by unfold fits; infer_instance
theorem wblk2 {l : List Rk} (hk : k1 ≠ k2) (h0 : ((secs f1.now.length : Nat) : Int) ≤ room) : ∀ q, ∃ f2, ∃ j : Nat, wBlk (d2 k1 k2 f1 ⟨[], []⟩ room ops) k2 l q = (if fits f1 room l q then 0 else 6, d2 k1 k2 f1 f2 room (ops + j)) ∧ j ≤ q ∧ (fits f1 room l q → f2 = ⟨blkB l q, []⟩) ∧ ((secs f1.now.length : Nat) : Int) + (secs f2.now.length : Nat) ≤ room
  | 0 => ⟨⟨[], []⟩, 0, by
      have hf : fits f1 room l 0 := by
        show _ + ((secs 0 : Nat) : Int) ≤ room
        have : secs 0 = 0 := rfl
        omega
      rw [if_pos hf, wBlk]
      simp, Nat.le_refl _, fun _ => rfl, by show _ + ((secs 0 : Nat) : Int) ≤ room; have : secs 0 = 0 := rfl; omega⟩
  | q + 1 => by
    obtain ⟨f2, j, h1, h2, h3, h4⟩ := wblk2 (l := l) hk h0 q
    have hl : (blkB l (q + 1)).length = (blkB l q).length + (encG (recsB (chunk l q))).length := by rw [blkB_succ, List.length_append]
    have hs := secs_mono (show (blkB l q).length ≤ (blkB l (q + 1)).length by omega)
    rw [wBlk, h1]
    by_cases hf : fits f1 room l q
    · rw [if_pos hf, if_neg (by simp)]
      rw [h3 hf] at h4 ⊢
      simp only
      rw [app2 hk, ← hl]
      by_cases hf2 : fits f1 room l (q + 1)
      · rw [if_pos (show ((secs f1.now.length : Nat) : Int) + (secs (blkB l (q + 1)).length : Nat) ≤ room from hf2), if_pos hf2, ← blkB_succ]
        exact ⟨⟨blkB l (q + 1), []⟩, j + 1, by rw [show ops + (j : Int) + 1 = ops + ((j + 1 : Nat) : Int) by omega], by omega, fun _ => rfl, hf2⟩
      · rw [if_neg (show ¬ ((secs f1.now.length : Nat) : Int) + (secs (blkB l (q + 1)).length : Nat) ≤ room from hf2), if_neg hf2]
        exact ⟨⟨blkB l q, []⟩, j + 1, by rw [show ops + (j : Int) + 1 = ops + ((j + 1 : Nat) : Int) by omega], by omega, fun h => absurd h hf2, h4⟩
    · have hf2 : ¬ fits f1 room l (q + 1) := by unfold fits at hf ⊢; omega
      rw [if_neg hf, if_pos (by simp), if_neg hf2]
      exact ⟨f2, j, rfl, by omega, fun h => absurd h hf2, h4⟩
theorem write2G {l : List Rk} (hk : k1 ≠ k2) (hm : mayN ⟨k2.toArray⟩ = true) (h0 : ((secs f1.now.length : Nat) : Int) ≤ room) : ∃ f2, ∃ j : Nat, writeG (d1 k1 f1 room ops false) k2 l = (if fits f1 room l (nblk l) then 0 else 6, d2 k1 k2 f1 f2 room (ops + j)) ∧ (fits f1 room l (nblk l) → f2 = ⟨bytesG l, bytesG l⟩) ∧ ((secs f1.now.length : Nat) : Int) + (secs f2.now.length : Nat) ≤ room := by
  obtain ⟨f2, j, h1, h2, h3, h4⟩ := wblk2 (k1 := k1) (k2 := k2) (f1 := f1) (room := room) (ops := ops + 1) (l := l) hk h0 (nblk l)
  rw [writeG, create2 hk hm, if_neg (by simp)]
  simp only
  rw [h1]
  by_cases hf : fits f1 room l (nblk l)
  · rw [if_pos hf, if_pos rfl]
    simp only
    rw [h3 hf, sync2 hk]
    rw [h3 hf] at h4
    exact ⟨⟨bytesG l, bytesG l⟩, j + 2, by rw [show ops + 1 + (j : Int) + 1 = ops + ((j + 2 : Nat) : Int) by omega]; rfl, fun _ => rfl, h4⟩
  · rw [if_neg hf, if_neg (by simp)]
    exact ⟨f2, j + 1, by rw [show ops + 1 + (j : Int) = ops + ((j + 1 : Nat) : Int) by omega], fun h => absurd h hf, h4⟩
end
end Go.Proofs.Ytbhaahohaccecaa

namespace Go.Proofs.Ytbhaahohaccecaa
set_option linter.unusedVariables false

theorem newWriter_w {F : Fm} {db n B : Nat} {D D' : Dk} {s : Hl} {e : Int} (hD : DiskAt db D s) (hw : Dw n B D) (hn : n < 1000) (hB : B ≤ 1000000) (nm : List UInt8) (hE : createD D nm = (0, D')) :
    Spec Try.prog 19 #[.pointer (some ⟨db, 0, none⟩), kS nm] F s fun v s' => ∃ wb h1 h2, v = .tuple #[.pointer (some ⟨wb, 0, none⟩), .int .i64 0] ∧ s' = h1 ++ h2 ∧ DiskAt db D' h2 ∧ Dw (n + 1) B D' ∧ WrAt wb db nm [] false h1 :=
  (newWriter_spec hD hw hn hB nm).mono fun v s ⟨p, h1, h2, e1, e2, e3, e4⟩ => by
    have h3 := hw.create' nm
    rw [hE] at e1 e3 e4 h3
    obtain ⟨wb, rfl, hW⟩ := e4 rfl
    exact ⟨wb, h1, h2, e1, e2, e3, h3, hW⟩
theorem newReader_w {F : Fm} {db n B : Nat} {D D' : Dk} {s : Hl} {m : Nat} (hD : DiskAt db D s) (hw : Dw n B D) (hn : n < 1000) (hB : B ≤ 1000000) (nm : List UInt8) (hE : sizeD D nm = ((m : Int), 0)) (hD' : (beginsD D).2 = D') :
    Spec Try.prog 16 #[.pointer (some ⟨db, 0, none⟩), kS nm] F s fun v s' => ∃ rb h1 h2, v = .tuple #[.pointer (some ⟨rb, 0, none⟩), .int .i64 0] ∧ s' = h1 ++ h2 ∧ DiskAt db D' h2 ∧ Dw (n + 1) B D' ∧ RdAt rb db nm ⟨0, m, [], false, 0⟩ h1 :=
  (newReader_spec hD hw hn hB nm hE).mono fun v s ⟨p, h1, h2, e1, e2, e3, e4, e5⟩ => by
    rw [hD'] at e3 e4
    obtain ⟨rb, rfl, hR⟩ := e5 rfl
    exact ⟨rb, h1, h2, e1, e2, e3, e4, hR m rfl⟩
theorem bump2 {k1 k2 : List UInt8} {f1 f2 : Fl} {room ops : Int} (j : Int) : bump (d2 k1 k2 f1 f2 room ops) j = d2 k1 k2 f1 f2 room (ops + j) := rfl
theorem Up.readAll {D : Dk} (h : Up D) {nm : List UInt8} {f : Fl} (hf : findF D.files nm = some f) : readD D nm 0 (f.now.length : Nat) = (f.now, 0) := by
  have := h.read hf (a := 0) (m := f.now.length) (by omega)
  rw [List.drop_zero, List.take_length] at this
  exact this
set_option maxHeartbeats 2000000 in
theorem RecordOne_spec (F : Fm) (v0 : Value) (l0 : List Rk) (h0 : Arg recE F v0 l0) (hI0 : ∀ r ∈ l0, RIn r) :
    Spec Try.prog 4 #[v0] F [] fun v _ => v = .bool true := by
  obtain ⟨p0, c0, rfl⟩ := h0.shape
  obtain ⟨l, hl⟩ : ∃ l, l = l0.take 160 := ⟨_, rfl⟩
  have hll : l.length ≤ 160 := by rw [hl, List.length_take]; omega
  have hI : ∀ r ∈ l, RIn r := fun r hr => hI0 r (List.mem_of_mem_take (hl ▸ hr))
  have hrg := readG_bytes hI
  have hbl := bytesG_le hll
  have hnb : nblk l ≤ 4 := by unfold nblk; omega
  have hwb : ∀ q, q ≤ 4 → wBlk (d1 [97] ⟨[], []⟩ 1000 (0 + 1) false) [97] l q = (0, d1 [97] ⟨[] ++ blkB l q, []⟩ 1000 (0 + 1 + q) false) := fun q hq => wblk1 q (by have := blkB_le l q; simp only [List.length_nil]; unfold secs; omega)
  refine Spec.of (n := 183) (vs := [.slice p0 l0.length c0]) Try.func4 rfl Try.ntmps4 rfl ?_
  refine Vc.seq ?_
  refine Vc.text (List.range 1) (sd [(0, .pure)]) rfl ?_
  refine Rg.pure rfl rfl rfl (Pv.assign rfl) ?_
  refine Rg.nil ?_
  refine Vc.seq ?_
  refine Vc.text (List.range 2) (sd [(0, .eff), (1, .pure)]) rfl ?_
  refine Rg.callP rfl rfl rfl (run_callF rfl) (shown_spec _) ?_
  rintro _ rfl
  refine Rg.pure rfl rfl rfl (Pv.assign rfl) ?_
  refine Rg.nil ?_
  refine Vc.seq ?_
  refine Vc.text (List.range 3) (sd [(0, .pure), (1, .eff), (2, .pure)]) rfl ?_
  refine Rg.pure rfl rfl rfl (Pv.move rfl) ?_
  refine Rg.callA rfl rfl rfl (run_callF rfl) (few_spec (h0.mono fun b o h => Or.inr h)) ?_
  rintro v32 s32 own32
  rw [← hl] at own32
  obtain ⟨p32, c32, rfl⟩ := own32.shape
  refine Rg.pure rfl rfl rfl (Pv.assign rfl) ?_
  refine Rg.nil ?_
  refine Vc.seq ?_
  refine Vc.text (List.range 2) (sd [(0, .eff), (1, .pure)]) rfl ?_
  refine Rg.callA rfl rfl rfl (run_callF rfl) (new_w _ 1000 1000 (by decide)) ?_
  rintro _ s33 ⟨db, rfl, hD33, hw33⟩
  refine Rg.pure rfl rfl rfl (Pv.assign rfl) ?_
  refine Rg.nil ?_
  refine Vc.seq ?_
  refine Vc.seq ?_
  refine Vc.text (List.range 2) (sd [(0, .pure), (1, .pure)]) rfl ?_
  refine Rg.pure rfl rfl rfl (Pv.move rfl) ?_
  refine Rg.pure rfl rfl rfl (Pv.eqlNil rfl rfl) ?_
  refine Rg.nil ?_
  refine Vc.cond rfl (fun h35 => absurd h35 (by (cases h35))) (fun h35 => ?_)
  refine Vc.skip ?_
  refine Vc.seq ?_
  refine Vc.text (List.range 7) (sd [(0, .pure), (1, .eff), (2, .pure), (3, .pure), (4, .pure), (5, .pure), (6, .pure)]) rfl ?_
  refine Rg.pure rfl rfl rfl (Pv.move rfl) ?_
  refine Rg.callH rfl rfl rfl (run_callF rfl) (fun F' hF' => newWriter_w (F := F') (e := 0) hD33 hw33 (by omega) (by omega) [97] (create1 (by decide))) rfl ?_
  rintro _ _ ⟨wb, g1, g2, rfl, rfl, hD38, hw38, hW38⟩
  rw [List.append_assoc]
  refine Rg.pure rfl rfl rfl (Pv.move rfl) ?_
  refine Rg.pure rfl rfl rfl (Pv.extract rfl rfl) ?_
  refine Rg.pure rfl rfl rfl (Pv.extract rfl rfl) ?_
  refine Rg.pure rfl rfl rfl (Pv.assign rfl) ?_
  refine Rg.pure rfl rfl rfl (Pv.assign rfl) ?_
  refine Rg.nil ?_
  refine Vc.seq ?_
  refine Vc.seq ?_
  refine Vc.text (List.range 6) (sd [(0, .pure), (1, .pure), (2, .pure), (3, .pure), (4, .pure), (5, .pure)]) rfl ?_
  refine Rg.pure rfl rfl rfl (Pv.move rfl) ?_
  refine Rg.pure rfl rfl rfl (Pv.neq rfl rfl) ?_
  refine Rg.pure rfl rfl rfl (Pv.move rfl) ?_
  refine Rg.split (t := 43) rfl (fun h43 => absurd h43 (by decide)) (fun h43 => ?_)
  refine Rg.pure rfl rfl rfl (Pv.move rfl) ?_
  refine Rg.pure rfl rfl rfl (Pv.eqlNil rfl rfl) ?_
  refine Rg.pure rfl rfl rfl (Pv.pickF rfl rfl) ?_
  refine Rg.nil ?_
  refine Vc.cond rfl (fun h46 => absurd h46 (by (cases h46))) (fun h46 => ?_)
  refine Vc.skip ?_
  refine Vc.seq ?_
  refine Vc.seq ?_
  refine Vc.text (List.range 1) (sd [(0, .pure)]) rfl ?_
  refine Rg.pure rfl rfl rfl (Pv.assign rfl) ?_
  refine Rg.nil ?_
  refine Vc.block ?_
  refine Vc.loop3 (fun (i : Nat) (q1 q2 : Hl) => i ≤ l.length ∧ WrAt wb db [97] (txt l i) false q1 ∧ DiskAt db (wBlk (d1 [97] ⟨[], []⟩ 1000 (0 + 1) false) [97] l (i / 50)).2 q2) (fun i q1 q2 => [(0, .slice p32 l.length c32), (3, .bool true), (4, .pointer (some ⟨db, 0, none⟩)), (5, .pointer (some ⟨wb, 0, none⟩)), (7, .int .i64 (i : Int))]) (fun i q1 q2 => q1 ++ (q2 ++ s32)) (fun i q1 q2 => l.length - i) 0 g1 g2 ⟨Nat.zero_le _, hW38, hD38⟩ (.cons rfl (.cons rfl (.cons rfl (.cons rfl (.cons rfl .nil))))) pulled ?_
  rintro i q1 q2 ⟨hi, hW, hD⟩
  have h00 := congrArg Prod.fst (hwb (i / 50) (by omega))
  have hwi := hw38.blk [97] l (i / 50)
  have hti := txt_length (l := l) (i := i) hi
  rw [← List.append_assoc]
  refine Vc.seq ?_
  refine Vc.seq ?_
  refine Vc.text (List.range 4) (sd [(0, .pure), (1, .pure), (2, .pure), (3, .pure)]) rfl ?_
  refine Rg.pure rfl rfl rfl (Pv.move rfl) ?_
  refine Rg.pure rfl rfl rfl (Pv.move rfl) ?_
  refine Rg.pure rfl rfl rfl (Pv.lenS rfl) ?_
  refine Rg.pure rfl rfl rfl (Pv.lss rfl rfl) ?_
  refine Rg.nil ?_
  refine Vc.cond rfl (fun h50 => ?_) (fun h50 => ?_)
  ·
    simp only [decide_eq_true_eq] at h50
    have hil : i < l.length := by omega
    have hst := put_step (D := d1 [97] ⟨[], []⟩ 1000 (0 + 1) false) (nm := [97]) (l := l) hil h00
    have h01 := congrArg Prod.fst (hwb ((i + 1) / 50) (by omega))
    obtain ⟨b32, c32', sp32, e32, rfl, _, _⟩ := own32.block (by omega)
    cases e32
    refine Vc.skip ?_
    refine Vc.seq ?_
    refine Vc.block ?_
    refine Vc.seq ?_
    refine Vc.text (List.range 7) (sd [(0, .pure), (1, .pure), (2, .pure), (3, .pure), (4, .read), (5, .eff), (6, .pure)]) rfl ?_
    refine Rg.pure rfl rfl rfl (Pv.move rfl) ?_
    refine Rg.pure rfl rfl rfl (Pv.move rfl) ?_
    refine Rg.pure rfl rfl rfl (Pv.move rfl) ?_
    refine Rg.pure rfl rfl rfl (Pv.ixA (i) rfl rfl (by omega) (by omega)) ?_
    refine Rg.read rfl rfl rfl (Ev.as (recV l[i]!) (Ev.ldS (E := recE) i ((Arg.own (F := frz F [(b32, rowS recE l sp32)]) own32 fun b o hb => Or.inl hb).srcF) rfl rfl rfl (by omega)) rfl) ?_
    refine Rg.callH rfl rfl rfl (run_callF rfl) (fun F' hF' => put_w (F := F') hW hD hwi (by omega) (by omega) (by omega) l[i]!) rfl ?_
    rintro _ _ ⟨h1, h2, rfl, rfl, hD58, hW58⟩
    rw [List.append_assoc]
    rw [hst] at hD58 hW58 ⊢
    replace hW58 : WrAt wb db [97] (txt l (i + 1)) ((wBlk (d1 [97] ⟨[], []⟩ 1000 (0 + 1) false) [97] l ((i + 1) / 50)).1 != 0) h1 := hW58
    rw [h01] at hW58
    refine Rg.pure rfl rfl rfl (Pv.neq rfl rfl) ?_
    refine Rg.nil ?_
    refine Vc.cond rfl (fun h59 => absurd h59 (by rw [h01]; simp)) (fun h59 => ?_)
    refine Vc.skip ?_
    refine Vc.blk ?_
    refine Vc.text (List.range 3) (sd [(0, .pure), (1, .pure), (2, .pure)]) rfl ?_
    refine Rg.pure rfl rfl rfl (Pv.move rfl) ?_
    refine Rg.pure rfl rfl rfl (Pv.asI (i + 1) (Pv.add rfl rfl (by omega)) (by omega)) ?_
    refine Rg.pure rfl rfl rfl (Pv.assign rfl) ?_
    refine Rg.nil ?_
    exact Vc.inv3 (i + 1) h1 h2 ⟨⟨by omega, hW58, hD58⟩, by omega⟩ (.cons rfl (.cons rfl (.cons rfl (.cons rfl (.cons rfl .nil))))) pulled
  ·
    simp only [decide_eq_false_iff_not] at h50
    obtain rfl : i = l.length := by omega
    have hce := close_end h00
    have hwn := hwb (nblk l) hnb
    rw [hwn, if_pos rfl, sync1, List.nil_append] at hce
    refine Vc.exit rfl ?_
    refine Vc.seq ?_
    refine Vc.text (List.range 3) (sd [(0, .pure), (1, .eff), (2, .pure)]) rfl ?_
    refine Rg.pure rfl rfl rfl (Pv.move rfl) ?_
    refine Rg.callH rfl rfl rfl (run_callF rfl) (fun F' hF' => close_w (F := F') hW hD hwi (by omega) (by omega) (by omega)) rfl ?_
    rintro _ _ ⟨h1, h2, rfl, rfl, hD61, hW61⟩
    rw [List.append_assoc]
    rw [hce] at hD61 ⊢
    have hw61 : Dw 20 6000 (d1 [97] ⟨bytesG l, bytesG l⟩ 1000 (0 + 1 + (nblk l : Nat) + 1) false) := by
      have := ((hw38.blk [97] l (nblk l)).sync [97])
      rw [hwn, sync1, List.nil_append] at this
      exact this.mono (by omega) (by omega)
    replace hD61 : DiskAt db (d1 [97] ⟨bytesG l, bytesG l⟩ 1000 (0 + 1 + (nblk l : Nat) + 1) false) h2 := hD61
    obtain ⟨f2, j, hwr, hf2, _⟩ := write2G (k1 := [97]) (k2 := [98]) (f1 := ⟨bytesG l, bytesG l⟩) (room := 1000) (ops := 0 + 1 + (nblk l : Nat) + 1) (l := l) (by decide) (by decide) (by show ((secs (bytesG l).length : Nat) : Int) ≤ 1000; unfold secs; omega)
    have hfit : fits ⟨bytesG l, bytesG l⟩ 1000 l (nblk l) := by show ((secs (bytesG l).length : Nat) : Int) + (secs (bytesG l).length : Nat) ≤ 1000; unfold secs; omega
    rw [if_pos hfit, hf2 hfit] at hwr
    generalize ((0 + 1 + ((nblk l : Nat) : Int) + 1 : Int)) = o61 at hD61 hw61 hwr
    refine Rg.pure rfl rfl rfl (Pv.assign rfl) ?_
    refine Rg.nil ?_
    refine Vc.seq ?_
    refine Vc.text (List.range 4) (sd [(0, .pure), (1, .pure), (2, .eff), (3, .pure)]) rfl ?_
    refine Rg.pure rfl rfl rfl (Pv.move rfl) ?_
    refine Rg.pure rfl rfl rfl (Pv.build (c := #[.int .u64 0, .int .u64 0]) rfl rfl) ?_
    refine Rg.callH rfl rfl rfl (run_callF rfl) (fun F' hF' => put_done (F := F') (s2 := []) hW61 ⟨0, 0⟩) rfl ?_
    rintro _ s64 ⟨rfl, hW64⟩
    refine Rg.pure rfl rfl rfl (Pv.assign rfl) ?_
    refine Rg.nil ?_
    refine Vc.seq ?_
    refine Vc.text (List.range 3) (sd [(0, .pure), (1, .eff), (2, .pure)]) rfl ?_
    refine Rg.pure rfl rfl rfl (Pv.move rfl) ?_
    refine Rg.callH rfl rfl rfl (run_callF rfl) (fun F' hF' => close_done (F := F') (s2 := []) hW64) rfl ?_
    rintro _ s66 ⟨rfl, hW66⟩
    refine Rg.pure rfl rfl rfl (Pv.assign rfl) ?_
    refine Rg.nil ?_
    refine Vc.seq ?_
    refine Vc.text (List.range 4) (sd [(0, .pure), (1, .pure), (2, .eff), (3, .pure)]) rfl ?_
    refine Rg.pure rfl rfl rfl (Pv.move rfl) ?_
    refine Rg.pure rfl rfl rfl (Pv.move rfl) ?_
    refine Rg.callH rfl rfl rfl (run_callF rfl) (fun F' hF' => write_w (F := F') hD61 hw61 (by omega) (by omega) [98] (Arg.own own32 fun b o hb => hF' b o (.inl (by simp [hb]))) hll hwr) rfl ?_
    rintro _ s69 ⟨rfl, hD69, hw69⟩
    refine Rg.pure rfl rfl rfl (Pv.assign rfl) ?_
    refine Rg.nil ?_
    refine Vc.seq ?_
    refine Vc.text (List.range 7) (sd [(0, .pure), (1, .eff), (2, .pure), (3, .pure), (4, .pure), (5, .pure), (6, .pure)]) rfl ?_
    refine Rg.pure rfl rfl rfl (Pv.move rfl) ?_
    refine Rg.callH rfl rfl rfl (run_callF rfl) (fun F' hF' => size_w (F := F') hD69 hw69 (by omega) (by omega) [97] (up2.size find2a) (congrArg Prod.snd begins2)) rfl ?_
    rintro _ s72 ⟨rfl, hD72, hw72⟩
    refine Rg.pure rfl rfl rfl (Pv.move rfl) ?_
    refine Rg.pure rfl rfl rfl (Pv.extract rfl rfl) ?_
    refine Rg.pure rfl rfl rfl (Pv.extract rfl rfl) ?_
    refine Rg.pure rfl rfl rfl (Pv.assign rfl) ?_
    refine Rg.pure rfl rfl rfl (Pv.assign rfl) ?_
    refine Rg.nil ?_
    refine Vc.seq ?_
    refine Vc.text (List.range 7) (sd [(0, .pure), (1, .eff), (2, .pure), (3, .pure), (4, .pure), (5, .pure), (6, .pure)]) rfl ?_
    refine Rg.pure rfl rfl rfl (Pv.move rfl) ?_
    refine Rg.callH rfl rfl rfl (run_callF rfl) (fun F' hF' => size_w (F := F') hD72 hw72 (by omega) (by omega) [98] (up2.size (find2b (by decide))) (congrArg Prod.snd begins2)) rfl ?_
    rintro _ s77 ⟨rfl, hD77, hw77⟩
    refine Rg.pure rfl rfl rfl (Pv.move rfl) ?_
    refine Rg.pure rfl rfl rfl (Pv.extract rfl rfl) ?_
    refine Rg.pure rfl rfl rfl (Pv.extract rfl rfl) ?_
    refine Rg.pure rfl rfl rfl (Pv.assign rfl) ?_
    refine Rg.pure rfl rfl rfl (Pv.assign rfl) ?_
    refine Rg.nil ?_
    refine Vc.seq ?_
    refine Vc.text (List.range 8) (sd [(0, .pure), (1, .pure), (2, .eff), (3, .pure), (4, .pure), (5, .pure), (6, .pure), (7, .pure)]) rfl ?_
    refine Rg.pure rfl rfl rfl (Pv.move rfl) ?_
    refine Rg.pure rfl rfl rfl (Pv.move rfl) ?_
    refine Rg.callH rfl rfl rfl (run_callF rfl) (fun F' hF' => readAt_w (F := F') hD77 hw77 (by omega) (by omega) [97] 0 ((bytesG l).length : Nat) (up2.readAll find2a) (congrArg Prod.snd begins2)) rfl ?_
    rintro _ _ ⟨u83, q83, s83, rfl, own83, hD83, hw83, rfl⟩
    rw [List.append_assoc]
    refine Rg.pure rfl rfl rfl (Pv.move rfl) ?_
    refine Rg.pure rfl rfl rfl (Pv.extract rfl rfl) ?_
    refine Rg.pure rfl rfl rfl (Pv.extract rfl rfl) ?_
    refine Rg.pure rfl rfl rfl (Pv.assign rfl) ?_
    refine Rg.pure rfl rfl rfl (Pv.assign rfl) ?_
    refine Rg.nil ?_
    refine Vc.seq ?_
    refine Vc.text (List.range 8) (sd [(0, .pure), (1, .pure), (2, .eff), (3, .pure), (4, .pure), (5, .pure), (6, .pure), (7, .pure)]) rfl ?_
    refine Rg.pure rfl rfl rfl (Pv.move rfl) ?_
    refine Rg.pure rfl rfl rfl (Pv.move rfl) ?_
    refine Rg.callH rfl rfl rfl (run_callF rfl) (fun F' hF' => readAt_w (F := F') hD83 hw83 (by omega) (by omega) [98] 0 ((bytesG l).length : Nat) (up2.readAll (find2b (by decide))) (congrArg Prod.snd begins2)) rfl ?_
    rintro _ _ ⟨u89, q89, s89, rfl, own89, hD89, hw89, rfl⟩
    rw [List.append_assoc]
    refine Rg.pure rfl rfl rfl (Pv.move rfl) ?_
    refine Rg.pure rfl rfl rfl (Pv.extract rfl rfl) ?_
    refine Rg.pure rfl rfl rfl (Pv.extract rfl rfl) ?_
    refine Rg.pure rfl rfl rfl (Pv.assign rfl) ?_
    refine Rg.pure rfl rfl rfl (Pv.assign rfl) ?_
    refine Rg.nil ?_
    refine Vc.seq ?_
    refine Vc.text (List.range 31) (sd [(0, .pure), (1, .pure), (2, .pure), (3, .pure), (4, .pure), (5, .pure), (6, .pure), (7, .pure), (8, .pure), (9, .pure), (10, .pure), (11, .pure), (12, .pure), (13, .pure), (14, .pure), (15, .pure), (16, .pure), (17, .pure), (18, .pure), (19, .pure), (20, .pure), (21, .pure), (22, .pure), (23, .pure), (24, .pure), (25, .pure), (26, .pure), (27, .pure), (28, .pure), (29, .pure), (30, .pure)]) rfl ?_
    refine Rg.pure rfl rfl rfl (Pv.move rfl) ?_
    refine Rg.pure rfl rfl rfl (Pv.eql rfl rfl) ?_
    refine Rg.pure rfl rfl rfl (Pv.move rfl) ?_
    refine Rg.split (t := 94) rfl (fun h94 => ?_) (fun h94 => absurd h94 (by simp))
    refine Rg.pure rfl rfl rfl (Pv.move rfl) ?_
    refine Rg.pure rfl rfl rfl (Pv.eql rfl rfl) ?_
    refine Rg.pure rfl rfl rfl (Pv.pickT rfl rfl) ?_
    refine Rg.pure rfl rfl rfl (Pv.move rfl) ?_
    refine Rg.split (t := 98) rfl (fun h98 => ?_) (fun h98 => absurd h98 (by decide))
    refine Rg.pure rfl rfl rfl (Pv.move rfl) ?_
    refine Rg.pure rfl rfl rfl (Pv.eql rfl rfl) ?_
    refine Rg.pure rfl rfl rfl (Pv.pickT rfl rfl) ?_
    refine Rg.pure rfl rfl rfl (Pv.move rfl) ?_
    refine Rg.split (t := 102) rfl (fun h102 => ?_) (fun h102 => absurd h102 (by decide))
    refine Rg.pure rfl rfl rfl (Pv.move rfl) ?_
    refine Rg.pure rfl rfl rfl (Pv.eql rfl rfl) ?_
    refine Rg.pure rfl rfl rfl (Pv.pickT rfl rfl) ?_
    refine Rg.pure rfl rfl rfl (Pv.move rfl) ?_
    refine Rg.split (t := 106) rfl (fun h106 => ?_) (fun h106 => absurd h106 (by decide))
    refine Rg.pure rfl rfl rfl (Pv.move rfl) ?_
    refine Rg.pure rfl rfl rfl (Pv.eql rfl rfl) ?_
    refine Rg.pure rfl rfl rfl (Pv.pickT rfl rfl) ?_
    refine Rg.pure rfl rfl rfl (Pv.move rfl) ?_
    refine Rg.split (t := 110) rfl (fun h110 => ?_) (fun h110 => absurd h110 (by decide))
    refine Rg.pure rfl rfl rfl (Pv.move rfl) ?_
    refine Rg.pure rfl rfl rfl (Pv.eql rfl rfl) ?_
    refine Rg.pure rfl rfl rfl (Pv.pickT rfl rfl) ?_
    refine Rg.pure rfl rfl rfl (Pv.move rfl) ?_
    refine Rg.split (t := 114) rfl (fun h114 => ?_) (fun h114 => absurd h114 (by decide))
    refine Rg.pure rfl rfl rfl (Pv.move rfl) ?_
    refine Rg.pure rfl rfl rfl (Pv.eql rfl rfl) ?_
    refine Rg.pure rfl rfl rfl (Pv.pickT rfl rfl) ?_
    refine Rg.pure rfl rfl rfl (Pv.move rfl) ?_
    refine Rg.split (t := 118) rfl (fun h118 => ?_) (fun h118 => absurd h118 (by decide))
    refine Rg.pure rfl rfl rfl (Pv.move rfl) ?_
    refine Rg.pure rfl rfl rfl (Pv.eql rfl rfl) ?_
    refine Rg.pure rfl rfl rfl (Pv.pickT rfl rfl) ?_
    refine Rg.pure rfl rfl rfl (Pv.assign rfl) ?_
    refine Rg.nil ?_
    refine Vc.seq ?_
    refine Vc.seq ?_
    refine Vc.text (List.range 9) (sd [(0, .pure), (1, .pure), (2, .pure), (3, .pure), (4, .read), (5, .pure), (6, .read), (7, .pure), (8, .pure)]) rfl ?_
    refine Rg.pure rfl rfl rfl (Pv.move rfl) ?_
    refine Rg.pure rfl rfl rfl (Pv.not rfl) ?_
    refine Rg.pure rfl rfl rfl (Pv.move rfl) ?_
    refine Rg.split (t := 124) rfl (fun h124 => absurd h124 (by decide)) (fun h124 => ?_)
    refine Rg.pure rfl rfl rfl (Pv.move rfl) ?_
    refine Rg.read rfl rfl rfl (Ev.str ((Arg.own (F := frz F q83) own83 fun b o hb => Or.inl hb).srcF) rfl) ?_
    refine Rg.pure rfl rfl rfl (Pv.move rfl) ?_
    refine Rg.read rfl rfl rfl (Ev.str ((Arg.own (F := frz F q89) own89 fun b o hb => Or.inl hb).srcF) rfl) ?_
    refine Rg.pure rfl rfl rfl (Pv.neqS rfl rfl) ?_
    refine Rg.pure rfl rfl rfl (Pv.pickF rfl rfl) ?_
    refine Rg.nil ?_
    refine Vc.cond rfl (fun h130 => absurd h130 (by simp)) (fun h130 => ?_)
    refine Vc.skip ?_
    refine Vc.seq ?_
    refine Vc.text (List.range 7) (sd [(0, .pure), (1, .eff), (2, .pure), (3, .pure), (4, .pure), (5, .pure), (6, .pure)]) rfl ?_
    refine Rg.pure rfl rfl rfl (Pv.move rfl) ?_
    refine Rg.callH rfl rfl rfl (run_callF rfl) (fun F' hF' => newReader_w (F := F') hD89 hw89 (by omega) (by omega) [97] (up2.size find2a) (congrArg Prod.snd begins2)) rfl ?_
    rintro _ _ ⟨rb, g1, g2, rfl, rfl, hD133, hw133, hR133⟩
    rw [List.append_assoc]
    refine Rg.pure rfl rfl rfl (Pv.move rfl) ?_
    refine Rg.pure rfl rfl rfl (Pv.extract rfl rfl) ?_
    refine Rg.pure rfl rfl rfl (Pv.extract rfl rfl) ?_
    refine Rg.pure rfl rfl rfl (Pv.assign rfl) ?_
    refine Rg.pure rfl rfl rfl (Pv.assign rfl) ?_
    refine Rg.nil ?_
    refine Vc.seq ?_
    refine Vc.seq ?_
    refine Vc.text (List.range 6) (sd [(0, .pure), (1, .pure), (2, .pure), (3, .pure), (4, .pure), (5, .pure)]) rfl ?_
    refine Rg.pure rfl rfl rfl (Pv.move rfl) ?_
    refine Rg.pure rfl rfl rfl (Pv.neq rfl rfl) ?_
    refine Rg.pure rfl rfl rfl (Pv.move rfl) ?_
    refine Rg.split (t := 138) rfl (fun h138 => absurd h138 (by decide)) (fun h138 => ?_)
    refine Rg.pure rfl rfl rfl (Pv.move rfl) ?_
    refine Rg.pure rfl rfl rfl (Pv.eqlNil rfl rfl) ?_
    refine Rg.pure rfl rfl rfl (Pv.pickF rfl rfl) ?_
    refine Rg.nil ?_
    refine Vc.cond rfl (fun h141 => absurd h141 (by (cases h141))) (fun h141 => ?_)
    refine Vc.skip ?_
    refine Vc.seq ?_
    refine Vc.seq ?_
    refine Vc.text (List.range 1) (sd [(0, .pure)]) rfl ?_
    refine Rg.pure rfl rfl rfl (Pv.assign rfl) ?_
    refine Rg.nil ?_
    refine Vc.block ?_
    refine Vc.loop5 (fun (i : Nat) (R : Rs) (q1 q2 : Hl) (ops : Int) => i ≤ l.length ∧ Rok (bytesG l) R ∧ restR (bytesG l) R = (l.drop i, 0) ∧ RdAt rb db [97] R q1 ∧ DiskAt db (d2 [97] [98] ⟨bytesG l, bytesG l⟩ ⟨bytesG l, bytesG l⟩ 1000 ops) q2 ∧ Dw (40 + i) 20000 (d2 [97] [98] ⟨bytesG l, bytesG l⟩ ⟨bytesG l, bytesG l⟩ 1000 ops)) (fun i R q1 q2 ops => [(0, .slice p32 l.length c32), (3, .bool true), (21, .pointer (some ⟨rb, 0, none⟩)), (23, .int .i64 (i : Int))]) (fun i R q1 q2 ops => q1 ++ (q2 ++ s32)) (fun i R q1 q2 ops => l.length - i) 0 ⟨0, (bytesG l).length, [], false, 0⟩ g1 g2 _ ⟨Nat.zero_le _, ⟨rfl, Nat.zero_le _, Nat.zero_le _, Nat.le_refl _, fun h => absurd rfl h⟩, by rw [rest_start, hrg]; rfl, hR133, hD133, hw133.mono (by omega) (by omega)⟩ (.cons rfl (.cons rfl (.cons rfl (.cons rfl .nil)))) pulled ?_
    rintro i R q1 q2 ops ⟨hi, hok, hrest, hR, hD, hw⟩
    have hok2 := next_ok hok
    have hop := opsR_le R
    rw [← List.append_assoc]
    refine Vc.seq ?_
    refine Vc.seq ?_
    refine Vc.text (List.range 4) (sd [(0, .pure), (1, .pure), (2, .pure), (3, .pure)]) rfl ?_
    refine Rg.pure rfl rfl rfl (Pv.move rfl) ?_
    refine Rg.pure rfl rfl rfl (Pv.move rfl) ?_
    refine Rg.pure rfl rfl rfl (Pv.lenS rfl) ?_
    refine Rg.pure rfl rfl rfl (Pv.lss rfl rfl) ?_
    refine Rg.nil ?_
    refine Vc.cond rfl (fun h145 => ?_) (fun h145 => ?_)
    ·
      simp only [decide_eq_true_eq] at h145
      have hil : i < l.length := by omega
      obtain ⟨e1, e2, e3, e4⟩ := next_tell hok (x := l[i]!) (l := l.drop (i + 1)) (e := 0) (by rw [hrest, getElem!_pos l i hil, List.drop_eq_getElem_cons hil])
      obtain ⟨b32, c32', sp32, e32, rfl, _, _⟩ := own32.block (by omega)
      cases e32
      refine Vc.skip ?_
      refine Vc.seq ?_
      refine Vc.block ?_
      refine Vc.seq ?_
      refine Vc.text (List.range 10) (sd [(0, .pure), (1, .eff), (2, .pure), (3, .pure), (4, .pure), (5, .pure), (6, .eff), (7, .eff), (8, .pure), (9, .pure)]) rfl ?_
      refine Rg.pure rfl rfl rfl (Pv.move rfl) ?_
      refine Rg.callH rfl rfl rfl (run_callF rfl) (fun F' hF' => next_w (F := F') hR hD hw (by omega) (by omega) up2 find2a hok) rfl ?_
      rintro _ _ ⟨h1, h2, rfl, rfl, hD150, hR150⟩
      rw [List.append_assoc]
      rw [bump2] at hD150
      have hw150 : Dw (40 + i + 1) 20000 (d2 [97] [98] ⟨bytesG l, bytesG l⟩ ⟨bytesG l, bytesG l⟩ 1000 (ops + ((opsR R : Nat) : Int))) := (hw.bump (opsR R)).mono (by omega) (Nat.le_refl _)
      rw [e1, e2, e3]
      refine Rg.pure rfl rfl rfl (Pv.move rfl) ?_
      refine Rg.pure rfl rfl rfl (Pv.extract rfl rfl) ?_
      refine Rg.pure rfl rfl rfl (Pv.extract rfl rfl) ?_
      refine Rg.pure rfl rfl rfl (Pv.extract rfl rfl) ?_
      refine Rg.alloc rfl rfl rfl rfl (fun b24 => ?_)
      refine Rg.storeA rfl rfl rfl rfl rfl rfl rfl rfl ?_
      refine Rg.pure rfl rfl rfl (Pv.assign rfl) ?_
      refine Rg.pure rfl rfl rfl (Pv.assign rfl) ?_
      refine Rg.nil ?_
      refine Vc.seq ?_
      refine Vc.draw [] (sd [(0, .pure), (1, .pure), (2, .pure), (3, .pure), (4, .pure), (5, .pure), (6, .pure), (7, .read), (8, .pure), (9, .pure), (10, .pure), (11, .read), (12, .pure), (13, .pure)]) mixed (by kernel_rfl) ?_
      refine Rg.pure rfl rfl rfl (Pv.move rfl) ?_
      refine Rg.pure rfl rfl rfl (Pv.not rfl) ?_
      refine Rg.pure rfl rfl rfl (Pv.move rfl) ?_
      refine Rg.split (t := 156) rfl (fun h156 => absurd h156 (by decide)) (fun h156 => ?_)
      refine Rg.pure rfl rfl rfl (Pv.move rfl) ?_
      refine Rg.pure rfl rfl rfl (Pv.neq rfl rfl) ?_
      refine Rg.pure rfl rfl rfl (Pv.pickF rfl rfl) ?_
      refine Rg.pure rfl rfl rfl (Pv.move rfl) ?_
      refine Rg.split (t := 160) rfl (fun h160 => absurd h160 (by decide)) (fun h160 => ?_)
      refine Rg.read rfl rfl rfl (Ev.ldA rfl rfl) ?_
      refine Rg.pure rfl rfl rfl (Pv.move rfl) ?_
      refine Rg.pure rfl rfl rfl (Pv.move rfl) ?_
      refine Rg.pure rfl rfl rfl (Pv.ixA (i) rfl rfl (by omega) (by omega)) ?_
      refine Rg.read rfl rfl rfl (Ev.as (recV l[i]!) (Ev.ldS (E := recE) i ((Arg.own (F := frz F [(b32, rowS recE l sp32)]) own32 fun b o hb => Or.inl hb).srcF) rfl rfl rfl (by omega)) rfl) ?_
      refine Rg.pure rfl rfl rfl (Pv.neqE recE _ _ rfl rfl) ?_
      refine Rg.pure rfl rfl rfl (Pv.pickF rfl rfl) ?_
      refine Rg.nil ?_
      refine Vc.cond rfl (fun h167 => absurd h167 (by simp)) (fun h167 => ?_)
      refine Vc.skip ?_
      refine Vc.blk ?_
      refine Vc.text (List.range 3) (sd [(0, .pure), (1, .pure), (2, .pure)]) rfl ?_
      refine Rg.pure rfl rfl rfl (Pv.move rfl) ?_
      refine Rg.pure rfl rfl rfl (Pv.asI (i + 1) (Pv.add rfl rfl (by omega)) (by omega)) ?_
      refine Rg.pure rfl rfl rfl (Pv.assign rfl) ?_
      refine Rg.nil ?_
      exact Vc.inv5 (i + 1) _ h1 h2 _ ⟨⟨by omega, hok2, e4, hR150, hD150, hw150⟩, by omega⟩ (.cons rfl (.cons rfl (.cons rfl (.cons rfl .nil)))) pulled
    ·
      simp only [decide_eq_false_iff_not] at h145
      obtain ⟨e1, e2, e3⟩ := next_stop hok (e := 0) (by rw [hrest, List.drop_eq_nil_of_le (by omega)])
      refine Vc.exit rfl ?_
      refine Vc.seq ?_
      refine Vc.text (List.range 10) (sd [(0, .pure), (1, .eff), (2, .pure), (3, .pure), (4, .pure), (5, .pure), (6, .eff), (7, .eff), (8, .pure), (9, .pure)]) rfl ?_
      refine Rg.pure rfl rfl rfl (Pv.move rfl) ?_
      refine Rg.callH rfl rfl rfl (run_callF rfl) (fun F' hF' => next_w (F := F') hR hD hw (by omega) (by omega) up2 find2a hok) rfl ?_
      rintro _ _ ⟨h1, h2, rfl, rfl, hD170, hR170⟩
      rw [List.append_assoc]
      rw [e1, e2, e3]
      refine Rg.pure rfl rfl rfl (Pv.move rfl) ?_
      refine Rg.pure rfl rfl rfl (Pv.extract rfl rfl) ?_
      refine Rg.pure rfl rfl rfl (Pv.extract rfl rfl) ?_
      refine Rg.pure rfl rfl rfl (Pv.extract rfl rfl) ?_
      refine Rg.alloc rfl rfl rfl rfl (fun b27 => ?_)
      refine Rg.storeA rfl rfl rfl rfl rfl rfl rfl rfl ?_
      refine Rg.pure rfl rfl rfl (Pv.assign rfl) ?_
      refine Rg.pure rfl rfl rfl (Pv.assign rfl) ?_
      refine Rg.nil ?_
      refine Vc.seq ?_
      refine Vc.text (List.range 10) (sd [(0, .pure), (1, .pure), (2, .pure), (3, .pure), (4, .pure), (5, .pure), (6, .pure), (7, .pure), (8, .pure), (9, .pure)]) rfl ?_
      refine Rg.pure rfl rfl rfl (Pv.move rfl) ?_
      refine Rg.pure rfl rfl rfl (Pv.move rfl) ?_
      refine Rg.split (t := 175) rfl (fun h175 => ?_) (fun h175 => absurd h175 (by decide))
      refine Rg.pure rfl rfl rfl (Pv.move rfl) ?_
      refine Rg.pure rfl rfl rfl (Pv.not rfl) ?_
      refine Rg.pure rfl rfl rfl (Pv.pickT rfl rfl) ?_
      refine Rg.pure rfl rfl rfl (Pv.move rfl) ?_
      refine Rg.split (t := 179) rfl (fun h179 => ?_) (fun h179 => absurd h179 (by decide))
      refine Rg.pure rfl rfl rfl (Pv.move rfl) ?_
      refine Rg.pure rfl rfl rfl (Pv.eql rfl rfl) ?_
      refine Rg.pure rfl rfl rfl (Pv.pickT rfl rfl) ?_
      refine Rg.pure rfl rfl rfl (Pv.assign rfl) ?_
      refine Rg.nil ?_
      refine Vc.ret (Vc.rets rfl (.cons (.tmp rfl) (.nil)) ?_)
      exact congrArg Value.bool (by decide)

set_option maxHeartbeats 1000000 in
theorem RecordRoom_spec (F : Fm) (r0 : Int) (v1 : Value) (l0 : List Rk) (h0 : Arg recE F v1 l0) (hI0 : ∀ r ∈ l0, RIn r) :
    Spec Try.prog 6 #[.int .i64 r0, v1] F [] fun v _ => v = .bool true := by
  obtain ⟨p0, c0, rfl⟩ := h0.shape
  obtain ⟨l, hl⟩ : ∃ l, l = l0.take 160 := ⟨_, rfl⟩
  have hll : l.length ≤ 160 := by rw [hl, List.length_take]; omega
  have hI : ∀ r ∈ l, RIn r := fun r hr => hI0 r (List.mem_of_mem_take (hl ▸ hr))
  have hbl := bytesG_le hll
  obtain ⟨room, hroom⟩ : ∃ r, r = andN r0 65535 % 41 := ⟨_, rfl⟩
  have hroom40 : room ≤ 40 := by omega
  have hb22 := bytes_one ⟨1, 0⟩
  have hrg : readG (bytesG [⟨1, 0⟩]) = ([⟨1, 0⟩], 0) := readG_bytes (fun r hr => by simp at hr; subst hr; exact ⟨by decide, by decide⟩)
  refine Spec.of (n := 86) (vs := [.int .i64 r0, .slice p0 l0.length c0]) Try.func6 rfl Try.ntmps6 rfl ?_
  refine Vc.seq ?_
  refine Vc.text (List.range 1) (sd [(0, .pure)]) rfl ?_
  refine Rg.pure rfl rfl rfl (Pv.assign rfl) ?_
  refine Rg.nil ?_
  refine Vc.seq ?_
  refine Vc.text (List.range 2) (sd [(0, .eff), (1, .pure)]) rfl ?_
  refine Rg.callP rfl rfl rfl (run_callF rfl) (shown_spec _) ?_
  rintro _ rfl
  refine Rg.pure rfl rfl rfl (Pv.assign rfl) ?_
  refine Rg.nil ?_
  refine Vc.seq ?_
  refine Vc.text (List.range 4) (sd [(0, .pure), (1, .pure), (2, .pure), (3, .pure)]) rfl ?_
  refine Rg.pure rfl rfl rfl (Pv.move rfl) ?_
  refine Rg.pure rfl rfl rfl (Pv.and rfl rfl (by omega)) ?_
  refine Rg.pure rfl rfl rfl (Pv.asI (room) (Pv.rem rfl rfl (by omega)) (by omega)) ?_
  refine Rg.pure rfl rfl rfl (Pv.assign rfl) ?_
  refine Rg.nil ?_
  refine Vc.seq ?_
  refine Vc.text (List.range 3) (sd [(0, .pure), (1, .eff), (2, .pure)]) rfl ?_
  refine Rg.pure rfl rfl rfl (Pv.move rfl) ?_
  refine Rg.callA rfl rfl rfl (run_callF rfl) (few_spec (h0.mono fun b o h => Or.inr h)) ?_
  rintro v18 s18 own18
  rw [← hl] at own18
  obtain ⟨p18, c18, rfl⟩ := own18.shape
  refine Rg.pure rfl rfl rfl (Pv.assign rfl) ?_
  refine Rg.nil ?_
  refine Vc.seq ?_
  refine Vc.text (List.range 4) (sd [(0, .pure), (1, .pure), (2, .eff), (3, .pure)]) rfl ?_
  refine Rg.pure rfl rfl rfl (Pv.move rfl) ?_
  refine Rg.pure rfl rfl rfl (Pv.asI (room + 2) (Pv.add rfl rfl (by omega)) (by omega)) ?_
  refine Rg.callA rfl rfl rfl (run_callF rfl) (new_w _ ((room + 2 : Nat) : Int) ((room + 2 : Nat) : Int) (by omega)) ?_
  rintro _ s21 ⟨db, rfl, hD21, hw21⟩
  refine Rg.pure rfl rfl rfl (Pv.assign rfl) ?_
  refine Rg.nil ?_
  refine Vc.seq ?_
  refine Vc.seq ?_
  refine Vc.text (List.range 9) (sd [(0, .pure), (1, .pure), (2, .pure), (3, .pure), (4, .pure), (5, .eff), (6, .eff), (7, .pure), (8, .pure)]) rfl ?_
  refine Rg.pure rfl rfl rfl (Pv.move rfl) ?_
  refine Rg.pure rfl rfl rfl (Pv.eqlNil rfl rfl) ?_
  refine Rg.pure rfl rfl rfl (Pv.move rfl) ?_
  refine Rg.split (t := 24) rfl (fun h24 => absurd h24 (by (cases h24))) (fun h24 => ?_)
  refine Rg.pure rfl rfl rfl (Pv.move rfl) ?_
  refine Rg.pure rfl rfl rfl (Pv.build (c := #[.int .u64 1, .int .u64 0]) rfl rfl) ?_
  refine Rg.bslice1R (E := recE) (e := 39) (⟨1, 0⟩ : Rk) rfl rfl rfl rfl rfl rfl rfl rfl (fun b27 own27 => ?_)
  refine Rg.callH rfl rfl rfl (run_callF rfl) (fun F' hF' => write_w (F := F') hD21 hw21 (by omega) (by omega) [102, 105, 114, 115, 116] (l := [⟨1, 0⟩]) (Arg.own own27 fun b o hb => hF' b o (.inl (by simp only [List.mem_singleton] at hb; simp [hb]))) (by simp) (write1G (by decide) (by rw [hb22]; show ((2 : Nat) : Int) ≤ _; omega))) rfl ?_
  rintro _ s28 ⟨rfl, hD28, hw28⟩
  generalize (0 + ((nblk [(⟨1, 0⟩ : Rk)] + 2 : Nat) : Int)) = o28 at hD28 hw28
  obtain ⟨f2, j, hwr, hf2, hu⟩ := write2G (k1 := [102, 105, 114, 115, 116]) (k2 := [102]) (f1 := ⟨bytesG [⟨1, 0⟩], bytesG [⟨1, 0⟩]⟩) (room := ((room + 2 : Nat) : Int)) (ops := o28) (l := l) (by decide) (by decide) (by rw [hb22]; show ((2 : Nat) : Int) ≤ _; omega)
  have hfit : fits ⟨bytesG [⟨1, 0⟩], bytesG [⟨1, 0⟩]⟩ ((room + 2 : Nat) : Int) l (nblk l) ↔ (bytesG l).length + 15 ≤ room * 16 + 15 := by
    show ((secs (bytesG [(⟨1, 0⟩ : Rk)]).length : Nat) : Int) + (secs (bytesG l).length : Nat) ≤ _ ↔ _
    rw [hb22]
    show ((2 : Nat) : Int) + (secs (bytesG l).length : Nat) ≤ _ ↔ _
    unfold secs
    omega
  obtain ⟨e, he⟩ : ∃ e : Int, e = if fits ⟨bytesG [⟨1, 0⟩], bytesG [⟨1, 0⟩]⟩ ((room + 2 : Nat) : Int) l (nblk l) then 0 else 6 := ⟨_, rfl⟩
  rw [← he] at hwr
  have he0 : e = 0 ↔ (bytesG l).length + 15 ≤ room * 16 + 15 := by
    rw [← hfit, he]
    split <;> simp_all
  have he6 : e = 0 ∨ e = 6 := by rw [he]; split <;> simp
  refine Rg.pure rfl rfl rfl (Pv.neq rfl rfl) ?_
  refine Rg.pure rfl rfl rfl (Pv.pickF rfl rfl) ?_
  refine Rg.nil ?_
  refine Vc.cond rfl (fun h30 => absurd h30 (by decide)) (fun h30 => ?_)
  refine Vc.skip ?_
  refine Vc.seq ?_
  refine Vc.text (List.range 4) (sd [(0, .pure), (1, .pure), (2, .eff), (3, .pure)]) rfl ?_
  refine Rg.pure rfl rfl rfl (Pv.move rfl) ?_
  refine Rg.pure rfl rfl rfl (Pv.move rfl) ?_
  refine Rg.callH rfl rfl rfl (run_callF rfl) (fun F' hF' => write_w (F := F') hD28 hw28 (by omega) (by omega) [102] (Arg.own own18 fun b o hb => hF' b o (.inl (by simp [hb]))) hll hwr) rfl ?_
  rintro _ s33 ⟨rfl, hD33, hw33⟩
  refine Rg.pure rfl rfl rfl (Pv.assign rfl) ?_
  refine Rg.nil ?_
  refine Vc.seq ?_
  refine Vc.text (List.range 6) (sd [(0, .pure), (1, .eff), (2, .pure), (3, .pure), (4, .pure), (5, .pure)]) rfl ?_
  refine Rg.pure rfl rfl rfl (Pv.move rfl) ?_
  refine Rg.callA rfl rfl rfl (run_callF rfl) (bytes_spec (Arg.own own18 frz_sb) (by omega)) ?_
  rintro v35 s35 own35
  obtain ⟨p35, c35, rfl⟩ := own35.shape
  refine Rg.pure rfl rfl rfl (Pv.lenS rfl) ?_
  refine Rg.pure rfl rfl rfl (Pv.asI ((bytesG l).length + 15) (Pv.add rfl rfl (by omega)) (by omega)) ?_
  refine Rg.pure rfl rfl rfl (Pv.asI (((bytesG l).length + 15) / 16) (Pv.quo rfl rfl (by omega)) (by omega)) ?_
  refine Rg.pure rfl rfl rfl (Pv.assign rfl) ?_
  refine Rg.nil ?_
  refine Vc.seq ?_
  refine Vc.text (List.range 7) (sd [(0, .pure), (1, .eff), (2, .pure), (3, .pure), (4, .pure), (5, .pure), (6, .pure)]) rfl ?_
  refine Rg.pure rfl rfl rfl (Pv.move rfl) ?_
  refine Rg.callH rfl rfl rfl (run_callF rfl) (fun F' hF' => read_spec (F := F') hD33 hw33 (by omega) (by omega) [102, 105, 114, 115, 116] up2 find2a) rfl ?_
  rintro _ _ ⟨u41, q41, s41, k41, rfl, rfl, own41, _, hD41⟩
  rw [List.append_assoc]
  rw [hrg] at own41 ⊢
  rw [if_pos rfl] at own41
  obtain ⟨p41, c41, rfl⟩ := own41.shape
  have hk41 : 1 + k41 ≤ 100 := by have : 22 * k41 ≤ (bytesG [(⟨1, 0⟩ : Rk)]).length + 22 := by assumption
                                  rw [hb22] at this
                                  omega
  have hw41 : Dw 200 10000 (d2 [102, 105, 114, 115, 116] [102] ⟨bytesG [⟨1, 0⟩], bytesG [⟨1, 0⟩]⟩ f2 ((room + 2 : Nat) : Int) (o28 + j + ((1 + k41 : Nat) : Int))) := (hw33.bump (1 + k41)).mono (by omega) (by omega)
  replace hD41 : DiskAt db (d2 [102, 105, 114, 115, 116] [102] ⟨bytesG [⟨1, 0⟩], bytesG [⟨1, 0⟩]⟩ f2 ((room + 2 : Nat) : Int) (o28 + j + ((1 + k41 : Nat) : Int))) s41 := hD41
  refine Rg.pure rfl rfl rfl (Pv.move rfl) ?_
  refine Rg.pure rfl rfl rfl (Pv.extract rfl rfl) ?_
  refine Rg.pure rfl rfl rfl (Pv.extract rfl rfl) ?_
  refine Rg.pure rfl rfl rfl (Pv.assign rfl) ?_
  refine Rg.pure rfl rfl rfl (Pv.assign rfl) ?_
  refine Rg.nil ?_
  refine Vc.seq ?_
  refine Vc.text (List.range 7) (sd [(0, .pure), (1, .eff), (2, .pure), (3, .pure), (4, .pure), (5, .pure), (6, .pure)]) rfl ?_
  refine Rg.pure rfl rfl rfl (Pv.move rfl) ?_
  refine Rg.callH rfl rfl rfl (run_callF rfl) (fun F' hF' => newReader_spec (F := F') hD41 hw41 (by omega) (by omega) [110, 111, 110, 101] (up2.sizeN (show findF [_, _] _ = none from by simp [findF]))) rfl ?_
  rintro _ _ ⟨pr, g1, g2, rfl, rfl, hD46, hw46, _⟩
  rw [List.append_assoc]
  rw [congrArg Prod.snd begins2] at hD46
  refine Rg.pure rfl rfl rfl (Pv.move rfl) ?_
  refine Rg.pure rfl rfl rfl (Pv.extract rfl rfl) ?_
  refine Rg.pure rfl rfl rfl (Pv.extract rfl rfl) ?_
  refine Rg.pure rfl rfl rfl (Pv.assign rfl) ?_
  refine Rg.pure rfl rfl rfl (Pv.assign rfl) ?_
  refine Rg.nil ?_
  refine Vc.seq ?_
  refine Vc.text (List.range 38) (sd [(0, .pure), (1, .pure), (2, .pure), (3, .pure), (4, .pure), (5, .pure), (6, .pure), (7, .pure), (8, .pure), (9, .pure), (10, .pure), (11, .pure), (12, .pure), (13, .pure), (14, .pure), (15, .pure), (16, .pure), (17, .pure), (18, .pure), (19, .pure), (20, .pure), (21, .pure), (22, .pure), (23, .pure), (24, .pure), (25, .pure), (26, .pure), (27, .pure), (28, .pure), (29, .pure), (30, .pure), (31, .pure), (32, .eff), (33, .pure), (34, .pure), (35, .pure), (36, .pure), (37, .pure)]) rfl ?_
  refine Rg.pure rfl rfl rfl (Pv.move rfl) ?_
  refine Rg.pure rfl rfl rfl (Pv.move rfl) ?_
  refine Rg.split (t := 50) rfl (fun h50 => ?_) (fun h50 => absurd h50 (by decide))
  refine Rg.pure rfl rfl rfl (Pv.move rfl) ?_
  refine Rg.pure rfl rfl rfl (Pv.eql rfl rfl) ?_
  refine Rg.pure rfl rfl rfl (Pv.move rfl) ?_
  refine Rg.pure rfl rfl rfl (Pv.move rfl) ?_
  refine Rg.pure rfl rfl rfl (Pv.leq rfl rfl) ?_
  refine Rg.pure rfl rfl rfl (Pv.eqlB rfl rfl) ?_
  refine Rg.pure rfl rfl rfl (Pv.pickT rfl rfl) ?_
  refine Rg.pure rfl rfl rfl (Pv.move rfl) ?_
  refine Rg.split (t := 58) rfl (fun h58 => ?_) (fun h58 => absurd h58 (by rw [beq_eq_false_iff_ne, ne_eq, Classical.not_not]; rw [Bool.eq_iff_iff, beq_iff_eq, decide_eq_true_eq, he0]; omega))
  refine Rg.pure rfl rfl rfl (Pv.move rfl) ?_
  refine Rg.pure rfl rfl rfl (Pv.eql rfl rfl) ?_
  refine Rg.pure rfl rfl rfl (Pv.move rfl) ?_
  refine Rg.split (t := 61) rfl (fun h61 => ?_) (fun h61 => ?_)
  ·
    iterate 2 (first | refine Rg.skipP rfl rfl rfl ?_ | refine Rg.skipR rfl rfl rfl ?_ | refine Rg.skipE rfl rfl rfl ?_)
    refine Rg.pure rfl rfl rfl (Pv.pickT rfl rfl) ?_
    refine Rg.pure rfl rfl rfl (Pv.pickT rfl rfl) ?_
    refine Rg.pure rfl rfl rfl (Pv.move rfl) ?_
    refine Rg.pure rfl rfl rfl (Pv.move rfl) ?_
    refine Rg.pure rfl rfl rfl (Pv.eql rfl rfl) ?_
    refine Rg.pure rfl rfl rfl (Pv.pickT rfl rfl) ?_
    refine Rg.pure rfl rfl rfl (Pv.move rfl) ?_
    refine Rg.split (t := 70) rfl (fun h70 => ?_) (fun h70 => absurd h70 (by decide))
    refine Rg.pure rfl rfl rfl (Pv.move rfl) ?_
    refine Rg.pure rfl rfl rfl (Pv.lenS rfl) ?_
    refine Rg.pure rfl rfl rfl (Pv.eql rfl rfl) ?_
    refine Rg.pure rfl rfl rfl (Pv.pickT rfl rfl) ?_
    refine Rg.pure rfl rfl rfl (Pv.move rfl) ?_
    refine Rg.split (t := 75) rfl (fun h75 => ?_) (fun h75 => absurd h75 (by decide))
    refine Rg.pure rfl rfl rfl (Pv.move rfl) ?_
    refine Rg.pure rfl rfl rfl (Pv.eql rfl rfl) ?_
    refine Rg.pure rfl rfl rfl (Pv.pickT rfl rfl) ?_
    refine Rg.pure rfl rfl rfl (Pv.move rfl) ?_
    refine Rg.split (t := 79) rfl (fun h79 => ?_) (fun h79 => absurd h79 (by decide))
    refine Rg.pure rfl rfl rfl (Pv.move rfl) ?_
    refine Rg.callP rfl rfl rfl (run_callF rfl) (usedD_spec hD46 frz_sb) ?_
    rintro _ rfl
    refine Rg.pure rfl rfl rfl (Pv.move rfl) ?_
    refine Rg.pure rfl rfl rfl (Pv.asI (room + 2) (Pv.add rfl rfl (by omega)) (by omega)) ?_
    refine Rg.pure rfl rfl rfl (Pv.leq rfl rfl) ?_
    refine Rg.pure rfl rfl rfl (Pv.pickT rfl rfl) ?_
    refine Rg.pure rfl rfl rfl (Pv.assign rfl) ?_
    refine Rg.nil ?_
    refine Vc.ret (Vc.rets rfl (.cons (.tmp rfl) (.nil)) ?_)
    exact congrArg Value.bool (by rw [decide_eq_true_eq]; show ((secs (bytesG [(⟨1, 0⟩ : Rk)]).length : Nat) : Int) + (secs f2.now.length : Nat) ≤ _; exact hu)
  ·
    simp only [beq_eq_false_iff_ne, ne_eq] at h61
    refine Rg.pure rfl rfl rfl (Pv.move rfl) ?_
    refine Rg.pure rfl rfl rfl (Pv.eql rfl rfl) ?_
    refine Rg.pure rfl rfl rfl (Pv.pickF rfl rfl) ?_
    refine Rg.pure rfl rfl rfl (Pv.pickT rfl rfl) ?_
    refine Rg.pure rfl rfl rfl (Pv.move rfl) ?_
    refine Rg.split (t := 66) rfl (fun h66 => ?_) (fun h66 => absurd h66 (by have := he6.resolve_left h61; simp [this]))
    refine Rg.pure rfl rfl rfl (Pv.move rfl) ?_
    refine Rg.pure rfl rfl rfl (Pv.eql rfl rfl) ?_
    refine Rg.pure rfl rfl rfl (Pv.pickT rfl rfl) ?_
    refine Rg.pure rfl rfl rfl (Pv.move rfl) ?_
    refine Rg.split (t := 70) rfl (fun h70 => ?_) (fun h70 => absurd h70 (by decide))
    refine Rg.pure rfl rfl rfl (Pv.move rfl) ?_
    refine Rg.pure rfl rfl rfl (Pv.lenS rfl) ?_
    refine Rg.pure rfl rfl rfl (Pv.eql rfl rfl) ?_
    refine Rg.pure rfl rfl rfl (Pv.pickT rfl rfl) ?_
    refine Rg.pure rfl rfl rfl (Pv.move rfl) ?_
    refine Rg.split (t := 75) rfl (fun h75 => ?_) (fun h75 => absurd h75 (by decide))
    refine Rg.pure rfl rfl rfl (Pv.move rfl) ?_
    refine Rg.pure rfl rfl rfl (Pv.eql rfl rfl) ?_
    refine Rg.pure rfl rfl rfl (Pv.pickT rfl rfl) ?_
    refine Rg.pure rfl rfl rfl (Pv.move rfl) ?_
    refine Rg.split (t := 79) rfl (fun h79 => ?_) (fun h79 => absurd h79 (by decide))
    refine Rg.pure rfl rfl rfl (Pv.move rfl) ?_
    refine Rg.callP rfl rfl rfl (run_callF rfl) (usedD_spec hD46 frz_sb) ?_
    rintro _ rfl
    refine Rg.pure rfl rfl rfl (Pv.move rfl) ?_
    refine Rg.pure rfl rfl rfl (Pv.asI (room + 2) (Pv.add rfl rfl (by omega)) (by omega)) ?_
    refine Rg.pure rfl rfl rfl (Pv.leq rfl rfl) ?_
    refine Rg.pure rfl rfl rfl (Pv.pickT rfl rfl) ?_
    refine Rg.pure rfl rfl rfl (Pv.assign rfl) ?_
    refine Rg.nil ?_
    refine Vc.ret (Vc.rets rfl (.cons (.tmp rfl) (.nil)) ?_)
    exact congrArg Value.bool (by rw [decide_eq_true_eq]; show ((secs (bytesG [(⟨1, 0⟩ : Rk)]).length : Nat) : Int) + (secs f2.now.length : Nat) ≤ _; exact hu)
end Go.Proofs.Ytbhaahohaccecaa

namespace Go.Proofs.Ytbhaahohaccecaa
set_option linter.unusedVariables false

theorem put_behind {st pc : List UInt8} {a to : Nat} (h1 : st.length ≤ a) (h2 : a ≤ to) (h3 : pc.length = to - a) : putAt (padTo st to) a pc = padTo st a ++ pc := by
  unfold putAt padTo
  have e1 : (st ++ List.replicate (to - st.length) (0 : UInt8)).drop (a + pc.length) = [] := List.drop_eq_nil_of_le (by simp; omega)
  have e2 : (st ++ List.replicate (to - st.length) (0 : UInt8)).take a = st ++ List.replicate (a - st.length) 0 := by
    rw [List.take_append, List.take_of_length_le h1, List.take_replicate]
    congr 2
    omega
  rw [e1, e2, List.append_nil]
/-- the first sectors are kept -/
theorem torn_first {now : List UInt8} {N : Nat} : ∀ n, 16 * n < now.length + 16 → (tornG now [] (List.replicate N true) n).1 = now.take (16 * min n N) ∧ (tornG now [] (List.replicate N true) n).2 = (List.replicate N true).drop n
  | 0, _ => by simp [tornG]
  | n + 1, h => by
    obtain ⟨h1, h2⟩ := torn_first (now := now) (N := N) n (by omega)
    have hs : sameSec now [] n = false := by
      unfold sameSec secTo
      rw [List.length_nil, decide_eq_false (show ¬ min (16 * n + 16) now.length ≤ 0 by omega)]
      rfl
    have ht : 16 * n ≤ secTo now n ∧ secTo now n ≤ now.length ∧ secTo now n ≤ 16 * (n + 1) := by unfold secTo; omega
    have hp : (piece now (16 * n) (secTo now n)).length = secTo now n - 16 * n := by simp [piece]; omega
    rw [tornG_succ, tornStep, if_neg (by rw [hs]; decide), hdB, h2]
    by_cases hn : n < N
    · have hd : (List.replicate N true).drop n = true :: (List.replicate N true).drop (n + 1) := by
        rw [List.drop_eq_getElem_cons (by simpa using hn)]
        simp
      rw [hd]
      simp only [List.headD_cons, if_true, List.drop_one, List.tail_cons, and_true]
      have e1 : (tornG now [] (List.replicate N true) n).1 = now.take (16 * n) := by rw [h1, Nat.min_eq_left (by omega)]
      have hl : (now.take (16 * n)).length = 16 * n := by simp; omega
      rw [e1, put_behind (by omega) ht.1 hp, padTo, hl, Nat.sub_self, List.replicate_zero, List.append_nil, Nat.min_eq_left (by omega)]
      unfold piece
      rw [show now.take (16 * (n + 1)) = now.take (16 * n + (secTo now n - 16 * n)) by rw [List.take_eq_take_iff]; unfold secTo at *; omega, List.take_add]
    · have hd : (List.replicate N true).drop n = [] := List.drop_eq_nil_of_le (by simp; omega)
      rw [hd]
      simp only [List.headD_nil, Bool.false_eq_true, if_false]
      refine ⟨by rw [h1]; congr 1; omega, ?_⟩
      rw [List.drop_nil]
      exact (List.drop_eq_nil_of_le (by simp; omega)).symm
/-- one file, armed -/
abbrev dA (k : List UInt8) (f : Fl) (a ops : Int) (ks : List Bool) : Dk := ⟨[(k, f)], 1000, (secs f.now.length : Nat), ops, a, ks, false⟩
/-- .. behind its crash -/
abbrev dC (k : List UInt8) (t : List UInt8) (ops : Int) (ks : List Bool) : Dk := ⟨[(k, ⟨t, t⟩)], 1000, (secs t.length : Nat), ops, 0, ks, true⟩
section
variable {k : List UInt8} {f : Fl} {now sy : List UInt8} {a ops : Int} {ks : List Bool}
theorem beginsA (h : 2 ≤ a) : beginsD (dA k f a ops ks) = (0, dA k f (a - 1) (ops + 1) ks) := by
  simp only [beginsD]
  rw [if_pos (show 0 < a by omega), if_neg (show ¬ a - 1 = 0 by omega)]
  rfl
theorem crashA {room u : Int} (ks0 : List Bool) : crashD ks0 ⟨[(k, ⟨now, sy⟩)], room, u, ops, 0, ks, false⟩ = ⟨[(k, ⟨(tornG now sy ks0 (secs now.length)).1, (tornG now sy ks0 (secs now.length)).1⟩)], room, (secs (tornG now sy ks0 (secs now.length)).1.length : Nat), ops, 0, ks, true⟩ := by
  have hs : Go.Proofs.Ytbhaahohaccecaa.sortN [k] = [k] := by simp [Go.Proofs.Ytbhaahohaccecaa.sortN]
  unfold crashD
  rw [if_neg (show ¬ (false = true) by decide)]
  simp only [List.map_cons, List.map_nil, hs, crFold, List.foldl_cons, List.foldl_nil, crStep, find1, Option.getD_some, set1, Int.zero_add]
theorem beginsC : beginsD (dA k ⟨now, sy⟩ 1 ops ks) = (7, dC k (tornG now sy ks (secs now.length)).1 (ops + 1) ks) := by
  simp only [beginsD]
  rw [if_pos (show (0 : Int) < 1 by decide), if_pos (show (1 : Int) - 1 = 0 by decide), crashA]
  rfl
theorem appA (h : 2 ≤ a) (bs : List UInt8) (hr : secs (now.length + bs.length) ≤ 1000) : writeD (dA k ⟨now, sy⟩ a ops ks) k none bs = (0, dA k ⟨now ++ bs, sy⟩ (a - 1) (ops + 1) ks) := by
  simp only [writeD, beginsA h, find1, set1, Option.getD_none]
  have hm : max now.length (now.length + bs.length) = now.length + bs.length := by omega
  have hw : wrG 1000 ((secs now.length : Nat) : Int) now ((now.length : Nat) : Int) bs = (0, ((secs (now ++ bs).length : Nat) : Int), now ++ bs) := by
    unfold wrG
    rw [if_neg (by omega), Int.toNat_natCast, hm, if_neg (by omega), putAt_end, List.length_append]
    congr 2
    omega
  rw [hw]
  rfl
theorem appC (bs : List UInt8) : writeD (dA k ⟨now, sy⟩ 1 ops ks) k none bs = (7, dC k (tornG now sy ks (secs now.length)).1 (ops + 1) ks) := by
  simp only [writeD, beginsC]
  rfl
theorem syncA (h : 2 ≤ a) : syncD (dA k ⟨now, sy⟩ a ops ks) k = (0, dA k ⟨now, now⟩ (a - 1) (ops + 1) ks) := by
  simp only [syncD, beginsA h, find1, set1]
  rfl
theorem syncC : syncD (dA k ⟨now, sy⟩ 1 ops ks) k = (7, dC k (tornG now sy ks (secs now.length)).1 (ops + 1) ks) := by
  simp only [syncD, beginsC]
  rfl
/-- what Write comes to: all is there, or it is down and some front of some blocks is there -/
def CrW (k : List UInt8) (l : List Rk) (D : Dk) : Prop := D.down = true ∧ (D.files = [] ∨ ∃ q m, q ≤ nblk l ∧ D.files = [(k, ⟨(blkB l q).take m, (blkB l q).take m⟩)])
theorem crw_dC {l : List Rk} {q N : Nat} (hq : q ≤ nblk l) (o : Int) : CrW k l (dC k (tornG (blkB l q) [] (List.replicate N true) (secs (blkB l q).length)).1 o ks) :=
  ⟨rfl, .inr ⟨q, _, hq, by rw [(torn_first (secs (blkB l q).length) (by unfold secs; omega)).1]⟩⟩
theorem wblkA {l : List Rk} {N : Nat} (hl : l.length ≤ 160) {a : Nat} (ha : 1 ≤ a) : ∀ q, q ≤ nblk l →
    (q < a → wBlk (dA k ⟨[], []⟩ a ops (List.replicate N true)) k l q = (0, dA k ⟨blkB l q, []⟩ ((a : Int) - q) (ops + q) (List.replicate N true))) ∧
    (a ≤ q → (wBlk (dA k ⟨[], []⟩ a ops (List.replicate N true)) k l q).1 = 7 ∧ CrW k l (wBlk (dA k ⟨[], []⟩ a ops (List.replicate N true)) k l q).2)
  | 0, _ => ⟨fun _ => by simp [wBlk, blkB], fun h => by omega⟩
  | q + 1, hq => by
    obtain ⟨h1, h2⟩ := wblkA hl ha q (by omega)
    have hnb : nblk l ≤ 4 := by unfold nblk; omega
    have hb := blkB_le l (q + 1)
    have hbl : (blkB l (q + 1)).length = (blkB l q).length + (encG (recsB (chunk l q))).length := by rw [blkB_succ, List.length_append]
    rw [wBlk]
    by_cases hqa : q < a
    · rw [h1 hqa, if_neg (by simp)]
      simp only
      by_cases hq1 : q + 1 < a
      · refine ⟨fun _ => ?_, fun h => by omega⟩
        rw [appA (by omega) _ (by rw [← hbl]; unfold secs; omega), ← blkB_succ]
        rw [show (a : Int) - q - 1 = (a : Int) - ((q + 1 : Nat) : Int) by omega, show ops + (q : Int) + 1 = ops + ((q + 1 : Nat) : Int) by omega]
      · refine ⟨fun h => by omega, fun _ => ?_⟩
        rw [show (a : Int) - q = 1 by omega, appC]
        exact ⟨rfl, crw_dC (by omega) _⟩
    · obtain ⟨h3, h4⟩ := h2 (by omega)
      rw [if_pos (by rw [h3]; decide)]
      exact ⟨fun h => by omega, fun _ => ⟨h3, h4⟩⟩
theorem writeA {l : List Rk} {N : Nat} (hl : l.length ≤ 160) (hk : mayN ⟨k.toArray⟩ = true) {a : Nat} (ha : 1 ≤ a) :
    ((writeG ⟨[], 1000, 0, 0, (a : Int), List.replicate N true, false⟩ k l).1 = 0 ∧ (writeG ⟨[], 1000, 0, 0, (a : Int), List.replicate N true, false⟩ k l).2.down = false ∧ (writeG ⟨[], 1000, 0, 0, (a : Int), List.replicate N true, false⟩ k l).2.files = [(k, ⟨bytesG l, bytesG l⟩)]) ∨
    ((writeG ⟨[], 1000, 0, 0, (a : Int), List.replicate N true, false⟩ k l).1 = 7 ∧ CrW k l (writeG ⟨[], 1000, 0, 0, (a : Int), List.replicate N true, false⟩ k l).2) := by
  have hs0 : Go.Proofs.Ytbhaahohaccecaa.sortN [] = [] := by simp [Go.Proofs.Ytbhaahohaccecaa.sortN]
  by_cases h1 : a = 1
  · have hc : createD ⟨[], 1000, 0, 0, (a : Int), List.replicate N true, false⟩ k = (7, ⟨[], 1000, 0, 1, 0, List.replicate N true, true⟩) := by
      subst h1
      simp only [createD, beginsD]
      rw [if_pos (show (0 : Int) < ((1 : Nat) : Int) by decide), if_pos (show ((1 : Nat) : Int) - 1 = 0 by decide)]
      unfold crashD
      rw [if_neg (show ¬ (false = true) by decide)]
      simp only [List.map_nil, hs0, crFold, List.foldl_nil]
      rfl
    right
    rw [writeG, hc, if_pos (by simp)]
    exact ⟨rfl, rfl, .inl rfl⟩
  · have hc : createD ⟨[], 1000, 0, 0, (a : Int), List.replicate N true, false⟩ k = (0, dA k ⟨[], []⟩ ((a - 1 : Nat) : Int) 1 (List.replicate N true)) := by
      have hb : beginsD ⟨[], 1000, 0, 0, (a : Int), List.replicate N true, false⟩ = (0, ⟨[], 1000, 0, 1, (a : Int) - 1, List.replicate N true, false⟩) := by
        simp only [beginsD]
        rw [if_pos (show (0 : Int) < a by omega), if_neg (show ¬ (a : Int) - 1 = 0 by omega)]
        rfl
      simp only [createD, hb, hk]
      rw [show ((a - 1 : Nat) : Int) = (a : Int) - 1 by omega]
      rfl
    obtain ⟨h3, h4⟩ := wblkA (k := k) (ops := 1) (N := N) hl (a := a - 1) (by omega) (nblk l) (Nat.le_refl _)
    rw [writeG, hc, if_neg (by simp)]
    simp only
    by_cases hq : nblk l < a - 1
    · rw [h3 hq, if_pos rfl]
      simp only
      by_cases hs : 2 ≤ ((a - 1 : Nat) : Int) - (nblk l : Nat)
      · left
        rw [syncA hs]
        exact ⟨rfl, rfl, rfl⟩
      · right
        rw [show ((a - 1 : Nat) : Int) - (nblk l : Nat) = 1 by omega, syncC]
        exact ⟨rfl, crw_dC (Nat.le_refl _) _⟩
    · obtain ⟨h5, h6⟩ := h4 (by omega)
      right
      rw [if_neg (by rw [h5]; decide)]
      exact ⟨h5, h6⟩
end
/-- .. and what is read of it, once it is up -/
theorem read_down {F : Fm} {db n B : Nat} {D : Dk} {s : Hl} {l : List Rk} {e : Int} (hD : DiskAt db D s) (hw : Dw n B D) (hn : n < 300) (hB : B ≤ 4200) (hup : Up D) (hI : ∀ r ∈ l, RIn r)
    (hc : (e = 0 ∧ D.files = [([102], ⟨bytesG l, bytesG l⟩)]) ∨ (e = 7 ∧ (D.files = [] ∨ ∃ q m, q ≤ nblk l ∧ D.files = [([102], ⟨(blkB l q).take m, (blkB l q).take m⟩)]))) :
    Spec Try.prog 13 #[.pointer (some ⟨db, 0, none⟩), kS [102]] F s fun v s' => ∃ u s1 s2, ∃ e2 : Nat, ∃ L : List Rk, v = .tuple #[u, .int .i64 (e2 : Int)] ∧ s' = s1 ++ s2 ∧ Own recE u L s1 ∧
      (e = 0 → e2 = 0 ∧ L = l) ∧ (e2 ≠ 0 → L = [] ∧ (e2 = 4 ∨ e2 = 2)) ∧ (e2 = 0 → ∃ j, L = l.take j) := by
  have some_ : ∀ t : List UInt8, D.files = [([102], ⟨t, t⟩)] → findF D.files [102] = some ⟨t, t⟩ := fun t h => by rw [h]; exact find1
  rcases hc with ⟨rfl, hf⟩ | ⟨rfl, hf | ⟨q, m, hq, hf⟩⟩
  · refine (read_spec hD hw (by omega) (by omega) [102] hup (some_ _ hf)).mono fun v s ⟨u, h1, h2, k, e1, e2, e3, e4, e5⟩ => ⟨u, h1, h2, (readG (bytesG l)).2, _, e1, e2, e3, ?_⟩
    rw [readG_bytes hI]
    exact ⟨fun _ => ⟨rfl, rfl⟩, fun h => absurd rfl h, fun _ => ⟨l.length, by simp⟩⟩
  · refine (read_none hD hw (by omega) (by omega) [102] (hup.sizeN (by rw [hf]; rfl)) (by decide)).mono fun v s ⟨e1, e2⟩ => ⟨.slice none 0 0, [], s, 4, [], e1, rfl, .nil, fun h => (by cases h), fun _ => ⟨rfl, .inl rfl⟩, fun h => by cases h⟩
  · obtain ⟨⟨j, hj⟩, he⟩ := readG_front hI hq m
    refine (read_spec hD hw (by omega) (by omega) [102] hup (some_ _ hf)).mono fun v s ⟨u, h1, h2, k, e1, e2, e3, e4, e5⟩ => ⟨u, h1, h2, (readG ((blkB l q).take m)).2, _, e1, e2, e3, fun h => (by cases h), fun h => ?_, fun h => ?_⟩
    · rw [if_neg h]
      exact ⟨rfl, .inr (he.resolve_left h)⟩
    · rw [if_pos h]
      exact ⟨j, hj⟩
set_option maxHeartbeats 1000000 in
theorem RecordDown_spec (F : Fm) (v0 : Value) (l0 : List Rk) (a0 f0 : Int) (h0 : Arg recE F v0 l0) (hI0 : ∀ r ∈ l0, RIn r) :
    Spec Try.prog 8 #[v0, .int .i64 a0, .int .i64 f0] F [] fun v _ => v = .bool true := by
  obtain ⟨p0, c0, rfl⟩ := h0.shape
  obtain ⟨l, hl⟩ : ∃ l, l = l0.take 160 := ⟨_, rfl⟩
  have hll : l.length ≤ 160 := by rw [hl, List.length_take]; omega
  have hI : ∀ r ∈ l, RIn r := fun r hr => hI0 r (List.mem_of_mem_take (hl ▸ hr))
  obtain ⟨a, ha⟩ : ∃ a, a = 1 + andN a0 7 := ⟨_, rfl⟩
  have ha1 : 1 ≤ a := by omega
  have ha8 : a ≤ 8 := by have := andN_le (p := a0) (q := 7) (by omega); omega
  obtain ⟨N, hN⟩ : ∃ N, N = andN f0 65535 % 201 := ⟨_, rfl⟩
  have hwA := writeA (k := [102]) (N := N) hll (by decide) ha1
  refine Spec.of (n := 106) (vs := [.slice p0 l0.length c0, .int .i64 a0, .int .i64 f0]) Try.func8 rfl Try.ntmps8 rfl ?_
  refine Vc.seq ?_
  refine Vc.text (List.range 1) (sd [(0, .pure)]) rfl ?_
  refine Rg.pure rfl rfl rfl (Pv.assign rfl) ?_
  refine Rg.nil ?_
  refine Vc.seq ?_
  refine Vc.text (List.range 2) (sd [(0, .eff), (1, .pure)]) rfl ?_
  refine Rg.callP rfl rfl rfl (run_callF rfl) (shown_spec _) ?_
  rintro _ rfl
  refine Rg.pure rfl rfl rfl (Pv.assign rfl) ?_
  refine Rg.nil ?_
  refine Vc.seq ?_
  refine Vc.text (List.range 3) (sd [(0, .pure), (1, .eff), (2, .pure)]) rfl ?_
  refine Rg.pure rfl rfl rfl (Pv.move rfl) ?_
  refine Rg.callA rfl rfl rfl (run_callF rfl) (few_spec (h0.mono fun b o h => Or.inr h)) ?_
  rintro v16 s16 own16
  rw [← hl] at own16
  obtain ⟨p16, c16, rfl⟩ := own16.shape
  have hcap16 : l.length ≤ c16 := (Arg.own (F := frz F s16) own16 fun b o hb => Or.inl hb).cap.2
  refine Rg.pure rfl rfl rfl (Pv.assign rfl) ?_
  refine Rg.nil ?_
  refine Vc.seq ?_
  refine Vc.text (List.range 4) (sd [(0, .pure), (1, .pure), (2, .pure), (3, .pure)]) rfl ?_
  refine Rg.pure rfl rfl rfl (Pv.move rfl) ?_
  refine Rg.pure rfl rfl rfl (Pv.and rfl rfl (by omega)) ?_
  refine Rg.pure rfl rfl rfl (Pv.asI (a) (Pv.add rfl rfl (by omega)) (by omega)) ?_
  refine Rg.pure rfl rfl rfl (Pv.assign rfl) ?_
  refine Rg.nil ?_
  refine Vc.seq ?_
  refine Vc.text (List.range 1) (sd [(0, .pure)]) rfl ?_
  refine Rg.pure rfl rfl rfl (Pv.assign rfl) ?_
  refine Rg.nil ?_
  refine Vc.seq ?_
  refine Vc.seq ?_
  refine Vc.text (List.range 1) (sd [(0, .pure)]) rfl ?_
  refine Rg.pure rfl rfl rfl (Pv.assign rfl) ?_
  refine Rg.nil ?_
  refine Vc.block ?_
  refine Vc.loop3 (fun (i : Nat) (v : Value) (sg : Hl) => i ≤ N ∧ Own boolE v (List.replicate i true) sg) (fun i v sg => [(0, .slice p16 l.length c16), (1, .int .i64 (a : Int)), (2, .int .i64 f0), (7, .bool true), (8, v), (9, .int .i64 (i : Int))]) (fun i v sg => sg ++ s16) (fun i v sg => N - i) 0 _ [] ⟨Nat.zero_le _, .nil⟩ (.cons rfl (.cons rfl (.cons rfl (.cons rfl (.cons rfl (.cons rfl .nil)))))) pulled ?_
  rintro i v sg ⟨hi, own⟩
  have hrl : (List.replicate i true).length = i := List.length_replicate
  refine Vc.seq ?_
  refine Vc.seq ?_
  refine Vc.text (List.range 5) (sd [(0, .pure), (1, .pure), (2, .pure), (3, .pure), (4, .pure)]) rfl ?_
  refine Rg.pure rfl rfl rfl (Pv.move rfl) ?_
  refine Rg.pure rfl rfl rfl (Pv.move rfl) ?_
  refine Rg.pure rfl rfl rfl (Pv.and rfl rfl (by omega)) ?_
  refine Rg.pure rfl rfl rfl (Pv.asI (N) (Pv.rem rfl rfl (by omega)) (by omega)) ?_
  refine Rg.pure rfl rfl rfl (Pv.lss rfl rfl) ?_
  refine Rg.nil ?_
  refine Vc.cond rfl (fun h24 => ?_) (fun h24 => ?_)
  ·
    simp only [decide_eq_true_eq] at h24
    refine Vc.skip ?_
    refine Vc.seq ?_
    refine Vc.block ?_
    refine Vc.text (List.range 4) (sd [(0, .pure), (1, .eff), (2, .eff), (3, .pure)]) rfl ?_
    refine Rg.pure rfl rfl rfl (Pv.move rfl) ?_
    refine Rg.bslice1 rfl rfl rfl rfl rfl rfl rfl (fun b28 => ?_)
    refine Rg.append rfl rfl rfl rfl rfl own (Src.one (y := true) rfl) (by simp only [List.length_singleton]; omega) (by rw [show maxLen = 9223372036854775807 from rfl]; simp only [List.length_singleton]; omega) rfl (fun v29 s29 own29 => ?_)
    rw [show List.replicate i true ++ [true] = List.replicate (i + 1) true from (List.replicate_succ').symm] at own29
    refine Rg.pure rfl rfl rfl (Pv.assign rfl) ?_
    refine Rg.nil ?_
    refine Vc.blk ?_
    refine Vc.text (List.range 3) (sd [(0, .pure), (1, .pure), (2, .pure)]) rfl ?_
    refine Rg.pure rfl rfl rfl (Pv.move rfl) ?_
    refine Rg.pure rfl rfl rfl (Pv.asI (i + 1) (Pv.add rfl rfl (by omega)) (by omega)) ?_
    refine Rg.pure rfl rfl rfl (Pv.assign rfl) ?_
    refine Rg.nil ?_
    exact Vc.inv3 (i + 1) v29 s29 ⟨⟨by omega, own29⟩, by omega⟩ (.cons rfl (.cons rfl (.cons rfl (.cons rfl (.cons rfl (.cons rfl .nil)))))) pulled
  ·
    simp only [decide_eq_false_iff_not] at h24
    obtain rfl : i = N := by omega
    refine Vc.exit rfl ?_
    refine Vc.seq ?_
    refine Vc.text (List.range 2) (sd [(0, .eff), (1, .pure)]) rfl ?_
    refine Rg.callA rfl rfl rfl (run_callF rfl) (new_w _ 1000 1000 (by decide)) ?_
    rintro _ s30 ⟨db, rfl, hD30, hw30⟩
    refine Rg.pure rfl rfl rfl (Pv.assign rfl) ?_
    refine Rg.nil ?_
    refine Vc.seq ?_
    refine Vc.seq ?_
    refine Vc.text (List.range 2) (sd [(0, .pure), (1, .pure)]) rfl ?_
    refine Rg.pure rfl rfl rfl (Pv.move rfl) ?_
    refine Rg.pure rfl rfl rfl (Pv.eqlNil rfl rfl) ?_
    refine Rg.nil ?_
    refine Vc.cond rfl (fun h32 => absurd h32 (by (cases h32))) (fun h32 => ?_)
    refine Vc.skip ?_
    refine Vc.seq ?_
    refine Vc.text (List.range 4) (sd [(0, .pure), (1, .pure), (2, .pure), (3, .eff)]) rfl ?_
    refine Rg.pure rfl rfl rfl (Pv.move rfl) ?_
    refine Rg.pure rfl rfl rfl (Pv.move rfl) ?_
    refine Rg.pure rfl rfl rfl (Pv.move rfl) ?_
    refine Rg.callH rfl rfl rfl (run_callF rfl) (fun F' hF' => arm_w (F := F') hD30 hw30 (a : Int) (by omega) (Arg.own own fun b o hb => hF' b o (.inl (by simp [hb]))) (by omega)) rfl ?_
    rintro v36 s36 ⟨hD36, hw36⟩
    have e36 : ({ (d0 1000 0) with armed := max (a : Int) 0, keep := List.replicate i true } : Dk) = ⟨[], 1000, 0, 0, (a : Int), List.replicate i true, false⟩ := by rw [show max (a : Int) 0 = a by omega]
    rw [e36] at hD36 hw36
    obtain ⟨e, D', hwr⟩ : ∃ e D', writeG ⟨[], 1000, 0, 0, (a : Int), List.replicate i true, false⟩ [102] l = (e, D') := ⟨_, _, rfl⟩
    rw [hwr] at hwA
    simp only at hwA
    have he07 : e = 0 ∨ e = 7 := by rcases hwA with h | h; exact .inl h.1; exact .inr h.1
    have hdn : D'.down = (e == 7) := by
      rcases hwA with ⟨h1, h2, _⟩ | ⟨h1, h2, _⟩
      · rw [h1, h2]; rfl
      · rw [h1, h2]; rfl
    have hfl : (e = 0 ∧ D'.files = [([102], ⟨bytesG l, bytesG l⟩)]) ∨ (e = 7 ∧ (D'.files = [] ∨ ∃ q m, q ≤ nblk l ∧ D'.files = [([102], ⟨(blkB l q).take m, (blkB l q).take m⟩)])) := by
      rcases hwA with ⟨h1, _, h2⟩ | ⟨h1, _, h2⟩
      · exact .inl ⟨h1, h2⟩
      · exact .inr ⟨h1, h2⟩
    refine Rg.nil ?_
    refine Vc.seq ?_
    refine Vc.text (List.range 4) (sd [(0, .pure), (1, .pure), (2, .eff), (3, .pure)]) rfl ?_
    refine Rg.pure rfl rfl rfl (Pv.move rfl) ?_
    refine Rg.pure rfl rfl rfl (Pv.move rfl) ?_
    refine Rg.callH rfl rfl rfl (run_callF rfl) (fun F' hF' => write_w (F := F') hD36 hw36 (by omega) (by omega) [102] (Arg.own own16 fun b o hb => hF' b o (.inl (by simp [hb]))) hll hwr) rfl ?_
    rintro _ s39 ⟨rfl, hD39, hw39⟩
    refine Rg.pure rfl rfl rfl (Pv.assign rfl) ?_
    refine Rg.nil ?_
    refine Vc.seq ?_
    refine Vc.seq ?_
    refine Vc.text (List.range 13) (sd [(0, .pure), (1, .pure), (2, .pure), (3, .eff), (4, .pure), (5, .pure), (6, .pure), (7, .pure), (8, .pure), (9, .pure), (10, .pure), (11, .pure), (12, .pure)]) rfl ?_
    refine Rg.pure rfl rfl rfl (Pv.move rfl) ?_
    refine Rg.pure rfl rfl rfl (Pv.eql rfl rfl) ?_
    refine Rg.pure rfl rfl rfl (Pv.move rfl) ?_
    refine Rg.callP rfl rfl rfl (run_callF rfl) (downD_spec hD39 frz_sb) ?_
    rintro _ rfl
    refine Rg.pure rfl rfl rfl (Pv.neqB rfl rfl) ?_
    refine Rg.pure rfl rfl rfl (Pv.move rfl) ?_
    refine Rg.split (t := 45) rfl (fun h45 => absurd h45 (by rw [hdn]; simp)) (fun h45 => ?_)
    refine Rg.pure rfl rfl rfl (Pv.move rfl) ?_
    refine Rg.pure rfl rfl rfl (Pv.neq rfl rfl) ?_
    refine Rg.pure rfl rfl rfl (Pv.move rfl) ?_
    refine Rg.split (t := 48) rfl (fun h48 => ?_) (fun h48 => ?_)
    ·
      simp only [bne_iff_ne, ne_eq] at h48
      refine Rg.pure rfl rfl rfl (Pv.move rfl) ?_
      refine Rg.pure rfl rfl rfl (Pv.neq rfl rfl) ?_
      refine Rg.pure rfl rfl rfl (Pv.pickT rfl rfl) ?_
      refine Rg.pure rfl rfl rfl (Pv.pickF rfl rfl) ?_
      refine Rg.nil ?_
      refine Vc.cond rfl (fun h52 => absurd h52 (by rw [he07.resolve_left h48]; decide)) (fun h52 => ?_)
      refine Vc.skip ?_
      refine Vc.seq ?_
      refine Vc.text (List.range 2) (sd [(0, .pure), (1, .eff)]) rfl ?_
      refine Rg.pure rfl rfl rfl (Pv.move rfl) ?_
      refine Rg.callH rfl rfl rfl (run_callF rfl) (fun F' hF' => arm_w (F := F') hD39 hw39 0 (by omega) Arg.nilB (by simp)) rfl ?_
      rintro v54 s54 ⟨hD54, hw54⟩
      refine Rg.nil ?_
      refine Vc.seq ?_
      refine Vc.text (List.range 2) (sd [(0, .pure), (1, .eff)]) rfl ?_
      refine Rg.pure rfl rfl rfl (Pv.move rfl) ?_
      refine Rg.callH rfl rfl rfl (run_callF rfl) (fun F' hF' => restart_w (F := F') hD54 hw54) rfl ?_
      rintro v56 s56 ⟨hD56, hw56⟩
      refine Rg.nil ?_
      refine Vc.seq ?_
      refine Vc.text (List.range 7) (sd [(0, .pure), (1, .eff), (2, .pure), (3, .pure), (4, .pure), (5, .pure), (6, .pure)]) rfl ?_
      refine Rg.pure rfl rfl rfl (Pv.move rfl) ?_
      refine Rg.callH rfl rfl rfl (run_callF rfl) (fun F' hF' => read_down (F := F') (l := l) (e := e) hD56 hw56 (by omega) (by omega) ⟨rfl, rfl⟩ hI hfl) rfl ?_
      rintro _ _ ⟨u59, q59, s59, e2, L, rfl, rfl, own59, hr1, hr2, hr3⟩
      rw [List.append_assoc]
      obtain ⟨p59, c59, rfl⟩ := own59.shape
      refine Rg.pure rfl rfl rfl (Pv.move rfl) ?_
      refine Rg.pure rfl rfl rfl (Pv.extract rfl rfl) ?_
      refine Rg.pure rfl rfl rfl (Pv.extract rfl rfl) ?_
      refine Rg.pure rfl rfl rfl (Pv.assign rfl) ?_
      refine Rg.pure rfl rfl rfl (Pv.assign rfl) ?_
      refine Rg.nil ?_
      refine Vc.seq ?_
      refine Vc.seq ?_
      refine Vc.text (List.range 2) (sd [(0, .pure), (1, .pure)]) rfl ?_
      refine Rg.pure rfl rfl rfl (Pv.move rfl) ?_
      refine Rg.pure rfl rfl rfl (Pv.eql rfl rfl) ?_
      refine Rg.nil ?_
      refine Vc.cond rfl (fun h63 => ?_) (fun h63 => ?_)
      ·
        simp only [beq_iff_eq] at h63
        obtain ⟨rfl, rfl⟩ := hr1 h63
        refine Vc.seq ?_
        refine Vc.text (List.range 11) (sd [(0, .pure), (1, .pure), (2, .pure), (3, .pure), (4, .pure), (5, .pure), (6, .pure), (7, .pure), (8, .eff), (9, .pure), (10, .pure)]) rfl ?_
        refine Rg.pure rfl rfl rfl (Pv.move rfl) ?_
        refine Rg.pure rfl rfl rfl (Pv.move rfl) ?_
        refine Rg.split (t := 65) rfl (fun h65 => ?_) (fun h65 => absurd h65 (by decide))
        refine Rg.pure rfl rfl rfl (Pv.move rfl) ?_
        refine Rg.pure rfl rfl rfl (Pv.eql rfl rfl) ?_
        refine Rg.pure rfl rfl rfl (Pv.pickT rfl rfl) ?_
        refine Rg.pure rfl rfl rfl (Pv.move rfl) ?_
        refine Rg.split (t := 69) rfl (fun h69 => ?_) (fun h69 => absurd h69 (by decide))
        refine Rg.pure rfl rfl rfl (Pv.move rfl) ?_
        refine Rg.pure rfl rfl rfl (Pv.move rfl) ?_
        refine Rg.callP rfl rfl rfl (run_callF rfl) (same_spec (Arg.own own59 frz_sb) (Arg.own own16 frz_sb) (by omega) (by omega)) ?_
        rintro _ rfl
        refine Rg.pure rfl rfl rfl (Pv.pickT rfl rfl) ?_
        refine Rg.pure rfl rfl rfl (Pv.assign rfl) ?_
        refine Rg.nil ?_
        refine Vc.ret (Vc.rets rfl (.cons (.tmp rfl) (.nil)) ?_)
        exact congrArg Value.bool (by simp)
      ·
        refine Vc.skip ?_
        refine Vc.seq ?_
        refine Vc.seq ?_
        refine Vc.text (List.range 2) (sd [(0, .pure), (1, .pure)]) rfl ?_
        refine Rg.pure rfl rfl rfl (Pv.move rfl) ?_
        refine Rg.pure rfl rfl rfl (Pv.neq rfl rfl) ?_
        refine Rg.nil ?_
        refine Vc.cond rfl (fun h75 => ?_) (fun h75 => ?_)
        ·
          simp only [bne_iff_ne, ne_eq] at h75
          obtain ⟨rfl, h42⟩ := hr2 (by omega)
          refine Vc.seq ?_
          refine Vc.text (List.range 15) (sd [(0, .pure), (1, .pure), (2, .pure), (3, .pure), (4, .pure), (5, .pure), (6, .pure), (7, .pure), (8, .pure), (9, .pure), (10, .pure), (11, .pure), (12, .pure), (13, .pure), (14, .pure)]) rfl ?_
          refine Rg.pure rfl rfl rfl (Pv.move rfl) ?_
          refine Rg.pure rfl rfl rfl (Pv.move rfl) ?_
          refine Rg.split (t := 77) rfl (fun h77 => ?_) (fun h77 => absurd h77 (by decide))
          refine Rg.pure rfl rfl rfl (Pv.move rfl) ?_
          refine Rg.pure rfl rfl rfl (Pv.lenS rfl) ?_
          refine Rg.pure rfl rfl rfl (Pv.eql rfl rfl) ?_
          refine Rg.pure rfl rfl rfl (Pv.pickT rfl rfl) ?_
          refine Rg.pure rfl rfl rfl (Pv.move rfl) ?_
          refine Rg.split (t := 82) rfl (fun h82 => ?_) (fun h82 => absurd h82 (by decide))
          refine Rg.pure rfl rfl rfl (Pv.move rfl) ?_
          refine Rg.pure rfl rfl rfl (Pv.eql rfl rfl) ?_
          refine Rg.pure rfl rfl rfl (Pv.move rfl) ?_
          refine Rg.split (t := 85) rfl (fun h85 => ?_) (fun h85 => ?_)
          ·
            iterate 2 (first | refine Rg.skipP rfl rfl rfl ?_ | refine Rg.skipR rfl rfl rfl ?_ | refine Rg.skipE rfl rfl rfl ?_)
            refine Rg.pure rfl rfl rfl (Pv.pickT rfl rfl) ?_
            refine Rg.pure rfl rfl rfl (Pv.pickT rfl rfl) ?_
            refine Rg.pure rfl rfl rfl (Pv.assign rfl) ?_
            refine Rg.nil ?_
            refine Vc.ret (Vc.rets rfl (.cons (.tmp rfl) (.nil)) ?_)
            rfl
          ·
            simp only [beq_eq_false_iff_ne, ne_eq] at h85
            refine Rg.pure rfl rfl rfl (Pv.move rfl) ?_
            refine Rg.pure rfl rfl rfl (Pv.eql rfl rfl) ?_
            refine Rg.pure rfl rfl rfl (Pv.pickF rfl rfl) ?_
            refine Rg.pure rfl rfl rfl (Pv.pickT rfl rfl) ?_
            refine Rg.pure rfl rfl rfl (Pv.assign rfl) ?_
            refine Rg.nil ?_
            refine Vc.ret (Vc.rets rfl (.cons (.tmp rfl) (.nil)) ?_)
            exact congrArg Value.bool (by rw [beq_iff_eq]; omega)
        ·
          simp only [bne_eq_false_iff_eq] at h75
          obtain ⟨j, hj⟩ := hr3 (by omega)
          have hLl : L.length ≤ l.length := by rw [hj, List.length_take]; omega
          have hLt : l.take L.length = L := by rw [hj, List.length_take, List.take_eq_take_iff]; omega
          refine Vc.skip ?_
          refine Vc.seq ?_
          refine Vc.text (List.range 17) (sd [(0, .pure), (1, .pure), (2, .pure), (3, .pure), (4, .pure), (5, .pure), (6, .pure), (7, .pure), (8, .pure), (9, .pure), (10, .pure), (11, .pure), (12, .pure), (13, .pure), (14, .eff), (15, .pure), (16, .pure)]) rfl ?_
          refine Rg.pure rfl rfl rfl (Pv.move rfl) ?_
          refine Rg.pure rfl rfl rfl (Pv.move rfl) ?_
          refine Rg.split (t := 91) rfl (fun h91 => ?_) (fun h91 => absurd h91 (by decide))
          refine Rg.pure rfl rfl rfl (Pv.move rfl) ?_
          refine Rg.pure rfl rfl rfl (Pv.lenS rfl) ?_
          refine Rg.pure rfl rfl rfl (Pv.move rfl) ?_
          refine Rg.pure rfl rfl rfl (Pv.lenS rfl) ?_
          refine Rg.pure rfl rfl rfl (Pv.leq rfl rfl) ?_
          refine Rg.pure rfl rfl rfl (Pv.pickT rfl rfl) ?_
          refine Rg.pure rfl rfl rfl (Pv.move rfl) ?_
          refine Rg.split (t := 98) rfl (fun h98 => ?_) (fun h98 => absurd h98 (by simp only [decide_eq_false_iff_not]; omega))
          refine Rg.pure rfl rfl rfl (Pv.move rfl) ?_
          refine Rg.pure rfl rfl rfl (Pv.move rfl) ?_
          refine Rg.pure rfl rfl rfl (Pv.move rfl) ?_
          refine Rg.pure rfl rfl rfl (Pv.lenS rfl) ?_
          refine Rg.pure rfl rfl rfl (Pv.slTo (L.length) rfl rfl (by omega)) ?_
          refine Rg.callP rfl rfl rfl (run_callF rfl) (same_spec (Arg.own own59 frz_sb) ((Arg.own own16 frz_sb).take hLl) (by omega) (by simp; omega)) ?_
          rintro _ rfl
          refine Rg.pure rfl rfl rfl (Pv.pickT rfl rfl) ?_
          refine Rg.pure rfl rfl rfl (Pv.assign rfl) ?_
          refine Rg.nil ?_
          refine Vc.ret (Vc.rets rfl (.cons (.tmp rfl) (.nil)) ?_)
          exact congrArg Value.bool (by simp [hLt])
    ·
      iterate 2 (first | refine Rg.skipP rfl rfl rfl ?_ | refine Rg.skipR rfl rfl rfl ?_ | refine Rg.skipE rfl rfl rfl ?_)
      refine Rg.pure rfl rfl rfl (Pv.pickF rfl rfl) ?_
      refine Rg.pure rfl rfl rfl (Pv.pickF rfl rfl) ?_
      refine Rg.nil ?_
      refine Vc.cond rfl (fun h52 => absurd h52 (by decide)) (fun h52 => ?_)
      refine Vc.skip ?_
      refine Vc.seq ?_
      refine Vc.text (List.range 2) (sd [(0, .pure), (1, .eff)]) rfl ?_
      refine Rg.pure rfl rfl rfl (Pv.move rfl) ?_
      refine Rg.callH rfl rfl rfl (run_callF rfl) (fun F' hF' => arm_w (F := F') hD39 hw39 0 (by omega) Arg.nilB (by simp)) rfl ?_
      rintro v54 s54 ⟨hD54, hw54⟩
      refine Rg.nil ?_
      refine Vc.seq ?_
      refine Vc.text (List.range 2) (sd [(0, .pure), (1, .eff)]) rfl ?_
      refine Rg.pure rfl rfl rfl (Pv.move rfl) ?_
      refine Rg.callH rfl rfl rfl (run_callF rfl) (fun F' hF' => restart_w (F := F') hD54 hw54) rfl ?_
      rintro v56 s56 ⟨hD56, hw56⟩
      refine Rg.nil ?_
      refine Vc.seq ?_
      refine Vc.text (List.range 7) (sd [(0, .pure), (1, .eff), (2, .pure), (3, .pure), (4, .pure), (5, .pure), (6, .pure)]) rfl ?_
      refine Rg.pure rfl rfl rfl (Pv.move rfl) ?_
      refine Rg.callH rfl rfl rfl (run_callF rfl) (fun F' hF' => read_down (F := F') (l := l) (e := e) hD56 hw56 (by omega) (by omega) ⟨rfl, rfl⟩ hI hfl) rfl ?_
      rintro _ _ ⟨u59, q59, s59, e2, L, rfl, rfl, own59, hr1, hr2, hr3⟩
      rw [List.append_assoc]
      obtain ⟨p59, c59, rfl⟩ := own59.shape
      refine Rg.pure rfl rfl rfl (Pv.move rfl) ?_
      refine Rg.pure rfl rfl rfl (Pv.extract rfl rfl) ?_
      refine Rg.pure rfl rfl rfl (Pv.extract rfl rfl) ?_
      refine Rg.pure rfl rfl rfl (Pv.assign rfl) ?_
      refine Rg.pure rfl rfl rfl (Pv.assign rfl) ?_
      refine Rg.nil ?_
      refine Vc.seq ?_
      refine Vc.seq ?_
      refine Vc.text (List.range 2) (sd [(0, .pure), (1, .pure)]) rfl ?_
      refine Rg.pure rfl rfl rfl (Pv.move rfl) ?_
      refine Rg.pure rfl rfl rfl (Pv.eql rfl rfl) ?_
      refine Rg.nil ?_
      refine Vc.cond rfl (fun h63 => ?_) (fun h63 => ?_)
      ·
        simp only [beq_iff_eq] at h63
        obtain ⟨rfl, rfl⟩ := hr1 h63
        refine Vc.seq ?_
        refine Vc.text (List.range 11) (sd [(0, .pure), (1, .pure), (2, .pure), (3, .pure), (4, .pure), (5, .pure), (6, .pure), (7, .pure), (8, .eff), (9, .pure), (10, .pure)]) rfl ?_
        refine Rg.pure rfl rfl rfl (Pv.move rfl) ?_
        refine Rg.pure rfl rfl rfl (Pv.move rfl) ?_
        refine Rg.split (t := 65) rfl (fun h65 => ?_) (fun h65 => absurd h65 (by decide))
        refine Rg.pure rfl rfl rfl (Pv.move rfl) ?_
        refine Rg.pure rfl rfl rfl (Pv.eql rfl rfl) ?_
        refine Rg.pure rfl rfl rfl (Pv.pickT rfl rfl) ?_
        refine Rg.pure rfl rfl rfl (Pv.move rfl) ?_
        refine Rg.split (t := 69) rfl (fun h69 => ?_) (fun h69 => absurd h69 (by decide))
        refine Rg.pure rfl rfl rfl (Pv.move rfl) ?_
        refine Rg.pure rfl rfl rfl (Pv.move rfl) ?_
        refine Rg.callP rfl rfl rfl (run_callF rfl) (same_spec (Arg.own own59 frz_sb) (Arg.own own16 frz_sb) (by omega) (by omega)) ?_
        rintro _ rfl
        refine Rg.pure rfl rfl rfl (Pv.pickT rfl rfl) ?_
        refine Rg.pure rfl rfl rfl (Pv.assign rfl) ?_
        refine Rg.nil ?_
        refine Vc.ret (Vc.rets rfl (.cons (.tmp rfl) (.nil)) ?_)
        exact congrArg Value.bool (by simp)
      ·
        refine Vc.skip ?_
        refine Vc.seq ?_
        refine Vc.seq ?_
        refine Vc.text (List.range 2) (sd [(0, .pure), (1, .pure)]) rfl ?_
        refine Rg.pure rfl rfl rfl (Pv.move rfl) ?_
        refine Rg.pure rfl rfl rfl (Pv.neq rfl rfl) ?_
        refine Rg.nil ?_
        refine Vc.cond rfl (fun h75 => ?_) (fun h75 => ?_)
        ·
          simp only [bne_iff_ne, ne_eq] at h75
          obtain ⟨rfl, h42⟩ := hr2 (by omega)
          refine Vc.seq ?_
          refine Vc.text (List.range 15) (sd [(0, .pure), (1, .pure), (2, .pure), (3, .pure), (4, .pure), (5, .pure), (6, .pure), (7, .pure), (8, .pure), (9, .pure), (10, .pure), (11, .pure), (12, .pure), (13, .pure), (14, .pure)]) rfl ?_
          refine Rg.pure rfl rfl rfl (Pv.move rfl) ?_
          refine Rg.pure rfl rfl rfl (Pv.move rfl) ?_
          refine Rg.split (t := 77) rfl (fun h77 => ?_) (fun h77 => absurd h77 (by decide))
          refine Rg.pure rfl rfl rfl (Pv.move rfl) ?_
          refine Rg.pure rfl rfl rfl (Pv.lenS rfl) ?_
          refine Rg.pure rfl rfl rfl (Pv.eql rfl rfl) ?_
          refine Rg.pure rfl rfl rfl (Pv.pickT rfl rfl) ?_
          refine Rg.pure rfl rfl rfl (Pv.move rfl) ?_
          refine Rg.split (t := 82) rfl (fun h82 => ?_) (fun h82 => absurd h82 (by decide))
          refine Rg.pure rfl rfl rfl (Pv.move rfl) ?_
          refine Rg.pure rfl rfl rfl (Pv.eql rfl rfl) ?_
          refine Rg.pure rfl rfl rfl (Pv.move rfl) ?_
          refine Rg.split (t := 85) rfl (fun h85 => ?_) (fun h85 => ?_)
          ·
            iterate 2 (first | refine Rg.skipP rfl rfl rfl ?_ | refine Rg.skipR rfl rfl rfl ?_ | refine Rg.skipE rfl rfl rfl ?_)
            refine Rg.pure rfl rfl rfl (Pv.pickT rfl rfl) ?_
            refine Rg.pure rfl rfl rfl (Pv.pickT rfl rfl) ?_
            refine Rg.pure rfl rfl rfl (Pv.assign rfl) ?_
            refine Rg.nil ?_
            refine Vc.ret (Vc.rets rfl (.cons (.tmp rfl) (.nil)) ?_)
            rfl
          ·
            simp only [beq_eq_false_iff_ne, ne_eq] at h85
            refine Rg.pure rfl rfl rfl (Pv.move rfl) ?_
            refine Rg.pure rfl rfl rfl (Pv.eql rfl rfl) ?_
            refine Rg.pure rfl rfl rfl (Pv.pickF rfl rfl) ?_
            refine Rg.pure rfl rfl rfl (Pv.pickT rfl rfl) ?_
            refine Rg.pure rfl rfl rfl (Pv.assign rfl) ?_
            refine Rg.nil ?_
            refine Vc.ret (Vc.rets rfl (.cons (.tmp rfl) (.nil)) ?_)
            exact congrArg Value.bool (by rw [beq_iff_eq]; omega)
        ·
          simp only [bne_eq_false_iff_eq] at h75
          obtain ⟨j, hj⟩ := hr3 (by omega)
          have hLl : L.length ≤ l.length := by rw [hj, List.length_take]; omega
          have hLt : l.take L.length = L := by rw [hj, List.length_take, List.take_eq_take_iff]; omega
          refine Vc.skip ?_
          refine Vc.seq ?_
          refine Vc.text (List.range 17) (sd [(0, .pure), (1, .pure), (2, .pure), (3, .pure), (4, .pure), (5, .pure), (6, .pure), (7, .pure), (8, .pure), (9, .pure), (10, .pure), (11, .pure), (12, .pure), (13, .pure), (14, .eff), (15, .pure), (16, .pure)]) rfl ?_
          refine Rg.pure rfl rfl rfl (Pv.move rfl) ?_
          refine Rg.pure rfl rfl rfl (Pv.move rfl) ?_
          refine Rg.split (t := 91) rfl (fun h91 => ?_) (fun h91 => absurd h91 (by decide))
          refine Rg.pure rfl rfl rfl (Pv.move rfl) ?_
          refine Rg.pure rfl rfl rfl (Pv.lenS rfl) ?_
          refine Rg.pure rfl rfl rfl (Pv.move rfl) ?_
          refine Rg.pure rfl rfl rfl (Pv.lenS rfl) ?_
          refine Rg.pure rfl rfl rfl (Pv.leq rfl rfl) ?_
          refine Rg.pure rfl rfl rfl (Pv.pickT rfl rfl) ?_
          refine Rg.pure rfl rfl rfl (Pv.move rfl) ?_
          refine Rg.split (t := 98) rfl (fun h98 => ?_) (fun h98 => absurd h98 (by simp only [decide_eq_false_iff_not]; omega))
          refine Rg.pure rfl rfl rfl (Pv.move rfl) ?_
          refine Rg.pure rfl rfl rfl (Pv.move rfl) ?_
          refine Rg.pure rfl rfl rfl (Pv.move rfl) ?_
          refine Rg.pure rfl rfl rfl (Pv.lenS rfl) ?_
          refine Rg.pure rfl rfl rfl (Pv.slTo (L.length) rfl rfl (by omega)) ?_
          refine Rg.callP rfl rfl rfl (run_callF rfl) (same_spec (Arg.own own59 frz_sb) ((Arg.own own16 frz_sb).take hLl) (by omega) (by simp; omega)) ?_
          rintro _ rfl
          refine Rg.pure rfl rfl rfl (Pv.pickT rfl rfl) ?_
          refine Rg.pure rfl rfl rfl (Pv.assign rfl) ?_
          refine Rg.nil ?_
          refine Vc.ret (Vc.rets rfl (.cons (.tmp rfl) (.nil)) ?_)
          exact congrArg Value.bool (by simp [hLt])
end Go.Proofs.Ytbhaahohaccecaa
