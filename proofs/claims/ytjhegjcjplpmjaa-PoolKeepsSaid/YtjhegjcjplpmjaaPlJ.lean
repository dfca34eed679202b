/- Pools: ReadAt, WriteAt. -/
import Derived.Test.YtjhegjcjplpmjaaPlH
namespace Go.Proofs.Ytjhegjcjplpmjaa
set_option linter.unusedVariables false

section
variable {F : Fm} {pb db fr ck n : Nat} {O : List UInt8 → Option (List UInt8)} {L : List Pl} {P : List (Pl × Pg)} {D : Dk} {s1 s2 : Hl}
/-- may a part be asked for, of so many bytes? -/
def mayP (m at_ q : Int) : Prop := 0 ≤ at_ ∧ 0 ≤ q ∧ at_ ≤ m ∧ q ≤ m - at_
theorem each_no (hP : PoolAt pb db fr ck L P s1) (hD : DiskAt db D s2) (hw : Dq n D) (hn : n < 1000) (nm : List UInt8) {m e res : Int} (hE : sizeD D nm = (m, e)) (hm : 0 ≤ m ∧ m ≤ 1000000) (at_ q : Int) (hr : (e ≠ 0 ∧ res = e) ∨ (e = 0 ∧ ¬ mayP m at_ q ∧ res = 1)) (fv : Value) (hc0 : Hl) :
    Spec Try.prog 28 #[.pointer (some ⟨pb, 0, none⟩), kS nm, .int .i64 at_, .int .i64 q, fv] F (s1 ++ (s2 ++ hc0)) fun v s' => ∃ h1 h2, v = .int .i64 res ∧ s' = h1 ++ (h2 ++ hc0) ∧ PoolAt pb db fr ck L P h1 ∧ DiskAt db (beginsD D).2 h2 ∧ Dq (n + 1) (beginsD D).2 := by
  obtain ⟨cb, mb, mc, ms, sc, hp, hC, hpg, hnd, hbn, hold, hperm⟩ := hP
  refine Spec.perm ?_ (perm_pool _ _ _ _ _ _ hperm)
  have hPA : PoolAt pb db fr ck L P ((pb, cellsO [.pointer (some ⟨db, 0, none⟩), .pointer (some ⟨cb, 0, none⟩), .map (some mb)] 57) :: (mb, mapO plV ms mc) :: (sc ++ hp)) := ⟨cb, mb, mc, ms, sc, hp, hC, hpg, hnd, hbn, hold, .refl _⟩
  unfold mayP at hr
  refine Spec.of (n := 100) (vs := [.pointer (some ⟨pb, 0, none⟩), kS nm, .int .i64 at_, .int .i64 q, fv]) Try.func28 rfl Try.ntmps28 rfl ?_
  refine Vc.seq ?_
  refine Vc.text (List.range 1) (sd [(0, .pure)]) rfl ?_
  refine Rg.pure rfl rfl rfl (Pv.assign rfl) ?_
  refine Rg.nil ?_
  refine Vc.seq ?_
  refine Vc.text (List.range 11) (sd [(0, .pure), (1, .pure), (2, .pure), (3, .read), (4, .pure), (5, .eff), (6, .pure), (7, .pure), (8, .pure), (9, .pure), (10, .pure)]) rfl ?_
  refine Rg.pure rfl rfl rfl (Pv.move rfl) ?_
  refine Rg.pure rfl rfl rfl (Pv.nilp rfl) ?_
  refine Rg.pure rfl rfl rfl (Pv.fa rfl) ?_
  refine Rg.read rfl rfl rfl (Ev.ld rfl rfl) ?_
  refine Rg.pure rfl rfl rfl (Pv.move rfl) ?_
  refine Rg.callH rfl rfl rfl (run_callF rfl) (fun F' hF' => size_w (F := F') hD hw (by omega) (by omega) nm hE rfl) rfl ?_
  rintro _ s25 ⟨rfl, hD25, hw25⟩
  refine Rg.pure rfl rfl rfl (Pv.move rfl) ?_
  refine Rg.pure rfl rfl rfl (Pv.extract rfl rfl) ?_
  refine Rg.pure rfl rfl rfl (Pv.extract rfl rfl) ?_
  refine Rg.pure rfl rfl rfl (Pv.assign rfl) ?_
  refine Rg.pure rfl rfl rfl (Pv.assign rfl) ?_
  refine Rg.nil ?_
  refine Vc.seq ?_
  refine Vc.seq ?_
  refine Vc.text (List.range 2) (sd [(0, .pure), (1, .pure)]) rfl ?_
  refine Rg.pure rfl rfl rfl (Pv.move rfl) ?_
  refine Rg.pure rfl rfl rfl (Pv.neq rfl rfl) ?_
  refine Rg.nil ?_
  refine Vc.cond rfl (fun h29 => ?_) (fun h29 => ?_)
  ·
    simp only [bne_iff_ne, ne_eq] at h29
    have hres : res = e := by omega
    refine Vc.seq ?_
    refine Vc.text (List.range 2) (sd [(0, .pure), (1, .pure)]) rfl ?_
    refine Rg.pure rfl rfl rfl (Pv.move rfl) ?_
    refine Rg.pure rfl rfl rfl (Pv.assign rfl) ?_
    refine Rg.nil ?_
    exact Vc.ret (Vc.retsH (hl' := (pb, cellsO [.pointer (some ⟨db, 0, none⟩), .pointer (some ⟨cb, 0, none⟩), .map (some mb)] 57) :: (mb, mapO plV ms mc) :: (sc ++ (hp ++ (s25 ++ hc0)))) rfl (.cons (.tmp rfl) .nil) ⟨(pb, cellsO [.pointer (some ⟨db, 0, none⟩), .pointer (some ⟨cb, 0, none⟩), .map (some mb)] 57) :: (mb, mapO plV ms mc) :: (sc ++ hp), s25, (by rw [hres]; rfl), by simp, hPA, hD25, hw25.mono (by omega) (by omega)⟩ pulled)
  ·
    simp only [bne_eq_false_iff_eq] at h29
    have hres : res = 1 := by omega
    refine Vc.skip ?_
    refine Vc.seq ?_
    refine Vc.seq ?_
    refine Vc.text (List.range 18) (sd [(0, .pure), (1, .pure), (2, .pure), (3, .pure), (4, .pure), (5, .pure), (6, .pure), (7, .pure), (8, .pure), (9, .pure), (10, .pure), (11, .pure), (12, .pure), (13, .pure), (14, .pure), (15, .pure), (16, .pure), (17, .pure)]) rfl ?_
    refine Rg.pure rfl rfl rfl (Pv.move rfl) ?_
    refine Rg.pure rfl rfl rfl (Pv.lss rfl rfl) ?_
    refine Rg.pure rfl rfl rfl (Pv.move rfl) ?_
    refine Rg.split (t := 33) rfl (fun h33 => ?_) (fun h33 => ?_)
    ·
      iterate 2 (first | refine Rg.skipP rfl rfl rfl ?_ | refine Rg.skipR rfl rfl rfl ?_ | refine Rg.skipE rfl rfl rfl ?_)
      refine Rg.pure rfl rfl rfl (Pv.pickT rfl rfl) ?_
      refine Rg.pure rfl rfl rfl (Pv.move rfl) ?_
      iterate 3 (first | refine Rg.skipP rfl rfl rfl ?_ | refine Rg.skipR rfl rfl rfl ?_ | refine Rg.skipE rfl rfl rfl ?_)
      refine Rg.pure rfl rfl rfl (Pv.pickT rfl rfl) ?_
      refine Rg.pure rfl rfl rfl (Pv.move rfl) ?_
      iterate 5 (first | refine Rg.skipP rfl rfl rfl ?_ | refine Rg.skipR rfl rfl rfl ?_ | refine Rg.skipE rfl rfl rfl ?_)
      refine Rg.pure rfl rfl rfl (Pv.pickT rfl rfl) ?_
      refine Rg.nil ?_
      refine Vc.cond rfl (fun h48 => ?_) (fun h48 => absurd h48 (by (simp <;> omega)))
      refine Vc.seq ?_
      refine Vc.text (List.range 1) (sd [(0, .pure)]) rfl ?_
      refine Rg.pure rfl rfl rfl (Pv.assign rfl) ?_
      refine Rg.nil ?_
      exact Vc.ret (Vc.retsH (hl' := (pb, cellsO [.pointer (some ⟨db, 0, none⟩), .pointer (some ⟨cb, 0, none⟩), .map (some mb)] 57) :: (mb, mapO plV ms mc) :: (sc ++ (hp ++ (s25 ++ hc0)))) rfl (.cons (.tmp rfl) .nil) ⟨(pb, cellsO [.pointer (some ⟨db, 0, none⟩), .pointer (some ⟨cb, 0, none⟩), .map (some mb)] 57) :: (mb, mapO plV ms mc) :: (sc ++ hp), s25, (by rw [hres]; rfl), by simp, hPA, hD25, hw25.mono (by omega) (by omega)⟩ pulled)
    ·
      simp only [decide_eq_false_iff_not] at h33
      refine Rg.pure rfl rfl rfl (Pv.move rfl) ?_
      refine Rg.pure rfl rfl rfl (Pv.lss rfl rfl) ?_
      refine Rg.pure rfl rfl rfl (Pv.pickF rfl rfl) ?_
      refine Rg.pure rfl rfl rfl (Pv.move rfl) ?_
      refine Rg.split (t := 37) rfl (fun h37 => ?_) (fun h37 => ?_)
      ·
        iterate 3 (first | refine Rg.skipP rfl rfl rfl ?_ | refine Rg.skipR rfl rfl rfl ?_ | refine Rg.skipE rfl rfl rfl ?_)
        refine Rg.pure rfl rfl rfl (Pv.pickT rfl rfl) ?_
        refine Rg.pure rfl rfl rfl (Pv.move rfl) ?_
        iterate 5 (first | refine Rg.skipP rfl rfl rfl ?_ | refine Rg.skipR rfl rfl rfl ?_ | refine Rg.skipE rfl rfl rfl ?_)
        refine Rg.pure rfl rfl rfl (Pv.pickT rfl rfl) ?_
        refine Rg.nil ?_
        refine Vc.cond rfl (fun h48 => ?_) (fun h48 => absurd h48 (by (simp <;> omega)))
        refine Vc.seq ?_
        refine Vc.text (List.range 1) (sd [(0, .pure)]) rfl ?_
        refine Rg.pure rfl rfl rfl (Pv.assign rfl) ?_
        refine Rg.nil ?_
        exact Vc.ret (Vc.retsH (hl' := (pb, cellsO [.pointer (some ⟨db, 0, none⟩), .pointer (some ⟨cb, 0, none⟩), .map (some mb)] 57) :: (mb, mapO plV ms mc) :: (sc ++ (hp ++ (s25 ++ hc0)))) rfl (.cons (.tmp rfl) .nil) ⟨(pb, cellsO [.pointer (some ⟨db, 0, none⟩), .pointer (some ⟨cb, 0, none⟩), .map (some mb)] 57) :: (mb, mapO plV ms mc) :: (sc ++ hp), s25, (by rw [hres]; rfl), by simp, hPA, hD25, hw25.mono (by omega) (by omega)⟩ pulled)
      ·
        simp only [decide_eq_false_iff_not] at h37
        refine Rg.pure rfl rfl rfl (Pv.move rfl) ?_
        refine Rg.pure rfl rfl rfl (Pv.move rfl) ?_
        refine Rg.pure rfl rfl rfl (Pv.gtr rfl rfl) ?_
        refine Rg.pure rfl rfl rfl (Pv.pickF rfl rfl) ?_
        refine Rg.pure rfl rfl rfl (Pv.move rfl) ?_
        refine Rg.split (t := 42) rfl (fun h42 => ?_) (fun h42 => ?_)
        ·
          iterate 5 (first | refine Rg.skipP rfl rfl rfl ?_ | refine Rg.skipR rfl rfl rfl ?_ | refine Rg.skipE rfl rfl rfl ?_)
          refine Rg.pure rfl rfl rfl (Pv.pickT rfl rfl) ?_
          refine Rg.nil ?_
          refine Vc.cond rfl (fun h48 => ?_) (fun h48 => absurd h48 (by (simp <;> omega)))
          refine Vc.seq ?_
          refine Vc.text (List.range 1) (sd [(0, .pure)]) rfl ?_
          refine Rg.pure rfl rfl rfl (Pv.assign rfl) ?_
          refine Rg.nil ?_
          exact Vc.ret (Vc.retsH (hl' := (pb, cellsO [.pointer (some ⟨db, 0, none⟩), .pointer (some ⟨cb, 0, none⟩), .map (some mb)] 57) :: (mb, mapO plV ms mc) :: (sc ++ (hp ++ (s25 ++ hc0)))) rfl (.cons (.tmp rfl) .nil) ⟨(pb, cellsO [.pointer (some ⟨db, 0, none⟩), .pointer (some ⟨cb, 0, none⟩), .map (some mb)] 57) :: (mb, mapO plV ms mc) :: (sc ++ hp), s25, (by rw [hres]; rfl), by simp, hPA, hD25, hw25.mono (by omega) (by omega)⟩ pulled)
        ·
          simp only [decide_eq_false_iff_not] at h42
          refine Rg.pure rfl rfl rfl (Pv.move rfl) ?_
          refine Rg.pure rfl rfl rfl (Pv.move rfl) ?_
          refine Rg.pure rfl rfl rfl (Pv.move rfl) ?_
          refine Rg.pure rfl rfl rfl (Pv.sub rfl rfl (by omega)) ?_
          refine Rg.pure rfl rfl rfl (Pv.gtr rfl rfl) ?_
          refine Rg.pure rfl rfl rfl (Pv.pickF rfl rfl) ?_
          refine Rg.nil ?_
          refine Vc.cond rfl (fun h48 => ?_) (fun h48 => absurd h48 (by (simp <;> omega)))
          refine Vc.seq ?_
          refine Vc.text (List.range 1) (sd [(0, .pure)]) rfl ?_
          refine Rg.pure rfl rfl rfl (Pv.assign rfl) ?_
          refine Rg.nil ?_
          exact Vc.ret (Vc.retsH (hl' := (pb, cellsO [.pointer (some ⟨db, 0, none⟩), .pointer (some ⟨cb, 0, none⟩), .map (some mb)] 57) :: (mb, mapO plV ms mc) :: (sc ++ (hp ++ (s25 ++ hc0)))) rfl (.cons (.tmp rfl) .nil) ⟨(pb, cellsO [.pointer (some ⟨db, 0, none⟩), .pointer (some ⟨cb, 0, none⟩), .map (some mb)] 57) :: (mb, mapO plV ms mc) :: (sc ++ hp), s25, (by rw [hres]; rfl), by simp, hPA, hD25, hw25.mono (by omega) (by omega)⟩ pulled)
theorem read_good (hP : PoolAt pb db fr ck L P s1) (hD : DiskAt db D s2) (hw : Dq n D) (hn : n < 980) (hI : PInv O fr D L P) (hck : ck ≤ n) (hfr : 1 ≤ fr ∧ fr ≤ 1000) (hsm : ∀ nm own, O nm = some own → own.length ≤ 300) {nm own : List UInt8} (ho : O nm = some own) (at_ q : Nat) (haq : at_ + q ≤ own.length) :
    Spec Try.prog 13 #[.pointer (some ⟨pb, 0, none⟩), kS nm, .int .i64 (at_ : Int), .int .i64 (q : Int)] F (s1 ++ s2) fun v s' => ∃ u su h1 h2 L' P' D' ck' nq, v = .tuple #[u, .int .i64 0] ∧ Own byteE u ((own.drop at_).take q) su ∧ s' = su ++ (h1 ++ h2) ∧ PoolAt pb db fr ck' L' P' h1 ∧ DiskAt db D' h2 ∧ Dq nq D' ∧ nq ≤ n + 11 ∧ ck' ≤ nq ∧ PInv O fr D' L' P' ∧ (0 < q → 0 < P'.length) ∧ (∀ q x, (q, x) ∈ P' → x.dirty = true → (∃ x0, (q, x0) ∈ P ∧ x0.dirty = true) ∨ False) ∧
      (Few O fr → D'.files = D.files ∧ D'.ops - (P'.length : Int) = D.ops + 1 - (P.length : Int)) := by
  have hN := hsm _ _ ho
  refine Spec.of (n := 22) (vs := [.pointer (some ⟨pb, 0, none⟩), kS nm, .int .i64 (at_ : Int), .int .i64 (q : Int)]) Try.func13 rfl Try.ntmps13 rfl ?_
  refine Vc.seq ?_
  refine Vc.text (List.range 2) (sd [(0, .pure), (1, .pure)]) rfl ?_
  refine Rg.pure rfl rfl rfl (Pv.assign rfl) ?_
  refine Rg.pure rfl rfl rfl (Pv.assign rfl) ?_
  refine Rg.nil ?_
  refine Vc.seq ?_
  refine Vc.text (List.range 1) (sd [(0, .eff)]) rfl ?_
  refine Rg.alloc rfl rfl rfl rfl (fun b10 => ?_)
  refine Rg.nil ?_
  refine Vc.seq ?_
  refine Vc.text (List.range 7) (sd [(0, .pure), (1, .pure), (2, .pure), (3, .pure), (4, .pure), (5, .eff), (6, .pure)]) rfl ?_
  refine Rg.pure rfl rfl rfl (Pv.move rfl) ?_
  refine Rg.pure rfl rfl rfl (Pv.move rfl) ?_
  refine Rg.pure rfl rfl rfl (Pv.move rfl) ?_
  refine Rg.pure rfl rfl rfl (Pv.move rfl) ?_
  refine Rg.pure rfl rfl rfl (Pv.mkF rfl rfl) ?_
  refine Rg.callH rfl rfl rfl (run_callF rfl) (fun F' hF' => each_good (F := F') hP hD hw hn hI hck hfr hsm ho at_ q haq 29 [.pointer (some ⟨b10, 0, none⟩)] (fun _ => own) _ rfl (fun _ _ => rfl) (fun _ _ _ _ _ _ _ _ _ => rfl) (read_do F' own at_ q b10 hN) (hc0 := [(b10, cellsO [.slice none 0 0] 28)]) ⟨.slice none 0 0, [], Own.nil, rfl⟩) rfl ?_
  rintro _ _ ⟨h1, h2, hc, L', P', D', ck', nq, rfl, rfl, hP', hD', hw', hnq, hck', hI', ⟨vo, so, oo, rfl⟩, hf⟩
  rw [setO_self ho] at hI'
  simp only [List.append_assoc]
  refine Rg.pure rfl rfl rfl (Pv.assign rfl) ?_
  refine Rg.nil ?_
  refine Vc.seq ?_
  refine Vc.seq ?_
  refine Vc.text (List.range 2) (sd [(0, .pure), (1, .pure)]) rfl ?_
  refine Rg.pure rfl rfl rfl (Pv.move rfl) ?_
  refine Rg.pure rfl rfl rfl (Pv.neq rfl rfl) ?_
  refine Rg.nil ?_
  refine Vc.cond rfl (fun h19 => absurd h19 (by decide)) (fun h19 => ?_)
  refine Vc.skip ?_
  refine Vc.seq ?_
  refine Vc.text (List.range 3) (sd [(0, .read), (1, .pure), (2, .pure)]) rfl ?_
  refine Rg.read rfl rfl rfl (Ev.ld rfl rfl) ?_
  refine Rg.pure rfl rfl rfl (Pv.assign rfl) ?_
  refine Rg.pure rfl rfl rfl (Pv.assign rfl) ?_
  refine Rg.nil ?_
  exact Vc.ret (Vc.retsH (hl' := so ++ (h1 ++ h2)) rfl (.cons (.tmp rfl) (.cons (.tmp rfl) .nil)) ⟨vo, so, h1, h2, L', P', D', ck', nq, rfl, oo, rfl, hP', hD', hw', hnq, hck', hI', hf⟩ pulled)
theorem read_no (hP : PoolAt pb db fr ck L P s1) (hD : DiskAt db D s2) (hw : Dq n D) (hn : n < 1000) (nm : List UInt8) {m e res : Int} (hE : sizeD D nm = (m, e)) (hm : 0 ≤ m ∧ m ≤ 1000000) (at_ q : Int) (hr : (e ≠ 0 ∧ res = e) ∨ (e = 0 ∧ ¬ mayP m at_ q ∧ res = 1)) :
    Spec Try.prog 13 #[.pointer (some ⟨pb, 0, none⟩), kS nm, .int .i64 at_, .int .i64 q] F (s1 ++ s2) fun v s' => ∃ h1 h2, v = .tuple #[.slice none 0 0, .int .i64 res] ∧ s' = h1 ++ h2 ∧ PoolAt pb db fr ck L P h1 ∧ DiskAt db (beginsD D).2 h2 ∧ Dq (n + 1) (beginsD D).2 := by
  have hres : res ≠ 0 := by omega
  refine Spec.of (n := 22) (vs := [.pointer (some ⟨pb, 0, none⟩), kS nm, .int .i64 at_, .int .i64 q]) Try.func13 rfl Try.ntmps13 rfl ?_
  refine Vc.seq ?_
  refine Vc.text (List.range 2) (sd [(0, .pure), (1, .pure)]) rfl ?_
  refine Rg.pure rfl rfl rfl (Pv.assign rfl) ?_
  refine Rg.pure rfl rfl rfl (Pv.assign rfl) ?_
  refine Rg.nil ?_
  refine Vc.seq ?_
  refine Vc.text (List.range 1) (sd [(0, .eff)]) rfl ?_
  refine Rg.alloc rfl rfl rfl rfl (fun b10 => ?_)
  refine Rg.nil ?_
  refine Vc.seq ?_
  refine Vc.text (List.range 7) (sd [(0, .pure), (1, .pure), (2, .pure), (3, .pure), (4, .pure), (5, .eff), (6, .pure)]) rfl ?_
  refine Rg.pure rfl rfl rfl (Pv.move rfl) ?_
  refine Rg.pure rfl rfl rfl (Pv.move rfl) ?_
  refine Rg.pure rfl rfl rfl (Pv.move rfl) ?_
  refine Rg.pure rfl rfl rfl (Pv.move rfl) ?_
  refine Rg.pure rfl rfl rfl (Pv.mkF rfl rfl) ?_
  refine Rg.callH rfl rfl rfl (run_callF rfl) (fun F' hF' => each_no (F := F') hP hD hw hn nm hE hm at_ q hr (.func (.func 29) #[] #[.pointer (some ⟨b10, 0, none⟩)]) [(b10, cellsO [.slice none 0 0] 28)]) rfl ?_
  rintro _ _ ⟨h1, h2, rfl, rfl, hP', hD', hw'⟩
  simp only [List.append_assoc]
  refine Rg.pure rfl rfl rfl (Pv.assign rfl) ?_
  refine Rg.nil ?_
  refine Vc.seq ?_
  refine Vc.seq ?_
  refine Vc.text (List.range 2) (sd [(0, .pure), (1, .pure)]) rfl ?_
  refine Rg.pure rfl rfl rfl (Pv.move rfl) ?_
  refine Rg.pure rfl rfl rfl (Pv.neq rfl rfl) ?_
  refine Rg.nil ?_
  refine Vc.cond rfl (fun h19 => ?_) (fun h19 => absurd h19 (by simpa using hres))
  refine Vc.seq ?_
  refine Vc.text (List.range 3) (sd [(0, .pure), (1, .pure), (2, .pure)]) rfl ?_
  refine Rg.pure rfl rfl rfl (Pv.move rfl) ?_
  refine Rg.pure rfl rfl rfl (Pv.assign rfl) ?_
  refine Rg.pure rfl rfl rfl (Pv.assign rfl) ?_
  refine Rg.nil ?_
  exact Vc.ret (Vc.retsH (hl' := h1 ++ h2) rfl (.cons (.tmp rfl) (.cons (.tmp rfl) .nil)) ⟨h1, h2, rfl, rfl, hP', hD', hw'⟩ pulled)
theorem write_good (hP : PoolAt pb db fr ck L P s1) (hD : DiskAt db D s2) (hw : Dq n D) (hn : n < 980) (hI : PInv O fr D L P) (hck : ck ≤ n) (hfr : 1 ≤ fr ∧ fr ≤ 1000) (hsm : ∀ nm own, O nm = some own → own.length ≤ 300) {nm own : List UInt8} (ho : O nm = some own) (at_ : Nat) {vb : Value} {bs : List UInt8} (hb : Arg byteE F vb bs) (haq : at_ + bs.length ≤ own.length) :
    Spec Try.prog 14 #[.pointer (some ⟨pb, 0, none⟩), kS nm, .int .i64 (at_ : Int), vb] F (s1 ++ s2) fun v s' => ∃ h1 h2 L' P' D' ck' nq, v = .int .i64 0 ∧ s' = h1 ++ h2 ∧ PoolAt pb db fr ck' L' P' h1 ∧ DiskAt db D' h2 ∧ Dq nq D' ∧ nq ≤ n + 11 ∧ ck' ≤ nq ∧ PInv (setO O nm (putAt own at_ bs)) fr D' L' P' ∧ (0 < bs.length → 0 < P'.length) ∧ (∀ q x, (q, x) ∈ P' → x.dirty = true → (∃ x0, (q, x0) ∈ P ∧ x0.dirty = true) ∨ True) ∧
      (Few O fr → D'.files = D.files ∧ D'.ops - (P'.length : Int) = D.ops + 1 - (P.length : Int)) := by
  have hN := hsm _ _ ho
  obtain ⟨p0, c0, rfl⟩ := hb.shape
  refine Spec.of (n := 16) (vs := [.pointer (some ⟨pb, 0, none⟩), kS nm, .int .i64 (at_ : Int), .slice p0 bs.length c0]) Try.func14 rfl Try.ntmps14 rfl ?_
  refine Vc.seq ?_
  refine Vc.text (List.range 2) (sd [(0, .eff), (1, .pure)]) rfl ?_
  refine Rg.box rfl rfl rfl rfl rfl (fun b7 => ?_)
  refine Rg.pure rfl rfl rfl (Pv.assign rfl) ?_
  refine Rg.nil ?_
  refine Vc.seq ?_
  refine Vc.text (List.range 8) (sd [(0, .pure), (1, .pure), (2, .pure), (3, .read), (4, .pure), (5, .pure), (6, .eff), (7, .pure)]) rfl ?_
  refine Rg.pure rfl rfl rfl (Pv.move rfl) ?_
  refine Rg.pure rfl rfl rfl (Pv.move rfl) ?_
  refine Rg.pure rfl rfl rfl (Pv.move rfl) ?_
  refine Rg.read rfl rfl rfl (Ev.ld rfl rfl) ?_
  refine Rg.pure rfl rfl rfl (Pv.lenS rfl) ?_
  refine Rg.pure rfl rfl rfl (Pv.mkF rfl rfl) ?_
  refine Rg.callH rfl rfl rfl (run_callF rfl) (fun F' hF' => each_good (F := F') hP hD hw hn hI hck hfr hsm ho at_ bs.length haq 30 [.pointer (some ⟨b7, 0, none⟩)] (fun d => putAt own at_ (bs.take d)) _ (by rw [List.take_zero, put_nil]) (fun d hd => put_len (by rw [List.length_take]; omega)) (fun d m k o hdm he hom j hj => by rw [← put_step haq hdm, ← he]; exact chunk_put_ne (by rw [chunk_len, put_len (by rw [List.length_take]; omega), List.length_take, List.length_drop]; omega) (by rw [put_len (by rw [List.length_take]; omega)]; omega) hj) (write_do F' own bs at_ b7 (hb.mono fun b o h => hF' b o (.inr h)) hN haq) (hc0 := [(b7, cellsO [.slice p0 bs.length c0] 28)]) rfl) rfl ?_
  rintro _ _ ⟨h1, h2, hc, L', P', D', ck', nq, rfl, rfl, hP', hD', hw', hnq, hck', hI', rfl, hf⟩
  rw [List.take_length] at hI'
  simp only [List.append_assoc]
  refine Rg.pure rfl rfl rfl (Pv.assign rfl) ?_
  refine Rg.nil ?_
  exact Vc.ret (Vc.retsH (hl' := h1 ++ h2) rfl (.cons (.tmp rfl) .nil) ⟨h1, h2, L', P', D', ck', nq, rfl, rfl, hP', hD', hw', hnq, hck', hI', hf⟩ pulled)
theorem write_no (hP : PoolAt pb db fr ck L P s1) (hD : DiskAt db D s2) (hw : Dq n D) (hn : n < 1000) (nm : List UInt8) {m e res : Int} (hE : sizeD D nm = (m, e)) (hm : 0 ≤ m ∧ m ≤ 1000000) (at_ : Int) {vb : Value} {bs : List UInt8} (hb : Arg byteE F vb bs) (hr : (e ≠ 0 ∧ res = e) ∨ (e = 0 ∧ ¬ mayP m at_ (bs.length : Int) ∧ res = 1)) :
    Spec Try.prog 14 #[.pointer (some ⟨pb, 0, none⟩), kS nm, .int .i64 at_, vb] F (s1 ++ s2) fun v s' => ∃ h1 h2, v = .int .i64 res ∧ s' = h1 ++ h2 ∧ PoolAt pb db fr ck L P h1 ∧ DiskAt db (beginsD D).2 h2 ∧ Dq (n + 1) (beginsD D).2 := by
  obtain ⟨p0, c0, rfl⟩ := hb.shape
  refine Spec.of (n := 16) (vs := [.pointer (some ⟨pb, 0, none⟩), kS nm, .int .i64 at_, .slice p0 bs.length c0]) Try.func14 rfl Try.ntmps14 rfl ?_
  refine Vc.seq ?_
  refine Vc.text (List.range 2) (sd [(0, .eff), (1, .pure)]) rfl ?_
  refine Rg.box rfl rfl rfl rfl rfl (fun b7 => ?_)
  refine Rg.pure rfl rfl rfl (Pv.assign rfl) ?_
  refine Rg.nil ?_
  refine Vc.seq ?_
  refine Vc.text (List.range 8) (sd [(0, .pure), (1, .pure), (2, .pure), (3, .read), (4, .pure), (5, .pure), (6, .eff), (7, .pure)]) rfl ?_
  refine Rg.pure rfl rfl rfl (Pv.move rfl) ?_
  refine Rg.pure rfl rfl rfl (Pv.move rfl) ?_
  refine Rg.pure rfl rfl rfl (Pv.move rfl) ?_
  refine Rg.read rfl rfl rfl (Ev.ld rfl rfl) ?_
  refine Rg.pure rfl rfl rfl (Pv.lenS rfl) ?_
  refine Rg.pure rfl rfl rfl (Pv.mkF rfl rfl) ?_
  refine Rg.callH rfl rfl rfl (run_callF rfl) (fun F' hF' => each_no (F := F') hP hD hw hn nm hE hm at_ (bs.length : Int) hr (.func (.func 30) #[] #[.pointer (some ⟨b7, 0, none⟩)]) [(b7, cellsO [.slice p0 bs.length c0] 28)]) rfl ?_
  rintro _ _ ⟨h1, h2, rfl, rfl, hP', hD', hw'⟩
  simp only [List.append_assoc]
  refine Rg.pure rfl rfl rfl (Pv.assign rfl) ?_
  refine Rg.nil ?_
  exact Vc.ret (Vc.retsH (hl' := h1 ++ h2) rfl (.cons (.tmp rfl) .nil) ⟨h1, h2, rfl, rfl, hP', hD', hw'⟩ pulled)
end
end Go.Proofs.Ytjhegjcjplpmjaa
