/- Pools: each. -/
import Derived.Test.YtjhegjcjplpmjaaPlF
namespace Go.Proofs.Ytjhegjcjplpmjaa
set_option linter.unusedVariables false

section
variable {F : Fm} {pb db fr ck n : Nat} {O : List UInt8 → Option (List UInt8)} {L : List Pl} {P : List (Pl × Pg)} {D : Dk} {s1 s2 : Hl}
theorem used_perm {L : List Pl} {pl : Pl} (hn : L.Nodup) (h : pl ∈ L) : ((L.filter fun q => !decide (q = pl)) ++ [pl]).Perm L := by
  have h1 := List.perm_cons_erase h
  rw [hn.erase_eq_filter] at h1
  have h2 : (L.filter fun q => q != pl) = L.filter fun q => !decide (q = pl) := List.filter_congr fun q _ => by by_cases e : q = pl <;> simp [e, bne]
  rw [h2] at h1
  exact (List.perm_append_singleton _ _).trans h1.symm
theorem held_spec (hP : PoolAt pb db fr ck L P s1) (hD : DiskAt db D s2) (hw : Dq n D) (hn : n < 998) (hI : PInv O fr D L P) (hck : ck < 1000000) (hfr : 1 ≤ fr ∧ fr ≤ 1000) (pl : Pl) (hsm : ∀ nm own, O nm = some own → own.length ≤ 300) {own : List UInt8} (ho : O pl.nm = some own) (hk : 64 * pl.k < own.length) :
    Spec Try.prog 47 #[.pointer (some ⟨pb, 0, none⟩), plV pl, .int .i64 (own.length : Int)] F (s1 ++ s2) fun v s' => ∃ xb h1 h2 L' P' D', v = .tuple #[.pointer (some ⟨xb, 0, none⟩), .int .i64 0] ∧ s' = h1 ++ h2 ∧ PageOf pb db fr (ck + 1) L' P' pl xb h1 ∧ DiskAt db D' h2 ∧ Dq (n + 2) D' ∧ PInv O fr D' L' P' ∧
      (Few O fr → D'.files = D.files ∧ D'.ops - (P'.length : Int) = D.ops - (P.length : Int)) ∧ (∀ q x, (q, x) ∈ P' → x.dirty = true → (q, x) ∈ P) := by
  cases hx : findP P pl with
  | some x =>
    have hLn : L.Nodup := hI.perm.nodup_iff.2 hI.keys
    have hpL : pl ∈ L := hI.perm.mem_iff.2 (List.mem_map.2 ⟨_, findP_some hx, rfl⟩)
    exact (held_hit hP hI hck hfr.2 pl hx _).mono fun v s' ⟨xb, h1, hv, hs, hpg⟩ => ⟨xb, h1, s2, _, P, D, hv, hs, hpg, hD, hw.mono (by omega) (by omega), hI.hit (used_perm hLn hpL), fun _ => ⟨rfl, rfl⟩, fun _ _ h _ => h⟩
  | none =>
    exact (held_miss hP hD hw hn hI hck hfr pl hx hsm ho hk).mono fun v s' ⟨xb, h1, h2, L', P', D', hv, hs, hpg, hD', hw', hI', hf, hsub⟩ => ⟨xb, h1, h2, L', P', D', hv, hs, hpg, hD', hw', hI', fun hfew => by
      obtain ⟨e1, e2⟩ := hf (hI.notFull hfew ho hk hx)
      subst e1
      refine ⟨rfl, ?_⟩
      show D.ops + 1 - (P'.length : Int) = _
      omega, hsub⟩
theorem Few.set {nm own own' : List UInt8} (h : Few O fr) (ho : O nm = some own) (hl : own'.length = own.length) : Few (setO O nm own') fr := by
  obtain ⟨all, h1, h2⟩ := h
  refine ⟨all, h1, fun n o k hn hk => ?_⟩
  unfold setO at hn
  by_cases e : n = nm
  · rw [if_pos e] at hn
    cases hn
    rw [e]
    exact h2 nm own k ho (by omega)
  · rw [if_neg e] at hn
    exact h2 n o k hn hk
theorem small_set {nm own own' : List UInt8} (h : ∀ nm own, O nm = some own → own.length ≤ 300) (ho : O nm = some own) (hl : own'.length = own.length) : ∀ n o, setO O nm own' n = some o → o.length ≤ 300 := fun n o hn => by
  unfold setO at hn
  by_cases e : n = nm
  · rw [if_pos e] at hn
    cases hn
    rw [hl]
    exact h nm own ho
  · rw [if_neg e] at hn
    exact h n o hn

structure EachSt where
  d : Nat
  nq : Nat
  ck : Nat
  L : List Pl
  P : List (Pl × Pg)
  D : Dk
  h1 : Hl
  h2 : Hl
  hc : Hl
/-- What a closure that goes through pages must do. -/
def DoSpec (g : Nat) (cs : List Value) (F : Fm) (at_ n : Nat) (X : Nat → List UInt8) (J : Nat → Hl → Prop) (Wr : Prop) : Prop :=
  ∀ F' : Fm, (∀ b o, F.at_ b o → F'.at_ b o) → ∀ (d m k o xb bb cap c' : Nat) (dirty : Bool) (sp : List Value) (hc : Hl), J d hc → d + m ≤ n → 0 < m → 64 * k + o = at_ + d → o + m ≤ (chunk (X d) k).length → (chunk (X d) k).length ≤ cap →
    Spec Try.prog g (.pointer (some ⟨xb, 0, none⟩) :: .slice (some ⟨bb, o, none⟩) m c' :: .int .i64 (d : Int) :: cs).toArray F' ((xb, cellsO [.slice (some ⟨bb, 0, none⟩) (chunk (X d) k).length cap, .bool dirty] 62) :: (bb, rowS byteE (chunk (X d) k) sp) :: hc) fun _ s' =>
      ∃ dirty' hc', s' = (xb, cellsO [.slice (some ⟨bb, 0, none⟩) (chunk (X d) k).length cap, .bool dirty'] 62) :: (bb, rowS byteE (chunk (X (d + m)) k) sp) :: hc' ∧ J (d + m) hc' ∧ ((dirty' = true ∧ Wr) ∨ (dirty' = dirty ∧ X (d + m) = X d))
theorem each_good (hP : PoolAt pb db fr ck L P s1) (hD : DiskAt db D s2) (hw : Dq n D) (hn : n < 980) (hI : PInv O fr D L P) (hck : ck ≤ n) (hfr : 1 ≤ fr ∧ fr ≤ 1000) (hsm : ∀ nm own, O nm = some own → own.length ≤ 300) {nm own : List UInt8} (ho : O nm = some own)
    (at_ q : Nat) (haq : at_ + q ≤ own.length) (g : Nat) [tc : TyCall Try.prog g] (cs : List Value) (X : Nat → List UInt8) (J : Nat → Hl → Prop) (hX0 : X 0 = own) (hXl : ∀ d, d ≤ q → (X d).length = own.length)
    (hXn : ∀ d m k o, d + m ≤ q → 64 * k + o = at_ + d → o + m ≤ 64 → ∀ j, j ≠ k → chunk (X (d + m)) j = chunk (X d) j) {Wr : Prop} (hdo : DoSpec g cs F at_ q X J Wr) {hc0 : Hl} (hJ0 : J 0 hc0) :
    Spec Try.prog 28 #[.pointer (some ⟨pb, 0, none⟩), kS nm, .int .i64 (at_ : Int), .int .i64 (q : Int), .func (.func g) #[] cs.toArray] F (s1 ++ (s2 ++ hc0)) fun v s' => ∃ h1 h2 hc L' P' D' ck' nq, v = .int .i64 0 ∧ s' = h1 ++ (h2 ++ hc) ∧ PoolAt pb db fr ck' L' P' h1 ∧ DiskAt db D' h2 ∧ Dq nq D' ∧ nq ≤ n + 11 ∧ ck' ≤ nq ∧ PInv (setO O nm (X q)) fr D' L' P' ∧ J q hc ∧ (0 < q → 0 < P'.length) ∧ (∀ q x, (q, x) ∈ P' → x.dirty = true → (∃ x0, (q, x0) ∈ P ∧ x0.dirty = true) ∨ Wr) ∧
      (Few O fr → D'.files = D.files ∧ D'.ops - (P'.length : Int) = D.ops + 1 - (P.length : Int)) := by
  have hsm1 := hsm _ _ ho
  obtain ⟨hsz, hbg⟩ := hI.size ho
  have hPA := hP
  obtain ⟨cb, mb, mc, ms, sc, hp, hC, hpg, hnd, hbn, hold, hperm⟩ := hP
  refine Spec.perm ?_ (perm_pool _ _ _ _ _ _ hperm)
  have hPA : PoolAt pb db fr ck L P ((pb, cellsO [.pointer (some ⟨db, 0, none⟩), .pointer (some ⟨cb, 0, none⟩), .map (some mb)] 57) :: (mb, mapO plV ms mc) :: (sc ++ hp)) := ⟨cb, mb, mc, ms, sc, hp, hC, hpg, hnd, hbn, hold, .refl _⟩
  refine Spec.of (n := 100) (vs := [.pointer (some ⟨pb, 0, none⟩), kS nm, .int .i64 (at_ : Int), .int .i64 (q : Int), .func (.func g) #[] cs.toArray]) Try.func28 rfl Try.ntmps28 rfl ?_
  refine Vc.seq ?_
  refine Vc.text (List.range 1) (sd [(0, .pure)]) rfl ?_
  refine Rg.pure rfl rfl rfl (Pv.assign rfl) ?_
  refine Rg.nil ?_
  refine Vc.seq ?_
  refine Vc.text (List.range 11) (sd [(0, .pure), (1, .pure), (2, .pure), (3, .read), (4, .pure), (5, .eff), (6, .pure), (7, .pure), (8, .pure), (9, .pure), (10, .pure)]) rfl ?_
  refine Rg.pure rfl rfl rfl (Pv.move rfl) ?_
  refine Rg.pure rfl rfl rfl (Pv.nilp rfl) ?_
  refine Rg.pure rfl rfl rfl (Pv.fa rfl) ?_
  refine Rg.read rfl rfl rfl (Ev.ld rfl rfl) ?_
  refine Rg.pure rfl rfl rfl (Pv.move rfl) ?_
  refine Rg.callH rfl rfl rfl (run_callF rfl) (fun F' hF' => size_w (F := F') hD hw (by omega) (by omega) nm hsz hbg) rfl ?_
  rintro _ s25 ⟨rfl, hD25, hw25⟩
  refine Rg.pure rfl rfl rfl (Pv.move rfl) ?_
  refine Rg.pure rfl rfl rfl (Pv.extract rfl rfl) ?_
  refine Rg.pure rfl rfl rfl (Pv.extract rfl rfl) ?_
  refine Rg.pure rfl rfl rfl (Pv.assign rfl) ?_
  refine Rg.pure rfl rfl rfl (Pv.assign rfl) ?_
  refine Rg.nil ?_
  refine Vc.seq ?_
  refine Vc.seq ?_
  refine Vc.text (List.range 2) (sd [(0, .pure), (1, .pure)]) rfl ?_
  refine Rg.pure rfl rfl rfl (Pv.move rfl) ?_
  refine Rg.pure rfl rfl rfl (Pv.neq rfl rfl) ?_
  refine Rg.nil ?_
  refine Vc.cond rfl (fun h29 => absurd h29 (by decide)) (fun h29 => ?_)
  refine Vc.skip ?_
  refine Vc.seq ?_
  refine Vc.seq ?_
  refine Vc.text (List.range 18) (sd [(0, .pure), (1, .pure), (2, .pure), (3, .pure), (4, .pure), (5, .pure), (6, .pure), (7, .pure), (8, .pure), (9, .pure), (10, .pure), (11, .pure), (12, .pure), (13, .pure), (14, .pure), (15, .pure), (16, .pure), (17, .pure)]) rfl ?_
  refine Rg.pure rfl rfl rfl (Pv.move rfl) ?_
  refine Rg.pure rfl rfl rfl (Pv.lss rfl rfl) ?_
  refine Rg.pure rfl rfl rfl (Pv.move rfl) ?_
  refine Rg.split (t := 33) rfl (fun h33 => absurd h33 (by simp)) (fun h33 => ?_)
  refine Rg.pure rfl rfl rfl (Pv.move rfl) ?_
  refine Rg.pure rfl rfl rfl (Pv.lss rfl rfl) ?_
  refine Rg.pure rfl rfl rfl (Pv.pickF rfl rfl) ?_
  refine Rg.pure rfl rfl rfl (Pv.move rfl) ?_
  refine Rg.split (t := 37) rfl (fun h37 => absurd h37 (by (simp <;> omega))) (fun h37 => ?_)
  refine Rg.pure rfl rfl rfl (Pv.move rfl) ?_
  refine Rg.pure rfl rfl rfl (Pv.move rfl) ?_
  refine Rg.pure rfl rfl rfl (Pv.gtr rfl rfl) ?_
  refine Rg.pure rfl rfl rfl (Pv.pickF rfl rfl) ?_
  refine Rg.pure rfl rfl rfl (Pv.move rfl) ?_
  refine Rg.split (t := 42) rfl (fun h42 => absurd h42 (by (simp <;> omega))) (fun h42 => ?_)
  refine Rg.pure rfl rfl rfl (Pv.move rfl) ?_
  refine Rg.pure rfl rfl rfl (Pv.move rfl) ?_
  refine Rg.pure rfl rfl rfl (Pv.move rfl) ?_
  refine Rg.pure rfl rfl rfl (Pv.asI (own.length - at_) (Pv.sub rfl rfl (by omega)) (by omega)) ?_
  refine Rg.pure rfl rfl rfl (Pv.gtr rfl rfl) ?_
  refine Rg.pure rfl rfl rfl (Pv.pickF rfl rfl) ?_
  refine Rg.nil ?_
  refine Vc.cond rfl (fun h48 => absurd h48 (by (simp <;> omega))) (fun h48 => ?_)
  refine Vc.skip ?_
  refine Vc.seq ?_
  refine Vc.seq ?_
  refine Vc.text (List.range 1) (sd [(0, .pure)]) rfl ?_
  refine Rg.pure rfl rfl rfl (Pv.assign rfl) ?_
  refine Rg.nil ?_
  refine Vc.block ?_
  refine Vc.loop1 (fun (st : EachSt) => st.d ≤ q ∧ PoolAt pb db fr st.ck st.L st.P st.h1 ∧ DiskAt db st.D st.h2 ∧ Dq st.nq st.D ∧ PInv (setO O nm (X st.d)) fr st.D st.L st.P ∧ J st.d st.hc ∧ st.ck ≤ st.nq ∧ (st.nq ≤ n + 1 + 2 * ((at_ + st.d) / 64 - at_ / 64) ∨ (st.d = q ∧ st.nq ≤ n + 11)) ∧ (st.d = 0 ∨ 0 < st.P.length) ∧ (∀ q x, (q, x) ∈ st.P → x.dirty = true → (∃ x0, (q, x0) ∈ P ∧ x0.dirty = true) ∨ Wr) ∧ (Few O fr → st.D.files = D.files ∧ st.D.ops - (st.P.length : Int) = D.ops + 1 - (P.length : Int))) (fun st => [(0, .pointer (some ⟨pb, 0, none⟩)), (1, kS nm), (2, .int .i64 (at_ : Int)), (3, .int .i64 (q : Int)), (4, .func (.func g) #[] cs.toArray), (11, .int .i64 (own.length : Int)), (13, .int .i64 (st.d : Int))]) (fun st => st.h1 ++ (st.h2 ++ st.hc)) (fun st => q - st.d) (⟨0, n + 1, ck, L, P, { D with ops := D.ops + 1 }, (pb, cellsO [.pointer (some ⟨db, 0, none⟩), .pointer (some ⟨cb, 0, none⟩), .map (some mb)] 57) :: (mb, mapO plV ms mc) :: (sc ++ hp), s25, hc0⟩ : EachSt) ⟨Nat.zero_le _, hPA, hD25, (show Dw (n + 1) (300 * (n + 1)) _ from hw25.mono (by omega) (by omega)), by rw [hX0, setO_self ho]; exact hI.ops _, hJ0, by show ck ≤ n + 1; omega, .inl (by simp), .inl rfl, fun q x h1 h2 => .inl ⟨x, h1, h2⟩, fun _ => ⟨rfl, rfl⟩⟩ (.cons rfl (.cons rfl (.cons rfl (.cons rfl (.cons rfl (.cons rfl (.cons rfl .nil))))))) (rest := []) (List.Perm.trans (pulled : List.Perm _ (((pb, cellsO [.pointer (some ⟨db, 0, none⟩), .pointer (some ⟨cb, 0, none⟩), .map (some mb)] 57) :: (mb, mapO plV ms mc) :: (sc ++ (hp ++ (s25 ++ hc0)))) ++ [])) (List.Perm.of_eq (by simp))) ?_
  rintro ⟨d, nq, ck1, L1, P1, D1, h1, h2, hc⟩ ⟨hd, hPA1, hD1, hw1, hI1, hJ1, hck1, hnq, hne, hdy, hfew⟩
  simp only at hd hPA1 hD1 hw1 hI1 hJ1 hck1 hnq hne hdy hfew ⊢
  refine Vc.seq ?_
  refine Vc.seq ?_
  refine Vc.text (List.range 3) (sd [(0, .pure), (1, .pure), (2, .pure)]) rfl ?_
  refine Rg.pure rfl rfl rfl (Pv.move rfl) ?_
  refine Rg.pure rfl rfl rfl (Pv.move rfl) ?_
  refine Rg.pure rfl rfl rfl (Pv.lss rfl rfl) ?_
  refine Rg.nil ?_
  refine Vc.cond rfl (fun h51 => ?_) (fun h51 => ?_)
  ·
    simp only [decide_eq_true_eq] at h51
    have hd1 : d < q := by omega
    obtain ⟨k, hk⟩ : ∃ k, k = (at_ + d) / 64 := ⟨_, rfl⟩
    have hXd := hXl d hd
    have hoX : setO O nm (X d) (⟨nm, k⟩ : Pl).nm = some (X d) := by simp [setO]
    have hkl : 64 * (⟨nm, k⟩ : Pl).k < (X d).length := by show 64 * k < _; omega
    refine Vc.skip ?_
    refine Vc.block ?_
    refine Vc.seq ?_
    refine Vc.text (List.range 5) (sd [(0, .pure), (1, .pure), (2, .pure), (3, .pure), (4, .pure)]) rfl ?_
    refine Rg.pure rfl rfl rfl (Pv.move rfl) ?_
    refine Rg.pure rfl rfl rfl (Pv.move rfl) ?_
    refine Rg.pure rfl rfl rfl (Pv.add rfl rfl (by omega)) ?_
    refine Rg.pure rfl rfl rfl (Pv.asI (k) (Pv.quo rfl rfl (by omega)) (by omega)) ?_
    refine Rg.pure rfl rfl rfl (Pv.assign rfl) ?_
    refine Rg.nil ?_
    refine Vc.seq ?_
    refine Vc.text (List.range 11) (sd [(0, .pure), (1, .pure), (2, .pure), (3, .pure), (4, .pure), (5, .eff), (6, .pure), (7, .pure), (8, .pure), (9, .pure), (10, .pure)]) rfl ?_
    refine Rg.pure rfl rfl rfl (Pv.move rfl) ?_
    refine Rg.pure rfl rfl rfl (Pv.move rfl) ?_
    refine Rg.pure rfl rfl rfl (Pv.move rfl) ?_
    refine Rg.pure rfl rfl rfl (Pv.build (c := #[kS nm, .int .i64 (k : Int)]) rfl rfl) ?_
    refine Rg.pure rfl rfl rfl (Pv.move rfl) ?_
    refine Rg.callH rfl rfl rfl (run_callF rfl) (fun F' hF' => (hXd ▸ held_spec (F := F') hPA1 hD1 hw1 (by omega) hI1 (by omega) hfr ⟨nm, k⟩ (small_set hsm ho hXd) hoX hkl)) rfl ?_
    rintro _ _ ⟨xb, h1', h2', L', P', D', rfl, rfl, hpage, hD', hw', hI', hfew', hsub'⟩
    refine Rg.pure rfl rfl rfl (Pv.move rfl) ?_
    refine Rg.pure rfl rfl rfl (Pv.extract rfl rfl) ?_
    refine Rg.pure rfl rfl rfl (Pv.extract rfl rfl) ?_
    refine Rg.pure rfl rfl rfl (Pv.assign rfl) ?_
    refine Rg.pure rfl rfl rfl (Pv.assign rfl) ?_
    refine Rg.nil ?_
    refine Vc.seq ?_
    refine Vc.seq ?_
    refine Vc.text (List.range 2) (sd [(0, .pure), (1, .pure)]) rfl ?_
    refine Rg.pure rfl rfl rfl (Pv.move rfl) ?_
    refine Rg.pure rfl rfl rfl (Pv.neq rfl rfl) ?_
    refine Rg.nil ?_
    refine Vc.cond rfl (fun h66 => absurd h66 (by decide)) (fun h66 => ?_)
    obtain ⟨x, v, sx, rest, hfx, ox, hperm', hback⟩ := hpage.open_
    obtain ⟨own', hown', _, hxb⟩ := hI'.pg _ _ (findP_some hfx)
    rw [hoX] at hown'
    cases hown'
    have hcl := chunk_len (X d) k
    obtain ⟨bb, cap, sp, rfl, rfl, hcap, hcm⟩ := ox.block (by rw [hxb]; simp only [hcl]; omega)
    refine Vc.perm ((hperm'.append_right _).append_right _) ?_
    simp only [List.cons_append, List.append_assoc]
    simp only at hxb hkl
    obtain ⟨o, hoo⟩ : ∃ o, o = at_ + d - k * 64 := ⟨_, rfl⟩
    obtain ⟨m, hm⟩ : ∃ m, m = min (chunk (X d) k).length (o + q - d) - o := ⟨_, rfl⟩
    have hcap2 : (chunk (X d) k).length ≤ cap := by have h1 : byteE.k = 1 := rfl; rw [h1] at hcap; rw [← hxb]; omega
    have hXdm := hXl (d + m) (by omega)
    have hcl2 := chunk_len (X (d + m)) k
    rw [hxb]
    refine Vc.skip ?_
    refine Vc.seq ?_
    refine Vc.text (List.range 7) (sd [(0, .pure), (1, .pure), (2, .pure), (3, .pure), (4, .pure), (5, .pure), (6, .pure)]) rfl ?_
    refine Rg.pure rfl rfl rfl (Pv.move rfl) ?_
    refine Rg.pure rfl rfl rfl (Pv.move rfl) ?_
    refine Rg.pure rfl rfl rfl (Pv.add rfl rfl (by omega)) ?_
    refine Rg.pure rfl rfl rfl (Pv.move rfl) ?_
    refine Rg.pure rfl rfl rfl (Pv.mul rfl rfl (by omega)) ?_
    refine Rg.pure rfl rfl rfl (Pv.asI (o) (Pv.sub rfl rfl (by omega)) (by omega)) ?_
    refine Rg.pure rfl rfl rfl (Pv.assign rfl) ?_
    refine Rg.nil ?_
    refine Vc.seq ?_
    refine Vc.draw [] (sd [(0, .pure), (1, .pure), (2, .pure), (3, .read), (4, .pure), (5, .pure), (6, .pure), (7, .pure), (8, .read), (9, .pure), (10, .pure), (11, .pure), (12, .pure), (13, .pure), (14, .pure), (15, .pure), (16, .pure), (17, .pure)]) mixed (by kernel_rfl) ?_
    refine Rg.pure rfl rfl rfl (Pv.move rfl) ?_
    refine Rg.pure rfl rfl rfl (Pv.nilp rfl) ?_
    refine Rg.pure rfl rfl rfl (Pv.fa rfl) ?_
    refine Rg.read rfl rfl rfl (Ev.ld rfl rfl) ?_
    refine Rg.pure rfl rfl rfl (Pv.move rfl) ?_
    refine Rg.pure rfl rfl rfl (Pv.move rfl) ?_
    refine Rg.pure rfl rfl rfl (Pv.nilp rfl) ?_
    refine Rg.pure rfl rfl rfl (Pv.fa rfl) ?_
    refine Rg.read rfl rfl rfl (Ev.ld rfl rfl) ?_
    refine Rg.pure rfl rfl rfl (Pv.lenS rfl) ?_
    refine Rg.pure rfl rfl rfl (Pv.move rfl) ?_
    refine Rg.pure rfl rfl rfl (Pv.move rfl) ?_
    refine Rg.pure rfl rfl rfl (Pv.add rfl rfl (by omega)) ?_
    refine Rg.pure rfl rfl rfl (Pv.move rfl) ?_
    refine Rg.pure rfl rfl rfl (Pv.asI (o + q - d) (Pv.sub rfl rfl (by omega)) (by omega)) ?_
    refine Rg.pure rfl rfl rfl (Pv.asI (o + m) (Pv.min rfl rfl) (by omega)) ?_
    refine Rg.pure rfl rfl rfl (Pv.as (.slice (some ⟨bb, o, none⟩) m (cap - o)) (Pv.slAt o (o + m) rfl rfl rfl (by omega) (by omega)) (by rw [if_neg (by omega)]; simp)) ?_
    refine Rg.pure rfl rfl rfl (Pv.assign rfl) ?_
    refine Rg.nil ?_
    refine Vc.seq ?_
    refine Vc.text (List.range 5) (sd [(0, .pure), (1, .pure), (2, .pure), (3, .pure), (4, .eff)]) rfl ?_
    refine Rg.pure rfl rfl rfl (Pv.move rfl) ?_
    refine Rg.pure rfl rfl rfl (Pv.move rfl) ?_
    refine Rg.pure rfl rfl rfl (Pv.move rfl) ?_
    refine Rg.pure rfl rfl rfl (Pv.move rfl) ?_
    refine Rg.callH rfl rfl rfl (run_callV rfl rfl) (fun F' hF' => hdo F' (fun b o h => hF' b o (.inr h)) d m k o xb bb cap (cap - o) x.dirty sp hc hJ1 (by omega) (by omega) (by omega) (by omega) hcap2) rfl ?_
    rintro _ _ ⟨dirty', hc', rfl, hJ', hdd⟩
    have hownN : Own byteE (.slice (some ⟨bb, 0, none⟩) (chunk (X d) k).length cap) (chunk (X (d + m)) k) [(bb, rowS byteE (chunk (X (d + m)) k) sp)] := Own.blk' bb cap _ _ sp (by omega) (by rw [← hxb]; exact hcap) hcm
    have hIN := hI'.write hfx hoX (own' := X (d + m)) (by omega) hkl (d := dirty') (fun j hj => hXn d m k o (by omega) (by omega) (by omega) j hj) (hdd.imp And.left id)
    rw [setO_setO] at hIN
    refine Rg.nil ?_
    refine Vc.text (List.range 5) (sd [(0, .pure), (1, .pure), (2, .pure), (3, .pure), (4, .pure)]) rfl ?_
    refine Rg.pure rfl rfl rfl (Pv.move rfl) ?_
    refine Rg.pure rfl rfl rfl (Pv.move rfl) ?_
    refine Rg.pure rfl rfl rfl (Pv.lenS rfl) ?_
    refine Rg.pure rfl rfl rfl (Pv.asI (d + m) (Pv.add rfl rfl (by omega)) (by omega)) ?_
    refine Rg.pure rfl rfl rfl (Pv.assign rfl) ?_
    refine Rg.nil ?_
    refine Vc.blk ?_
    exact Vc.inv1 (⟨d + m, nq + 2, ck1 + 1, L', setP P' ⟨nm, k⟩ ⟨chunk (X (d + m)) k, dirty'⟩, D', (xb, cellsO [.slice (some ⟨bb, 0, none⟩) (chunk (X d) k).length cap, .bool dirty'] 62) :: (bb, rowS byteE (chunk (X (d + m)) k) sp) :: rest, h2', hc'⟩ : EachSt) ⟨⟨by show d + m ≤ q; omega, hback _ _ _ _ hownN (.refl _), hD', hw', hIN, hJ', by show ck1 + 1 ≤ nq + 2; omega, by
      show nq + 2 ≤ n + 1 + 2 * ((at_ + (d + m)) / 64 - at_ / 64) ∨ (d + m = q ∧ nq + 2 ≤ n + 11)
      by_cases h64 : o + m = 64
      · exact .inl (by omega)
      · exact .inr (by omega), .inr (by show 0 < (setP P' _ _).length; rw [setP, List.length_map]; exact List.length_pos_of_mem (findP_some hfx)), fun q2 x2 hq2 hx2 => by
      rcases mem_setP hq2 with e | ⟨hq3, _⟩
      · cases e
        rcases hdd with ⟨_, hw⟩ | ⟨e2, _⟩
        · exact .inr hw
        · exact hdy _ x (hsub' _ x (findP_some hfx) (by rw [← e2]; exact hx2)) (by rw [← e2]; exact hx2)
      · exact hdy q2 x2 (hsub' q2 x2 hq3 hx2) hx2, fun hf => by
      obtain ⟨e1, e2⟩ := hfew hf
      obtain ⟨e3, e4⟩ := hfew' (hf.set ho hXd)
      refine ⟨e3.trans e1, ?_⟩
      show D'.ops - ((setP P' _ _).length : Int) = _
      rw [setP, List.length_map]
      omega⟩, by show q - (d + m) < q - d; omega⟩ (.cons rfl (.cons rfl (.cons rfl (.cons rfl (.cons rfl (.cons rfl (.cons rfl .nil))))))) pulled
  ·
    simp only [decide_eq_false_iff_not] at h51
    obtain rfl : d = q := by omega
    refine Vc.exit rfl ?_
    refine Vc.seq ?_
    refine Vc.text (List.range 1) (sd [(0, .pure)]) rfl ?_
    refine Rg.pure rfl rfl rfl (Pv.assign rfl) ?_
    refine Rg.nil ?_
    exact Vc.ret (Vc.retsH rfl (.cons (.tmp rfl) (.nil)) (⟨h1, h2, hc, L1, P1, D1, ck1, nq, rfl, rfl, hPA1, hD1, hw1, by omega, hck1, hI1, hJ1, fun h => hne.resolve_left (by omega), hdy, hfew⟩) pulled)
end
end Go.Proofs.Ytjhegjcjplpmjaa
