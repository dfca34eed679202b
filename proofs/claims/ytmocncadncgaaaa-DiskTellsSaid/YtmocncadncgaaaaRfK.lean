/- DiskTells. -/
import Derived.Test.YtmocncadncgaaaaRfJ
namespace Go.Proofs.Ytmocncadncgaaaa
set_option linter.unusedVariables false

instance : TySl Try.prog 53 dsE 104 := ⟨Try.underlying53, Try.t57, .agg #[.int .i64 0, .int .i64 0, .int .i64 0, .string ⟨#[]⟩, .string ⟨#[]⟩, .slice none 0 0, .slice none 0 0], by kernel_rfl, by kernel_rfl, rfl, rfl, rfl⟩
theorem few_w {F : Fm} (s : DsV) (hc : s.m ≤ s.c ∧ s.k ≤ s.e) {b k : Nat} (hb : b = min s.m 60) (hk : k = min s.k 60) (s' : DsV) (e : s' = { s with m := b, k := k }) : Spec Try.prog 32 #[dsV s] F [] fun v _ => v = dsV s' := by
  subst e; subst hb; subst hk; exact few_spec s hc
/-- Steps, the bytes and the truths of each. -/
def ArgDs (F : Fm) (v : Value) (ls : List DsV) (xss : List (List UInt8)) (kss : List (List Bool)) : Prop :=
  Arg dsE F v ls ∧ ∀ i, i < ls.length → Arg byteE F (.slice ls[i]!.p ls[i]!.m ls[i]!.c) xss[i]! ∧ Arg boolE F (.slice ls[i]!.q ls[i]!.k ls[i]!.e) kss[i]! ∧ ls[i]!.n ≤ 9223372036854775807
theorem Arg.capLe {α : Type} {E : Enc α} {F : Fm} {p : Option Addr} {m c : Nat} {xs : List α} (h : Arg E F (.slice p m c) xs) : m = xs.length := by
  obtain ⟨p', c', e⟩ := h.shape
  simp only [Value.slice.injEq] at e
  exact e.2.1
theorem ArgDs.piece {F : Fm} {v : Value} {ls : List DsV} {xss : List (List UInt8)} {kss : List (List Bool)} (h : ArgDs F v ls xss kss) {i : Nat} (hi : i < ls.length) : ∃ (b : List UInt8) (kb : List Bool), b.length = min ls[i]!.m 60 ∧ kb.length = min ls[i]!.k 60 ∧ (ls[i]!.m ≤ ls[i]!.c ∨ ls[i]!.m = 0) ∧ (ls[i]!.k ≤ ls[i]!.e ∨ ls[i]!.k = 0) ∧ Arg byteE F (.slice ls[i]!.p b.length ls[i]!.c) b ∧ Arg boolE F (.slice ls[i]!.q kb.length ls[i]!.e) kb ∧ ls[i]!.n ≤ 9223372036854775807 := by
  obtain ⟨h1, h2, h3⟩ := h.2 i hi
  have e1 := h1.capLe
  have e2 := h2.capLe
  rw [e1] at h1
  rw [e2] at h2
  obtain ⟨b, hb, _, hc, ha⟩ := h1.upTo 60
  obtain ⟨kb, hkb, _, hkc, hka⟩ := h2.upTo 60
  have c1 := h1.cap.2
  have c2 := h2.cap.2
  rw [← hb] at ha
  rw [← hkb] at hka
  exact ⟨b, kb, by rw [hb, e1], by rw [hkb, e2], .inl (by omega), .inl (by omega), ha, hka, h3⟩
theorem rcrash_w {F : Fm} {rb n B : Nat} {D : Dk} {s : Hl} (hR : RfAt rb D s) (hw : Dw n B D) (hn : n ≤ 1000) (hB : B ≤ 1000000) {kv : Value} {ks : List Bool} (hk : Arg boolE F kv ks) :
    Spec Try.prog 42 #[.pointer (some ⟨rb, 0, none⟩), kv] F s fun _ s' => RfAt rb (crashD ks D) s' := by
  obtain ⟨vK, sK, h0, h1, own, hp⟩ := hR
  refine Spec.perm ?_ hp
  refine (Spec.frame (rcrash_spec (F := frz F sK) h1 hw hn hB (hk.mono fun b o h => .inr h))).mono fun v s ⟨s1, h2, e⟩ => ?_
  exact ⟨vK, sK, s1, h2, by rw [(crash_room ks D).2.2]; exact own, List.Perm.of_eq e⟩
theorem rused_at {F : Fm} {rb n B : Nat} {D : Dk} {s : Hl} (hR : RfAt rb D s) (hw : Dw n B D) (hn : n ≤ 1000) (hB : B ≤ 1000000) (hF : ∀ b o, (b, o) ∈ s → F.at_ b o) :
    Spec Try.prog 44 #[.pointer (some ⟨rb, 0, none⟩)] F [] fun v _ => v = .int .i64 D.used := by
  obtain ⟨fs, vL, sL, bg, vK, sK, hsrt, hpm, own, hbg, ownK, hpb⟩ := hR.open_
  have hfl : fs.length ≤ 1000 := by have := hpm.length_eq; rw [List.length_map] at this; have := hw.cnt; omega
  refine (rused_w (room := D.room) (ops := D.ops) (armed := D.armed) (vK := vK) (down := D.down) (hF _ _ (hpb.mem_iff.2 (by simp))) (Arg.own own fun b o h => hF b o (hpb.mem_iff.2 (by simp [h]))) hfl fun f hf => (hw.fewB hB f.vw (hpm.mem_iff.2 (List.mem_map.2 ⟨f, hf, rfl⟩))).1).mono fun v _ h => ?_
  rw [h, hw.used, usedN_perm hpm]
theorem listD_few {n B : Nat} {D : Dk} (hw : Dw n B D) : (listD D).1.length ≤ n + 1 := by
  unfold listD
  split
  · simp
  · show (Go.Proofs.Ytmocncadncgaaaa.sortN _).length ≤ _
    have := hw.begins.cnt
    simp [Go.Proofs.Ytmocncadncgaaaa.sortN]
    omega
theorem listD_07 (D : Dk) : (listD D).2 = 0 ∨ (listD D).2 = 7 := by
  unfold listD
  split
  · exact .inr rfl
  · exact .inl rfl

/-- Both disks, while steps are done. -/
structure TwoSt where
  D : Dk
  e : Int
  h1 : Hl
  h2 : Hl
def TwoOk (db rb i : Nat) (st : TwoSt) : Prop := DiskAt db st.D st.h1 ∧ RfAt rb st.D st.h2 ∧ Dw i (60 * i) st.D
theorem Dw.up1 {i k : Nat} {D : Dk} (h : Dw (i + 1) (60 * i + k) D) (hk : k ≤ 60) : Dw (i + 1) (60 * (i + 1)) D := h.mono (Nat.le_refl _) (by omega)
theorem Dw.up0 {i : Nat} {D : Dk} (h : Dw i (60 * i) D) : Dw (i + 1) (60 * (i + 1)) D := h.mono (by omega) (by omega)
set_option maxHeartbeats 16000000 in
theorem DiskTells_spec (F : Fm) (room : Int) (v1 : Value) (ls : List DsV) (xss : List (List UInt8)) (kss : List (List Bool)) (ha : ArgDs F v1 ls xss kss) : Spec Try.prog 11 #[.int .i64 room, v1] F [] fun v _ => v = .bool true := by
  obtain ⟨p1, c1, rfl⟩ := ha.1.shape
  have hcap1 := ha.1.cap
  obtain ⟨z, hz⟩ : ∃ z, z = min room 1000 := ⟨_, rfl⟩
  obtain ⟨r, hr⟩ : ∃ r, max z 0 = r := ⟨_, rfl⟩
  refine Spec.of (n := 266) (vs := [.int .i64 room, .slice p1 ls.length c1]) Try.func11 rfl Try.ntmps11 rfl ?_
  refine Vc.seq ?_
  refine Vc.text (List.range 1) (sd [(0, .pure)]) rfl ?_
  refine Rg.pure rfl rfl rfl (Pv.assign rfl) ?_
  refine Rg.nil ?_
  refine Vc.seq ?_
  refine Vc.text (List.range 2) (sd [(0, .eff), (1, .pure)]) rfl ?_
  refine Rg.callP rfl rfl rfl (run_callF rfl) (shown_spec _) ?_
  rintro _ rfl
  refine Rg.pure rfl rfl rfl (Pv.assign rfl) ?_
  refine Rg.nil ?_
  refine Vc.seq ?_
  refine Vc.text (List.range 3) (sd [(0, .pure), (1, .pure), (2, .pure)]) rfl ?_
  refine Rg.pure rfl rfl rfl (Pv.move rfl) ?_
  refine Rg.pure rfl rfl rfl (Pv.as (.int .i64 z) (Pv.min rfl rfl) (by rw [hz])) ?_
  refine Rg.pure rfl rfl rfl (Pv.assign rfl) ?_
  refine Rg.nil ?_
  refine Vc.seq ?_
  refine Vc.text (List.range 3) (sd [(0, .pure), (1, .eff), (2, .pure)]) rfl ?_
  refine Rg.pure rfl rfl rfl (Pv.move rfl) ?_
  refine Rg.callA rfl rfl rfl (run_callF rfl) (new_w _ z r hr) ?_
  rintro _ s24 ⟨db, rfl, hD0, hw0⟩
  refine Rg.pure rfl rfl rfl (Pv.assign rfl) ?_
  refine Rg.nil ?_
  refine Vc.seq ?_
  refine Vc.text (List.range 3) (sd [(0, .pure), (1, .eff), (2, .pure)]) rfl ?_
  refine Rg.pure rfl rfl rfl (Pv.move rfl) ?_
  refine Rg.callA rfl rfl rfl (run_callF rfl) (rnew_spec _ z r hr) ?_
  rintro _ s26 ⟨rb, rfl, hR0⟩
  refine Rg.pure rfl rfl rfl (Pv.assign rfl) ?_
  refine Rg.nil ?_
  refine Vc.seq ?_
  refine Vc.seq ?_
  refine Vc.text (List.range 2) (sd [(0, .pure), (1, .pure)]) rfl ?_
  refine Rg.pure rfl rfl rfl (Pv.move rfl) ?_
  refine Rg.pure rfl rfl rfl (Pv.eqlNil rfl rfl) ?_
  refine Rg.nil ?_
  refine Vc.cond rfl (fun h28 => absurd h28 (by (intro h; cases h))) (fun h28 => ?_)
  refine Vc.skip ?_
  refine Vc.seq ?_
  refine Vc.seq ?_
  refine Vc.text (List.range 1) (sd [(0, .pure)]) rfl ?_
  refine Rg.pure rfl rfl rfl (Pv.assign rfl) ?_
  refine Rg.nil ?_
  refine Vc.block ?_
  refine Vc.loop2 (fun (i : Nat) (st : TwoSt) => i ≤ 80 ∧ i ≤ ls.length ∧ TwoOk db rb i st) (fun i st => [(1, .slice p1 ls.length c1), (5, .bool true), (6, .pointer (some ⟨db, 0, none⟩)), (7, .pointer (some ⟨rb, 0, none⟩)), (8, .int .i64 (i : Int))]) (fun i st => st.h1 ++ st.h2) (fun i st => 80 - i) 0 (⟨d0 r 0, 0, s24, s26⟩ : TwoSt) ⟨by omega, Nat.zero_le _, hD0, hR0, hw0⟩ (.cons rfl (.cons rfl (.cons rfl (.cons rfl (.cons rfl .nil))))) pulled ?_
  rintro i ⟨D, e0, h1, h2⟩ ⟨hi, hil, hD, hR, hw⟩
  simp only at hD hR hw ⊢
  refine Vc.seq ?_
  refine Vc.seq ?_
  refine Vc.cut1 (fun (bb : Bool) => (bb = true → i < ls.length ∧ i < 80)) (fun bb => [(36, .bool bb), (1, .slice p1 ls.length c1), (5, .bool true), (6, .pointer (some ⟨db, 0, none⟩)), (7, .pointer (some ⟨rb, 0, none⟩)), (8, .int .i64 (i : Int))]) (fun bb => h1 ++ h2) ?_ ?_
  ·
    refine Vc.text (List.range 8) (sd [(0, .pure), (1, .pure), (2, .pure), (3, .pure), (4, .pure), (5, .pure), (6, .pure), (7, .pure)]) rfl ?_
    refine Rg.pure rfl rfl rfl (Pv.move rfl) ?_
    refine Rg.pure rfl rfl rfl (Pv.move rfl) ?_
    refine Rg.pure rfl rfl rfl (Pv.lenS rfl) ?_
    refine Rg.pure rfl rfl rfl (Pv.lss rfl rfl) ?_
    refine Rg.pure rfl rfl rfl (Pv.move rfl) ?_
    refine Rg.split (t := 33) rfl (fun h33 => ?_) (fun h33 => ?_)
    ·
      simp only [decide_eq_true_eq] at h33
      refine Rg.pure rfl rfl rfl (Pv.move rfl) ?_
      refine Rg.pure rfl rfl rfl (Pv.lss rfl rfl) ?_
      refine Rg.pure rfl rfl rfl (Pv.pickT rfl rfl) ?_
      refine Rg.nil ?_
      exact Vc.inv1 _ (fun hb => ⟨by omega, by have := of_decide_eq_true hb; omega⟩) (.cons rfl (.cons rfl (.cons rfl (.cons rfl (.cons rfl (.cons rfl .nil)))))) pulled
    ·
      iterate 2 (first | refine Rg.skipP rfl rfl rfl ?_ | refine Rg.skipR rfl rfl rfl ?_ | refine Rg.skipE rfl rfl rfl ?_)
      refine Rg.pure rfl rfl rfl (Pv.pickF rfl rfl) ?_
      refine Rg.nil ?_
      exact Vc.inv1 _ (fun hb => by cases hb) (.cons rfl (.cons rfl (.cons rfl (.cons rfl (.cons rfl (.cons rfl .nil)))))) pulled
  ·
    rintro bb hbb
    refine Vc.cond rfl (fun h36 => ?_) (fun h36 => ?_)
    ·
      obtain ⟨hix, hi80⟩ := hbb h36
      obtain ⟨b, kb, hbl, hkl, hmc, hkc, hba, hka, hnn⟩ := ha.piece hix
      obtain ⟨⟨kind, at_, nn, nm, oth, pd, md, cd, pq, mq, cq⟩, hs⟩ : ∃ s, ls[i]! = s := ⟨_, rfl⟩
      rw [hs] at hbl hkl hmc hkc hba hka hnn
      simp only at hbl hkl hmc hkc hba hka hnn
      obtain ⟨bl, offl, cl', e, _⟩ := ha.1.block (by omega)
      cases e
      refine Vc.skip ?_
      refine Vc.seq ?_
      refine Vc.block ?_
      refine Vc.seq ?_
      refine Vc.text (List.range 7) (sd [(0, .pure), (1, .pure), (2, .pure), (3, .read), (4, .eff), (5, .eff), (6, .eff)]) rfl ?_
      refine Rg.pure rfl rfl rfl (Pv.move rfl) ?_
      refine Rg.pure rfl rfl rfl (Pv.move rfl) ?_
      refine Rg.pure rfl rfl rfl (Pv.ixA (i) rfl rfl (by omega) (by omega)) ?_
      refine Rg.read rfl rfl rfl (Ev.as (dsV ⟨kind, at_, nn, nm, oth, pd, md, cd, pq, mq, cq⟩) (Ev.ldS (E := dsE) i ha.1.src rfl rfl rfl (by omega)) (congrArg dsE.val hs)) ?_
      refine Rg.callP rfl rfl rfl (run_callF rfl) (few_w ⟨kind, at_, nn, nm, oth, pd, md, cd, pq, mq, cq⟩ ⟨by (show md ≤ cd); omega, by (show mq ≤ cq); omega⟩ hbl hkl ⟨kind, at_, nn, nm, oth, pd, b.length, cd, pq, kb.length, cq⟩ rfl) ?_
      rintro _ rfl
      refine Rg.alloc rfl rfl rfl rfl (fun b9 => ?_)
      refine Rg.storeA rfl rfl rfl rfl rfl rfl rfl rfl ?_
      refine Rg.nil ?_
      refine Vc.seq ?_
      refine Vc.text (List.range 1) (sd [(0, .pure)]) rfl ?_
      refine Rg.pure rfl rfl rfl (Pv.assign rfl) ?_
      refine Rg.nil ?_
      refine Vc.seq ?_
      refine Vc.text (List.range 1) (sd [(0, .pure)]) rfl ?_
      refine Rg.pure rfl rfl rfl (Pv.assign rfl) ?_
      refine Rg.nil ?_
      refine Vc.seq ?_
      refine Vc.seq ?_
      refine Vc.text (List.range 2) (sd [(0, .pure), (1, .read)]) rfl ?_
      refine Rg.pure rfl rfl rfl (Pv.fa rfl) ?_
      refine Rg.read rfl rfl rfl (Ev.ld rfl rfl) ?_
      refine Rg.nil ?_
      refine Vc.block ?_
      refine Vc.seq ?_
      refine Vc.text (List.range 2) (sd [(0, .pure), (1, .pure)]) rfl ?_
      refine Rg.pure rfl rfl rfl (Pv.eql rfl rfl) ?_
      refine Rg.pure rfl rfl rfl (Pv.assign rfl) ?_
      refine Rg.nil ?_
      refine Vc.cut1 (fun (st : TwoSt) => TwoOk db rb (i + 1) st) (fun st => [(10, .int .i64 st.e), (11, .int .i64 st.e), (1, .slice (some ⟨bl, offl, none⟩) ls.length c1), (5, .bool true), (6, .pointer (some ⟨db, 0, none⟩)), (7, .pointer (some ⟨rb, 0, none⟩)), (8, .int .i64 (i : Int))]) (fun st => st.h1 ++ st.h2) ?_ ?_
      ·
        refine Vc.cond rfl (fun h46 => ?_) (fun h46 => ?_)
        ·
          refine Vc.seq ?_
          refine Vc.text (List.range 5) (sd [(0, .pure), (1, .pure), (2, .read), (3, .eff), (4, .pure)]) rfl ?_
          refine Rg.pure rfl rfl rfl (Pv.move rfl) ?_
          refine Rg.pure rfl rfl rfl (Pv.fa rfl) ?_
          refine Rg.read rfl rfl rfl (Ev.ld rfl rfl) ?_
          obtain ⟨er, D2, hE⟩ : ∃ er D2, createD D nm = (er, D2) := ⟨_, _, rfl⟩
          refine Rg.callH rfl rfl rfl (run_callF rfl) (fun F' hF' => create_w (F := F') hD hw (by omega) (by omega) nm hE) rfl ?_
          rintro _ s51 ⟨rfl, hD2, hw2⟩
          refine Rg.pure rfl rfl rfl (Pv.assign rfl) ?_
          refine Rg.nil ?_
          refine Vc.text (List.range 5) (sd [(0, .pure), (1, .pure), (2, .read), (3, .eff), (4, .pure)]) rfl ?_
          refine Rg.pure rfl rfl rfl (Pv.move rfl) ?_
          refine Rg.pure rfl rfl rfl (Pv.fa rfl) ?_
          refine Rg.read rfl rfl rfl (Ev.ld rfl rfl) ?_
          refine Rg.callH rfl rfl rfl (run_callF rfl) (fun F' hF' => rcreate_spec (F := F') hR hw (by omega) (by omega) nm) rfl ?_
          rintro _ s55 ⟨rfl, hR2⟩
          rw [hE] at hR2 ⊢
          refine Rg.pure rfl rfl rfl (Pv.assign rfl) ?_
          refine Rg.nil ?_
          exact Vc.inv1 (⟨_, _, s51, s55⟩ : TwoSt) ⟨hD2, hR2, hw2.up1 (k := 0) (by omega)⟩ (.cons rfl (.cons rfl (.cons rfl (.cons rfl (.cons rfl (.cons rfl (.cons rfl .nil))))))) pulled
        ·
          refine Vc.seq ?_
          refine Vc.text (List.range 2) (sd [(0, .pure), (1, .pure)]) rfl ?_
          refine Rg.pure rfl rfl rfl (Pv.eql rfl rfl) ?_
          refine Rg.pure rfl rfl rfl (Pv.assign rfl) ?_
          refine Rg.nil ?_
          refine Vc.cond rfl (fun h56 => ?_) (fun h56 => ?_)
          ·
            refine Vc.seq ?_
            refine Vc.text (List.range 7) (sd [(0, .pure), (1, .pure), (2, .read), (3, .pure), (4, .read), (5, .eff), (6, .pure)]) rfl ?_
            refine Rg.pure rfl rfl rfl (Pv.move rfl) ?_
            refine Rg.pure rfl rfl rfl (Pv.fa rfl) ?_
            refine Rg.read rfl rfl rfl (Ev.ld rfl rfl) ?_
            refine Rg.pure rfl rfl rfl (Pv.fa rfl) ?_
            refine Rg.read rfl rfl rfl (Ev.ld rfl rfl) ?_
            obtain ⟨er, D2, hE⟩ : ∃ er D2, writeD D nm none b = (er, D2) := ⟨_, _, rfl⟩
            refine Rg.callH rfl rfl rfl (run_callF rfl) (fun F' hF' => append_w (F := F') hD hw (by omega) (by omega) nm (hba.mono fun b o h => hF' b o (.inr h)) (by omega) hE) rfl ?_
            rintro _ s63 ⟨rfl, hD2, hw2⟩
            refine Rg.pure rfl rfl rfl (Pv.assign rfl) ?_
            refine Rg.nil ?_
            refine Vc.text (List.range 7) (sd [(0, .pure), (1, .pure), (2, .read), (3, .pure), (4, .read), (5, .eff), (6, .pure)]) rfl ?_
            refine Rg.pure rfl rfl rfl (Pv.move rfl) ?_
            refine Rg.pure rfl rfl rfl (Pv.fa rfl) ?_
            refine Rg.read rfl rfl rfl (Ev.ld rfl rfl) ?_
            refine Rg.pure rfl rfl rfl (Pv.fa rfl) ?_
            refine Rg.read rfl rfl rfl (Ev.ld rfl rfl) ?_
            refine Rg.callH rfl rfl rfl (run_callF rfl) (fun F' hF' => rappend_spec (F := F') hR hw (by omega) (by omega) nm (hba.mono fun b o h => hF' b o (.inr h)) (by omega)) rfl ?_
            rintro _ s69 ⟨rfl, hR2⟩
            rw [hE] at hR2 ⊢
            refine Rg.pure rfl rfl rfl (Pv.assign rfl) ?_
            refine Rg.nil ?_
            exact Vc.inv1 (⟨_, _, s63, s69⟩ : TwoSt) ⟨hD2, hR2, hw2.up1 (by omega)⟩ (.cons rfl (.cons rfl (.cons rfl (.cons rfl (.cons rfl (.cons rfl (.cons rfl .nil))))))) pulled
          ·
            refine Vc.seq ?_
            refine Vc.text (List.range 2) (sd [(0, .pure), (1, .pure)]) rfl ?_
            refine Rg.pure rfl rfl rfl (Pv.eql rfl rfl) ?_
            refine Rg.pure rfl rfl rfl (Pv.assign rfl) ?_
            refine Rg.nil ?_
            refine Vc.cond rfl (fun h70 => ?_) (fun h70 => ?_)
            ·
              refine Vc.seq ?_
              refine Vc.text (List.range 9) (sd [(0, .pure), (1, .pure), (2, .read), (3, .pure), (4, .read), (5, .pure), (6, .read), (7, .eff), (8, .pure)]) rfl ?_
              refine Rg.pure rfl rfl rfl (Pv.move rfl) ?_
              refine Rg.pure rfl rfl rfl (Pv.fa rfl) ?_
              refine Rg.read rfl rfl rfl (Ev.ld rfl rfl) ?_
              refine Rg.pure rfl rfl rfl (Pv.fa rfl) ?_
              refine Rg.read rfl rfl rfl (Ev.ld rfl rfl) ?_
              refine Rg.pure rfl rfl rfl (Pv.fa rfl) ?_
              refine Rg.read rfl rfl rfl (Ev.ld rfl rfl) ?_
              obtain ⟨er, D2, hE⟩ : ∃ er D2, writeD D nm (some at_) b = (er, D2) := ⟨_, _, rfl⟩
              refine Rg.callH rfl rfl rfl (run_callF rfl) (fun F' hF' => writeAt_w (F := F') hD hw (by omega) (by omega) nm at_ (hba.mono fun b o h => hF' b o (.inr h)) (by omega) hE) rfl ?_
              rintro _ s79 ⟨rfl, hD2, hw2⟩
              refine Rg.pure rfl rfl rfl (Pv.assign rfl) ?_
              refine Rg.nil ?_
              refine Vc.text (List.range 9) (sd [(0, .pure), (1, .pure), (2, .read), (3, .pure), (4, .read), (5, .pure), (6, .read), (7, .eff), (8, .pure)]) rfl ?_
              refine Rg.pure rfl rfl rfl (Pv.move rfl) ?_
              refine Rg.pure rfl rfl rfl (Pv.fa rfl) ?_
              refine Rg.read rfl rfl rfl (Ev.ld rfl rfl) ?_
              refine Rg.pure rfl rfl rfl (Pv.fa rfl) ?_
              refine Rg.read rfl rfl rfl (Ev.ld rfl rfl) ?_
              refine Rg.pure rfl rfl rfl (Pv.fa rfl) ?_
              refine Rg.read rfl rfl rfl (Ev.ld rfl rfl) ?_
              refine Rg.callH rfl rfl rfl (run_callF rfl) (fun F' hF' => rwriteat_spec (F := F') hR hw (by omega) (by omega) nm at_ (hba.mono fun b o h => hF' b o (.inr h)) (by omega)) rfl ?_
              rintro _ s87 ⟨rfl, hR2⟩
              rw [hE] at hR2 ⊢
              refine Rg.pure rfl rfl rfl (Pv.assign rfl) ?_
              refine Rg.nil ?_
              exact Vc.inv1 (⟨_, _, s79, s87⟩ : TwoSt) ⟨hD2, hR2, hw2.up1 (by omega)⟩ (.cons rfl (.cons rfl (.cons rfl (.cons rfl (.cons rfl (.cons rfl (.cons rfl .nil))))))) pulled
            ·
              refine Vc.seq ?_
              refine Vc.text (List.range 2) (sd [(0, .pure), (1, .pure)]) rfl ?_
              refine Rg.pure rfl rfl rfl (Pv.eql rfl rfl) ?_
              refine Rg.pure rfl rfl rfl (Pv.assign rfl) ?_
              refine Rg.nil ?_
              refine Vc.cond rfl (fun h88 => ?_) (fun h88 => ?_)
              ·
                refine Vc.seq ?_
                refine Vc.text (List.range 1) (sd [(0, .pure)]) rfl ?_
                refine Rg.pure rfl rfl rfl (Pv.assign rfl) ?_
                refine Rg.nil ?_
                refine Vc.seq ?_
                refine Vc.text (List.range 1) (sd [(0, .pure)]) rfl ?_
                refine Rg.pure rfl rfl rfl (Pv.assign rfl) ?_
                refine Rg.nil ?_
                refine Vc.seq ?_
                refine Vc.text (List.range 13) (sd [(0, .pure), (1, .pure), (2, .read), (3, .pure), (4, .read), (5, .pure), (6, .read), (7, .eff), (8, .pure), (9, .pure), (10, .pure), (11, .pure), (12, .pure)]) rfl ?_
                refine Rg.pure rfl rfl rfl (Pv.move rfl) ?_
                refine Rg.pure rfl rfl rfl (Pv.fa rfl) ?_
                refine Rg.read rfl rfl rfl (Ev.ld rfl rfl) ?_
                refine Rg.pure rfl rfl rfl (Pv.fa rfl) ?_
                refine Rg.read rfl rfl rfl (Ev.ld rfl rfl) ?_
                refine Rg.pure rfl rfl rfl (Pv.fa rfl) ?_
                refine Rg.read rfl rfl rfl (Ev.ld rfl rfl) ?_
                obtain ⟨bs, er, hE⟩ : ∃ bs er, readD D nm at_ nn = (bs, er) := ⟨_, _, rfl⟩
                refine Rg.callH rfl rfl rfl (run_callF rfl) (fun F' hF' => readAt_w (F := F') hD hw (by omega) (by omega) nm at_ nn hE rfl) rfl ?_
                rintro _ _ ⟨u, su, g1, rfl, ou, hD2, hw2, rfl⟩
                simp only [List.append_assoc]
                obtain ⟨pu, cu, rfl⟩ := ou.shape
                refine Rg.pure rfl rfl rfl (Pv.move rfl) ?_
                refine Rg.pure rfl rfl rfl (Pv.extract rfl rfl) ?_
                refine Rg.pure rfl rfl rfl (Pv.extract rfl rfl) ?_
                refine Rg.pure rfl rfl rfl (Pv.assign rfl) ?_
                refine Rg.pure rfl rfl rfl (Pv.assign rfl) ?_
                refine Rg.nil ?_
                refine Vc.seq ?_
                refine Vc.text (List.range 13) (sd [(0, .pure), (1, .pure), (2, .read), (3, .pure), (4, .read), (5, .pure), (6, .read), (7, .eff), (8, .pure), (9, .pure), (10, .pure), (11, .pure), (12, .pure)]) rfl ?_
                refine Rg.pure rfl rfl rfl (Pv.move rfl) ?_
                refine Rg.pure rfl rfl rfl (Pv.fa rfl) ?_
                refine Rg.read rfl rfl rfl (Ev.ld rfl rfl) ?_
                refine Rg.pure rfl rfl rfl (Pv.fa rfl) ?_
                refine Rg.read rfl rfl rfl (Ev.ld rfl rfl) ?_
                refine Rg.pure rfl rfl rfl (Pv.fa rfl) ?_
                refine Rg.read rfl rfl rfl (Ev.ld rfl rfl) ?_
                refine Rg.callH rfl rfl rfl (run_callF rfl) (fun F' hF' => rread_spec (F := F') hR hw (by omega) (by omega) nm at_ nn) rfl ?_
                rintro _ _ ⟨w, sw, g2, rfl, ow, hR2, rfl⟩
                simp only [List.append_assoc]
                rw [hE] at ow ⊢
                refine Rg.pure rfl rfl rfl (Pv.move rfl) ?_
                refine Rg.pure rfl rfl rfl (Pv.extract rfl rfl) ?_
                refine Rg.pure rfl rfl rfl (Pv.extract rfl rfl) ?_
                refine Rg.pure rfl rfl rfl (Pv.assign rfl) ?_
                refine Rg.pure rfl rfl rfl (Pv.assign rfl) ?_
                refine Rg.nil ?_
                refine Vc.seq ?_
                refine Vc.seq ?_
                refine Vc.text (List.range 5) (sd [(0, .pure), (1, .read), (2, .pure), (3, .read), (4, .pure)]) rfl ?_
                refine Rg.pure rfl rfl rfl (Pv.move rfl) ?_
                refine Rg.read rfl rfl rfl (Ev.str (Src.own (rest := []) ou Sb.sub) rfl) ?_
                refine Rg.pure rfl rfl rfl (Pv.move rfl) ?_
                refine Rg.read rfl rfl rfl (Ev.str (Src.own (rest := []) ow Sb.sub) rfl) ?_
                refine Rg.pure rfl rfl rfl (Pv.neqS rfl rfl) ?_
                refine Rg.nil ?_
                refine Vc.cond rfl (fun h116 => absurd h116 (by simp)) (fun h116 => ?_)
                refine Vc.skip ?_
                refine Vc.seq ?_
                refine Vc.text (List.range 1) (sd [(0, .pure)]) rfl ?_
                refine Rg.pure rfl rfl rfl (Pv.assign rfl) ?_
                refine Rg.nil ?_
                refine Vc.block ?_
                refine Vc.loop3 (fun (k : Nat) (cur : List UInt8) (sc : Hl) => k ≤ bs.length ∧ cur.length = bs.length ∧ Own byteE (.slice pu bs.length cu) cur sc) (fun k cur sc => [(14, .int .i64 (k : Int)), (12, .slice pu bs.length cu), (10, .int .i64 er), (11, .int .i64 er), (1, .slice (some ⟨bl, offl, none⟩) ls.length c1), (5, .bool true), (6, .pointer (some ⟨db, 0, none⟩)), (7, .pointer (some ⟨rb, 0, none⟩)), (8, .int .i64 (i : Int))]) (fun k cur sc => sc ++ (g1 ++ g2)) (fun k cur sc => bs.length - k) 0 bs su ⟨Nat.zero_le _, rfl, ou⟩ (.cons rfl (.cons rfl (.cons rfl (.cons rfl (.cons rfl (.cons rfl (.cons rfl (.cons rfl (.cons rfl .nil))))))))) pulled ?_
                rintro k cur sc ⟨hk, hcl, oc⟩
                refine Vc.seq ?_
                refine Vc.seq ?_
                refine Vc.text (List.range 4) (sd [(0, .pure), (1, .pure), (2, .pure), (3, .pure)]) rfl ?_
                refine Rg.pure rfl rfl rfl (Pv.move rfl) ?_
                refine Rg.pure rfl rfl rfl (Pv.move rfl) ?_
                refine Rg.pure rfl rfl rfl (Pv.lenS rfl) ?_
                refine Rg.pure rfl rfl rfl (Pv.lss rfl rfl) ?_
                refine Rg.nil ?_
                refine Vc.cond rfl (fun h120 => ?_) (fun h120 => ?_)
                ·
                  simp only [decide_eq_true_eq] at h120
                  obtain ⟨bo, capo, spo, e, rfl, hcap, hcm⟩ := oc.block (by omega)
                  have hml : maxLen ≤ 9223372036854775807 := by decide
                  have hcap2 : cur.length + spo.length = capo := by have := hcap; rw [show byteE.k = 1 from rfl] at this; omega
                  simp only [Value.slice.injEq] at e
                  obtain ⟨rfl, _, rfl⟩ := e
                  refine Vc.skip ?_
                  refine Vc.seq ?_
                  refine Vc.block ?_
                  refine Vc.text (List.range 4) (sd [(0, .pure), (1, .pure), (2, .pure), (3, .eff)]) rfl ?_
                  refine Rg.pure rfl rfl rfl (Pv.move rfl) ?_
                  refine Rg.pure rfl rfl rfl (Pv.move rfl) ?_
                  refine Rg.pure rfl rfl rfl (Pv.ixA (k) rfl rfl (by omega) (by omega)) ?_
                  refine Rg.storeR (E := byteE) (z := (99 : UInt8)) k rfl rfl rfl rfl rfl rfl (Nat.zero_add _) (by omega) rfl ?_
                  refine Rg.nil ?_
                  refine Vc.blk ?_
                  refine Vc.text (List.range 3) (sd [(0, .pure), (1, .pure), (2, .pure)]) rfl ?_
                  refine Rg.pure rfl rfl rfl (Pv.move rfl) ?_
                  refine Rg.pure rfl rfl rfl (Pv.asI (k + 1) (Pv.add rfl rfl (by omega)) (by omega)) ?_
                  refine Rg.pure rfl rfl rfl (Pv.assign rfl) ?_
                  refine Rg.nil ?_
                  exact Vc.inv3 (k + 1) (cur.set k 99) [(bo, rowS byteE (cur.set k 99) spo)] ⟨⟨by omega, by rw [List.length_set, hcl], Own.blk' bo cu _ _ spo (by rw [List.length_set, hcl]) (by rw [← hcl]; exact hcap) hcm⟩, by omega⟩ (.cons rfl (.cons rfl (.cons rfl (.cons rfl (.cons rfl (.cons rfl (.cons rfl (.cons rfl (.cons rfl .nil))))))))) pulled
                ·
                  refine Vc.exit rfl ?_
                  exact Vc.inv1 (⟨_, _, g1, g2⟩ : TwoSt) ⟨hD2, hR2, hw2.up1 (k := 0) (by omega)⟩ (.cons rfl (.cons rfl (.cons rfl (.cons rfl (.cons rfl (.cons rfl (.cons rfl .nil))))))) pulled
              ·
                refine Vc.seq ?_
                refine Vc.text (List.range 2) (sd [(0, .pure), (1, .pure)]) rfl ?_
                refine Rg.pure rfl rfl rfl (Pv.eql rfl rfl) ?_
                refine Rg.pure rfl rfl rfl (Pv.assign rfl) ?_
                refine Rg.nil ?_
                refine Vc.cond rfl (fun h126 => ?_) (fun h126 => ?_)
                ·
                  refine Vc.seq ?_
                  refine Vc.text (List.range 1) (sd [(0, .pure)]) rfl ?_
                  refine Rg.pure rfl rfl rfl (Pv.assign rfl) ?_
                  refine Rg.nil ?_
                  refine Vc.seq ?_
                  refine Vc.text (List.range 1) (sd [(0, .pure)]) rfl ?_
                  refine Rg.pure rfl rfl rfl (Pv.assign rfl) ?_
                  refine Rg.nil ?_
                  refine Vc.seq ?_
                  refine Vc.text (List.range 9) (sd [(0, .pure), (1, .pure), (2, .read), (3, .eff), (4, .pure), (5, .pure), (6, .pure), (7, .pure), (8, .pure)]) rfl ?_
                  refine Rg.pure rfl rfl rfl (Pv.move rfl) ?_
                  refine Rg.pure rfl rfl rfl (Pv.fa rfl) ?_
                  refine Rg.read rfl rfl rfl (Ev.ld rfl rfl) ?_
                  obtain ⟨sz, er, hE⟩ : ∃ sz er, sizeD D nm = (sz, er) := ⟨_, _, rfl⟩
                  refine Rg.callH rfl rfl rfl (run_callF rfl) (fun F' hF' => size_w (F := F') hD hw (by omega) (by omega) nm hE rfl) rfl ?_
                  rintro _ s132 ⟨rfl, hD2, hw2⟩
                  refine Rg.pure rfl rfl rfl (Pv.move rfl) ?_
                  refine Rg.pure rfl rfl rfl (Pv.extract rfl rfl) ?_
                  refine Rg.pure rfl rfl rfl (Pv.extract rfl rfl) ?_
                  refine Rg.pure rfl rfl rfl (Pv.assign rfl) ?_
                  refine Rg.pure rfl rfl rfl (Pv.assign rfl) ?_
                  refine Rg.nil ?_
                  refine Vc.seq ?_
                  refine Vc.text (List.range 9) (sd [(0, .pure), (1, .pure), (2, .read), (3, .eff), (4, .pure), (5, .pure), (6, .pure), (7, .pure), (8, .pure)]) rfl ?_
                  refine Rg.pure rfl rfl rfl (Pv.move rfl) ?_
                  refine Rg.pure rfl rfl rfl (Pv.fa rfl) ?_
                  refine Rg.read rfl rfl rfl (Ev.ld rfl rfl) ?_
                  refine Rg.callH rfl rfl rfl (run_callF rfl) (fun F' hF' => rsize_spec (F := F') hR hw (by omega) (by omega) nm) rfl ?_
                  rintro _ s139 ⟨rfl, hR2⟩
                  rw [hE]
                  refine Rg.pure rfl rfl rfl (Pv.move rfl) ?_
                  refine Rg.pure rfl rfl rfl (Pv.extract rfl rfl) ?_
                  refine Rg.pure rfl rfl rfl (Pv.extract rfl rfl) ?_
                  refine Rg.pure rfl rfl rfl (Pv.assign rfl) ?_
                  refine Rg.pure rfl rfl rfl (Pv.assign rfl) ?_
                  refine Rg.nil ?_
                  refine Vc.seq ?_
                  refine Vc.text (List.range 3) (sd [(0, .pure), (1, .pure), (2, .pure)]) rfl ?_
                  refine Rg.pure rfl rfl rfl (Pv.move rfl) ?_
                  refine Rg.pure rfl rfl rfl (Pv.move rfl) ?_
                  refine Rg.pure rfl rfl rfl (Pv.neq rfl rfl) ?_
                  refine Rg.nil ?_
                  refine Vc.cond rfl (fun h144 => absurd h144 (by simp)) (fun h144 => ?_)
                  refine Vc.skip ?_
                  exact Vc.inv1 (⟨_, _, s132, s139⟩ : TwoSt) ⟨hD2, hR2, hw2.up1 (k := 0) (by omega)⟩ (.cons rfl (.cons rfl (.cons rfl (.cons rfl (.cons rfl (.cons rfl (.cons rfl .nil))))))) pulled
                ·
                  refine Vc.seq ?_
                  refine Vc.text (List.range 2) (sd [(0, .pure), (1, .pure)]) rfl ?_
                  refine Rg.pure rfl rfl rfl (Pv.eql rfl rfl) ?_
                  refine Rg.pure rfl rfl rfl (Pv.assign rfl) ?_
                  refine Rg.nil ?_
                  refine Vc.cond rfl (fun h145 => ?_) (fun h145 => ?_)
                  ·
                    refine Vc.seq ?_
                    refine Vc.text (List.range 5) (sd [(0, .pure), (1, .pure), (2, .read), (3, .eff), (4, .pure)]) rfl ?_
                    refine Rg.pure rfl rfl rfl (Pv.move rfl) ?_
                    refine Rg.pure rfl rfl rfl (Pv.fa rfl) ?_
                    refine Rg.read rfl rfl rfl (Ev.ld rfl rfl) ?_
                    obtain ⟨er, D2, hE⟩ : ∃ er D2, syncD D nm = (er, D2) := ⟨_, _, rfl⟩
                    refine Rg.callH rfl rfl rfl (run_callF rfl) (fun F' hF' => sync_w (F := F') hD hw (by omega) (by omega) nm hE) rfl ?_
                    rintro _ s150 ⟨rfl, hD2, hw2⟩
                    refine Rg.pure rfl rfl rfl (Pv.assign rfl) ?_
                    refine Rg.nil ?_
                    refine Vc.text (List.range 5) (sd [(0, .pure), (1, .pure), (2, .read), (3, .eff), (4, .pure)]) rfl ?_
                    refine Rg.pure rfl rfl rfl (Pv.move rfl) ?_
                    refine Rg.pure rfl rfl rfl (Pv.fa rfl) ?_
                    refine Rg.read rfl rfl rfl (Ev.ld rfl rfl) ?_
                    refine Rg.callH rfl rfl rfl (run_callF rfl) (fun F' hF' => rsync_spec (F := F') hR hw (by omega) (by omega) nm) rfl ?_
                    rintro _ s154 ⟨rfl, hR2⟩
                    rw [hE] at hR2 ⊢
                    refine Rg.pure rfl rfl rfl (Pv.assign rfl) ?_
                    refine Rg.nil ?_
                    exact Vc.inv1 (⟨_, _, s150, s154⟩ : TwoSt) ⟨hD2, hR2, hw2.up1 (k := 0) (by omega)⟩ (.cons rfl (.cons rfl (.cons rfl (.cons rfl (.cons rfl (.cons rfl (.cons rfl .nil))))))) pulled
                  ·
                    refine Vc.seq ?_
                    refine Vc.text (List.range 2) (sd [(0, .pure), (1, .pure)]) rfl ?_
                    refine Rg.pure rfl rfl rfl (Pv.eql rfl rfl) ?_
                    refine Rg.pure rfl rfl rfl (Pv.assign rfl) ?_
                    refine Rg.nil ?_
                    refine Vc.cond rfl (fun h155 => ?_) (fun h155 => ?_)
                    ·
                      refine Vc.seq ?_
                      refine Vc.text (List.range 7) (sd [(0, .pure), (1, .pure), (2, .read), (3, .pure), (4, .read), (5, .eff), (6, .pure)]) rfl ?_
                      refine Rg.pure rfl rfl rfl (Pv.move rfl) ?_
                      refine Rg.pure rfl rfl rfl (Pv.fa rfl) ?_
                      refine Rg.read rfl rfl rfl (Ev.ld rfl rfl) ?_
                      refine Rg.pure rfl rfl rfl (Pv.fa rfl) ?_
                      refine Rg.read rfl rfl rfl (Ev.ld rfl rfl) ?_
                      obtain ⟨er, D2, hE⟩ : ∃ er D2, renameD D nm oth = (er, D2) := ⟨_, _, rfl⟩
                      refine Rg.callH rfl rfl rfl (run_callF rfl) (fun F' hF' => rename_w (F := F') hD hw (by omega) (by omega) nm oth hE) rfl ?_
                      rintro _ s162 ⟨rfl, hD2, hw2⟩
                      refine Rg.pure rfl rfl rfl (Pv.assign rfl) ?_
                      refine Rg.nil ?_
                      refine Vc.text (List.range 7) (sd [(0, .pure), (1, .pure), (2, .read), (3, .pure), (4, .read), (5, .eff), (6, .pure)]) rfl ?_
                      refine Rg.pure rfl rfl rfl (Pv.move rfl) ?_
                      refine Rg.pure rfl rfl rfl (Pv.fa rfl) ?_
                      refine Rg.read rfl rfl rfl (Ev.ld rfl rfl) ?_
                      refine Rg.pure rfl rfl rfl (Pv.fa rfl) ?_
                      refine Rg.read rfl rfl rfl (Ev.ld rfl rfl) ?_
                      refine Rg.callH rfl rfl rfl (run_callF rfl) (fun F' hF' => rrename_spec (F := F') hR hw (by omega) (by omega) nm oth) rfl ?_
                      rintro _ s168 ⟨rfl, hR2⟩
                      rw [hE] at hR2 ⊢
                      refine Rg.pure rfl rfl rfl (Pv.assign rfl) ?_
                      refine Rg.nil ?_
                      exact Vc.inv1 (⟨_, _, s162, s168⟩ : TwoSt) ⟨hD2, hR2, hw2.up1 (k := 0) (by omega)⟩ (.cons rfl (.cons rfl (.cons rfl (.cons rfl (.cons rfl (.cons rfl (.cons rfl .nil))))))) pulled
                    ·
                      refine Vc.seq ?_
                      refine Vc.text (List.range 2) (sd [(0, .pure), (1, .pure)]) rfl ?_
                      refine Rg.pure rfl rfl rfl (Pv.eql rfl rfl) ?_
                      refine Rg.pure rfl rfl rfl (Pv.assign rfl) ?_
                      refine Rg.nil ?_
                      refine Vc.cond rfl (fun h169 => ?_) (fun h169 => ?_)
                      ·
                        refine Vc.seq ?_
                        refine Vc.text (List.range 5) (sd [(0, .pure), (1, .pure), (2, .read), (3, .eff), (4, .pure)]) rfl ?_
                        refine Rg.pure rfl rfl rfl (Pv.move rfl) ?_
                        refine Rg.pure rfl rfl rfl (Pv.fa rfl) ?_
                        refine Rg.read rfl rfl rfl (Ev.ld rfl rfl) ?_
                        obtain ⟨er, D2, hE⟩ : ∃ er D2, removeD D nm = (er, D2) := ⟨_, _, rfl⟩
                        refine Rg.callH rfl rfl rfl (run_callF rfl) (fun F' hF' => remove_w (F := F') hD hw (by omega) (by omega) nm hE) rfl ?_
                        rintro _ s174 ⟨rfl, hD2, hw2⟩
                        refine Rg.pure rfl rfl rfl (Pv.assign rfl) ?_
                        refine Rg.nil ?_
                        refine Vc.text (List.range 5) (sd [(0, .pure), (1, .pure), (2, .read), (3, .eff), (4, .pure)]) rfl ?_
                        refine Rg.pure rfl rfl rfl (Pv.move rfl) ?_
                        refine Rg.pure rfl rfl rfl (Pv.fa rfl) ?_
                        refine Rg.read rfl rfl rfl (Ev.ld rfl rfl) ?_
                        refine Rg.callH rfl rfl rfl (run_callF rfl) (fun F' hF' => rremove_spec (F := F') hR hw (by omega) (by omega) nm) rfl ?_
                        rintro _ s178 ⟨rfl, hR2⟩
                        rw [hE] at hR2 ⊢
                        refine Rg.pure rfl rfl rfl (Pv.assign rfl) ?_
                        refine Rg.nil ?_
                        exact Vc.inv1 (⟨_, _, s174, s178⟩ : TwoSt) ⟨hD2, hR2, hw2.up1 (k := 0) (by omega)⟩ (.cons rfl (.cons rfl (.cons rfl (.cons rfl (.cons rfl (.cons rfl (.cons rfl .nil))))))) pulled
                      ·
                        refine Vc.seq ?_
                        refine Vc.text (List.range 2) (sd [(0, .pure), (1, .pure)]) rfl ?_
                        refine Rg.pure rfl rfl rfl (Pv.eql rfl rfl) ?_
                        refine Rg.pure rfl rfl rfl (Pv.assign rfl) ?_
                        refine Rg.nil ?_
                        refine Vc.cond rfl (fun h179 => ?_) (fun h179 => ?_)
                        ·
                          refine Vc.seq ?_
                          refine Vc.text (List.range 1) (sd [(0, .pure)]) rfl ?_
                          refine Rg.pure rfl rfl rfl (Pv.assign rfl) ?_
                          refine Rg.nil ?_
                          refine Vc.seq ?_
                          refine Vc.text (List.range 7) (sd [(0, .pure), (1, .eff), (2, .pure), (3, .pure), (4, .pure), (5, .pure), (6, .pure)]) rfl ?_
                          refine Rg.pure rfl rfl rfl (Pv.move rfl) ?_
                          obtain ⟨ns, er, hE⟩ : ∃ ns er, listD D = (ns, er) := ⟨_, _, rfl⟩
                          refine Rg.callH rfl rfl rfl (run_callF rfl) (fun F' hF' => list_w (F := F') hD hw (by omega) (by omega) hE rfl) rfl ?_
                          rintro _ _ ⟨u, su, g1, rfl, ou, hD2, hw2, rfl⟩
                          simp only [List.append_assoc]
                          refine Rg.pure rfl rfl rfl (Pv.move rfl) ?_
                          refine Rg.pure rfl rfl rfl (Pv.extract rfl rfl) ?_
                          refine Rg.pure rfl rfl rfl (Pv.extract rfl rfl) ?_
                          refine Rg.pure rfl rfl rfl (Pv.assign rfl) ?_
                          refine Rg.pure rfl rfl rfl (Pv.assign rfl) ?_
                          refine Rg.nil ?_
                          refine Vc.seq ?_
                          refine Vc.text (List.range 7) (sd [(0, .pure), (1, .eff), (2, .pure), (3, .pure), (4, .pure), (5, .pure), (6, .pure)]) rfl ?_
                          refine Rg.pure rfl rfl rfl (Pv.move rfl) ?_
                          refine Rg.callH rfl rfl rfl (run_callF rfl) (fun F' hF' => rlist_spec (F := F') hR hw (by omega) (by omega)) rfl ?_
                          rintro _ _ ⟨w, sw, g2, rfl, ow, hR2, rfl⟩
                          simp only [List.append_assoc]
                          have hlf := listD_few hw
                          have hl07 := listD_07 D
                          rw [hE] at hlf hl07 ow ⊢
                          simp only at hlf hl07 ow
                          refine Rg.pure rfl rfl rfl (Pv.move rfl) ?_
                          refine Rg.pure rfl rfl rfl (Pv.extract rfl rfl) ?_
                          refine Rg.pure rfl rfl rfl (Pv.extract rfl rfl) ?_
                          refine Rg.pure rfl rfl rfl (Pv.assign rfl) ?_
                          refine Rg.pure rfl rfl rfl (Pv.assign rfl) ?_
                          refine Rg.nil ?_
                          refine Vc.seq ?_
                          refine Vc.seq ?_
                          refine Vc.text (List.range 4) (sd [(0, .pure), (1, .pure), (2, .eff), (3, .pure)]) rfl ?_
                          refine Rg.pure rfl rfl rfl (Pv.move rfl) ?_
                          refine Rg.pure rfl rfl rfl (Pv.move rfl) ?_
                          refine Rg.callP rfl rfl rfl (run_callF rfl) (texts_spec (Arg.own ou frz_sb) (Arg.own ow frz_sb) (by omega) (by omega)) ?_
                          rintro _ rfl
                          refine Rg.pure rfl rfl rfl (Pv.not rfl) ?_
                          refine Rg.nil ?_
                          refine Vc.cond rfl (fun h194 => absurd h194 (by simp)) (fun h194 => ?_)
                          refine Vc.skip ?_
                          refine Vc.seq ?_
                          refine Vc.text (List.range 2) (sd [(0, .pure), (1, .pure)]) rfl ?_
                          refine Rg.pure rfl rfl rfl (Pv.move rfl) ?_
                          refine Rg.pure rfl rfl rfl (Pv.not rfl) ?_
                          refine Rg.nil ?_
                          refine Vc.cond rfl (fun h196 => ?_) (fun h196 => ?_)
                          ·
                            have hl7 : er = 7 := hl07.resolve_left (by simpa using h196)
                            refine Vc.text (List.range 1) (sd [(0, .pure)]) rfl ?_
                            refine Rg.pure rfl rfl rfl (Pv.assign rfl) ?_
                            refine Rg.nil ?_
                            exact Vc.inv1 (⟨_, er, g1, g2⟩ : TwoSt) ⟨hD2, hR2, hw2.up1 (k := 0) (by omega)⟩ (.cons rfl (.cons (by rw [hl7]; rfl) (.cons rfl (.cons rfl (.cons rfl (.cons rfl (.cons rfl .nil))))))) pulled
                          ·
                            have hl0 : er = 0 := by simpa using h196
                            refine Vc.skip ?_
                            exact Vc.inv1 (⟨_, er, g1, g2⟩ : TwoSt) ⟨hD2, hR2, hw2.up1 (k := 0) (by omega)⟩ (.cons rfl (.cons (by rw [hl0]; rfl) (.cons rfl (.cons rfl (.cons rfl (.cons rfl (.cons rfl .nil))))))) pulled
                        ·
                          refine Vc.seq ?_
                          refine Vc.text (List.range 2) (sd [(0, .pure), (1, .pure)]) rfl ?_
                          refine Rg.pure rfl rfl rfl (Pv.eql rfl rfl) ?_
                          refine Rg.pure rfl rfl rfl (Pv.assign rfl) ?_
                          refine Rg.nil ?_
                          refine Vc.cond rfl (fun h197 => ?_) (fun h197 => ?_)
                          ·
                            refine Vc.seq ?_
                            refine Vc.text (List.range 4) (sd [(0, .pure), (1, .pure), (2, .read), (3, .eff)]) rfl ?_
                            refine Rg.pure rfl rfl rfl (Pv.move rfl) ?_
                            refine Rg.pure rfl rfl rfl (Pv.fa rfl) ?_
                            refine Rg.read rfl rfl rfl (Ev.ld rfl rfl) ?_
                            refine Rg.callH rfl rfl rfl (run_callF rfl) (fun F' hF' => crash_w (F := F') hD hw (by omega) (by omega) (hka.mono fun b o h => hF' b o (.inr h)) rfl) rfl ?_
                            rintro v202 s202 ⟨hD2, hw2⟩
                            refine Rg.nil ?_
                            refine Vc.text (List.range 4) (sd [(0, .pure), (1, .pure), (2, .read), (3, .eff)]) rfl ?_
                            refine Rg.pure rfl rfl rfl (Pv.move rfl) ?_
                            refine Rg.pure rfl rfl rfl (Pv.fa rfl) ?_
                            refine Rg.read rfl rfl rfl (Ev.ld rfl rfl) ?_
                            refine Rg.callH rfl rfl rfl (run_callF rfl) (fun F' hF' => rcrash_w (F := F') hR hw (by omega) (by omega) (hka.mono fun b o h => hF' b o (.inr h))) rfl ?_
                            rintro v206 s206 hR2
                            refine Rg.nil ?_
                            exact Vc.inv1 (⟨_, 0, s202, s206⟩ : TwoSt) ⟨hD2, hR2, hw2.up0⟩ (.cons rfl (.cons rfl (.cons rfl (.cons rfl (.cons rfl (.cons rfl (.cons rfl .nil))))))) pulled
                          ·
                            refine Vc.seq ?_
                            refine Vc.text (List.range 2) (sd [(0, .pure), (1, .pure)]) rfl ?_
                            refine Rg.pure rfl rfl rfl (Pv.eql rfl rfl) ?_
                            refine Rg.pure rfl rfl rfl (Pv.assign rfl) ?_
                            refine Rg.nil ?_
                            refine Vc.cond rfl (fun h207 => ?_) (fun h207 => ?_)
                            ·
                              refine Vc.seq ?_
                              refine Vc.text (List.range 2) (sd [(0, .pure), (1, .eff)]) rfl ?_
                              refine Rg.pure rfl rfl rfl (Pv.move rfl) ?_
                              refine Rg.callH rfl rfl rfl (run_callF rfl) (fun F' hF' => restart_w (F := F') hD hw) rfl ?_
                              rintro v210 s210 ⟨hD2, hw2⟩
                              refine Rg.nil ?_
                              obtain ⟨fs, vL, sL, bg, vK, sK, hsrt, hpm, own, hbg, ownK, hpb⟩ := hR.open_
                              refine Vc.perm (List.Perm.trans (pulled : List.Perm _ (h2 ++ _)) (hpb.append_right _)) ?_
                              refine Vc.text (List.range 4) (sd [(0, .pure), (1, .pure), (2, .pure), (3, .eff)]) rfl ?_
                              refine Rg.pure rfl rfl rfl (Pv.move rfl) ?_
                              refine Rg.pure rfl rfl rfl (Pv.nilp rfl) ?_
                              refine Rg.pure rfl rfl rfl (Pv.fa rfl) ?_
                              refine Rg.store rfl rfl rfl rfl rfl rfl rfl rfl ?_
                              refine Rg.nil ?_
                              exact Vc.inv1 (⟨{ D with down := false }, 0, s210, (rb, rfO D.room vL D.ops D.armed vK false) :: (sL ++ (bg ++ sK))⟩ : TwoSt) ⟨hD2, RfAt.shut (D := { D with down := false }) hsrt hpm own hbg ownK (.refl _), hw2.up0⟩ (.cons rfl (.cons rfl (.cons rfl (.cons rfl (.cons rfl (.cons rfl (.cons rfl .nil))))))) pulled
                            ·
                              refine Vc.seq ?_
                              refine Vc.text (List.range 2) (sd [(0, .pure), (1, .pure)]) rfl ?_
                              refine Rg.pure rfl rfl rfl (Pv.eql rfl rfl) ?_
                              refine Rg.pure rfl rfl rfl (Pv.assign rfl) ?_
                              refine Rg.nil ?_
                              refine Vc.cond rfl (fun h214 => ?_) (fun h214 => ?_)
                              ·
                                refine Vc.seq ?_
                                refine Vc.text (List.range 6) (sd [(0, .pure), (1, .pure), (2, .read), (3, .pure), (4, .read), (5, .eff)]) rfl ?_
                                refine Rg.pure rfl rfl rfl (Pv.move rfl) ?_
                                refine Rg.pure rfl rfl rfl (Pv.fa rfl) ?_
                                refine Rg.read rfl rfl rfl (Ev.ld rfl rfl) ?_
                                refine Rg.pure rfl rfl rfl (Pv.fa rfl) ?_
                                refine Rg.read rfl rfl rfl (Ev.ld rfl rfl) ?_
                                refine Rg.callH rfl rfl rfl (run_callF rfl) (fun F' hF' => arm_w (F := F') hD hw nn hnn (hka.mono fun b o h => hF' b o (.inr h)) (by omega)) rfl ?_
                                rintro v221 s221 ⟨hD2, hw2⟩
                                refine Rg.nil ?_
                                refine Vc.text (List.range 6) (sd [(0, .pure), (1, .pure), (2, .read), (3, .pure), (4, .read), (5, .eff)]) rfl ?_
                                refine Rg.pure rfl rfl rfl (Pv.move rfl) ?_
                                refine Rg.pure rfl rfl rfl (Pv.fa rfl) ?_
                                refine Rg.read rfl rfl rfl (Ev.ld rfl rfl) ?_
                                refine Rg.pure rfl rfl rfl (Pv.fa rfl) ?_
                                refine Rg.read rfl rfl rfl (Ev.ld rfl rfl) ?_
                                refine Rg.callH rfl rfl rfl (run_callF rfl) (fun F' hF' => rarm_spec (F := F') hR nn (hka.mono fun b o h => hF' b o (.inr h)) (by omega)) rfl ?_
                                rintro v227 s227 hR2
                                refine Rg.nil ?_
                                exact Vc.inv1 (⟨_, 0, s221, s227⟩ : TwoSt) ⟨hD2, hR2, hw2.up0⟩ (.cons rfl (.cons rfl (.cons rfl (.cons rfl (.cons rfl (.cons rfl (.cons rfl .nil))))))) pulled
                              ·
                                refine Vc.skip ?_
                                exact Vc.inv1 (⟨D, 0, h1, h2⟩ : TwoSt) ⟨hD, hR, hw.up0⟩ (.cons rfl (.cons rfl (.cons rfl (.cons rfl (.cons rfl (.cons rfl (.cons rfl .nil))))))) pulled
      ·
        rintro ⟨D2, e2, s1, s2⟩ ⟨hD2, hR2, hw2⟩
        simp only at hD2 hR2 hw2 ⊢
        obtain ⟨fs, vL, sL, bg, vK, sK, hsrt, hpm, own, hbg, ownK, hpb⟩ := hR2.open_
        have hR3 : RfAt rb D2 ((rb, rfO D2.room vL D2.ops D2.armed vK D2.down) :: (sL ++ (bg ++ sK))) := RfAt.shut hsrt hpm own hbg ownK (.refl _)
        refine Vc.perm (hpb.append_left s1) ?_
        refine Vc.blk ?_
        refine Vc.seq ?_
        refine Vc.draw [] (sd [(0, .pure), (1, .pure), (2, .pure), (3, .pure), (4, .pure), (6, .pure), (7, .pure), (8, .pure), (9, .read), (5, .eff), (10, .pure), (11, .pure), (12, .pure), (13, .pure), (15, .pure), (16, .pure), (17, .pure), (18, .read), (14, .eff), (19, .pure), (20, .pure), (21, .pure), (22, .pure), (24, .pure), (23, .eff), (25, .eff), (26, .pure), (27, .pure), (28, .pure), (29, .pure), (31, .pure), (32, .pure), (33, .pure), (34, .read), (30, .eff), (35, .pure), (36, .pure)]) mixed (by kernel_rfl) ?_
        refine Rg.pure rfl rfl rfl (Pv.move rfl) ?_
        refine Rg.pure rfl rfl rfl (Pv.move rfl) ?_
        refine Rg.pure rfl rfl rfl (Pv.neq rfl rfl) ?_
        refine Rg.pure rfl rfl rfl (Pv.move rfl) ?_
        refine Rg.split (t := 231) rfl (fun h231 => absurd h231 (by simp)) (fun h231 => ?_)
        refine Rg.pure rfl rfl rfl (Pv.move rfl) ?_
        refine Rg.pure rfl rfl rfl (Pv.move rfl) ?_
        refine Rg.pure rfl rfl rfl (Pv.nilp rfl) ?_
        refine Rg.pure rfl rfl rfl (Pv.fa rfl) ?_
        refine Rg.read rfl rfl rfl (Ev.ld rfl rfl) ?_
        refine Rg.callP rfl rfl rfl (run_callF rfl) (downD_spec hD2 frz_sb) ?_
        rintro _ rfl
        refine Rg.pure rfl rfl rfl (Pv.neqB rfl rfl) ?_
        refine Rg.pure rfl rfl rfl (Pv.pickF rfl rfl) ?_
        refine Rg.pure rfl rfl rfl (Pv.move rfl) ?_
        refine Rg.split (t := 240) rfl (fun h240 => absurd h240 (by simp)) (fun h240 => ?_)
        refine Rg.pure rfl rfl rfl (Pv.move rfl) ?_
        refine Rg.pure rfl rfl rfl (Pv.move rfl) ?_
        refine Rg.pure rfl rfl rfl (Pv.nilp rfl) ?_
        refine Rg.pure rfl rfl rfl (Pv.fa rfl) ?_
        refine Rg.read rfl rfl rfl (Ev.ld rfl rfl) ?_
        refine Rg.callP rfl rfl rfl (run_callF rfl) (opsD_spec hD2 frz_sb) ?_
        rintro _ rfl
        refine Rg.pure rfl rfl rfl (Pv.neq rfl rfl) ?_
        refine Rg.pure rfl rfl rfl (Pv.pickF rfl rfl) ?_
        refine Rg.pure rfl rfl rfl (Pv.move rfl) ?_
        refine Rg.split (t := 249) rfl (fun h249 => absurd h249 (by simp)) (fun h249 => ?_)
        refine Rg.pure rfl rfl rfl (Pv.move rfl) ?_
        refine Rg.pure rfl rfl rfl (Pv.move rfl) ?_
        refine Rg.callP rfl rfl rfl (run_callF rfl) (usedD_spec hD2 frz_sb) ?_
        rintro _ rfl
        refine Rg.callP rfl rfl rfl (run_callF rfl) (rused_at hR3 hw2 (by omega) (by omega) (fun b o h => Or.inl (by simp only [List.mem_append]; exact .inr h))) ?_
        rintro _ rfl
        refine Rg.pure rfl rfl rfl (Pv.neq rfl rfl) ?_
        refine Rg.pure rfl rfl rfl (Pv.pickF rfl rfl) ?_
        refine Rg.pure rfl rfl rfl (Pv.move rfl) ?_
        refine Rg.split (t := 256) rfl (fun h256 => absurd h256 (by simp)) (fun h256 => ?_)
        refine Rg.pure rfl rfl rfl (Pv.move rfl) ?_
        refine Rg.pure rfl rfl rfl (Pv.move rfl) ?_
        refine Rg.pure rfl rfl rfl (Pv.nilp rfl) ?_
        refine Rg.pure rfl rfl rfl (Pv.fa rfl) ?_
        refine Rg.read rfl rfl rfl (Ev.ld rfl rfl) ?_
        refine Rg.callP rfl rfl rfl (run_callF rfl) (roomD_spec hD2 frz_sb) ?_
        rintro _ rfl
        refine Rg.pure rfl rfl rfl (Pv.neq rfl rfl) ?_
        refine Rg.pure rfl rfl rfl (Pv.pickF rfl rfl) ?_
        refine Rg.nil ?_
        refine Vc.cond rfl (fun h264 => absurd h264 (by simp)) (fun h264 => ?_)
        refine Vc.skip ?_
        refine Vc.blk ?_
        refine Vc.text (List.range 3) (sd [(0, .pure), (1, .pure), (2, .pure)]) rfl ?_
        refine Rg.pure rfl rfl rfl (Pv.move rfl) ?_
        refine Rg.pure rfl rfl rfl (Pv.asI (i + 1) (Pv.add rfl rfl (by omega)) (by omega)) ?_
        refine Rg.pure rfl rfl rfl (Pv.assign rfl) ?_
        refine Rg.nil ?_
        exact Vc.inv2 (i + 1) (⟨D2, e2, s1, (rb, rfO D2.room vL D2.ops D2.armed vK D2.down) :: (sL ++ (bg ++ sK))⟩ : TwoSt) ⟨⟨by omega, by omega, hD2, hR3, hw2⟩, by omega⟩ (.cons rfl (.cons rfl (.cons rfl (.cons rfl (.cons rfl .nil))))) pulled
    ·
      refine Vc.exit rfl ?_
      refine Vc.seq ?_
      refine Vc.text (List.range 2) (sd [(0, .pure), (1, .pure)]) rfl ?_
      refine Rg.pure rfl rfl rfl (Pv.move rfl) ?_
      refine Rg.pure rfl rfl rfl (Pv.assign rfl) ?_
      refine Rg.nil ?_
      refine Vc.ret (Vc.rets rfl (.cons (.tmp rfl) (.nil)) ?_)
      rfl
end Go.Proofs.Ytmocncadncgaaaa
