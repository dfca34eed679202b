/- Pools: PoolKeeps. -/
import Derived.Test.YtjhegjcjplpmjaaPlT
namespace Go.Proofs.Ytjhegjcjplpmjaa
set_option linter.unusedVariables false

structure KpSt where
  A : List UInt8
  B : List UInt8
  sA : Hl
  sB : Hl
  pl : PlSt
def KpOk (pb db fr na nb : Nat) (vA vB : Value) (b : Nat) (st : KpSt) : Prop := st.A.length = na ∧ st.B.length = nb ∧ Own byteE vA st.A st.sA ∧ Own byteE vB st.B st.sB ∧ PlOk pb db fr (oAB st.A st.B) b st.pl
/-- One of both texts, open, with a way back. -/
def KBack (A B nm own : List UInt8) (na nb : Nat) (vA vB vo : Value) (rest : Hl) : Prop := ∀ (own' : List UInt8) (so' : Hl), own'.length = own.length → Own byteE vo own' so' → ∃ A' B' sA' sB', setO (oAB A B) nm own' = oAB A' B' ∧ A'.length = na ∧ B'.length = nb ∧ Own byteE vA A' sA' ∧ Own byteE vB B' sB' ∧ (so' ++ rest).Perm (sA' ++ sB')
theorem kback_a {A B : List UInt8} {na nb : Nat} {vA vB : Value} {sB : Hl} (hA : A.length = na) (hB : B.length = nb) (o2 : Own byteE vB B sB) : KBack A B fA A na nb vA vB vA sB := fun own' so' hl o => ⟨own', B, so', sB, oAB_setA _ _ _, hl.trans hA, hB, o, o2, .refl _⟩
theorem kback_b {A B : List UInt8} {na nb : Nat} {vA vB : Value} {sA : Hl} (hA : A.length = na) (hB : B.length = nb) (o1 : Own byteE vA A sA) : KBack A B fB B na nb vA vB vB sA := fun own' so' hl o => ⟨A, own', sA, so', oAB_setB _ _ _, hA, hl.trans hB, o1, o, List.perm_append_comm⟩
theorem Own.capLe {v : Value} {p : Option Addr} {m c : Nat} {xs : List UInt8} {s : Hl} (h : Own byteE v xs s) (hv : v = .slice p m c) : xs.length ≤ c ∧ m = xs.length := by
  obtain ⟨p', c', e⟩ := h.shape
  rw [hv] at e
  simp only [Value.slice.injEq] at e
  have h2 := (Arg.own (F := frz ⟨default, fun _ _ => 0, #[], fun _ _ => False, 0⟩ s) h (fun b o h => .inl h))
  rw [hv, e.2.1] at h2
  exact ⟨h2.cap.2, e.2.1⟩
set_option maxHeartbeats 16000000 in
theorem PoolKeeps_spec (F : Fm) (z0 z1 z2 : Int) (v3 : Value) (ls : List StV) (xss : List (List UInt8)) (ha : ArgSt F v3 ls xss) : Spec Try.prog 3 #[.int .i64 z0, .int .i64 z1, .int .i64 z2, v3] F [] fun v _ => v = .bool true := by
  obtain ⟨p3, c3, rfl⟩ := ha.1.shape
  have hcap1 := ha.1.cap
  obtain ⟨z, hz⟩ : ∃ z, z = min z0 10 := ⟨_, rfl⟩
  obtain ⟨fr, hfr⟩ : ∃ fr, fr = (max z 1).toNat := ⟨_, rfl⟩
  obtain ⟨na, hna⟩ : ∃ na, na = andN z1 65535 % 301 := ⟨_, rfl⟩
  obtain ⟨nb, hnb⟩ : ∃ nb, nb = andN z2 65535 % 301 := ⟨_, rfl⟩
  have hA0 := seqA_len na
  have hB0 := seqB_len nb
  have hmB : mB na nb ≤ 1000 := by unfold mB secs; omega
  refine Spec.of (n := 272) (vs := [.int .i64 z0, .int .i64 z1, .int .i64 z2, .slice p3 ls.length c3]) Try.func3 rfl Try.ntmps3 rfl ?_
  refine Vc.seq ?_
  refine Vc.text (List.range 1) (sd [(0, .pure)]) rfl ?_
  refine Rg.pure rfl rfl rfl (Pv.assign rfl) ?_
  refine Rg.nil ?_
  refine Vc.seq ?_
  refine Vc.text (List.range 2) (sd [(0, .eff), (1, .pure)]) rfl ?_
  refine Rg.callA rfl rfl rfl (run_callF rfl) (shown_spec _) ?_
  rintro _ s29 rfl
  refine Rg.pure rfl rfl rfl (Pv.assign rfl) ?_
  refine Rg.nil ?_
  refine Vc.seq ?_
  refine Vc.text (List.range 3) (sd [(0, .pure), (1, .pure), (2, .pure)]) rfl ?_
  refine Rg.pure rfl rfl rfl (Pv.move rfl) ?_
  refine Rg.pure rfl rfl rfl (Pv.as (.int .i64 z) (Pv.min rfl rfl) (by rw [hz])) ?_
  refine Rg.pure rfl rfl rfl (Pv.assign rfl) ?_
  refine Rg.nil ?_
  refine Vc.seq ?_
  refine Vc.text (List.range 4) (sd [(0, .pure), (1, .pure), (2, .pure), (3, .pure)]) rfl ?_
  refine Rg.pure rfl rfl rfl (Pv.move rfl) ?_
  refine Rg.pure rfl rfl rfl (Pv.and rfl rfl (by omega)) ?_
  refine Rg.pure rfl rfl rfl (Pv.asI (na) (Pv.rem rfl rfl (by omega)) (by omega)) ?_
  refine Rg.pure rfl rfl rfl (Pv.assign rfl) ?_
  refine Rg.nil ?_
  refine Vc.seq ?_
  refine Vc.text (List.range 4) (sd [(0, .pure), (1, .pure), (2, .pure), (3, .pure)]) rfl ?_
  refine Rg.pure rfl rfl rfl (Pv.move rfl) ?_
  refine Rg.pure rfl rfl rfl (Pv.and rfl rfl (by omega)) ?_
  refine Rg.pure rfl rfl rfl (Pv.asI (nb) (Pv.rem rfl rfl (by omega)) (by omega)) ?_
  refine Rg.pure rfl rfl rfl (Pv.assign rfl) ?_
  refine Rg.nil ?_
  refine Vc.seq ?_
  refine Vc.text (List.range 4) (sd [(0, .pure), (1, .pure), (2, .eff), (3, .pure)]) rfl ?_
  refine Rg.pure rfl rfl rfl (Pv.move rfl) ?_
  refine Rg.pure rfl rfl rfl (Pv.move rfl) ?_
  refine Rg.callA rfl rfl rfl (run_callF rfl) (made_spec _ na nb (by omega) (by omega)) ?_
  rintro _ s40 ⟨db, rfl, hD40, hw40⟩
  refine Rg.pure rfl rfl rfl (Pv.assign rfl) ?_
  refine Rg.nil ?_
  refine Vc.seq ?_
  refine Vc.seq ?_
  refine Vc.text (List.range 2) (sd [(0, .pure), (1, .pure)]) rfl ?_
  refine Rg.pure rfl rfl rfl (Pv.move rfl) ?_
  refine Rg.pure rfl rfl rfl (Pv.eqlNil rfl rfl) ?_
  refine Rg.nil ?_
  refine Vc.cond rfl (fun h42 => absurd h42 (by (intro h; cases h))) (fun h42 => ?_)
  refine Vc.skip ?_
  refine Vc.seq ?_
  refine Vc.text (List.range 4) (sd [(0, .pure), (1, .pure), (2, .eff), (3, .pure)]) rfl ?_
  refine Rg.pure rfl rfl rfl (Pv.move rfl) ?_
  refine Rg.pure rfl rfl rfl (Pv.move rfl) ?_
  refine Rg.callA rfl rfl rfl (run_callF rfl) (newPool_spec _ db z (by omega)) ?_
  rintro _ s45 ⟨pb, rfl, hP45⟩
  rw [← hfr] at hP45
  refine Rg.pure rfl rfl rfl (Pv.assign rfl) ?_
  refine Rg.nil ?_
  refine Vc.seq ?_
  refine Vc.seq ?_
  refine Vc.text (List.range 2) (sd [(0, .pure), (1, .pure)]) rfl ?_
  refine Rg.pure rfl rfl rfl (Pv.move rfl) ?_
  refine Rg.pure rfl rfl rfl (Pv.eqlNil rfl rfl) ?_
  refine Rg.nil ?_
  refine Vc.cond rfl (fun h47 => absurd h47 (by (intro h; cases h))) (fun h47 => ?_)
  refine Vc.skip ?_
  refine Vc.seq ?_
  refine Vc.text (List.range 8) (sd [(0, .pure), (1, .pure), (2, .eff), (3, .pure), (4, .pure), (5, .pure), (6, .pure), (7, .pure)]) rfl ?_
  refine Rg.pure rfl rfl rfl (Pv.move rfl) ?_
  refine Rg.pure rfl rfl rfl (Pv.move rfl) ?_
  refine Rg.callA rfl rfl rfl (run_callF rfl) (bytes_spec _ na nb (by omega) (by omega)) ?_
  rintro _ _ ⟨u1, u2, su1, su2, rfl, o1, o2, rfl⟩
  simp only [List.append_assoc]
  obtain ⟨pA, cA, rfl⟩ := o1.shape
  obtain ⟨pB, cB, rfl⟩ := o2.shape
  rw [hA0] at o1 ⊢
  rw [hB0] at o2 ⊢
  refine Rg.pure rfl rfl rfl (Pv.move rfl) ?_
  refine Rg.pure rfl rfl rfl (Pv.extract rfl rfl) ?_
  refine Rg.pure rfl rfl rfl (Pv.extract rfl rfl) ?_
  refine Rg.pure rfl rfl rfl (Pv.assign rfl) ?_
  refine Rg.pure rfl rfl rfl (Pv.assign rfl) ?_
  refine Rg.nil ?_
  refine Vc.seq ?_
  refine Vc.seq ?_
  refine Vc.text (List.range 1) (sd [(0, .pure)]) rfl ?_
  refine Rg.pure rfl rfl rfl (Pv.assign rfl) ?_
  refine Rg.nil ?_
  refine Vc.block ?_
  refine Vc.loop2 (fun (i : Nat) (st : KpSt) => i ≤ 60 ∧ i ≤ ls.length ∧ KpOk pb db fr na nb (.slice pA na cA) (.slice pB nb cB) (4 + 11 * i) st) (fun i st => [(0, .int .i64 z), (3, .slice p3 ls.length c3), (9, .bool true), (10, .pointer (some ⟨db, 0, none⟩)), (11, .pointer (some ⟨pb, 0, none⟩)), (12, .slice pA na cA), (13, .slice pB nb cB), (14, .int .i64 (i : Int))]) (fun i st => st.pl.h1 ++ (st.pl.h2 ++ (st.sA ++ st.sB))) (fun i st => 60 - i) 0 (⟨seqA na, seqB nb, su1, su2, ⟨4, 0, [], [], dAB (seqA na) (seqB nb) (mB na nb) 4, s45, s40⟩⟩ : KpSt) ⟨by omega, Nat.zero_le _, hA0, hB0, o1, o2, hP45, hD40, hw40, Nat.le_refl _, Nat.zero_le _, oAB_init _ _ hmB⟩ (.cons rfl (.cons rfl (.cons rfl (.cons rfl (.cons rfl (.cons rfl (.cons rfl (.cons rfl .nil)))))))) pulled ?_
  rintro i ⟨A, B, sA, sB, ⟨nq, ck, L1, P1, D1, h1, g1⟩⟩ ⟨hi, hil, hAl, hBl, oA, oB, hP1, hD1, hw1, hnq, hck, hI1⟩
  simp only at hAl hBl oA oB hP1 hD1 hw1 hnq hck hI1 ⊢
  have hsm := oAB_small (xa := A) (xb := B) (by omega) (by omega)
  refine Vc.seq ?_
  refine Vc.seq ?_
  refine Vc.cut1 (fun (bb : Bool) => (bb = true → i < ls.length ∧ i < 60)) (fun bb => [(61, .bool bb), (0, .int .i64 z), (3, .slice p3 ls.length c3), (9, .bool true), (10, .pointer (some ⟨db, 0, none⟩)), (11, .pointer (some ⟨pb, 0, none⟩)), (12, .slice pA na cA), (13, .slice pB nb cB), (14, .int .i64 (i : Int))]) (fun bb => h1 ++ (g1 ++ (sA ++ sB))) ?_ ?_
  ·
    refine Vc.text (List.range 8) (sd [(0, .pure), (1, .pure), (2, .pure), (3, .pure), (4, .pure), (5, .pure), (6, .pure), (7, .pure)]) rfl ?_
    refine Rg.pure rfl rfl rfl (Pv.move rfl) ?_
    refine Rg.pure rfl rfl rfl (Pv.move rfl) ?_
    refine Rg.pure rfl rfl rfl (Pv.lenS rfl) ?_
    refine Rg.pure rfl rfl rfl (Pv.lss rfl rfl) ?_
    refine Rg.pure rfl rfl rfl (Pv.move rfl) ?_
    refine Rg.split (t := 58) rfl (fun h58 => ?_) (fun h58 => ?_)
    ·
      simp only [decide_eq_true_eq] at h58
      refine Rg.pure rfl rfl rfl (Pv.move rfl) ?_
      refine Rg.pure rfl rfl rfl (Pv.lss rfl rfl) ?_
      refine Rg.pure rfl rfl rfl (Pv.pickT rfl rfl) ?_
      refine Rg.nil ?_
      exact Vc.inv1 _ (fun hb => ⟨by omega, by have := of_decide_eq_true hb; omega⟩) (.cons rfl (.cons rfl (.cons rfl (.cons rfl (.cons rfl (.cons rfl (.cons rfl (.cons rfl (.cons rfl .nil))))))))) pulled
    ·
      iterate 2 (first | refine Rg.skipP rfl rfl rfl ?_ | refine Rg.skipR rfl rfl rfl ?_ | refine Rg.skipE rfl rfl rfl ?_)
      refine Rg.pure rfl rfl rfl (Pv.pickF rfl rfl) ?_
      refine Rg.nil ?_
      exact Vc.inv1 _ (fun hb => by cases hb) (.cons rfl (.cons rfl (.cons rfl (.cons rfl (.cons rfl (.cons rfl (.cons rfl (.cons rfl (.cons rfl .nil))))))))) pulled
  ·
    rintro bb hbb
    refine Vc.cond rfl (fun h61 => ?_) (fun h61 => ?_)
    ·
      obtain ⟨hix, hi60⟩ := hbb h61
      obtain ⟨dt, hdl, hdc, hda⟩ := ha.piece hix
      obtain ⟨⟨kind, at_, nn, other, pd, md, cd⟩, hs⟩ : ∃ s, ls[i]! = s := ⟨_, rfl⟩
      rw [hs] at hdl hdc hda
      simp only at hdl hdc hda
      obtain ⟨bl, offl, cl', e, _⟩ := ha.1.block (by omega)
      cases e
      refine Vc.skip ?_
      refine Vc.seq ?_
      refine Vc.block ?_
      refine Vc.seq ?_
      refine Vc.text (List.range 6) (sd [(0, .pure), (1, .pure), (2, .pure), (3, .read), (4, .eff), (5, .eff)]) rfl ?_
      refine Rg.pure rfl rfl rfl (Pv.move rfl) ?_
      refine Rg.pure rfl rfl rfl (Pv.move rfl) ?_
      refine Rg.pure rfl rfl rfl (Pv.ixA (i) rfl rfl (by omega) (by omega)) ?_
      refine Rg.read rfl rfl rfl (Ev.as (stV ⟨kind, at_, nn, other, pd, md, cd⟩) (Ev.ldS (E := stE) i ha.1.src rfl rfl rfl (by omega)) (congrArg stE.val hs)) ?_
      refine Rg.alloc rfl rfl rfl rfl (fun b15 => ?_)
      refine Rg.storeA rfl rfl rfl rfl rfl rfl rfl rfl ?_
      refine Rg.nil ?_
      refine Vc.seq ?_
      refine Vc.text (List.range 1) (sd [(0, .pure)]) rfl ?_
      refine Rg.pure rfl rfl rfl (Pv.assign rfl) ?_
      refine Rg.nil ?_
      refine Vc.seq ?_
      refine Vc.text (List.range 2) (sd [(0, .pure), (1, .pure)]) rfl ?_
      refine Rg.pure rfl rfl rfl (Pv.move rfl) ?_
      refine Rg.pure rfl rfl rfl (Pv.assign rfl) ?_
      refine Rg.nil ?_
      refine Vc.seq ?_
      refine Vc.seq ?_
      refine Vc.text (List.range 2) (sd [(0, .pure), (1, .read)]) rfl ?_
      refine Rg.pure rfl rfl rfl (Pv.fa rfl) ?_
      refine Rg.read rfl rfl rfl (Ev.ld rfl rfl) ?_
      refine Rg.nil ?_
      refine Vc.cut6 (fun (nm own : List UInt8) (po : Option Addr) (co : Nat) (so rest : Hl) => oAB A B nm = some own ∧ Own byteE (.slice po own.length co) own so ∧ KBack A B nm own na nb (.slice pA na cA) (.slice pB nb cB) (.slice po own.length co) rest) (fun nm own po co so rest => [(0, .int .i64 z), (3, .slice (some ⟨bl, offl, none⟩) ls.length c3), (9, .bool true), (10, .pointer (some ⟨db, 0, none⟩)), (11, .pointer (some ⟨pb, 0, none⟩)), (12, .slice pA na cA), (13, .slice pB nb cB), (14, .int .i64 (i : Int)), (15, .pointer (some ⟨b15, 0, none⟩)), (16, kS nm), (17, .slice po own.length co)]) (fun nm own po co so rest => (b15, cellsO [.int .i64 kind, .int .i64 at_, .int .i64 nn, .bool other, .slice pd md cd] 32) :: (h1 ++ (g1 ++ (so ++ rest)))) ?_ ?_
      ·
        refine Vc.cond rfl (fun h70 => ?_) (fun h70 => ?_)
        ·
          refine Vc.seq ?_
          refine Vc.text (List.range 1) (sd [(0, .pure)]) rfl ?_
          refine Rg.pure rfl rfl rfl (Pv.assign rfl) ?_
          refine Rg.nil ?_
          refine Vc.text (List.range 2) (sd [(0, .pure), (1, .pure)]) rfl ?_
          refine Rg.pure rfl rfl rfl (Pv.move rfl) ?_
          refine Rg.pure rfl rfl rfl (Pv.assign rfl) ?_
          refine Rg.nil ?_
          exact Vc.inv6 fB B pB cB sB sA ⟨oAB_b _ _, by rw [hBl]; exact oB, by rw [hBl]; exact kback_b hAl hBl oA⟩ (by rw [hBl]; exact (.cons rfl (.cons rfl (.cons rfl (.cons rfl (.cons rfl (.cons rfl (.cons rfl (.cons rfl (.cons rfl (.cons rfl (.cons rfl .nil)))))))))))) pulled
        ·
          refine Vc.skip ?_
          exact Vc.inv6 fA A pA cA sA sB ⟨oAB_a _ _, by rw [hAl]; exact oA, by rw [hAl]; exact kback_a hAl hBl oB⟩ (by rw [hAl]; exact (.cons rfl (.cons rfl (.cons rfl (.cons rfl (.cons rfl (.cons rfl (.cons rfl (.cons rfl (.cons rfl (.cons rfl (.cons rfl .nil)))))))))))) pulled
      ·
        rintro nm own po co so rest ⟨ho, oo, hback⟩
        have ho300 := hsm _ _ ho
        have hoc := (oo.capLe rfl).1
        refine Vc.seq ?_
        refine Vc.text (List.range 8) (sd [(0, .pure), (1, .read), (2, .pure), (3, .read), (4, .pure), (5, .pure), (6, .pure), (7, .pure)]) rfl ?_
        refine Rg.pure rfl rfl rfl (Pv.fa rfl) ?_
        refine Rg.read rfl rfl rfl (Ev.ld rfl rfl) ?_
        refine Rg.pure rfl rfl rfl (Pv.fa rfl) ?_
        refine Rg.read rfl rfl rfl (Ev.ld rfl rfl) ?_
        refine Rg.pure rfl rfl rfl (Pv.lenS rfl) ?_
        refine Rg.pure rfl rfl rfl (Pv.asI (dt.length) (Pv.min rfl rfl) (by omega)) ?_
        refine Rg.pure rfl rfl rfl (Pv.slTo (dt.length) rfl rfl (by omega)) ?_
        refine Rg.pure rfl rfl rfl (Pv.assign rfl) ?_
        refine Rg.nil ?_
        refine Vc.seq ?_
        refine Vc.seq ?_
        refine Vc.text (List.range 2) (sd [(0, .pure), (1, .read)]) rfl ?_
        refine Rg.pure rfl rfl rfl (Pv.fa rfl) ?_
        refine Rg.read rfl rfl rfl (Ev.ld rfl rfl) ?_
        refine Rg.nil ?_
        refine Vc.block ?_
        refine Vc.seq ?_
        refine Vc.seq ?_
        refine Vc.text (List.range 2) (sd [(0, .pure), (1, .pure)]) rfl ?_
        refine Rg.pure rfl rfl rfl (Pv.eql rfl rfl) ?_
        refine Rg.pure rfl rfl rfl (Pv.assign rfl) ?_
        refine Rg.nil ?_
        refine Vc.cut1 (fun (kb : Bool) => True) (fun kb => [(81, .bool kb), (80, .int .i64 kind), (0, .int .i64 z), (3, .slice (some ⟨bl, offl, none⟩) ls.length c3), (9, .bool true), (10, .pointer (some ⟨db, 0, none⟩)), (11, .pointer (some ⟨pb, 0, none⟩)), (12, .slice pA na cA), (13, .slice pB nb cB), (14, .int .i64 (i : Int)), (15, .pointer (some ⟨b15, 0, none⟩)), (16, kS nm), (17, .slice po own.length co), (18, .slice pd dt.length cd)]) (fun kb => (b15, cellsO [.int .i64 kind, .int .i64 at_, .int .i64 nn, .bool other, .slice pd md cd] 32) :: (h1 ++ (g1 ++ (so ++ rest)))) ?_ ?_
        ·
          refine Vc.cond rfl (fun h81 => ?_) (fun h81 => ?_)
          ·
            refine Vc.skip ?_
            exact Vc.inv1 _ trivial (.cons rfl (.cons rfl (.cons rfl (.cons rfl (.cons rfl (.cons rfl (.cons rfl (.cons rfl (.cons rfl (.cons rfl (.cons rfl (.cons rfl (.cons rfl (.cons rfl .nil)))))))))))))) pulled
          ·
            refine Vc.text (List.range 2) (sd [(0, .pure), (1, .pure)]) rfl ?_
            refine Rg.pure rfl rfl rfl (Pv.eql rfl rfl) ?_
            refine Rg.pure rfl rfl rfl (Pv.assign rfl) ?_
            refine Rg.nil ?_
            exact Vc.inv1 _ trivial (.cons rfl (.cons rfl (.cons rfl (.cons rfl (.cons rfl (.cons rfl (.cons rfl (.cons rfl (.cons rfl (.cons rfl (.cons rfl (.cons rfl (.cons rfl (.cons rfl .nil)))))))))))))) pulled
        ·
          rintro kb _
          refine Vc.cut1 (fun (st : KpSt) => KpOk pb db fr na nb (.slice pA na cA) (.slice pB nb cB) (4 + 11 * (i + 1)) st) (fun st => [(0, .int .i64 z), (3, .slice (some ⟨bl, offl, none⟩) ls.length c3), (9, .bool true), (10, .pointer (some ⟨db, 0, none⟩)), (11, .pointer (some ⟨pb, 0, none⟩)), (12, .slice pA na cA), (13, .slice pB nb cB), (14, .int .i64 (i : Int))]) (fun st => st.pl.h1 ++ (st.pl.h2 ++ (st.sA ++ st.sB))) ?_ ?_
          ·
            refine Vc.cond rfl (fun h81 => ?_) (fun h81 => ?_)
            ·
              refine Vc.seq ?_
              refine Vc.text (List.range 12) (sd [(0, .pure), (1, .pure), (2, .pure), (3, .read), (4, .pure), (5, .read), (6, .eff), (7, .pure), (8, .pure), (9, .pure), (10, .pure), (11, .pure)]) rfl ?_
              refine Rg.pure rfl rfl rfl (Pv.move rfl) ?_
              refine Rg.pure rfl rfl rfl (Pv.move rfl) ?_
              refine Rg.pure rfl rfl rfl (Pv.fa rfl) ?_
              refine Rg.read rfl rfl rfl (Ev.ld rfl rfl) ?_
              refine Rg.pure rfl rfl rfl (Pv.fa rfl) ?_
              refine Rg.read rfl rfl rfl (Ev.ld rfl rfl) ?_
              refine Rg.callH rfl rfl rfl (run_callF rfl) (fun F' hF' => read_any (F := F') hP1 hD1 hw1 (by omega) hI1 hck (by omega) hsm ho at_ nn) rfl ?_
              rintro _ _ ⟨u, bs, su, h3, g3, L2, P2, D2, ck2, n2, e1, rfl, ou, rfl, hP2, hD2, hw2, hn2, hck2, hI2, hgo1, hba1, _⟩
              simp only [List.append_assoc]
              obtain ⟨pu, cu, rfl⟩ := ou.shape
              refine Rg.pure rfl rfl rfl (Pv.move rfl) ?_
              refine Rg.pure rfl rfl rfl (Pv.extract rfl rfl) ?_
              refine Rg.pure rfl rfl rfl (Pv.extract rfl rfl) ?_
              refine Rg.pure rfl rfl rfl (Pv.assign rfl) ?_
              refine Rg.pure rfl rfl rfl (Pv.assign rfl) ?_
              refine Rg.nil ?_
              refine Vc.seq ?_
              refine Vc.cut1 (fun (mb : Bool) => mb = true ↔ mayP own.length at_ nn) (fun mb => [(21, .bool mb), (19, .slice pu bs.length cu), (20, .int .i64 e1), (0, .int .i64 z), (3, .slice (some ⟨bl, offl, none⟩) ls.length c3), (9, .bool true), (10, .pointer (some ⟨db, 0, none⟩)), (11, .pointer (some ⟨pb, 0, none⟩)), (12, .slice pA na cA), (13, .slice pB nb cB), (14, .int .i64 (i : Int)), (15, .pointer (some ⟨b15, 0, none⟩)), (16, kS nm), (17, .slice po own.length co)]) (fun mb => su ++ (h3 ++ (g3 ++ ((b15, cellsO [.int .i64 kind, .int .i64 at_, .int .i64 nn, .bool other, .slice pd md cd] 32) :: (so ++ rest))))) ?_ ?_
              ·
                refine Vc.text (List.range 26) (sd [(0, .pure), (1, .read), (2, .pure), (3, .pure), (4, .pure), (5, .read), (6, .pure), (7, .pure), (8, .pure), (9, .pure), (10, .read), (11, .pure), (12, .pure), (13, .pure), (14, .pure), (15, .pure), (16, .pure), (17, .read), (18, .pure), (19, .pure), (20, .pure), (21, .read), (22, .pure), (23, .pure), (24, .pure), (25, .pure)]) rfl ?_
                refine Rg.pure rfl rfl rfl (Pv.fa rfl) ?_
                refine Rg.read rfl rfl rfl (Ev.ld rfl rfl) ?_
                refine Rg.pure rfl rfl rfl (Pv.geq rfl rfl) ?_
                refine Rg.pure rfl rfl rfl (Pv.move rfl) ?_
                refine Rg.split (t := 97) rfl (fun h97 => ?_) (fun h97 => ?_)
                ·
                  simp only [decide_eq_true_eq] at h97
                  refine Rg.pure rfl rfl rfl (Pv.fa rfl) ?_
                  refine Rg.read rfl rfl rfl (Ev.ld rfl rfl) ?_
                  refine Rg.pure rfl rfl rfl (Pv.geq rfl rfl) ?_
                  refine Rg.pure rfl rfl rfl (Pv.pickT rfl rfl) ?_
                  refine Rg.pure rfl rfl rfl (Pv.move rfl) ?_
                  refine Rg.split (t := 102) rfl (fun h102 => ?_) (fun h102 => ?_)
                  ·
                    simp only [decide_eq_true_eq] at h102
                    refine Rg.pure rfl rfl rfl (Pv.fa rfl) ?_
                    refine Rg.read rfl rfl rfl (Ev.ld rfl rfl) ?_
                    refine Rg.pure rfl rfl rfl (Pv.move rfl) ?_
                    refine Rg.pure rfl rfl rfl (Pv.lenS rfl) ?_
                    refine Rg.pure rfl rfl rfl (Pv.leq rfl rfl) ?_
                    refine Rg.pure rfl rfl rfl (Pv.pickT rfl rfl) ?_
                    refine Rg.pure rfl rfl rfl (Pv.move rfl) ?_
                    refine Rg.split (t := 109) rfl (fun h109 => ?_) (fun h109 => ?_)
                    ·
                      simp only [decide_eq_true_eq] at h109
                      refine Rg.pure rfl rfl rfl (Pv.fa rfl) ?_
                      refine Rg.read rfl rfl rfl (Ev.ld rfl rfl) ?_
                      refine Rg.pure rfl rfl rfl (Pv.move rfl) ?_
                      refine Rg.pure rfl rfl rfl (Pv.lenS rfl) ?_
                      refine Rg.pure rfl rfl rfl (Pv.fa rfl) ?_
                      refine Rg.read rfl rfl rfl (Ev.ld rfl rfl) ?_
                      refine Rg.pure rfl rfl rfl (Pv.sub rfl rfl (by omega)) ?_
                      refine Rg.pure rfl rfl rfl (Pv.leq rfl rfl) ?_
                      refine Rg.pure rfl rfl rfl (Pv.pickT rfl rfl) ?_
                      refine Rg.pure rfl rfl rfl (Pv.assign rfl) ?_
                      refine Rg.nil ?_
                      exact Vc.inv1 _ ⟨fun h => by have := of_decide_eq_true h; unfold mayP; omega, fun h => decide_eq_true (by unfold mayP at h; omega)⟩ (.cons rfl (.cons rfl (.cons rfl (.cons rfl (.cons rfl (.cons rfl (.cons rfl (.cons rfl (.cons rfl (.cons rfl (.cons rfl (.cons rfl (.cons rfl (.cons rfl .nil)))))))))))))) pulled
                    ·
                      simp only [decide_eq_false_iff_not] at h109
                      iterate 8 (first | refine Rg.skipP rfl rfl rfl ?_ | refine Rg.skipR rfl rfl rfl ?_ | refine Rg.skipE rfl rfl rfl ?_)
                      refine Rg.pure rfl rfl rfl (Pv.pickF rfl rfl) ?_
                      refine Rg.pure rfl rfl rfl (Pv.assign rfl) ?_
                      refine Rg.nil ?_
                      exact Vc.inv1 _ ⟨fun h => (by cases h), fun h => by unfold mayP at h; omega⟩ (.cons rfl (.cons rfl (.cons rfl (.cons rfl (.cons rfl (.cons rfl (.cons rfl (.cons rfl (.cons rfl (.cons rfl (.cons rfl (.cons rfl (.cons rfl (.cons rfl .nil)))))))))))))) pulled
                  ·
                    simp only [decide_eq_false_iff_not] at h102
                    iterate 5 (first | refine Rg.skipP rfl rfl rfl ?_ | refine Rg.skipR rfl rfl rfl ?_ | refine Rg.skipE rfl rfl rfl ?_)
                    refine Rg.pure rfl rfl rfl (Pv.pickF rfl rfl) ?_
                    refine Rg.pure rfl rfl rfl (Pv.move rfl) ?_
                    iterate 8 (first | refine Rg.skipP rfl rfl rfl ?_ | refine Rg.skipR rfl rfl rfl ?_ | refine Rg.skipE rfl rfl rfl ?_)
                    refine Rg.pure rfl rfl rfl (Pv.pickF rfl rfl) ?_
                    refine Rg.pure rfl rfl rfl (Pv.assign rfl) ?_
                    refine Rg.nil ?_
                    exact Vc.inv1 _ ⟨fun h => (by cases h), fun h => by unfold mayP at h; omega⟩ (.cons rfl (.cons rfl (.cons rfl (.cons rfl (.cons rfl (.cons rfl (.cons rfl (.cons rfl (.cons rfl (.cons rfl (.cons rfl (.cons rfl (.cons rfl (.cons rfl .nil)))))))))))))) pulled
                ·
                  simp only [decide_eq_false_iff_not] at h97
                  iterate 3 (first | refine Rg.skipP rfl rfl rfl ?_ | refine Rg.skipR rfl rfl rfl ?_ | refine Rg.skipE rfl rfl rfl ?_)
                  refine Rg.pure rfl rfl rfl (Pv.pickF rfl rfl) ?_
                  refine Rg.pure rfl rfl rfl (Pv.move rfl) ?_
                  iterate 5 (first | refine Rg.skipP rfl rfl rfl ?_ | refine Rg.skipR rfl rfl rfl ?_ | refine Rg.skipE rfl rfl rfl ?_)
                  refine Rg.pure rfl rfl rfl (Pv.pickF rfl rfl) ?_
                  refine Rg.pure rfl rfl rfl (Pv.move rfl) ?_
                  iterate 8 (first | refine Rg.skipP rfl rfl rfl ?_ | refine Rg.skipR rfl rfl rfl ?_ | refine Rg.skipE rfl rfl rfl ?_)
                  refine Rg.pure rfl rfl rfl (Pv.pickF rfl rfl) ?_
                  refine Rg.pure rfl rfl rfl (Pv.assign rfl) ?_
                  refine Rg.nil ?_
                  exact Vc.inv1 _ ⟨fun h => (by cases h), fun h => by unfold mayP at h; omega⟩ (.cons rfl (.cons rfl (.cons rfl (.cons rfl (.cons rfl (.cons rfl (.cons rfl (.cons rfl (.cons rfl (.cons rfl (.cons rfl (.cons rfl (.cons rfl (.cons rfl .nil)))))))))))))) pulled
              ·
                rintro mb hmb
                have hmf : ¬ mayP own.length at_ nn → mb = false := fun h => by
                  cases hb : mb with
                  | false => rfl
                  | true => exact absurd (hmb.1 hb) h
                have h122 : (!(mb == (e1 == 0))) = false := by
                  by_cases hm : mayP own.length at_ nn
                  · rw [hmb.2 hm, (hgo1 hm).1]; decide
                  · rw [hmf hm, (hba1 hm).1]; decide
                refine Vc.seq ?_
                refine Vc.draw [] (sd [(0, .pure), (1, .pure), (2, .pure), (3, .pure), (4, .pure), (5, .pure), (6, .pure), (7, .pure), (8, .pure), (9, .pure), (10, .pure), (11, .pure), (12, .pure), (13, .pure), (14, .pure), (15, .pure), (16, .pure), (17, .pure), (18, .pure), (19, .pure), (20, .pure), (21, .read), (22, .pure), (23, .pure), (24, .read), (25, .pure), (26, .read), (27, .pure), (28, .read), (29, .pure), (30, .pure), (31, .read), (32, .pure), (33, .pure), (34, .pure)]) mixed (by kernel_rfl) ?_
                refine Rg.pure rfl rfl rfl (Pv.move rfl) ?_
                refine Rg.pure rfl rfl rfl (Pv.move rfl) ?_
                refine Rg.pure rfl rfl rfl (Pv.eql rfl rfl) ?_
                refine Rg.pure rfl rfl rfl (Pv.neqB rfl rfl) ?_
                refine Rg.pure rfl rfl rfl (Pv.move rfl) ?_
                refine Rg.split (t := 123) rfl (fun h123 => absurd h123 (by (rw [h122]; decide))) (fun h123 => ?_)
                refine Rg.pure rfl rfl rfl (Pv.move rfl) ?_
                refine Rg.pure rfl rfl rfl (Pv.not rfl) ?_
                refine Rg.pure rfl rfl rfl (Pv.move rfl) ?_
                refine Rg.split (t := 126) rfl (fun h126 => ?_) (fun h126 => ?_)
                ·
                  have hm : ¬ mayP own.length at_ nn := fun h => by rw [hmb.2 h] at h126; cases h126
                  obtain ⟨he1, hbs, _⟩ := hba1 hm
                  refine Rg.pure rfl rfl rfl (Pv.move rfl) ?_
                  refine Rg.pure rfl rfl rfl (Pv.neq rfl rfl) ?_
                  refine Rg.pure rfl rfl rfl (Pv.move rfl) ?_
                  refine Rg.split (t := 129) rfl (fun h129 => absurd h129 (by (rw [he1]; decide))) (fun h129 => ?_)
                  refine Rg.pure rfl rfl rfl (Pv.move rfl) ?_
                  refine Rg.pure rfl rfl rfl (Pv.lenS rfl) ?_
                  refine Rg.pure rfl rfl rfl (Pv.gtr rfl rfl) ?_
                  refine Rg.pure rfl rfl rfl (Pv.pickF rfl rfl) ?_
                  refine Rg.pure rfl rfl rfl (Pv.pickT rfl rfl) ?_
                  refine Rg.pure rfl rfl rfl (Pv.pickF rfl rfl) ?_
                  refine Rg.pure rfl rfl rfl (Pv.move rfl) ?_
                  refine Rg.split (t := 136) rfl (fun h136 => absurd h136 (by (rw [hbs]; decide))) (fun h136 => ?_)
                  refine Rg.pure rfl rfl rfl (Pv.move rfl) ?_
                  refine Rg.pure rfl rfl rfl (Pv.move rfl) ?_
                  refine Rg.split (t := 138) rfl (fun h138 => absurd h138 (by (rw [hmf hm]; decide))) (fun h138 => ?_)
                  iterate 13 (first | refine Rg.skipP rfl rfl rfl ?_ | refine Rg.skipR rfl rfl rfl ?_ | refine Rg.skipE rfl rfl rfl ?_)
                  refine Rg.pure rfl rfl rfl (Pv.pickF rfl rfl) ?_
                  refine Rg.pure rfl rfl rfl (Pv.pickF rfl rfl) ?_
                  refine Rg.nil ?_
                  refine Vc.cond rfl (fun h153 => absurd h153 (by decide)) (fun h153 => ?_)
                  refine Vc.skip ?_
                  obtain ⟨A', B', sA', sB', hO, hA', hB', oA', oB', hpm⟩ := hback own so rfl oo
                  rw [setO_self ho] at hO
                  exact Vc.inv1 (⟨A', B', sA', sB', ⟨n2, ck2, L2, P2, D2, h3, g3⟩⟩ : KpSt) ⟨hA', hB', oA', oB', hP2, hD2, hw2, by show n2 ≤ 4 + 11 * (i + 1); omega, hck2, by rw [← hO]; exact hI2⟩ (.cons rfl (.cons rfl (.cons rfl (.cons rfl (.cons rfl (.cons rfl (.cons rfl (.cons rfl .nil)))))))) (List.Perm.trans (pulled : List.Perm _ ((h3 ++ (g3 ++ (so ++ rest))) ++ _)) (((hpm.append_left g3).append_left h3).append_right _))
                ·
                  have hmt : mb = true := by simpa using h126
                  have hm := hmb.1 hmt
                  obtain ⟨he1, hbs⟩ := hgo1 hm
                  have hat : at_ = ((at_.toNat : Nat) : Int) := by unfold mayP at hm; omega
                  have hsn : nn = ((nn.toNat : Nat) : Int) := by unfold mayP at hm; omega
                  have hle : at_.toNat + nn.toNat ≤ own.length := by unfold mayP at hm; omega
                  iterate 7 (first | refine Rg.skipP rfl rfl rfl ?_ | refine Rg.skipR rfl rfl rfl ?_ | refine Rg.skipE rfl rfl rfl ?_)
                  refine Rg.pure rfl rfl rfl (Pv.pickF rfl rfl) ?_
                  refine Rg.pure rfl rfl rfl (Pv.pickF rfl rfl) ?_
                  refine Rg.pure rfl rfl rfl (Pv.move rfl) ?_
                  refine Rg.pure rfl rfl rfl (Pv.move rfl) ?_
                  refine Rg.pure rfl rfl rfl (Pv.move rfl) ?_
                  refine Rg.split (t := 138) rfl (fun h138 => ?_) (fun h138 => absurd h138 (by (rw [hmt]; decide)))
                  refine Rg.pure rfl rfl rfl (Pv.move rfl) ?_
                  refine Rg.read rfl rfl rfl (Ev.str (Src.own (rest := []) ou Sb.sub) rfl) ?_
                  refine Rg.pure rfl rfl rfl (Pv.move rfl) ?_
                  refine Rg.pure rfl rfl rfl (Pv.fa rfl) ?_
                  refine Rg.read rfl rfl rfl (Ev.asI _ (Ev.ld rfl rfl) hat) ?_
                  refine Rg.pure rfl rfl rfl (Pv.fa rfl) ?_
                  refine Rg.read rfl rfl rfl (Ev.asI _ (Ev.ld rfl rfl) hat) ?_
                  refine Rg.pure rfl rfl rfl (Pv.fa rfl) ?_
                  refine Rg.read rfl rfl rfl (Ev.asI _ (Ev.ld rfl rfl) hsn) ?_
                  refine Rg.pure rfl rfl rfl (Pv.asI (at_.toNat + nn.toNat) (Pv.add rfl rfl (by omega)) (by omega)) ?_
                  refine Rg.pure rfl rfl rfl (Pv.sl (lv := some (.int .i64 ((at_.toNat : Nat) : Int))) (hv := some (.int .i64 ((at_.toNat + nn.toNat : Nat) : Int))) at_.toNat (at_.toNat + nn.toNat) rfl rfl rfl (by omega) (by omega) (by simp)) ?_
                  refine Rg.read rfl rfl rfl (Ev.str (Arg.srcF (s := so) (((Arg.own oo (fun b o h => Or.inl h)).from (i := at_.toNat) (by omega)).take (k := at_.toNat + nn.toNat - at_.toNat) (by rw [List.length_drop]; omega))) rfl) ?_
                  refine Rg.pure rfl rfl rfl (Pv.neqS rfl rfl) ?_
                  refine Rg.pure rfl rfl rfl (Pv.pickT rfl rfl) ?_
                  refine Rg.pure rfl rfl rfl (Pv.pickF rfl rfl) ?_
                  refine Rg.nil ?_
                  refine Vc.cond rfl (fun h153 => absurd h153 (by (rw [hbs, rdB, Nat.add_sub_cancel_left]; simp))) (fun h153 => ?_)
                  refine Vc.skip ?_
                  obtain ⟨A', B', sA', sB', hO, hA', hB', oA', oB', hpm⟩ := hback own so rfl oo
                  rw [setO_self ho] at hO
                  exact Vc.inv1 (⟨A', B', sA', sB', ⟨n2, ck2, L2, P2, D2, h3, g3⟩⟩ : KpSt) ⟨hA', hB', oA', oB', hP2, hD2, hw2, by show n2 ≤ 4 + 11 * (i + 1); omega, hck2, by rw [← hO]; exact hI2⟩ (.cons rfl (.cons rfl (.cons rfl (.cons rfl (.cons rfl (.cons rfl (.cons rfl (.cons rfl .nil)))))))) (List.Perm.trans (pulled : List.Perm _ ((h3 ++ (g3 ++ (so ++ rest))) ++ _)) (((hpm.append_left g3).append_left h3).append_right _))
            ·
              refine Vc.seq ?_
              refine Vc.seq ?_
              refine Vc.text (List.range 2) (sd [(0, .pure), (1, .pure)]) rfl ?_
              refine Rg.pure rfl rfl rfl (Pv.eql rfl rfl) ?_
              refine Rg.pure rfl rfl rfl (Pv.assign rfl) ?_
              refine Rg.nil ?_
              refine Vc.cut1 (fun (kb : Bool) => True) (fun kb => [(154, .bool kb), (80, .int .i64 kind), (0, .int .i64 z), (3, .slice (some ⟨bl, offl, none⟩) ls.length c3), (9, .bool true), (10, .pointer (some ⟨db, 0, none⟩)), (11, .pointer (some ⟨pb, 0, none⟩)), (12, .slice pA na cA), (13, .slice pB nb cB), (14, .int .i64 (i : Int)), (15, .pointer (some ⟨b15, 0, none⟩)), (16, kS nm), (17, .slice po own.length co), (18, .slice pd dt.length cd)]) (fun kb => (b15, cellsO [.int .i64 kind, .int .i64 at_, .int .i64 nn, .bool other, .slice pd md cd] 32) :: (h1 ++ (g1 ++ (so ++ rest)))) ?_ ?_
              ·
                refine Vc.cond rfl (fun h154 => ?_) (fun h154 => ?_)
                ·
                  refine Vc.skip ?_
                  exact Vc.inv1 _ trivial (.cons rfl (.cons rfl (.cons rfl (.cons rfl (.cons rfl (.cons rfl (.cons rfl (.cons rfl (.cons rfl (.cons rfl (.cons rfl (.cons rfl (.cons rfl (.cons rfl .nil)))))))))))))) pulled
                ·
                  refine Vc.text (List.range 2) (sd [(0, .pure), (1, .pure)]) rfl ?_
                  refine Rg.pure rfl rfl rfl (Pv.eql rfl rfl) ?_
                  refine Rg.pure rfl rfl rfl (Pv.assign rfl) ?_
                  refine Rg.nil ?_
                  exact Vc.inv1 _ trivial (.cons rfl (.cons rfl (.cons rfl (.cons rfl (.cons rfl (.cons rfl (.cons rfl (.cons rfl (.cons rfl (.cons rfl (.cons rfl (.cons rfl (.cons rfl (.cons rfl .nil)))))))))))))) pulled
              ·
                rintro kb2 _
                refine Vc.cond rfl (fun h154 => ?_) (fun h154 => ?_)
                ·
                  refine Vc.seq ?_
                  refine Vc.text (List.range 7) (sd [(0, .pure), (1, .pure), (2, .pure), (3, .read), (4, .pure), (5, .eff), (6, .pure)]) rfl ?_
                  refine Rg.pure rfl rfl rfl (Pv.move rfl) ?_
                  refine Rg.pure rfl rfl rfl (Pv.move rfl) ?_
                  refine Rg.pure rfl rfl rfl (Pv.fa rfl) ?_
                  refine Rg.read rfl rfl rfl (Ev.ld rfl rfl) ?_
                  refine Rg.pure rfl rfl rfl (Pv.move rfl) ?_
                  refine Rg.callH rfl rfl rfl (run_callF rfl) (fun F' hF' => write_any (F := F') hP1 hD1 hw1 (by omega) hI1 hck (by omega) hsm ho at_ (hda.mono fun b o h => hF' b o (.inr h))) rfl ?_
                  rintro _ _ ⟨h3, g3, L2, P2, D2, ck2, n2, e1, ow1, rfl, rfl, hP2, hD2, hw2, hn2, hck2, hI2, hl1, hgo1, hba1, _⟩
                  simp only [List.append_assoc]
                  refine Rg.pure rfl rfl rfl (Pv.assign rfl) ?_
                  refine Rg.nil ?_
                  refine Vc.seq ?_
                  refine Vc.cut1 (fun (mb : Bool) => mb = true ↔ mayP own.length at_ dt.length) (fun mb => [(23, .bool mb), (22, .int .i64 e1), (0, .int .i64 z), (3, .slice (some ⟨bl, offl, none⟩) ls.length c3), (9, .bool true), (10, .pointer (some ⟨db, 0, none⟩)), (11, .pointer (some ⟨pb, 0, none⟩)), (12, .slice pA na cA), (13, .slice pB nb cB), (14, .int .i64 (i : Int)), (15, .pointer (some ⟨b15, 0, none⟩)), (16, kS nm), (17, .slice po own.length co), (18, .slice pd dt.length cd)]) (fun mb => h3 ++ (g3 ++ ((b15, cellsO [.int .i64 kind, .int .i64 at_, .int .i64 nn, .bool other, .slice pd md cd] 32) :: (so ++ rest)))) ?_ ?_
                  ·
                    refine Vc.text (List.range 21) (sd [(0, .pure), (1, .read), (2, .pure), (3, .pure), (4, .pure), (5, .read), (6, .pure), (7, .pure), (8, .pure), (9, .pure), (10, .pure), (11, .pure), (12, .pure), (13, .pure), (14, .pure), (15, .pure), (16, .read), (17, .pure), (18, .pure), (19, .pure), (20, .pure)]) rfl ?_
                    refine Rg.pure rfl rfl rfl (Pv.fa rfl) ?_
                    refine Rg.read rfl rfl rfl (Ev.ld rfl rfl) ?_
                    refine Rg.pure rfl rfl rfl (Pv.geq rfl rfl) ?_
                    refine Rg.pure rfl rfl rfl (Pv.move rfl) ?_
                    refine Rg.split (t := 166) rfl (fun h166 => ?_) (fun h166 => ?_)
                    ·
                      simp only [decide_eq_true_eq] at h166
                      refine Rg.pure rfl rfl rfl (Pv.fa rfl) ?_
                      refine Rg.read rfl rfl rfl (Ev.ld rfl rfl) ?_
                      refine Rg.pure rfl rfl rfl (Pv.move rfl) ?_
                      refine Rg.pure rfl rfl rfl (Pv.lenS rfl) ?_
                      refine Rg.pure rfl rfl rfl (Pv.leq rfl rfl) ?_
                      refine Rg.pure rfl rfl rfl (Pv.pickT rfl rfl) ?_
                      refine Rg.pure rfl rfl rfl (Pv.move rfl) ?_
                      refine Rg.split (t := 173) rfl (fun h173 => ?_) (fun h173 => ?_)
                      ·
                        simp only [decide_eq_true_eq] at h173
                        refine Rg.pure rfl rfl rfl (Pv.move rfl) ?_
                        refine Rg.pure rfl rfl rfl (Pv.lenS rfl) ?_
                        refine Rg.pure rfl rfl rfl (Pv.move rfl) ?_
                        refine Rg.pure rfl rfl rfl (Pv.lenS rfl) ?_
                        refine Rg.pure rfl rfl rfl (Pv.fa rfl) ?_
                        refine Rg.read rfl rfl rfl (Ev.ld rfl rfl) ?_
                        refine Rg.pure rfl rfl rfl (Pv.sub rfl rfl (by omega)) ?_
                        refine Rg.pure rfl rfl rfl (Pv.leq rfl rfl) ?_
                        refine Rg.pure rfl rfl rfl (Pv.pickT rfl rfl) ?_
                        refine Rg.pure rfl rfl rfl (Pv.assign rfl) ?_
                        refine Rg.nil ?_
                        exact Vc.inv1 _ ⟨fun h => by have := of_decide_eq_true h; unfold mayP; omega, fun h => decide_eq_true (by unfold mayP at h; omega)⟩ (.cons rfl (.cons rfl (.cons rfl (.cons rfl (.cons rfl (.cons rfl (.cons rfl (.cons rfl (.cons rfl (.cons rfl (.cons rfl (.cons rfl (.cons rfl (.cons rfl .nil)))))))))))))) pulled
                      ·
                        simp only [decide_eq_false_iff_not] at h173
                        iterate 8 (first | refine Rg.skipP rfl rfl rfl ?_ | refine Rg.skipR rfl rfl rfl ?_ | refine Rg.skipE rfl rfl rfl ?_)
                        refine Rg.pure rfl rfl rfl (Pv.pickF rfl rfl) ?_
                        refine Rg.pure rfl rfl rfl (Pv.assign rfl) ?_
                        refine Rg.nil ?_
                        exact Vc.inv1 _ ⟨fun h => (by cases h), fun h => by unfold mayP at h; omega⟩ (.cons rfl (.cons rfl (.cons rfl (.cons rfl (.cons rfl (.cons rfl (.cons rfl (.cons rfl (.cons rfl (.cons rfl (.cons rfl (.cons rfl (.cons rfl (.cons rfl .nil)))))))))))))) pulled
                    ·
                      simp only [decide_eq_false_iff_not] at h166
                      iterate 5 (first | refine Rg.skipP rfl rfl rfl ?_ | refine Rg.skipR rfl rfl rfl ?_ | refine Rg.skipE rfl rfl rfl ?_)
                      refine Rg.pure rfl rfl rfl (Pv.pickF rfl rfl) ?_
                      refine Rg.pure rfl rfl rfl (Pv.move rfl) ?_
                      iterate 8 (first | refine Rg.skipP rfl rfl rfl ?_ | refine Rg.skipR rfl rfl rfl ?_ | refine Rg.skipE rfl rfl rfl ?_)
                      refine Rg.pure rfl rfl rfl (Pv.pickF rfl rfl) ?_
                      refine Rg.pure rfl rfl rfl (Pv.assign rfl) ?_
                      refine Rg.nil ?_
                      exact Vc.inv1 _ ⟨fun h => (by cases h), fun h => by unfold mayP at h; omega⟩ (.cons rfl (.cons rfl (.cons rfl (.cons rfl (.cons rfl (.cons rfl (.cons rfl (.cons rfl (.cons rfl (.cons rfl (.cons rfl (.cons rfl (.cons rfl (.cons rfl .nil)))))))))))))) pulled
                  ·
                    rintro mb hmb
                    have hmf : ¬ mayP own.length at_ dt.length → mb = false := fun h => by
                      cases hb : mb with
                      | false => rfl
                      | true => exact absurd (hmb.1 hb) h
                    have h186 : (!(mb == (e1 == 0))) = false := by
                      by_cases hm : mayP own.length at_ dt.length
                      · rw [hmb.2 hm, (hgo1 hm).1]; decide
                      · rw [hmf hm, (hba1 hm).1]; decide
                    have hpl : mb = true → at_ = ((at_.toNat : Nat) : Int) ∧ at_.toNat + dt.length ≤ own.length := fun h => by
                      have hm := hmb.1 h
                      unfold mayP at hm; omega
                    have how : ow1 = if mb = true then putAt own at_.toNat dt else own := by
                      by_cases hm : mayP own.length at_ dt.length
                      · rw [if_pos (hmb.2 hm)]; exact (hgo1 hm).2
                      · rw [if_neg (by rw [hmf hm]; decide)]; exact (hba1 hm).2
                    refine Vc.seq ?_
                    refine Vc.seq ?_
                    refine Vc.cut1 (fun (rb : Bool) => rb = false) (fun rb => [(194, .bool rb), (23, .bool mb), (0, .int .i64 z), (3, .slice (some ⟨bl, offl, none⟩) ls.length c3), (9, .bool true), (10, .pointer (some ⟨db, 0, none⟩)), (11, .pointer (some ⟨pb, 0, none⟩)), (12, .slice pA na cA), (13, .slice pB nb cB), (14, .int .i64 (i : Int)), (15, .pointer (some ⟨b15, 0, none⟩)), (16, kS nm), (17, .slice po own.length co), (18, .slice pd dt.length cd)]) (fun rb => h3 ++ (g3 ++ ((b15, cellsO [.int .i64 kind, .int .i64 at_, .int .i64 nn, .bool other, .slice pd md cd] 32) :: (so ++ rest)))) ?_ ?_
                    ·
                      refine Vc.text (List.range 12) (sd [(0, .pure), (1, .pure), (2, .pure), (3, .pure), (4, .pure), (5, .pure), (6, .pure), (7, .pure), (8, .pure), (9, .pure), (10, .pure), (11, .pure)]) rfl ?_
                      refine Rg.pure rfl rfl rfl (Pv.move rfl) ?_
                      refine Rg.pure rfl rfl rfl (Pv.move rfl) ?_
                      refine Rg.pure rfl rfl rfl (Pv.eql rfl rfl) ?_
                      refine Rg.pure rfl rfl rfl (Pv.neqB rfl rfl) ?_
                      refine Rg.pure rfl rfl rfl (Pv.move rfl) ?_
                      refine Rg.split (t := 187) rfl (fun h187 => absurd h187 (by (rw [h186]; decide))) (fun h187 => ?_)
                      refine Rg.pure rfl rfl rfl (Pv.move rfl) ?_
                      refine Rg.pure rfl rfl rfl (Pv.not rfl) ?_
                      refine Rg.pure rfl rfl rfl (Pv.move rfl) ?_
                      refine Rg.split (t := 190) rfl (fun h190 => ?_) (fun h190 => ?_)
                      ·
                        have hm : ¬ mayP own.length at_ dt.length := fun h => by rw [hmb.2 h] at h190; cases h190
                        obtain ⟨he1, _⟩ := hba1 hm
                        refine Rg.pure rfl rfl rfl (Pv.move rfl) ?_
                        refine Rg.pure rfl rfl rfl (Pv.neq rfl rfl) ?_
                        refine Rg.pure rfl rfl rfl (Pv.pickT rfl rfl) ?_
                        refine Rg.pure rfl rfl rfl (Pv.pickF rfl rfl) ?_
                        refine Rg.nil ?_
                        exact Vc.inv1 _ (by rw [he1]; decide) (.cons rfl (.cons rfl (.cons rfl (.cons rfl (.cons rfl (.cons rfl (.cons rfl (.cons rfl (.cons rfl (.cons rfl (.cons rfl (.cons rfl (.cons rfl (.cons rfl .nil)))))))))))))) pulled
                      ·
                        iterate 2 (first | refine Rg.skipP rfl rfl rfl ?_ | refine Rg.skipR rfl rfl rfl ?_ | refine Rg.skipE rfl rfl rfl ?_)
                        refine Rg.pure rfl rfl rfl (Pv.pickF rfl rfl) ?_
                        refine Rg.pure rfl rfl rfl (Pv.pickF rfl rfl) ?_
                        refine Rg.nil ?_
                        exact Vc.inv1 _ rfl (.cons rfl (.cons rfl (.cons rfl (.cons rfl (.cons rfl (.cons rfl (.cons rfl (.cons rfl (.cons rfl (.cons rfl (.cons rfl (.cons rfl (.cons rfl (.cons rfl .nil)))))))))))))) pulled
                    ·
                      rintro rb hrb
                      refine Vc.cond rfl (fun h194 => absurd h194 (by (rw [hrb]; decide))) (fun h194 => ?_)
                      refine Vc.skip ?_
                      refine Vc.seq ?_
                      refine Vc.text (List.range 1) (sd [(0, .pure)]) rfl ?_
                      refine Rg.pure rfl rfl rfl (Pv.assign rfl) ?_
                      refine Rg.nil ?_
                      refine Vc.block ?_
                      refine Vc.loop3 (fun (k : Nat) (cur : List UInt8) (sc : Hl) => k ≤ dt.length ∧ Own byteE (.slice po own.length co) cur sc ∧ cur = (if mb = true then putAt own at_.toNat (dt.take k) else own)) (fun k cur sc => [(24, .int .i64 (k : Int)), (23, .bool mb), (0, .int .i64 z), (3, .slice (some ⟨bl, offl, none⟩) ls.length c3), (9, .bool true), (10, .pointer (some ⟨db, 0, none⟩)), (11, .pointer (some ⟨pb, 0, none⟩)), (12, .slice pA na cA), (13, .slice pB nb cB), (14, .int .i64 (i : Int)), (15, .pointer (some ⟨b15, 0, none⟩)), (16, kS nm), (17, .slice po own.length co), (18, .slice pd dt.length cd)]) (fun k cur sc => h3 ++ (g3 ++ ((b15, cellsO [.int .i64 kind, .int .i64 at_, .int .i64 nn, .bool other, .slice pd md cd] 32) :: (sc ++ rest)))) (fun k cur sc => dt.length - k) 0 own so ⟨Nat.zero_le _, oo, by rw [List.take_zero, put_nil]; split <;> rfl⟩ (.cons rfl (.cons rfl (.cons rfl (.cons rfl (.cons rfl (.cons rfl (.cons rfl (.cons rfl (.cons rfl (.cons rfl (.cons rfl (.cons rfl (.cons rfl (.cons rfl .nil)))))))))))))) pulled ?_
                      rintro k cur sc ⟨hk, oc, hcur⟩
                      have hcl : cur.length = own.length := by
                        rw [hcur]
                        split
                        · next h => have := hpl h; exact put_len (by rw [List.length_take]; omega)
                        · rfl
                      refine Vc.seq ?_
                      refine Vc.seq ?_
                      refine Vc.cut1 (fun (bb : Bool) => (bb = true → k < dt.length ∧ mb = true) ∧ (bb = false → k = dt.length ∨ mb = false)) (fun bb => [(201, .bool bb), (24, .int .i64 (k : Int)), (23, .bool mb), (0, .int .i64 z), (3, .slice (some ⟨bl, offl, none⟩) ls.length c3), (9, .bool true), (10, .pointer (some ⟨db, 0, none⟩)), (11, .pointer (some ⟨pb, 0, none⟩)), (12, .slice pA na cA), (13, .slice pB nb cB), (14, .int .i64 (i : Int)), (15, .pointer (some ⟨b15, 0, none⟩)), (16, kS nm), (17, .slice po own.length co), (18, .slice pd dt.length cd)]) (fun bb => h3 ++ (g3 ++ ((b15, cellsO [.int .i64 kind, .int .i64 at_, .int .i64 nn, .bool other, .slice pd md cd] 32) :: (sc ++ rest)))) ?_ ?_
                      ·
                        refine Vc.text (List.range 7) (sd [(0, .pure), (1, .pure), (2, .pure), (3, .pure), (4, .pure), (5, .pure), (6, .pure)]) rfl ?_
                        refine Rg.pure rfl rfl rfl (Pv.move rfl) ?_
                        refine Rg.pure rfl rfl rfl (Pv.move rfl) ?_
                        refine Rg.pure rfl rfl rfl (Pv.lenS rfl) ?_
                        refine Rg.pure rfl rfl rfl (Pv.lss rfl rfl) ?_
                        refine Rg.pure rfl rfl rfl (Pv.move rfl) ?_
                        refine Rg.split (t := 199) rfl (fun h199 => ?_) (fun h199 => ?_)
                        ·
                          simp only [decide_eq_true_eq] at h199
                          refine Rg.pure rfl rfl rfl (Pv.move rfl) ?_
                          refine Rg.pure rfl rfl rfl (Pv.pickT rfl rfl) ?_
                          refine Rg.nil ?_
                          exact Vc.inv1 mb ⟨fun h => ⟨by omega, h⟩, fun h => .inr h⟩ (.cons rfl (.cons rfl (.cons rfl (.cons rfl (.cons rfl (.cons rfl (.cons rfl (.cons rfl (.cons rfl (.cons rfl (.cons rfl (.cons rfl (.cons rfl (.cons rfl (.cons rfl .nil))))))))))))))) pulled
                        ·
                          simp only [decide_eq_false_iff_not] at h199
                          (first | refine Rg.skipP rfl rfl rfl ?_ | refine Rg.skipR rfl rfl rfl ?_ | refine Rg.skipE rfl rfl rfl ?_)
                          refine Rg.pure rfl rfl rfl (Pv.pickF rfl rfl) ?_
                          refine Rg.nil ?_
                          exact Vc.inv1 false ⟨fun h => (by cases h), fun _ => .inl (by omega)⟩ (.cons rfl (.cons rfl (.cons rfl (.cons rfl (.cons rfl (.cons rfl (.cons rfl (.cons rfl (.cons rfl (.cons rfl (.cons rfl (.cons rfl (.cons rfl (.cons rfl (.cons rfl .nil))))))))))))))) pulled
                      ·
                        rintro bb ⟨hb1, hb2⟩
                        refine Vc.cond rfl (fun h201 => ?_) (fun h201 => ?_)
                        ·
                          obtain ⟨hkd, hmt⟩ := hb1 h201
                          obtain ⟨hat, hle⟩ := hpl hmt
                          obtain ⟨bd, offd, cd', e, _⟩ := hda.block (by omega)
                          cases e
                          obtain ⟨bo, capo, spo, e, rfl, hcap, hcm⟩ := oc.block (by omega)
                          simp only [Value.slice.injEq] at e
                          obtain ⟨rfl, _, rfl⟩ := e
                          rw [if_pos hmt] at hcur
                          refine Vc.skip ?_
                          refine Vc.seq ?_
                          refine Vc.block ?_
                          refine Vc.draw [10] (sd [(0, .pure), (1, .pure), (2, .read), (3, .pure), (4, .pure), (5, .pure), (6, .pure), (7, .pure), (8, .read), (9, .pure), (10, .eff)]) mixed (by kernel_rfl) ?_
                          refine Rg.pure rfl rfl rfl (Pv.move rfl) ?_
                          refine Rg.pure rfl rfl rfl (Pv.fa rfl) ?_
                          refine Rg.read rfl rfl rfl (Ev.asI _ (Ev.ld rfl rfl) hat) ?_
                          refine Rg.pure rfl rfl rfl (Pv.move rfl) ?_
                          refine Rg.pure rfl rfl rfl (Pv.asI (at_.toNat + k) (Pv.add rfl rfl (by omega)) (by omega)) ?_
                          refine Rg.pure rfl rfl rfl (Pv.move rfl) ?_
                          refine Rg.pure rfl rfl rfl (Pv.move rfl) ?_
                          refine Rg.pure rfl rfl rfl (Pv.ixA (k) rfl rfl (by omega) (by omega)) ?_
                          refine Rg.read rfl rfl rfl (Ev.ldS (k) (hda.src) rfl rfl rfl (by omega)) ?_
                          refine Rg.pure rfl rfl rfl (Pv.ixA (at_.toNat + k) rfl rfl (by omega) (by omega)) ?_
                          refine Rg.storeR (at_.toNat + k) rfl rfl rfl rfl rfl rfl (Nat.zero_add _) (by omega) rfl ?_
                          refine Rg.nil ?_
                          refine Vc.blk ?_
                          refine Vc.text (List.range 3) (sd [(0, .pure), (1, .pure), (2, .pure)]) rfl ?_
                          refine Rg.pure rfl rfl rfl (Pv.move rfl) ?_
                          refine Rg.pure rfl rfl rfl (Pv.asI (k + 1) (Pv.add rfl rfl (by omega)) (by omega)) ?_
                          refine Rg.pure rfl rfl rfl (Pv.assign rfl) ?_
                          refine Rg.nil ?_
                          exact Vc.inv3 (k + 1) (cur.set (at_.toNat + k) dt[k]!) [(bo, rowS byteE (cur.set (at_.toNat + k) dt[k]!) spo)] ⟨⟨by omega, Own.blk' bo co _ _ spo (by rw [List.length_set, hcl]) (by rw [← hcl]; exact hcap) hcm, by rw [if_pos hmt, hcur]; exact put_set hle hkd⟩, by omega⟩ (.cons rfl (.cons rfl (.cons rfl (.cons rfl (.cons rfl (.cons rfl (.cons rfl (.cons rfl (.cons rfl (.cons rfl (.cons rfl (.cons rfl (.cons rfl (.cons rfl .nil)))))))))))))) pulled
                        ·
                          have hcw : cur = ow1 := by
                            rw [how, hcur]
                            rcases hb2 h201 with h | h
                            · rw [h, List.take_length]
                            · rw [if_neg (by rw [h]; decide), if_neg (by rw [h]; decide)]
                          refine Vc.exit rfl ?_
                          obtain ⟨A', B', sA', sB', hO, hA', hB', oA', oB', hpm⟩ := hback cur sc hcl oc
                          rw [hcw] at hO
                          exact Vc.inv1 (⟨A', B', sA', sB', ⟨n2, ck2, L2, P2, D2, h3, g3⟩⟩ : KpSt) ⟨hA', hB', oA', oB', hP2, hD2, hw2, by show n2 ≤ 4 + 11 * (i + 1); omega, hck2, by rw [← hO]; exact hI2⟩ (.cons rfl (.cons rfl (.cons rfl (.cons rfl (.cons rfl (.cons rfl (.cons rfl (.cons rfl .nil)))))))) (List.Perm.trans (pulled : List.Perm _ ((h3 ++ (g3 ++ (sc ++ rest))) ++ _)) (((hpm.append_left g3).append_left h3).append_right _))
                ·
                  refine Vc.seq ?_
                  refine Vc.text (List.range 2) (sd [(0, .pure), (1, .pure)]) rfl ?_
                  refine Rg.pure rfl rfl rfl (Pv.eql rfl rfl) ?_
                  refine Rg.pure rfl rfl rfl (Pv.assign rfl) ?_
                  refine Rg.nil ?_
                  refine Vc.cond rfl (fun h214 => ?_) (fun h214 => ?_)
                  ·
                    refine Vc.seq ?_
                    refine Vc.seq ?_
                    refine Vc.text (List.range 4) (sd [(0, .pure), (1, .pure), (2, .eff), (3, .pure)]) rfl ?_
                    refine Rg.pure rfl rfl rfl (Pv.move rfl) ?_
                    refine Rg.pure rfl rfl rfl (Pv.move rfl) ?_
                    refine Rg.callH rfl rfl rfl (run_callF rfl) (fun F' hF' => flush_spec (F := F') hP1 hD1 hw1 (by omega) hI1 hsm nm) rfl ?_
                    rintro _ _ ⟨h3, g3, P2, D2, rfl, rfl, hP2, hD2, hw2, hI2, _, hcl2⟩
                    simp only [List.append_assoc]
                    obtain ⟨f2, hf2, hf2n⟩ := hI2.flushed ho fun q x hx e => by
                      cases h : x.dirty with
                      | false => rfl
                      | true => exact absurd e (hcl2 q x hx h).1
                    obtain ⟨hr2, hb2⟩ := hI2.readF hf2 hf2n (at_ := 0) (q := own.length) (by omega)
                    rw [List.drop_zero, List.take_length] at hr2
                    refine Rg.pure rfl rfl rfl (Pv.neq rfl rfl) ?_
                    refine Rg.nil ?_
                    refine Vc.cond rfl (fun h219 => absurd h219 (by decide)) (fun h219 => ?_)
                    refine Vc.skip ?_
                    refine Vc.seq ?_
                    refine Vc.text (List.range 10) (sd [(0, .pure), (1, .pure), (2, .pure), (3, .pure), (4, .eff), (5, .pure), (6, .pure), (7, .pure), (8, .pure), (9, .pure)]) rfl ?_
                    refine Rg.pure rfl rfl rfl (Pv.move rfl) ?_
                    refine Rg.pure rfl rfl rfl (Pv.move rfl) ?_
                    refine Rg.pure rfl rfl rfl (Pv.move rfl) ?_
                    refine Rg.pure rfl rfl rfl (Pv.lenS rfl) ?_
                    refine Rg.callH rfl rfl rfl (run_callF rfl) (fun F' hF' => readAt_w (F := F') hD2 hw2 (by omega) (by omega) nm ((0 : Nat) : Int) ((own.length : Nat) : Int) hr2 hb2) rfl ?_
                    rintro _ _ ⟨u, su, g5, rfl, ou, hD5, hw5, rfl⟩
                    simp only [List.append_assoc]
                    refine Rg.pure rfl rfl rfl (Pv.move rfl) ?_
                    refine Rg.pure rfl rfl rfl (Pv.extract rfl rfl) ?_
                    refine Rg.pure rfl rfl rfl (Pv.extract rfl rfl) ?_
                    refine Rg.pure rfl rfl rfl (Pv.assign rfl) ?_
                    refine Rg.pure rfl rfl rfl (Pv.assign rfl) ?_
                    refine Rg.nil ?_
                    refine Vc.seq ?_
                    refine Vc.text (List.range 9) (sd [(0, .pure), (1, .pure), (2, .pure), (3, .pure), (4, .read), (5, .pure), (6, .read), (7, .pure), (8, .pure)]) rfl ?_
                    refine Rg.pure rfl rfl rfl (Pv.move rfl) ?_
                    refine Rg.pure rfl rfl rfl (Pv.neq rfl rfl) ?_
                    refine Rg.pure rfl rfl rfl (Pv.move rfl) ?_
                    refine Rg.split (t := 230) rfl (fun h230 => absurd h230 (by decide)) (fun h230 => ?_)
                    refine Rg.pure rfl rfl rfl (Pv.move rfl) ?_
                    refine Rg.read rfl rfl rfl (Ev.str (Src.own (rest := []) ou Sb.sub) rfl) ?_
                    refine Rg.pure rfl rfl rfl (Pv.move rfl) ?_
                    refine Rg.read rfl rfl rfl (Ev.str (Src.own (rest := []) oo Sb.sub) rfl) ?_
                    refine Rg.pure rfl rfl rfl (Pv.neqS rfl rfl) ?_
                    refine Rg.pure rfl rfl rfl (Pv.pickF rfl rfl) ?_
                    refine Rg.nil ?_
                    refine Vc.cond rfl (fun h236 => absurd h236 (by simp)) (fun h236 => ?_)
                    refine Vc.skip ?_
                    obtain ⟨A', B', sA', sB', hO, hA', hB', oA', oB', hpm⟩ := hback own so rfl oo
                    rw [setO_self ho] at hO
                    exact Vc.inv1 (⟨A', B', sA', sB', ⟨nq + fr + 1, ck, L1, P2, { D2 with ops := D2.ops + 1 }, h3, g5⟩⟩ : KpSt) ⟨hA', hB', oA', oB', hP2, hD5, (show Dq (nq + fr + 1) _ from hw5.mono (by omega) (by omega)), by show nq + fr + 1 ≤ 4 + 11 * (i + 1); omega, by show ck ≤ nq + fr + 1; omega, by rw [← hO]; exact hI2.ops _⟩ (.cons rfl (.cons rfl (.cons rfl (.cons rfl (.cons rfl (.cons rfl (.cons rfl (.cons rfl .nil)))))))) (List.Perm.trans (pulled : List.Perm _ ((h3 ++ (g5 ++ (so ++ rest))) ++ _)) (((hpm.append_left g5).append_left h3).append_right _))
                  ·
                    refine Vc.skip ?_
                    obtain ⟨A', B', sA', sB', hO, hA', hB', oA', oB', hpm⟩ := hback own so rfl oo
                    rw [setO_self ho] at hO
                    exact Vc.inv1 (⟨A', B', sA', sB', ⟨nq, ck, L1, P1, D1, h1, g1⟩⟩ : KpSt) ⟨hA', hB', oA', oB', hP1, hD1, hw1, by show nq ≤ 4 + 11 * (i + 1); omega, hck, by rw [← hO]; exact hI1⟩ (.cons rfl (.cons rfl (.cons rfl (.cons rfl (.cons rfl (.cons rfl (.cons rfl (.cons rfl .nil)))))))) (List.Perm.trans (pulled : List.Perm _ ((h1 ++ (g1 ++ (so ++ rest))) ++ _)) (((hpm.append_left g1).append_left h1).append_right _))
          ·
            rintro ⟨A', B', sA', sB', ⟨nq', ck', L2, P2, D2, h3, g3⟩⟩ ⟨hAl', hBl', oA', oB', hP2, hD2, hw2, hnq', hck', hI2⟩
            simp only at hAl' hBl' oA' oB' hP2 hD2 hw2 hnq' hck' hI2 ⊢
            have hcp := hI2.cap
            have hdl2 := dirtyN_le P2
            refine Vc.blk ?_
            refine Vc.seq ?_
            refine Vc.text (List.range 17) (sd [(0, .pure), (1, .eff), (2, .pure), (3, .pure), (4, .pure), (5, .pure), (6, .pure), (7, .eff), (8, .pure), (9, .eff), (10, .pure), (11, .pure), (12, .pure), (13, .pure), (14, .eff), (15, .pure), (16, .pure)]) rfl ?_
            refine Rg.pure rfl rfl rfl (Pv.move rfl) ?_
            refine Rg.callP rfl rfl rfl (run_callF rfl) (resident_spec hP2 frz_sb) ?_
            rintro _ rfl
            refine Rg.pure rfl rfl rfl (Pv.move rfl) ?_
            refine Rg.pure rfl rfl rfl (Pv.max rfl rfl) ?_
            refine Rg.pure rfl rfl rfl (Pv.gtr rfl rfl) ?_
            refine Rg.pure rfl rfl rfl (Pv.move rfl) ?_
            refine Rg.split (t := 242) rfl (fun h242 => absurd h242 (by (simp <;> omega))) (fun h242 => ?_)
            refine Rg.pure rfl rfl rfl (Pv.move rfl) ?_
            refine Rg.callP rfl rfl rfl (run_callF rfl) (dirty_spec hP2 frz_sb (by omega)) ?_
            rintro _ rfl
            refine Rg.pure rfl rfl rfl (Pv.move rfl) ?_
            refine Rg.callP rfl rfl rfl (run_callF rfl) (resident_spec hP2 frz_sb) ?_
            rintro _ rfl
            refine Rg.pure rfl rfl rfl (Pv.gtr rfl rfl) ?_
            refine Rg.pure rfl rfl rfl (Pv.pickF rfl rfl) ?_
            refine Rg.pure rfl rfl rfl (Pv.move rfl) ?_
            refine Rg.split (t := 249) rfl (fun h249 => absurd h249 (by (simp <;> omega))) (fun h249 => ?_)
            refine Rg.pure rfl rfl rfl (Pv.move rfl) ?_
            refine Rg.callP rfl rfl rfl (run_callF rfl) (dirty_spec hP2 frz_sb (by omega)) ?_
            rintro _ rfl
            refine Rg.pure rfl rfl rfl (Pv.lss rfl rfl) ?_
            refine Rg.pure rfl rfl rfl (Pv.pickF rfl rfl) ?_
            refine Rg.nil ?_
            refine Vc.cond rfl (fun h253 => absurd h253 (by (simp <;> omega))) (fun h253 => ?_)
            refine Vc.skip ?_
            refine Vc.blk ?_
            refine Vc.text (List.range 3) (sd [(0, .pure), (1, .pure), (2, .pure)]) rfl ?_
            refine Rg.pure rfl rfl rfl (Pv.move rfl) ?_
            refine Rg.pure rfl rfl rfl (Pv.asI (i + 1) (Pv.add rfl rfl (by omega)) (by omega)) ?_
            refine Rg.pure rfl rfl rfl (Pv.assign rfl) ?_
            refine Rg.nil ?_
            exact Vc.inv2 (i + 1) (⟨A', B', sA', sB', ⟨nq', ck', L2, P2, D2, h3, g3⟩⟩ : KpSt) ⟨⟨by omega, by omega, hAl', hBl', oA', oB', hP2, hD2, hw2, hnq', hck', hI2⟩, by omega⟩ (.cons rfl (.cons rfl (.cons rfl (.cons rfl (.cons rfl (.cons rfl (.cons rfl (.cons rfl .nil)))))))) pulled
    ·
      refine Vc.exit rfl ?_
      refine Vc.seq ?_
      refine Vc.text (List.range 3) (sd [(0, .pure), (1, .eff), (2, .pure)]) rfl ?_
      refine Rg.pure rfl rfl rfl (Pv.move rfl) ?_
      refine Rg.callH rfl rfl rfl (run_callF rfl) (fun F' hF' => flush_spec (F := F') hP1 hD1 hw1 (by omega) hI1 hsm fA) rfl ?_
      rintro _ _ ⟨h3, g3, P2, D2, rfl, rfl, hP2, hD2, hw2, hI2, _, hcl2⟩
      simp only [List.append_assoc]
      refine Rg.pure rfl rfl rfl (Pv.assign rfl) ?_
      refine Rg.nil ?_
      refine Vc.seq ?_
      refine Vc.text (List.range 3) (sd [(0, .pure), (1, .eff), (2, .pure)]) rfl ?_
      refine Rg.pure rfl rfl rfl (Pv.move rfl) ?_
      refine Rg.callH rfl rfl rfl (run_callF rfl) (fun F' hF' => flush_spec (F := F') hP2 hD2 hw2 (by omega) hI2 hsm fB) rfl ?_
      rintro _ _ ⟨h4, g4, P3, D3, rfl, rfl, hP3, hD3, hw3, hI3, _, hcl3⟩
      simp only [List.append_assoc]
      have hcp := hI3.cap
      have hcl : ∀ q x, (q, x) ∈ P3 → x.dirty = false := fun q x hx => by
        cases h : x.dirty with
        | false => rfl
        | true =>
          obtain ⟨a1, x0, a2, a3⟩ := hcl3 q x hx h
          obtain ⟨b1, _⟩ := hcl2 q x0 a2 a3
          obtain ⟨own, c1, _⟩ := hI3.pg q x hx
          unfold oAB at c1
          rw [if_neg b1, if_neg a1] at c1
          cases c1
      refine Rg.pure rfl rfl rfl (Pv.assign rfl) ?_
      refine Rg.nil ?_
      refine Vc.seq ?_
      refine Vc.text (List.range 15) (sd [(0, .pure), (1, .pure), (2, .pure), (3, .pure), (4, .pure), (5, .pure), (6, .pure), (7, .pure), (8, .pure), (9, .pure), (10, .pure), (11, .eff), (12, .pure), (13, .pure), (14, .pure)]) rfl ?_
      refine Rg.pure rfl rfl rfl (Pv.move rfl) ?_
      refine Rg.pure rfl rfl rfl (Pv.move rfl) ?_
      refine Rg.split (t := 259) rfl (fun h259 => ?_) (fun h259 => absurd h259 (by decide))
      refine Rg.pure rfl rfl rfl (Pv.move rfl) ?_
      refine Rg.pure rfl rfl rfl (Pv.eql rfl rfl) ?_
      refine Rg.pure rfl rfl rfl (Pv.pickT rfl rfl) ?_
      refine Rg.pure rfl rfl rfl (Pv.move rfl) ?_
      refine Rg.split (t := 263) rfl (fun h263 => ?_) (fun h263 => absurd h263 (by decide))
      refine Rg.pure rfl rfl rfl (Pv.move rfl) ?_
      refine Rg.pure rfl rfl rfl (Pv.eql rfl rfl) ?_
      refine Rg.pure rfl rfl rfl (Pv.pickT rfl rfl) ?_
      refine Rg.pure rfl rfl rfl (Pv.move rfl) ?_
      refine Rg.split (t := 267) rfl (fun h267 => ?_) (fun h267 => absurd h267 (by decide))
      refine Rg.pure rfl rfl rfl (Pv.move rfl) ?_
      refine Rg.callP rfl rfl rfl (run_callF rfl) (dirty_spec hP3 frz_sb (by omega)) ?_
      rintro _ rfl
      refine Rg.pure rfl rfl rfl (Pv.eql rfl rfl) ?_
      refine Rg.pure rfl rfl rfl (Pv.pickT rfl rfl) ?_
      refine Rg.pure rfl rfl rfl (Pv.assign rfl) ?_
      refine Rg.nil ?_
      refine Vc.ret (Vc.rets rfl (.cons (.tmp rfl) (.nil)) ?_)
      exact congrArg Value.bool (by rw [dirtyN_zero hcl]; decide)
end Go.Proofs.Ytjhegjcjplpmjaa
