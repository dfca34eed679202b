/- Pools: whatever is asked; PoolEmpty. -/
import Derived.Test.YtjhegjcjplpmjaaPlN
namespace Go.Proofs.Ytjhegjcjplpmjaa
set_option linter.unusedVariables false

section
variable {F : Fm} {pb db fr ck n : Nat} {O : List UInt8 → Option (List UInt8)} {L : List Pl} {P : List (Pl × Pg)} {D : Dk} {s1 s2 : Hl}
/-- what is read -/
def rdB (own : List UInt8) (at_ q : Int) : List UInt8 := (own.drop at_.toNat).take q.toNat
theorem read_any (hP : PoolAt pb db fr ck L P s1) (hD : DiskAt db D s2) (hw : Dq n D) (hn : n < 980) (hI : PInv O fr D L P) (hck : ck ≤ n) (hfr : 1 ≤ fr ∧ fr ≤ 1000) (hsm : ∀ nm own, O nm = some own → own.length ≤ 300) {nm own : List UInt8} (ho : O nm = some own) (at_ q : Int) :
    Spec Try.prog 13 #[.pointer (some ⟨pb, 0, none⟩), kS nm, .int .i64 at_, .int .i64 q] F (s1 ++ s2) fun v s' => ∃ u bs su h1 h2 L' P' D' ck' nq e, v = .tuple #[u, .int .i64 e] ∧ Own byteE u bs su ∧ s' = su ++ (h1 ++ h2) ∧ PoolAt pb db fr ck' L' P' h1 ∧ DiskAt db D' h2 ∧ Dq nq D' ∧ nq ≤ n + 11 ∧ ck' ≤ nq ∧ PInv O fr D' L' P' ∧
      (mayP own.length at_ q → e = 0 ∧ bs = rdB own at_ q) ∧ (¬ mayP own.length at_ q → e = 1 ∧ bs = [] ∧ P' = P) ∧ (Few O fr → D'.files = D.files ∧ D'.ops - (P'.length : Int) = D.ops + 1 - (P.length : Int)) := by
  have hsm1 := hsm _ _ ho
  by_cases hm : mayP own.length at_ q
  · obtain ⟨h0, h1, h2, h3⟩ := hm
    obtain ⟨a, rfl⟩ := Int.eq_ofNat_of_zero_le h0
    obtain ⟨m, rfl⟩ := Int.eq_ofNat_of_zero_le h1
    exact (read_good hP hD hw hn hI hck hfr hsm ho a m (by omega)).mono fun v s' ⟨u, su, h1', h2', L', P', D', ck', nq, a1, a2, a3, a4, a5, a6, a7, a8, a9, a10, _, a11⟩ => ⟨u, _, su, h1', h2', L', P', D', ck', nq, 0, a1, a2, a3, a4, a5, a6, a7, a8, a9, fun _ => ⟨rfl, rfl⟩, fun h => absurd ⟨h0, h1, h2, h3⟩ h, a11⟩
  · obtain ⟨hs, hb⟩ := hI.size ho
    exact (read_no hP hD hw (by omega) nm hs (by omega) at_ q (.inr ⟨rfl, hm, rfl⟩)).mono fun v s' ⟨h1, h2, a1, a2, a3, a4, a5⟩ => ⟨.slice none 0 0, [], [], h1, h2, L, P, _, ck, n + 1, 1, a1, Own.nil, a2, a3, a4, a5, by omega, by omega, by rw [hb]; exact hI.ops _, fun h => absurd h hm, fun _ => ⟨rfl, rfl, rfl⟩, fun _ => by rw [hb]; exact ⟨rfl, rfl⟩⟩
open Classical in
theorem write_any (hP : PoolAt pb db fr ck L P s1) (hD : DiskAt db D s2) (hw : Dq n D) (hn : n < 980) (hI : PInv O fr D L P) (hck : ck ≤ n) (hfr : 1 ≤ fr ∧ fr ≤ 1000) (hsm : ∀ nm own, O nm = some own → own.length ≤ 300) {nm own : List UInt8} (ho : O nm = some own) (at_ : Int) {vb : Value} {bs : List UInt8} (hb : Arg byteE F vb bs) :
    Spec Try.prog 14 #[.pointer (some ⟨pb, 0, none⟩), kS nm, .int .i64 at_, vb] F (s1 ++ s2) fun v s' => ∃ h1 h2 L' P' D' ck' nq e own', v = .int .i64 e ∧ s' = h1 ++ h2 ∧ PoolAt pb db fr ck' L' P' h1 ∧ DiskAt db D' h2 ∧ Dq nq D' ∧ nq ≤ n + 11 ∧ ck' ≤ nq ∧ PInv (setO O nm own') fr D' L' P' ∧ own'.length = own.length ∧
      (mayP own.length at_ bs.length → e = 0 ∧ own' = putAt own at_.toNat bs) ∧ (¬ mayP own.length at_ bs.length → e = 1 ∧ own' = own) ∧ (Few O fr → D'.files = D.files ∧ D'.ops - (P'.length : Int) = D.ops + 1 - (P.length : Int)) := by
  have hsm1 := hsm _ _ ho
  by_cases hm : mayP own.length at_ bs.length
  · obtain ⟨h0, h1, h2, h3⟩ := hm
    obtain ⟨a, rfl⟩ := Int.eq_ofNat_of_zero_le h0
    exact (write_good hP hD hw hn hI hck hfr hsm ho a hb (by omega)).mono fun v s' ⟨h1', h2', L', P', D', ck', nq, a1, a3, a4, a5, a6, a7, a8, a9, a10, _, a11⟩ => ⟨h1', h2', L', P', D', ck', nq, 0, _, a1, a3, a4, a5, a6, a7, a8, a9, put_len (by omega), fun _ => ⟨rfl, rfl⟩, fun h => absurd ⟨h0, h1, h2, h3⟩ h, a11⟩
  · obtain ⟨hs, hbg⟩ := hI.size ho
    exact (write_no hP hD hw (by omega) nm hs (by omega) at_ hb (.inr ⟨rfl, hm, rfl⟩)).mono fun v s' ⟨h1, h2, a1, a2, a3, a4, a5⟩ => ⟨h1, h2, L, P, _, ck, n + 1, 1, own, a1, a2, a3, a4, a5, by omega, by omega, by rw [hbg, setO_self ho]; exact hI.ops _, rfl, fun h => absurd h hm, fun _ => ⟨rfl, rfl⟩, fun _ => by rw [hbg]; exact ⟨rfl, rfl⟩⟩
end

set_option maxHeartbeats 4000000 in
theorem PoolEmpty_spec (F : Fm) (z y : Int) : Spec Try.prog 7 #[.int .i64 z, .int .i64 y] F [] fun v _ => v = .bool true := by
  have hoN : oAB (seqA 0) (seqB 5) [110, 111, 110, 101] = none := rfl
  have hsmall := oAB_small (xa := seqA 0) (xb := seqB 5) (by decide) (by decide)
  have hmm : mayP ((seqA 0).length : Nat) z y ↔ z = 0 ∧ y = 0 := by rw [seqA_len]; unfold mayP; omega
  refine Spec.of (n := 98) (vs := [.int .i64 z, .int .i64 y]) Try.func7 rfl Try.ntmps7 rfl ?_
  refine Vc.seq ?_
  refine Vc.text (List.range 1) (sd [(0, .pure)]) rfl ?_
  refine Rg.pure rfl rfl rfl (Pv.assign rfl) ?_
  refine Rg.nil ?_
  refine Vc.seq ?_
  refine Vc.text (List.range 2) (sd [(0, .eff), (1, .pure)]) rfl ?_
  refine Rg.callA rfl rfl rfl (run_callF rfl) (shown_spec _) ?_
  rintro _ s14 rfl
  refine Rg.pure rfl rfl rfl (Pv.assign rfl) ?_
  refine Rg.nil ?_
  refine Vc.seq ?_
  refine Vc.text (List.range 2) (sd [(0, .eff), (1, .pure)]) rfl ?_
  refine Rg.callA rfl rfl rfl (run_callF rfl) (made_spec _ 0 5 (by omega) (by omega)) ?_
  rintro _ s15 ⟨db, rfl, hD15, hw15⟩
  refine Rg.pure rfl rfl rfl (Pv.assign rfl) ?_
  refine Rg.nil ?_
  refine Vc.seq ?_
  refine Vc.seq ?_
  refine Vc.text (List.range 2) (sd [(0, .pure), (1, .pure)]) rfl ?_
  refine Rg.pure rfl rfl rfl (Pv.move rfl) ?_
  refine Rg.pure rfl rfl rfl (Pv.eqlNil rfl rfl) ?_
  refine Rg.nil ?_
  refine Vc.cond rfl (fun h17 => absurd h17 (by (intro h; cases h))) (fun h17 => ?_)
  refine Vc.skip ?_
  refine Vc.seq ?_
  refine Vc.text (List.range 3) (sd [(0, .pure), (1, .eff), (2, .pure)]) rfl ?_
  refine Rg.pure rfl rfl rfl (Pv.move rfl) ?_
  refine Rg.callA rfl rfl rfl (run_callF rfl) (newPool_spec _ db 2 (by decide)) ?_
  rintro _ s19 ⟨pb, rfl, hP19⟩
  have hI19 := oAB_init (seqA 0) (seqB 5) (used := mB 0 5) (ops := 4) (fr := (max (2 : Int) 1).toNat) (by decide)
  refine Rg.pure rfl rfl rfl (Pv.assign rfl) ?_
  refine Rg.nil ?_
  refine Vc.seq ?_
  refine Vc.seq ?_
  refine Vc.text (List.range 2) (sd [(0, .pure), (1, .pure)]) rfl ?_
  refine Rg.pure rfl rfl rfl (Pv.move rfl) ?_
  refine Rg.pure rfl rfl rfl (Pv.eqlNil rfl rfl) ?_
  refine Rg.nil ?_
  refine Vc.cond rfl (fun h21 => absurd h21 (by (intro h; cases h))) (fun h21 => ?_)
  refine Vc.skip ?_
  refine Vc.seq ?_
  refine Vc.text (List.range 9) (sd [(0, .pure), (1, .pure), (2, .pure), (3, .eff), (4, .pure), (5, .pure), (6, .pure), (7, .pure), (8, .pure)]) rfl ?_
  refine Rg.pure rfl rfl rfl (Pv.move rfl) ?_
  refine Rg.pure rfl rfl rfl (Pv.move rfl) ?_
  refine Rg.pure rfl rfl rfl (Pv.move rfl) ?_
  refine Rg.callH rfl rfl rfl (run_callF rfl) (fun F' hF' => read_any (F := F') hP19 hD15 hw15 (by omega) hI19 (by omega) (by decide) hsmall (oAB_a _ _) z y) rfl ?_
  rintro _ _ ⟨u, bs, su, h1, h2, L1, P1, D1, ck1, n1, e1, rfl, ou, rfl, hP26, hD26, hw26, hn26, hck26, hI26, hgood, hbad, _⟩
  simp only [List.append_assoc]
  have hns26 := hI26.noSize hoN
  obtain ⟨pu, cu, rfl⟩ := ou.shape
  refine Rg.pure rfl rfl rfl (Pv.move rfl) ?_
  refine Rg.pure rfl rfl rfl (Pv.extract rfl rfl) ?_
  refine Rg.pure rfl rfl rfl (Pv.extract rfl rfl) ?_
  refine Rg.pure rfl rfl rfl (Pv.assign rfl) ?_
  refine Rg.pure rfl rfl rfl (Pv.assign rfl) ?_
  refine Rg.nil ?_
  refine Vc.seq ?_
  refine Vc.text (List.range 9) (sd [(0, .pure), (1, .pure), (2, .pure), (3, .eff), (4, .pure), (5, .pure), (6, .pure), (7, .pure), (8, .pure)]) rfl ?_
  refine Rg.pure rfl rfl rfl (Pv.move rfl) ?_
  refine Rg.pure rfl rfl rfl (Pv.move rfl) ?_
  refine Rg.pure rfl rfl rfl (Pv.move rfl) ?_
  refine Rg.callH rfl rfl rfl (run_callF rfl) (fun F' hF' => read_no (F := F') hP26 hD26 hw26 (by omega) [110, 111, 110, 101] hns26.1 (by omega) z y (.inl ⟨by decide, rfl⟩)) rfl ?_
  rintro _ _ ⟨h3, h4, rfl, rfl, hP33, hD33, hw33⟩
  simp only [List.append_assoc]
  rw [hns26.2] at hD33 hw33
  have hI33 := hI26.ops (D1.ops + 1)
  have hns33 := hI33.noSize hoN
  refine Rg.pure rfl rfl rfl (Pv.move rfl) ?_
  refine Rg.pure rfl rfl rfl (Pv.extract rfl rfl) ?_
  refine Rg.pure rfl rfl rfl (Pv.extract rfl rfl) ?_
  refine Rg.pure rfl rfl rfl (Pv.assign rfl) ?_
  refine Rg.pure rfl rfl rfl (Pv.assign rfl) ?_
  refine Rg.nil ?_
  refine Vc.seq ?_
  refine Vc.text (List.range 4) (sd [(0, .pure), (1, .pure), (2, .eff), (3, .pure)]) rfl ?_
  refine Rg.pure rfl rfl rfl (Pv.move rfl) ?_
  refine Rg.pure rfl rfl rfl (Pv.move rfl) ?_
  refine Rg.callH rfl rfl rfl (run_callF rfl) (fun F' hF' => write_no (F := F') (bs := []) hP33 hD33 hw33 (by omega) [110, 111, 110, 101] hns33.1 (by omega) z Arg.nil (.inl ⟨by decide, rfl⟩)) rfl ?_
  rintro _ _ ⟨h5, h6, rfl, rfl, hP38, hD38, hw38⟩
  simp only [List.append_assoc]
  rw [hns33.2] at hD38 hw38
  have hI38 := hI33.ops (D1.ops + 1 + 1)
  refine Rg.pure rfl rfl rfl (Pv.assign rfl) ?_
  refine Rg.nil ?_
  refine Vc.seq ?_
  refine Vc.text (List.range 3) (sd [(0, .pure), (1, .eff), (2, .pure)]) rfl ?_
  refine Rg.pure rfl rfl rfl (Pv.move rfl) ?_
  refine Rg.callH rfl rfl rfl (run_callF rfl) (fun F' hF' => flush_spec (F := F') hP38 hD38 hw38 (by show n1 + 1 + 1 + 2 < 990; omega) hI38 hsmall [110, 111, 110, 101]) rfl ?_
  rintro _ _ ⟨h7, h8, P2, D2, rfl, rfl, hP40, hD40, hw40, hI40, hl40, _⟩
  simp only [List.append_assoc]
  refine Rg.pure rfl rfl rfl (Pv.assign rfl) ?_
  refine Rg.nil ?_
  refine Vc.seq ?_
  refine Vc.text (List.range 2) (sd [(0, .pure), (1, .eff)]) rfl ?_
  refine Rg.pure rfl rfl rfl (Pv.move rfl) ?_
  refine Rg.callH rfl rfl rfl (run_callF rfl) (fun F' hF' => dropP_spec (F := F') hP40 (by have := hI40.cap; have : (max (2 : Int) 1).toNat = 2 := rfl; omega) hI40.keys hI40.perm [110, 111, 110, 101]) rfl ?_
  rintro _ s42 ⟨L3, P3, hP42, hk42, hL42, hm42⟩
  have hP30 : P1 = [] → P3.length = 0 := fun e => by
    rw [e] at hl40
    cases P3 with
    | nil => rfl
    | cons a t =>
      have := ((hm42 a.1 a.2).1 (by simp)).1
      rw [List.length_eq_zero_iff.1 hl40] at this
      cases this
  refine Rg.nil ?_
  refine Vc.seq ?_
  refine Vc.seq ?_
  refine Vc.text (List.range 6) (sd [(0, .pure), (1, .pure), (2, .pure), (3, .pure), (4, .pure), (5, .pure)]) rfl ?_
  refine Rg.pure rfl rfl rfl (Pv.move rfl) ?_
  refine Rg.pure rfl rfl rfl (Pv.eql rfl rfl) ?_
  refine Rg.pure rfl rfl rfl (Pv.move rfl) ?_
  refine Rg.split (t := 45) rfl (fun h45 => ?_) (fun h45 => ?_)
  ·
    simp only [beq_iff_eq] at h45
    refine Rg.pure rfl rfl rfl (Pv.move rfl) ?_
    refine Rg.pure rfl rfl rfl (Pv.eql rfl rfl) ?_
    refine Rg.pure rfl rfl rfl (Pv.pickT rfl rfl) ?_
    refine Rg.nil ?_
    refine Vc.cond rfl (fun h48 => ?_) (fun h48 => ?_)
    ·
      simp only [beq_iff_eq] at h48
      obtain ⟨he1, hbs⟩ := hgood (hmm.2 ⟨h45, h48⟩)
      refine Vc.seq ?_
      refine Vc.text (List.range 23) (sd [(0, .pure), (1, .pure), (2, .pure), (3, .pure), (4, .pure), (5, .pure), (6, .pure), (7, .pure), (8, .pure), (9, .pure), (10, .pure), (11, .pure), (12, .pure), (13, .pure), (14, .pure), (15, .pure), (16, .pure), (17, .pure), (18, .pure), (19, .pure), (20, .pure), (21, .pure), (22, .pure)]) rfl ?_
      refine Rg.pure rfl rfl rfl (Pv.move rfl) ?_
      refine Rg.pure rfl rfl rfl (Pv.move rfl) ?_
      refine Rg.split (t := 50) rfl (fun h50 => ?_) (fun h50 => absurd h50 (by decide))
      refine Rg.pure rfl rfl rfl (Pv.move rfl) ?_
      refine Rg.pure rfl rfl rfl (Pv.eql rfl rfl) ?_
      refine Rg.pure rfl rfl rfl (Pv.pickT rfl rfl) ?_
      refine Rg.pure rfl rfl rfl (Pv.move rfl) ?_
      refine Rg.split (t := 54) rfl (fun h54 => ?_) (fun h54 => absurd h54 (by (rw [he1]; decide)))
      refine Rg.pure rfl rfl rfl (Pv.move rfl) ?_
      refine Rg.pure rfl rfl rfl (Pv.lenS rfl) ?_
      refine Rg.pure rfl rfl rfl (Pv.eql rfl rfl) ?_
      refine Rg.pure rfl rfl rfl (Pv.pickT rfl rfl) ?_
      refine Rg.pure rfl rfl rfl (Pv.move rfl) ?_
      refine Rg.split (t := 59) rfl (fun h59 => ?_) (fun h59 => absurd h59 (by (rw [hbs, rdB, show seqA 0 = [] from rfl]; simp)))
      refine Rg.pure rfl rfl rfl (Pv.move rfl) ?_
      refine Rg.pure rfl rfl rfl (Pv.eql rfl rfl) ?_
      refine Rg.pure rfl rfl rfl (Pv.pickT rfl rfl) ?_
      refine Rg.pure rfl rfl rfl (Pv.move rfl) ?_
      refine Rg.split (t := 63) rfl (fun h63 => ?_) (fun h63 => absurd h63 (by decide))
      refine Rg.pure rfl rfl rfl (Pv.move rfl) ?_
      refine Rg.pure rfl rfl rfl (Pv.eql rfl rfl) ?_
      refine Rg.pure rfl rfl rfl (Pv.pickT rfl rfl) ?_
      refine Rg.pure rfl rfl rfl (Pv.move rfl) ?_
      refine Rg.split (t := 67) rfl (fun h67 => ?_) (fun h67 => absurd h67 (by decide))
      refine Rg.pure rfl rfl rfl (Pv.move rfl) ?_
      refine Rg.pure rfl rfl rfl (Pv.eql rfl rfl) ?_
      refine Rg.pure rfl rfl rfl (Pv.pickT rfl rfl) ?_
      refine Rg.pure rfl rfl rfl (Pv.assign rfl) ?_
      refine Rg.nil ?_
      refine Vc.ret (Vc.rets rfl (.cons (.tmp rfl) (.nil)) ?_)
      exact congrArg Value.bool (by decide)
    ·
      simp only [beq_eq_false_iff_ne, ne_eq] at h48
      obtain ⟨he1, hbs, hPP⟩ := hbad (fun h => h48 (hmm.1 h).2)
      refine Vc.skip ?_
      refine Vc.seq ?_
      refine Vc.text (List.range 28) (sd [(0, .pure), (1, .pure), (2, .pure), (3, .pure), (4, .pure), (5, .pure), (6, .pure), (7, .pure), (8, .pure), (9, .pure), (10, .pure), (11, .pure), (12, .pure), (13, .pure), (14, .pure), (15, .pure), (16, .pure), (17, .pure), (18, .pure), (19, .pure), (20, .pure), (21, .pure), (22, .pure), (23, .pure), (24, .eff), (25, .pure), (26, .pure), (27, .pure)]) rfl ?_
      refine Rg.pure rfl rfl rfl (Pv.move rfl) ?_
      refine Rg.pure rfl rfl rfl (Pv.move rfl) ?_
      refine Rg.split (t := 72) rfl (fun h72 => ?_) (fun h72 => absurd h72 (by decide))
      refine Rg.pure rfl rfl rfl (Pv.move rfl) ?_
      refine Rg.pure rfl rfl rfl (Pv.eql rfl rfl) ?_
      refine Rg.pure rfl rfl rfl (Pv.pickT rfl rfl) ?_
      refine Rg.pure rfl rfl rfl (Pv.move rfl) ?_
      refine Rg.split (t := 76) rfl (fun h76 => ?_) (fun h76 => absurd h76 (by (rw [he1]; decide)))
      refine Rg.pure rfl rfl rfl (Pv.move rfl) ?_
      refine Rg.pure rfl rfl rfl (Pv.lenS rfl) ?_
      refine Rg.pure rfl rfl rfl (Pv.eql rfl rfl) ?_
      refine Rg.pure rfl rfl rfl (Pv.pickT rfl rfl) ?_
      refine Rg.pure rfl rfl rfl (Pv.move rfl) ?_
      refine Rg.split (t := 81) rfl (fun h81 => ?_) (fun h81 => absurd h81 (by (rw [hbs]; decide)))
      refine Rg.pure rfl rfl rfl (Pv.move rfl) ?_
      refine Rg.pure rfl rfl rfl (Pv.eql rfl rfl) ?_
      refine Rg.pure rfl rfl rfl (Pv.pickT rfl rfl) ?_
      refine Rg.pure rfl rfl rfl (Pv.move rfl) ?_
      refine Rg.split (t := 85) rfl (fun h85 => ?_) (fun h85 => absurd h85 (by decide))
      refine Rg.pure rfl rfl rfl (Pv.move rfl) ?_
      refine Rg.pure rfl rfl rfl (Pv.eql rfl rfl) ?_
      refine Rg.pure rfl rfl rfl (Pv.pickT rfl rfl) ?_
      refine Rg.pure rfl rfl rfl (Pv.move rfl) ?_
      refine Rg.split (t := 89) rfl (fun h89 => ?_) (fun h89 => absurd h89 (by decide))
      refine Rg.pure rfl rfl rfl (Pv.move rfl) ?_
      refine Rg.pure rfl rfl rfl (Pv.eql rfl rfl) ?_
      refine Rg.pure rfl rfl rfl (Pv.pickT rfl rfl) ?_
      refine Rg.pure rfl rfl rfl (Pv.move rfl) ?_
      refine Rg.split (t := 93) rfl (fun h93 => ?_) (fun h93 => absurd h93 (by decide))
      refine Rg.pure rfl rfl rfl (Pv.move rfl) ?_
      refine Rg.callP rfl rfl rfl (run_callF rfl) (resident_spec hP42 frz_sb) ?_
      rintro _ rfl
      refine Rg.pure rfl rfl rfl (Pv.eql rfl rfl) ?_
      refine Rg.pure rfl rfl rfl (Pv.pickT rfl rfl) ?_
      refine Rg.pure rfl rfl rfl (Pv.assign rfl) ?_
      refine Rg.nil ?_
      refine Vc.ret (Vc.rets rfl (.cons (.tmp rfl) (.nil)) ?_)
      exact congrArg Value.bool (by rw [hP30 hPP]; decide)
  ·
    simp only [beq_eq_false_iff_ne, ne_eq] at h45
    obtain ⟨he1, hbs, hPP⟩ := hbad (fun h => h45 (hmm.1 h).1)
    iterate 2 (first | refine Rg.skipP rfl rfl rfl ?_ | refine Rg.skipR rfl rfl rfl ?_ | refine Rg.skipE rfl rfl rfl ?_)
    refine Rg.pure rfl rfl rfl (Pv.pickF rfl rfl) ?_
    refine Rg.nil ?_
    refine Vc.condF rfl ?_
    refine Vc.skip ?_
    refine Vc.seq ?_
    refine Vc.text (List.range 28) (sd [(0, .pure), (1, .pure), (2, .pure), (3, .pure), (4, .pure), (5, .pure), (6, .pure), (7, .pure), (8, .pure), (9, .pure), (10, .pure), (11, .pure), (12, .pure), (13, .pure), (14, .pure), (15, .pure), (16, .pure), (17, .pure), (18, .pure), (19, .pure), (20, .pure), (21, .pure), (22, .pure), (23, .pure), (24, .eff), (25, .pure), (26, .pure), (27, .pure)]) rfl ?_
    refine Rg.pure rfl rfl rfl (Pv.move rfl) ?_
    refine Rg.pure rfl rfl rfl (Pv.move rfl) ?_
    refine Rg.split (t := 72) rfl (fun h72 => ?_) (fun h72 => absurd h72 (by decide))
    refine Rg.pure rfl rfl rfl (Pv.move rfl) ?_
    refine Rg.pure rfl rfl rfl (Pv.eql rfl rfl) ?_
    refine Rg.pure rfl rfl rfl (Pv.pickT rfl rfl) ?_
    refine Rg.pure rfl rfl rfl (Pv.move rfl) ?_
    refine Rg.split (t := 76) rfl (fun h76 => ?_) (fun h76 => absurd h76 (by (rw [he1]; decide)))
    refine Rg.pure rfl rfl rfl (Pv.move rfl) ?_
    refine Rg.pure rfl rfl rfl (Pv.lenS rfl) ?_
    refine Rg.pure rfl rfl rfl (Pv.eql rfl rfl) ?_
    refine Rg.pure rfl rfl rfl (Pv.pickT rfl rfl) ?_
    refine Rg.pure rfl rfl rfl (Pv.move rfl) ?_
    refine Rg.split (t := 81) rfl (fun h81 => ?_) (fun h81 => absurd h81 (by (rw [hbs]; decide)))
    refine Rg.pure rfl rfl rfl (Pv.move rfl) ?_
    refine Rg.pure rfl rfl rfl (Pv.eql rfl rfl) ?_
    refine Rg.pure rfl rfl rfl (Pv.pickT rfl rfl) ?_
    refine Rg.pure rfl rfl rfl (Pv.move rfl) ?_
    refine Rg.split (t := 85) rfl (fun h85 => ?_) (fun h85 => absurd h85 (by decide))
    refine Rg.pure rfl rfl rfl (Pv.move rfl) ?_
    refine Rg.pure rfl rfl rfl (Pv.eql rfl rfl) ?_
    refine Rg.pure rfl rfl rfl (Pv.pickT rfl rfl) ?_
    refine Rg.pure rfl rfl rfl (Pv.move rfl) ?_
    refine Rg.split (t := 89) rfl (fun h89 => ?_) (fun h89 => absurd h89 (by decide))
    refine Rg.pure rfl rfl rfl (Pv.move rfl) ?_
    refine Rg.pure rfl rfl rfl (Pv.eql rfl rfl) ?_
    refine Rg.pure rfl rfl rfl (Pv.pickT rfl rfl) ?_
    refine Rg.pure rfl rfl rfl (Pv.move rfl) ?_
    refine Rg.split (t := 93) rfl (fun h93 => ?_) (fun h93 => absurd h93 (by decide))
    refine Rg.pure rfl rfl rfl (Pv.move rfl) ?_
    refine Rg.callP rfl rfl rfl (run_callF rfl) (resident_spec hP42 frz_sb) ?_
    rintro _ rfl
    refine Rg.pure rfl rfl rfl (Pv.eql rfl rfl) ?_
    refine Rg.pure rfl rfl rfl (Pv.pickT rfl rfl) ?_
    refine Rg.pure rfl rfl rfl (Pv.assign rfl) ?_
    refine Rg.nil ?_
    refine Vc.ret (Vc.rets rfl (.cons (.tmp rfl) (.nil)) ?_)
    exact congrArg Value.bool (by rw [hP30 hPP]; decide)
end Go.Proofs.Ytjhegjcjplpmjaa
