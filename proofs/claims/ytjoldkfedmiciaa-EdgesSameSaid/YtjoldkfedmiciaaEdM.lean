/- The statements' functions: EdgesSame. -/
import Derived.Test.YtjoldkfedmiciaaEdL
import Derived.Test.YtjoldkfedmiciaaSlP
namespace Go.Proofs.Ytjoldkfedmiciaa
set_option linter.unusedVariables false

theorem xor_ne (N : Int) (h : -9223372036854775808 ≤ N ∧ N ≤ 9223372036854775807) : N ≠ IntKind.wrap .i64 ((BitVec.ofInt (IntKind.bits .i64) N ^^^ BitVec.ofInt (IntKind.bits .i64) 1).toNat : Nat) := by
  intro e
  have hw : ∀ z : Int, BitVec.ofInt 64 (IntKind.wrap .i64 z) = BitVec.ofInt 64 z := fun z => by
    apply BitVec.eq_of_toNat_eq
    simp [BitVec.toNat_ofInt, IntKind.wrap, IntKind.bits, IntKind.signed]
    split <;> omega
  have e2 := congrArg (BitVec.ofInt 64) e
  rw [hw] at e2
  simp only [IntKind.bits] at e2
  rw [show ∀ b : BitVec 64, BitVec.ofInt 64 (b.toNat : Nat) = b from fun b => by apply BitVec.eq_of_toNat_eq; simp [BitVec.toNat_ofInt]] at e2
  generalize BitVec.ofInt 64 N = x at e2
  have e3 : x ^^^ x = x ^^^ (x ^^^ BitVec.ofInt 64 1) := congrArg (x ^^^ ·) e2
  rw [← BitVec.xor_assoc, BitVec.xor_self, BitVec.zero_xor] at e3
  exact absurd e3 (by decide)

theorem drop_rev (es : List Eg) {i : Nat} (h : i < es.length) : (es.drop (i + 1)).reverse ++ [es[i]!] = (es.drop i).reverse := by
  rw [List.drop_eq_getElem_cons h, List.reverse_cons, getElem!_pos es i h]
theorem sameG_rev (N : Int) (es : List Eg) : sameG N N es es.reverse = true := by
  simp only [sameG, decide_true, Bool.true_and]
  exact List.isPerm_iff.2 (List.reverse_perm es).symm
theorem sameG_less (N : Int) {es fs : List Eg} (h : es.length ≠ fs.length) : sameG N N es fs = false := by
  simp only [sameG, decide_true, Bool.true_and]
  by_cases e : es.isPerm fs = true
  · exact absurd (List.isPerm_iff.1 e).length_eq h
  · simpa using e

theorem EdgesSame_spec (F : Fm) (N M : Int) (v0 v1 : Value) (es0 fs0 : List Eg) (ha : Arg edgeE F v0 es0) (hb : Arg edgeE F v1 fs0) (hE0 : ∀ e ∈ es0, InE e) (hF0 : ∀ e ∈ fs0, InE e) (hN : -9223372036854775808 ≤ N ∧ N ≤ 9223372036854775807) :
    Spec Try.prog 6 #[grV N v0, grV M v1] F [] fun v _ => v = .bool true := by
  obtain ⟨p0, c0, rfl⟩ := ha.shape
  obtain ⟨p1, c1, rfl⟩ := hb.shape
  have hle := take40_len es0
  have hlf := take40_len fs0
  have hE := take40_in hE0
  have hF := take40_in hF0
  refine Spec.of (n := 75) (vs := [grV N (.slice p0 es0.length c0), grV M (.slice p1 fs0.length c1)]) Try.func6 rfl Try.ntmps6 rfl ?_
  refine Vc.seq ?_
  refine Vc.text (List.range 3) (sd [(0, .eff), (1, .eff), (2, .pure)]) rfl ?_
  refine Rg.box rfl rfl rfl rfl rfl (fun b2 => ?_)
  refine Rg.box rfl rfl rfl rfl rfl (fun b3 => ?_)
  refine Rg.pure rfl rfl rfl (Pv.assign rfl) ?_
  refine Rg.nil ?_
  refine Vc.seq ?_
  refine Vc.text (List.range 2) (sd [(0, .eff), (1, .pure)]) rfl ?_
  refine Rg.callP rfl rfl rfl (run_callF rfl) (shown_spec _) ?_
  rintro _ rfl
  refine Rg.pure rfl rfl rfl (Pv.assign rfl) ?_
  refine Rg.nil ?_
  refine Vc.seq ?_
  refine Vc.text (List.range 3) (sd [(0, .read), (1, .eff), (2, .eff)]) rfl ?_
  refine Rg.read rfl rfl rfl (Ev.ldA rfl rfl) ?_
  refine Rg.callA rfl rfl rfl (run_callF rfl) (few_spec (ha.mono fun b o h => Or.inr h) N) ?_
  rintro _ s10 ⟨u, rfl, own⟩
  generalize es0.take 40 = es at own hle hE
  obtain ⟨q, c, rfl⟩ := own.shape
  refine Rg.storeA rfl rfl rfl rfl rfl rfl rfl rfl ?_
  refine Rg.nil ?_
  refine Vc.seq ?_
  refine Vc.text (List.range 3) (sd [(0, .read), (1, .eff), (2, .eff)]) rfl ?_
  refine Rg.read rfl rfl rfl (Ev.ldA rfl rfl) ?_
  refine Rg.callA rfl rfl rfl (run_callF rfl) (few_spec (hb.mono fun b o h => Or.inr h) M) ?_
  rintro _ s12 ⟨u2, rfl, own2⟩
  generalize fs0.take 40 = fs at own2 hlf hF
  obtain ⟨q2, c2, rfl⟩ := own2.shape
  refine Rg.storeA rfl rfl rfl rfl rfl rfl rfl rfl ?_
  refine Rg.nil ?_
  refine Vc.seq ?_
  refine Vc.text (List.range 5) (sd [(0, .pure), (1, .read), (2, .pure), (3, .eff), (4, .eff)]) rfl ?_
  refine Rg.pure rfl rfl rfl (Pv.fa rfl) ?_
  refine Rg.read rfl rfl rfl (Ev.ld rfl rfl) ?_
  refine Rg.pure rfl rfl rfl (Pv.build (c := #[.int .i64 N, .slice none 0 0]) rfl rfl) ?_
  refine Rg.alloc rfl rfl rfl rfl (fun b6 => ?_)
  refine Rg.storeA rfl rfl rfl rfl rfl rfl rfl rfl ?_
  refine Rg.nil ?_
  refine Vc.seq ?_
  refine Vc.seq ?_
  refine Vc.text (List.range 4) (sd [(0, .pure), (1, .read), (2, .pure), (3, .pure)]) rfl ?_
  refine Rg.pure rfl rfl rfl (Pv.fa rfl) ?_
  refine Rg.read rfl rfl rfl (Ev.ld rfl rfl) ?_
  refine Rg.pure rfl rfl rfl (Pv.lenS rfl) ?_
  refine Rg.pure rfl rfl rfl (Pv.assign rfl) ?_
  refine Rg.nil ?_
  refine Vc.block ?_
  refine Vc.loop3 (fun (i : Nat) (v : Value) (sg : Hl) => i ≤ es.length ∧ Own edgeE v (es.drop i).reverse sg) (fun i v sg => [(2, .pointer (some ⟨b2, 0, none⟩)), (3, .pointer (some ⟨b3, 0, none⟩)), (5, .bool true), (6, .pointer (some ⟨b6, 0, none⟩)), (7, .int .i64 (i : Int))]) (fun i v sg => (b6, cellsO [.int .i64 N, v] 24) :: (b2, cellsO [.int .i64 N, .slice q es.length c] 24) :: (b3, cellsO [.int .i64 M, .slice q2 fs.length c2] 24) :: (sg ++ (s10 ++ s12))) (fun i v sg => i) es.length (.slice none 0 0) [] ⟨Nat.le_refl _, by simpa using Own.nil⟩ (.cons rfl (.cons rfl (.cons rfl (.cons rfl (.cons rfl .nil))))) pulled ?_
  rintro i v sg ⟨hi, ownv⟩
  obtain ⟨qv, cv, rfl⟩ := ownv.shape
  refine Vc.seq ?_
  refine Vc.seq ?_
  refine Vc.text (List.range 2) (sd [(0, .pure), (1, .pure)]) rfl ?_
  refine Rg.pure rfl rfl rfl (Pv.move rfl) ?_
  refine Rg.pure rfl rfl rfl (Pv.gtr rfl rfl) ?_
  refine Rg.nil ?_
  refine Vc.cond rfl (fun h20 => ?_) (fun h20 => ?_)
  ·
    simp only [decide_eq_true_eq] at h20
    obtain ⟨j, rfl⟩ : ∃ j, i = j + 1 := ⟨i - 1, by omega⟩
    obtain ⟨bq, cq, sp, e, rfl, hcq, hmq⟩ := own.block (by omega)
    cases e
    have hdr := drop_rev es (i := j) (by omega)
    generalize hx : es[j]! = x at hdr
    refine Vc.skip ?_
    refine Vc.seq ?_
    refine Vc.block ?_
    refine Vc.draw [9, 11] (sd [(0, .pure), (1, .read), (2, .pure), (3, .read), (4, .pure), (5, .pure), (6, .pure), (7, .read), (8, .eff), (9, .eff), (10, .pure), (11, .eff)]) mixed (by kernel_rfl) ?_
    refine Rg.pure rfl rfl rfl (Pv.fa rfl) ?_
    refine Rg.read rfl rfl rfl (Ev.ld rfl rfl) ?_
    refine Rg.pure rfl rfl rfl (Pv.fa rfl) ?_
    refine Rg.read rfl rfl rfl (Ev.ld rfl rfl) ?_
    refine Rg.pure rfl rfl rfl (Pv.move rfl) ?_
    refine Rg.pure rfl rfl rfl (Pv.asI (j) (Pv.sub rfl rfl (by omega)) (by omega)) ?_
    refine Rg.pure rfl rfl rfl (Pv.ixA (j) rfl rfl (by omega) (by omega)) ?_
    refine Rg.read rfl rfl rfl (Ev.as (egV x) (Ev.ldR j rfl (Nat.zero_add _) (by omega)) (congrArg egV hx)) ?_
    refine Rg.bslice1 rfl rfl rfl rfl rfl rfl rfl (fun b31 => ?_)
    refine Rg.append rfl rfl rfl rfl rfl ownv (Src.one (y := x) rfl) (by simp <;> omega) (by simp [maxLen] <;> omega) rfl (fun v32 s32 own32 => ?_)
    rw [hdr] at own32
    obtain ⟨q32, c32, rfl⟩ := own32.shape
    refine Rg.pure rfl rfl rfl (Pv.fa rfl) ?_
    refine Rg.store rfl rfl rfl rfl rfl rfl rfl rfl ?_
    refine Rg.nil ?_
    refine Vc.blk ?_
    refine Vc.text (List.range 3) (sd [(0, .pure), (1, .pure), (2, .pure)]) rfl ?_
    refine Rg.pure rfl rfl rfl (Pv.move rfl) ?_
    refine Rg.pure rfl rfl rfl (Pv.asI (j) (Pv.sub rfl rfl (by omega)) (by omega)) ?_
    refine Rg.pure rfl rfl rfl (Pv.assign rfl) ?_
    refine Rg.nil ?_
    exact Vc.inv3 j _ _ ⟨⟨by omega, own32⟩, by omega⟩ (.cons rfl (.cons rfl (.cons rfl (.cons rfl (.cons rfl .nil))))) pulled
  ·
    simp only [decide_eq_false_iff_not] at h20
    obtain rfl : i = 0 := by omega
    rw [List.drop_zero] at ownv
    refine Vc.exit rfl ?_
    refine Vc.seq ?_
    refine Vc.seq ?_
    refine Vc.draw [] (sd [(0, .read), (1, .read), (3, .read), (4, .read), (2, .eff), (5, .eff), (6, .pure), (7, .pure), (8, .read), (9, .read), (10, .eff), (11, .pure), (12, .pure), (13, .pure), (14, .read), (15, .pure), (16, .read), (17, .pure), (18, .pure), (19, .read), (20, .pure), (21, .eff), (22, .pure)]) mixed (by kernel_rfl) ?_
    refine Rg.read rfl rfl rfl (Ev.ldA rfl rfl) ?_
    refine Rg.read rfl rfl rfl (Ev.ldA rfl rfl) ?_
    refine Rg.read rfl rfl rfl (Ev.ldA rfl rfl) ?_
    refine Rg.read rfl rfl rfl (Ev.ldA rfl rfl) ?_
    refine Rg.callP rfl rfl rfl (run_callF rfl) (same_spec (Arg.own own frz_sb) (Arg.own own2 frz_sb) (by omega) (by omega) N M) ?_
    rintro _ rfl
    refine Rg.callP rfl rfl rfl (run_callF rfl) (rsame_spec (Arg.own own frz_sb) (Arg.own own2 frz_sb) (by omega) (by omega) N M) ?_
    rintro _ rfl
    refine Rg.pure rfl rfl rfl (Pv.neqB rfl rfl) ?_
    refine Rg.pure rfl rfl rfl (Pv.move rfl) ?_
    refine Rg.split (t := 41) rfl (fun h41 => absurd h41 (by simp)) (fun h41 => ?_)
    refine Rg.read rfl rfl rfl (Ev.ldA rfl rfl) ?_
    refine Rg.read rfl rfl rfl (Ev.ldA rfl rfl) ?_
    refine Rg.callP rfl rfl rfl (run_callF rfl) (same_spec (Arg.own own frz_sb) (Arg.own ownv frz_sb) (by omega) (by simp; omega) N N) ?_
    rintro _ rfl
    refine Rg.pure rfl rfl rfl (Pv.not rfl) ?_
    refine Rg.pure rfl rfl rfl (Pv.pickF rfl rfl) ?_
    refine Rg.pure rfl rfl rfl (Pv.move rfl) ?_
    refine Rg.split (t := 47) rfl (fun h47 => absurd h47 (by rw [sameG_rev]; decide)) (fun h47 => ?_)
    refine Rg.read rfl rfl rfl (Ev.ldA rfl rfl) ?_
    refine Rg.pure rfl rfl rfl (Pv.fa rfl) ?_
    refine Rg.read rfl rfl rfl (Ev.ld rfl rfl) ?_
    refine Rg.pure rfl rfl rfl (Pv.xorI rfl rfl) ?_
    refine Rg.pure rfl rfl rfl (Pv.fa rfl) ?_
    refine Rg.read rfl rfl rfl (Ev.ld rfl rfl) ?_
    refine Rg.pure rfl rfl rfl (Pv.build rfl rfl) ?_
    refine Rg.callP rfl rfl rfl (run_callF rfl) (same_spec (Arg.own own frz_sb) (Arg.own own frz_sb) (by omega) (by omega) N (IntKind.wrap .i64 ((BitVec.ofInt (IntKind.bits .i64) N ^^^ BitVec.ofInt (IntKind.bits .i64) 1).toNat : Nat))) ?_
    rintro _ rfl
    refine Rg.pure rfl rfl rfl (Pv.pickF rfl rfl) ?_
    refine Rg.nil ?_
    refine Vc.cond rfl (fun h56 => absurd h56 (by rw [sameG_ne (xor_ne N hN)]; decide)) (fun h56 => ?_)
    refine Vc.skip ?_
    refine Vc.seq ?_
    refine Vc.draw [] (sd [(0, .pure), (1, .pure), (2, .pure), (3, .read), (4, .pure), (5, .pure), (6, .pure), (7, .read), (8, .pure), (9, .read), (10, .pure), (11, .read), (12, .pure), (13, .pure), (14, .eff), (15, .pure), (16, .pure), (17, .pure), (18, .pure)]) mixed (by kernel_rfl) ?_
    refine Rg.pure rfl rfl rfl (Pv.move rfl) ?_
    refine Rg.pure rfl rfl rfl (Pv.move rfl) ?_
    refine Rg.split (t := 58) rfl (fun h58 => ?_) (fun h58 => absurd h58 (by decide))
    refine Rg.pure rfl rfl rfl (Pv.fa rfl) ?_
    refine Rg.read rfl rfl rfl (Ev.ld rfl rfl) ?_
    refine Rg.pure rfl rfl rfl (Pv.lenS rfl) ?_
    refine Rg.pure rfl rfl rfl (Pv.eql rfl rfl) ?_
    refine Rg.pure rfl rfl rfl (Pv.move rfl) ?_
    refine Rg.split (t := 63) rfl (fun h63 => ?_) (fun h63 => ?_)
    ·
      iterate 9 (first | refine Rg.skipP rfl rfl rfl ?_ | refine Rg.skipR rfl rfl rfl ?_ | refine Rg.skipE rfl rfl rfl ?_)
      refine Rg.pure rfl rfl rfl (Pv.pickT rfl rfl) ?_
      refine Rg.pure rfl rfl rfl (Pv.pickT rfl rfl) ?_
      refine Rg.pure rfl rfl rfl (Pv.assign rfl) ?_
      refine Rg.nil ?_
      refine Vc.ret (Vc.rets rfl (.cons (.tmp rfl) (.nil)) ?_)
      rfl
    ·
      have hpos : 0 < es.length := by
        by_cases e : es.length = 0
        · simp [e] at h63
        · omega
      obtain ⟨bq, cq, sp, e, rfl, hcq, hmq⟩ := own.block hpos
      cases e
      rw [show edgeE.k = 3 from rfl] at hcq
      refine Rg.read rfl rfl rfl (Ev.ldA rfl rfl) ?_
      refine Rg.pure rfl rfl rfl (Pv.fa rfl) ?_
      refine Rg.read rfl rfl rfl (Ev.ld rfl rfl) ?_
      refine Rg.pure rfl rfl rfl (Pv.fa rfl) ?_
      refine Rg.read rfl rfl rfl (Ev.ld rfl rfl) ?_
      refine Rg.pure rfl rfl rfl (Pv.slFrom (1) rfl rfl (by omega) (by omega)) ?_
      refine Rg.pure rfl rfl rfl (Pv.build rfl rfl) ?_
      refine Rg.callP rfl rfl rfl (run_callF rfl) (same_spec (Arg.own own frz_sb) ((Arg.own own frz_sb).sub 1 es.length hpos (Nat.le_refl _)) (by omega) (by simp; omega) N N) ?_
      rintro _ rfl
      refine Rg.pure rfl rfl rfl (Pv.not rfl) ?_
      refine Rg.pure rfl rfl rfl (Pv.pickF rfl rfl) ?_
      refine Rg.pure rfl rfl rfl (Pv.pickT rfl rfl) ?_
      refine Rg.pure rfl rfl rfl (Pv.assign rfl) ?_
      refine Rg.nil ?_
      refine Vc.ret (Vc.rets rfl (.cons (.tmp rfl) (.nil)) ?_)
      exact congrArg Value.bool (by rw [sameG_less N (by simp; omega)]; rfl)
end Go.Proofs.Ytjoldkfedmiciaa
