/- Pools: PoolFrames. -/
import Derived.Test.YtjhegjcjplpmjaaPlQ
namespace Go.Proofs.Ytjhegjcjplpmjaa
set_option linter.unusedVariables false

def intE : Enc Int where
  k := 1
  tid := 3
  cells := fun z => [.int .i64 z]
  val := fun z => .int .i64 z
  pos := by decide
  len := fun _ => rfl
  one := fun x v hv => by simp at hv; subst hv; rfl
  vc := fun _ => rfl
instance : RowTy Try.prog intE 3 := ⟨Try.sizeOf3, .inr ⟨Try.isAgg3, rfl, fun _ => rfl⟩⟩
instance : TySl Try.prog 42 intE 8 := ⟨Try.underlying42, Try.t3, .int .i64 0, by kernel_rfl, by kernel_rfl, rfl, rfl, rfl⟩

structure FrSt where
  nq : Nat
  ck : Nat
  L : List Pl
  P : List (Pl × Pg)
  D : Dk
  h1 : Hl
  h2 : Hl
set_option maxHeartbeats 4000000 in
theorem PoolFrames_spec (F : Fm) (z0 : Int) (v1 : Value) (ls : List Int) (ha : Arg intE F v1 ls) : Spec Try.prog 5 #[.int .i64 z0, v1] F [] fun v _ => v = .bool true := by
  obtain ⟨p1, c1, rfl⟩ := ha.shape
  have hcap1 := ha.cap
  obtain ⟨fr, hfr⟩ : ∃ fr, fr = 5 + andN z0 65535 % 6 := ⟨_, rfl⟩
  obtain ⟨n, hn⟩ : ∃ n, n = min ls.length 60 := ⟨_, rfl⟩
  have hA : (seqA 300).length = 300 := seqA_len 300
  generalize hAe : seqA 300 = A at hA
  have hB : (seqB 0).length = 0 := seqB_len 0
  refine Spec.of (n := 87) (vs := [.int .i64 z0, .slice p1 ls.length c1]) Try.func5 rfl Try.ntmps5 rfl ?_
  refine Vc.seq ?_
  refine Vc.text (List.range 1) (sd [(0, .pure)]) rfl ?_
  refine Rg.pure rfl rfl rfl (Pv.assign rfl) ?_
  refine Rg.nil ?_
  refine Vc.seq ?_
  refine Vc.text (List.range 2) (sd [(0, .eff), (1, .pure)]) rfl ?_
  refine Rg.callA rfl rfl rfl (run_callF rfl) (shown_spec _) ?_
  rintro _ s16 rfl
  refine Rg.pure rfl rfl rfl (Pv.assign rfl) ?_
  refine Rg.nil ?_
  refine Vc.seq ?_
  refine Vc.text (List.range 5) (sd [(0, .pure), (1, .pure), (2, .pure), (3, .pure), (4, .pure)]) rfl ?_
  refine Rg.pure rfl rfl rfl (Pv.move rfl) ?_
  refine Rg.pure rfl rfl rfl (Pv.and rfl rfl (by omega)) ?_
  refine Rg.pure rfl rfl rfl (Pv.rem rfl rfl (by omega)) ?_
  refine Rg.pure rfl rfl rfl (Pv.asI (fr) (Pv.add rfl rfl (by omega)) (by omega)) ?_
  refine Rg.pure rfl rfl rfl (Pv.assign rfl) ?_
  refine Rg.nil ?_
  refine Vc.seq ?_
  refine Vc.text (List.range 2) (sd [(0, .eff), (1, .pure)]) rfl ?_
  refine Rg.callA rfl rfl rfl (run_callF rfl) (made_spec _ 300 0 (by omega) (by omega)) ?_
  rintro _ s21 ⟨db, rfl, hD21, hw21⟩
  rw [hAe] at hD21 hw21
  refine Rg.pure rfl rfl rfl (Pv.assign rfl) ?_
  refine Rg.nil ?_
  refine Vc.seq ?_
  refine Vc.seq ?_
  refine Vc.text (List.range 2) (sd [(0, .pure), (1, .pure)]) rfl ?_
  refine Rg.pure rfl rfl rfl (Pv.move rfl) ?_
  refine Rg.pure rfl rfl rfl (Pv.eqlNil rfl rfl) ?_
  refine Rg.nil ?_
  refine Vc.cond rfl (fun h23 => absurd h23 (by (intro h; cases h))) (fun h23 => ?_)
  refine Vc.skip ?_
  refine Vc.seq ?_
  refine Vc.text (List.range 4) (sd [(0, .pure), (1, .pure), (2, .eff), (3, .pure)]) rfl ?_
  refine Rg.pure rfl rfl rfl (Pv.move rfl) ?_
  refine Rg.pure rfl rfl rfl (Pv.move rfl) ?_
  refine Rg.callA rfl rfl rfl (run_callF rfl) (newPool_spec _ db (fr : Int) (by omega)) ?_
  rintro _ s26 ⟨pb, rfl, hP26⟩
  rw [show (max (fr : Int) 1).toNat = fr by omega] at hP26
  have hI26 := oAB_init A (seqB 0) (used := mB 300 0) (ops := 4) (fr := fr) (by decide)
  refine Rg.pure rfl rfl rfl (Pv.assign rfl) ?_
  refine Rg.nil ?_
  refine Vc.seq ?_
  refine Vc.seq ?_
  refine Vc.text (List.range 2) (sd [(0, .pure), (1, .pure)]) rfl ?_
  refine Rg.pure rfl rfl rfl (Pv.move rfl) ?_
  refine Rg.pure rfl rfl rfl (Pv.eqlNil rfl rfl) ?_
  refine Rg.nil ?_
  refine Vc.cond rfl (fun h28 => absurd h28 (by (intro h; cases h))) (fun h28 => ?_)
  refine Vc.skip ?_
  refine Vc.seq ?_
  refine Vc.text (List.range 3) (sd [(0, .pure), (1, .eff), (2, .pure)]) rfl ?_
  refine Rg.pure rfl rfl rfl (Pv.move rfl) ?_
  refine Rg.callP rfl rfl rfl (run_callF rfl) (opsD_spec hD21 frz_sb) ?_
  rintro _ rfl
  refine Rg.pure rfl rfl rfl (Pv.assign rfl) ?_
  refine Rg.nil ?_
  refine Vc.seq ?_
  refine Vc.text (List.range 4) (sd [(0, .pure), (1, .pure), (2, .pure), (3, .pure)]) rfl ?_
  refine Rg.pure rfl rfl rfl (Pv.move rfl) ?_
  refine Rg.pure rfl rfl rfl (Pv.lenS rfl) ?_
  refine Rg.pure rfl rfl rfl (Pv.asI (n) (Pv.min rfl rfl) (by omega)) ?_
  refine Rg.pure rfl rfl rfl (Pv.assign rfl) ?_
  refine Rg.nil ?_
  refine Vc.seq ?_
  refine Vc.text (List.range 6) (sd [(0, .eff), (1, .pure), (2, .pure), (3, .pure), (4, .pure), (5, .pure)]) rfl ?_
  refine Rg.callA rfl rfl rfl (run_callF rfl) (bytes_spec _ 300 0 (by omega) (by omega)) ?_
  rintro _ _ ⟨u1, u2, su1, su2, rfl, o1, o2, rfl⟩
  rw [hAe] at o1
  simp only [List.append_assoc]
  obtain ⟨bA, capA, spA, rfl, rfl, _, _⟩ := o1.block (by omega)
  refine Rg.pure rfl rfl rfl (Pv.move rfl) ?_
  refine Rg.pure rfl rfl rfl (Pv.extract rfl rfl) ?_
  refine Rg.pure rfl rfl rfl (Pv.extract rfl rfl) ?_
  refine Rg.pure rfl rfl rfl (Pv.assign rfl) ?_
  refine Rg.pure rfl rfl rfl (Pv.assign rfl) ?_
  refine Rg.nil ?_
  refine Vc.seq ?_
  refine Vc.seq ?_
  refine Vc.text (List.range 1) (sd [(0, .pure)]) rfl ?_
  refine Rg.pure rfl rfl rfl (Pv.assign rfl) ?_
  refine Rg.nil ?_
  refine Vc.block ?_
  refine Vc.loop2 (fun (i : Nat) (st : FrSt) => i ≤ n ∧ PoolAt pb db fr st.ck st.L st.P st.h1 ∧ DiskAt db st.D st.h2 ∧ Dq st.nq st.D ∧ st.nq ≤ 4 + 11 * i ∧ st.ck ≤ st.nq ∧ PInv (oAB A (seqB 0)) fr st.D st.L st.P ∧ st.D.ops = 4 + (i : Int) + (st.P.length : Int)) (fun i st => [(1, .slice p1 ls.length c1), (5, .bool true), (6, .pointer (some ⟨db, 0, none⟩)), (7, .pointer (some ⟨pb, 0, none⟩)), (8, .int .i64 4), (9, .int .i64 (n : Int)), (10, .slice (some ⟨bA, 0, none⟩) A.length capA), (12, .int .i64 (i : Int))]) (fun i st => st.h1 ++ (st.h2 ++ [(bA, rowS byteE A spA)])) (fun i st => n - i) 0 (⟨4, 0, [], [], dAB A (seqB 0) (mB 300 0) 4, s26, s21⟩ : FrSt) ⟨Nat.zero_le _, hP26, hD21, hw21, Nat.le_refl _, Nat.zero_le _, hI26, rfl⟩ (.cons rfl (.cons rfl (.cons rfl (.cons rfl (.cons rfl (.cons rfl (.cons rfl (.cons rfl .nil)))))))) pulled ?_
  rintro i ⟨nq, ck, L1, P1, D1, h1, h2⟩ ⟨hi, hP1, hD1, hw1, hnq, hck, hI1, hops⟩
  simp only at hP1 hD1 hw1 hnq hck hI1 hops ⊢
  have hcnt := hI1.count (pgs5_all (by omega) hB)
  have h5 : pgs5.length = 5 := rfl
  refine Vc.seq ?_
  refine Vc.seq ?_
  refine Vc.text (List.range 3) (sd [(0, .pure), (1, .pure), (2, .pure)]) rfl ?_
  refine Rg.pure rfl rfl rfl (Pv.move rfl) ?_
  refine Rg.pure rfl rfl rfl (Pv.move rfl) ?_
  refine Rg.pure rfl rfl rfl (Pv.lss rfl rfl) ?_
  refine Rg.nil ?_
  refine Vc.cond rfl (fun h40 => ?_) (fun h40 => ?_)
  ·
    simp only [decide_eq_true_eq] at h40
    have hi1 : i < ls.length := by omega
    obtain ⟨bb, off, c', e, _⟩ := ha.block (by omega)
    cases e
    obtain ⟨at_, hat⟩ : ∃ at_, at_ = andN ls[i]! 65535 % 300 := ⟨_, rfl⟩
    have hat3 : at_ < 300 := by omega
    have hone : (A.drop at_).take 1 = [A[at_]!] := by rw [getElem!_pos A at_ (by omega), List.drop_eq_getElem_cons (by omega)]; rfl
    refine Vc.skip ?_
    refine Vc.seq ?_
    refine Vc.block ?_
    refine Vc.seq ?_
    refine Vc.text (List.range 7) (sd [(0, .pure), (1, .pure), (2, .pure), (3, .read), (4, .pure), (5, .pure), (6, .pure)]) rfl ?_
    refine Rg.pure rfl rfl rfl (Pv.move rfl) ?_
    refine Rg.pure rfl rfl rfl (Pv.move rfl) ?_
    refine Rg.pure rfl rfl rfl (Pv.ixA (i) rfl rfl (by omega) (by omega)) ?_
    refine Rg.read rfl rfl rfl (Ev.ldS (i) (ha.src) rfl rfl rfl (by omega)) ?_
    refine Rg.pure rfl rfl rfl (Pv.and rfl rfl (by omega)) ?_
    refine Rg.pure rfl rfl rfl (Pv.asI (at_) (Pv.rem rfl rfl (by omega)) (by omega)) ?_
    refine Rg.pure rfl rfl rfl (Pv.assign rfl) ?_
    refine Rg.nil ?_
    refine Vc.seq ?_
    refine Vc.text (List.range 8) (sd [(0, .pure), (1, .pure), (2, .eff), (3, .pure), (4, .pure), (5, .pure), (6, .pure), (7, .pure)]) rfl ?_
    refine Rg.pure rfl rfl rfl (Pv.move rfl) ?_
    refine Rg.pure rfl rfl rfl (Pv.move rfl) ?_
    refine Rg.callH rfl rfl rfl (run_callF rfl) (fun F' hF' => read_good (F := F') hP1 hD1 hw1 (by omega) hI1 hck (by omega) (oAB_small (by omega) (by omega)) (oAB_a _ _) at_ 1 (by omega)) rfl ?_
    rintro _ _ ⟨u, su, h3, h4, L2, P2, D2, ck2, n2, rfl, ou, rfl, hP2, hD2, hw2, hn2, hck2, hI2, _, _, hf2⟩
    rw [hone] at ou
    obtain ⟨bu, capu, spu, rfl, rfl, _, _⟩ := ou.block (by simp)
    obtain ⟨_, hop2⟩ := hf2 (few5 (by omega) hB (by omega))
    simp only [List.append_assoc]
    refine Rg.pure rfl rfl rfl (Pv.move rfl) ?_
    refine Rg.pure rfl rfl rfl (Pv.extract rfl rfl) ?_
    refine Rg.pure rfl rfl rfl (Pv.extract rfl rfl) ?_
    refine Rg.pure rfl rfl rfl (Pv.assign rfl) ?_
    refine Rg.pure rfl rfl rfl (Pv.assign rfl) ?_
    refine Rg.nil ?_
    refine Vc.seq ?_
    refine Vc.draw [] (sd [(0, .pure), (1, .pure), (2, .pure), (3, .pure), (4, .pure), (5, .pure), (6, .pure), (7, .pure), (8, .pure), (9, .pure), (10, .read), (11, .pure), (12, .pure), (13, .pure), (14, .read), (15, .pure), (16, .pure)]) mixed (by kernel_rfl) ?_
    refine Rg.pure rfl rfl rfl (Pv.move rfl) ?_
    refine Rg.pure rfl rfl rfl (Pv.neq rfl rfl) ?_
    refine Rg.pure rfl rfl rfl (Pv.move rfl) ?_
    refine Rg.split (t := 57) rfl (fun h57 => absurd h57 (by decide)) (fun h57 => ?_)
    refine Rg.pure rfl rfl rfl (Pv.move rfl) ?_
    refine Rg.pure rfl rfl rfl (Pv.lenS rfl) ?_
    refine Rg.pure rfl rfl rfl (Pv.neq rfl rfl) ?_
    refine Rg.pure rfl rfl rfl (Pv.pickF rfl rfl) ?_
    refine Rg.pure rfl rfl rfl (Pv.move rfl) ?_
    refine Rg.split (t := 62) rfl (fun h62 => absurd h62 (by simp)) (fun h62 => ?_)
    refine Rg.pure rfl rfl rfl (Pv.move rfl) ?_
    refine Rg.pure rfl rfl rfl (Pv.ixA 0 rfl rfl rfl (by simp)) ?_
    refine Rg.read rfl rfl rfl (Ev.as (byteE.val A[at_]!) (Ev.ldR (E := byteE) 0 rfl (Nat.zero_add _) (by simp)) rfl) ?_
    refine Rg.pure rfl rfl rfl (Pv.move rfl) ?_
    refine Rg.pure rfl rfl rfl (Pv.move rfl) ?_
    refine Rg.pure rfl rfl rfl (Pv.ixA (at_) rfl rfl (by omega) (by omega)) ?_
    refine Rg.read rfl rfl rfl (Ev.as (byteE.val A[at_]!) (Ev.ldR (E := byteE) at_ rfl (Nat.zero_add _) (by omega)) rfl) ?_
    refine Rg.pure rfl rfl rfl (Pv.neq rfl rfl) ?_
    refine Rg.pure rfl rfl rfl (Pv.pickF rfl rfl) ?_
    refine Rg.nil ?_
    refine Vc.cond rfl (fun h71 => absurd h71 (by simp)) (fun h71 => ?_)
    refine Vc.skip ?_
    refine Vc.blk ?_
    refine Vc.text (List.range 3) (sd [(0, .pure), (1, .pure), (2, .pure)]) rfl ?_
    refine Rg.pure rfl rfl rfl (Pv.move rfl) ?_
    refine Rg.pure rfl rfl rfl (Pv.asI (i + 1) (Pv.add rfl rfl (by omega)) (by omega)) ?_
    refine Rg.pure rfl rfl rfl (Pv.assign rfl) ?_
    refine Rg.nil ?_
    exact Vc.inv2 (i + 1) (⟨n2, ck2, L2, P2, D2, h3, h4⟩ : FrSt) ⟨⟨by omega, hP2, hD2, hw2, by show n2 ≤ 4 + 11 * (i + 1); omega, hck2, hI2, by show D2.ops = 4 + ((i + 1 : Nat) : Int) + (P2.length : Int); omega⟩, by omega⟩ (.cons rfl (.cons rfl (.cons rfl (.cons rfl (.cons rfl (.cons rfl (.cons rfl (.cons rfl .nil)))))))) pulled
  ·
    simp only [decide_eq_false_iff_not] at h40
    obtain rfl : i = n := by omega
    refine Vc.exit rfl ?_
    refine Vc.seq ?_
    refine Vc.text (List.range 16) (sd [(0, .pure), (1, .pure), (2, .pure), (3, .eff), (4, .pure), (5, .pure), (6, .pure), (7, .pure), (8, .pure), (9, .pure), (10, .pure), (11, .pure), (12, .eff), (13, .pure), (14, .pure), (15, .pure)]) rfl ?_
    refine Rg.pure rfl rfl rfl (Pv.move rfl) ?_
    refine Rg.pure rfl rfl rfl (Pv.move rfl) ?_
    refine Rg.split (t := 73) rfl (fun h73 => ?_) (fun h73 => absurd h73 (by decide))
    refine Rg.pure rfl rfl rfl (Pv.move rfl) ?_
    refine Rg.callP rfl rfl rfl (run_callF rfl) (opsD_spec hD1 frz_sb) ?_
    rintro _ rfl
    refine Rg.pure rfl rfl rfl (Pv.move rfl) ?_
    refine Rg.pure rfl rfl rfl (Pv.sub rfl rfl (by omega)) ?_
    refine Rg.pure rfl rfl rfl (Pv.move rfl) ?_
    refine Rg.pure rfl rfl rfl (Pv.add rfl rfl (by omega)) ?_
    refine Rg.pure rfl rfl rfl (Pv.leq rfl rfl) ?_
    refine Rg.pure rfl rfl rfl (Pv.pickT rfl rfl) ?_
    refine Rg.pure rfl rfl rfl (Pv.move rfl) ?_
    refine Rg.split (t := 82) rfl (fun h82 => ?_) (fun h82 => absurd h82 (by (simp <;> omega)))
    refine Rg.pure rfl rfl rfl (Pv.move rfl) ?_
    refine Rg.callP rfl rfl rfl (run_callF rfl) (resident_spec hP1 frz_sb) ?_
    rintro _ rfl
    refine Rg.pure rfl rfl rfl (Pv.leq rfl rfl) ?_
    refine Rg.pure rfl rfl rfl (Pv.pickT rfl rfl) ?_
    refine Rg.pure rfl rfl rfl (Pv.assign rfl) ?_
    refine Rg.nil ?_
    refine Vc.ret (Vc.rets rfl (.cons (.tmp rfl) (.nil)) ?_)
    exact congrArg Value.bool (by simp; omega)
end Go.Proofs.Ytjhegjcjplpmjaa
