/- Pools: PoolDown. -/
import Derived.Test.YtjhegjcjplpmjaaPlP
namespace Go.Proofs.Ytjhegjcjplpmjaa
set_option linter.unusedVariables false

theorem piece_all (t : List UInt8) (i : Nat) : sameSec t t i = true := by
  unfold sameSec secTo
  rw [decide_eq_true (Nat.min_le_right _ _), decide_eq_true rfl]
  rfl
theorem torn_same (t : List UInt8) (ks : List Bool) : ∀ n, tornG t t ks n = (t, ks)
  | 0 => rfl
  | n + 1 => by rw [tornG_succ, torn_same t ks n, tornStep, if_pos (piece_all t n)]
theorem crL_synced {k t : List UInt8} : ∀ (ls : List (List UInt8 × Fl)) (ks : List Bool), (k, (⟨t, t⟩ : Fl)) ∈ ls → (k, (⟨t, t⟩ : Fl)) ∈ (crL ls ks).1
  | (j, f) :: r, ks, h => by
    simp only [crL]
    rcases List.mem_cons.1 h with e | h
    · cases e
      rw [torn_same]
      exact List.mem_cons_self
    · exact List.mem_cons_of_mem _ (crL_synced r _ h)
theorem crash_synced {D : Dk} {k t : List UInt8} (hn : (D.files.map (·.1)).Nodup) (hd : D.down = false) (hf : findF D.files k = some ⟨t, t⟩) (ks : List Bool) : findF (crashD ks D).files k = some ⟨t, t⟩ ∧ (crashD ks D).down = true ∧ (crashD ks D).armed = 0 := by
  have hc := crash_crL hn ks
  unfold crashD
  rw [if_neg (by rw [hd]; decide)]
  refine ⟨?_, rfl, rfl⟩
  show findF (crFold D.files ks (Go.Proofs.Ytjhegjcjplpmjaa.sortN (D.files.map (·.1)))).files k = _
  have hm : (k, (⟨t, t⟩ : Fl)) ∈ (crL (inOrder D.files) ks).1 := crL_synced _ _ ((inOrder_perm hn).mem_iff.1 (findF_some hf))
  have hk2 : ((crL (inOrder D.files) ks).1.map (·.1)).Nodup := by
    rw [crL_keys, inOrder_keys]
    exact ((List.mergeSort_perm _ _).nodup_iff).2 hn
  exact findF_mem (((hc.1.map _).nodup_iff).2 hk2) (hc.1.mem_iff.2 hm)
theorem put_part {own b : List UInt8} {at_ : Nat} (h : at_ + b.length ≤ own.length) : ((putAt own at_ b).drop at_).take b.length = b := by
  apply List.ext_getElem?
  intro i
  rw [List.getElem?_take, List.getElem?_drop, putAt_getP (by omega)]
  by_cases c : i < b.length
  · rw [if_pos c, if_neg (by omega), if_pos (by omega)]
    congr 1
    omega
  · rw [if_neg c, List.getElem?_eq_none (by omega)]
theorem sync_any {D : Dk} {k : List UInt8} {f : Fl} (hd : D.down = false) (ha : D.armed = 0) (hf : findF D.files k = some f) : syncD D k = (0, { D with ops := D.ops + 1, files := setF D.files k ⟨f.now, f.now⟩ }) := by
  have hb := begins_up ha hd
  simp only [syncD, hb]
  rw [if_neg (show ¬ (0 : Int) = 7 by decide), hf]
theorem size_dn {D : Dk} {k : List UInt8} (hd : D.down = true) (ha : D.armed = 0) : sizeD D k = (0, 7) ∧ (beginsD D).2 = { D with ops := D.ops + 1 } := by
  have hb := begins_dn ha hd
  refine ⟨?_, by rw [hb]⟩
  simp only [sizeD, hb]
  rw [if_pos trivial]

set_option maxHeartbeats 4000000 in
theorem PoolDown_spec (F : Fm) (v0 : Value) (xs : List UInt8) (z0 : Int) (h0 : Arg byteE F v0 xs) : Spec Try.prog 8 #[v0, .int .i64 z0] F [] fun v _ => v = .bool true := by
  obtain ⟨p0, c0, rfl⟩ := h0.shape
  obtain ⟨b, hbl, _, hbc, hb⟩ := h0.upTo 100
  rw [← hbl] at hb hbc
  obtain ⟨fr, hfr⟩ : ∃ fr, fr = 1 + andN z0 65535 % 5 := ⟨_, rfl⟩
  have hA : (seqA 300).length = 300 := seqA_len 300
  generalize hAe : seqA 300 = A at hA
  have hB : (seqB 0).length = 0 := seqB_len 0
  have hA1 : (putAt A 50 b).length = 300 := by rw [put_len (by omega)]; exact hA
  refine Spec.of (n := 93) (vs := [.slice p0 xs.length c0, .int .i64 z0]) Try.func8 rfl Try.ntmps8 rfl ?_
  refine Vc.seq ?_
  refine Vc.text (List.range 1) (sd [(0, .pure)]) rfl ?_
  refine Rg.pure rfl rfl rfl (Pv.assign rfl) ?_
  refine Rg.nil ?_
  refine Vc.seq ?_
  refine Vc.text (List.range 2) (sd [(0, .eff), (1, .pure)]) rfl ?_
  refine Rg.callA rfl rfl rfl (run_callF rfl) (shown_spec _) ?_
  rintro _ s16 rfl
  refine Rg.pure rfl rfl rfl (Pv.assign rfl) ?_
  refine Rg.nil ?_
  refine Vc.seq ?_
  refine Vc.text (List.range 6) (sd [(0, .pure), (1, .pure), (2, .pure), (3, .pure), (4, .pure), (5, .pure)]) rfl ?_
  refine Rg.pure rfl rfl rfl (Pv.move rfl) ?_
  refine Rg.pure rfl rfl rfl (Pv.move rfl) ?_
  refine Rg.pure rfl rfl rfl (Pv.lenS rfl) ?_
  refine Rg.pure rfl rfl rfl (Pv.asI (b.length) (Pv.min rfl rfl) (by omega)) ?_
  refine Rg.pure rfl rfl rfl (Pv.slTo (b.length) rfl rfl (by omega)) ?_
  refine Rg.pure rfl rfl rfl (Pv.assign rfl) ?_
  refine Rg.nil ?_
  refine Vc.seq ?_
  refine Vc.text (List.range 5) (sd [(0, .pure), (1, .pure), (2, .pure), (3, .pure), (4, .pure)]) rfl ?_
  refine Rg.pure rfl rfl rfl (Pv.move rfl) ?_
  refine Rg.pure rfl rfl rfl (Pv.and rfl rfl (by omega)) ?_
  refine Rg.pure rfl rfl rfl (Pv.rem rfl rfl (by omega)) ?_
  refine Rg.pure rfl rfl rfl (Pv.asI (fr) (Pv.add rfl rfl (by omega)) (by omega)) ?_
  refine Rg.pure rfl rfl rfl (Pv.assign rfl) ?_
  refine Rg.nil ?_
  refine Vc.seq ?_
  refine Vc.text (List.range 2) (sd [(0, .eff), (1, .pure)]) rfl ?_
  refine Rg.callA rfl rfl rfl (run_callF rfl) (made_spec _ 300 0 (by omega) (by omega)) ?_
  rintro _ s26 ⟨db, rfl, hD26, hw26⟩
  rw [hAe] at hD26 hw26
  refine Rg.pure rfl rfl rfl (Pv.assign rfl) ?_
  refine Rg.nil ?_
  refine Vc.seq ?_
  refine Vc.seq ?_
  refine Vc.text (List.range 2) (sd [(0, .pure), (1, .pure)]) rfl ?_
  refine Rg.pure rfl rfl rfl (Pv.move rfl) ?_
  refine Rg.pure rfl rfl rfl (Pv.eqlNil rfl rfl) ?_
  refine Rg.nil ?_
  refine Vc.cond rfl (fun h28 => absurd h28 (by (intro h; cases h))) (fun h28 => ?_)
  refine Vc.skip ?_
  refine Vc.seq ?_
  refine Vc.text (List.range 4) (sd [(0, .pure), (1, .pure), (2, .eff), (3, .pure)]) rfl ?_
  refine Rg.pure rfl rfl rfl (Pv.move rfl) ?_
  refine Rg.pure rfl rfl rfl (Pv.move rfl) ?_
  refine Rg.callA rfl rfl rfl (run_callF rfl) (newPool_spec _ db (fr : Int) (by omega)) ?_
  rintro _ s31 ⟨pb, rfl, hP31⟩
  rw [show (max (fr : Int) 1).toNat = fr by omega] at hP31
  have hI31 := oAB_init A (seqB 0) (used := mB 300 0) (ops := 4) (fr := fr) (by decide)
  refine Rg.pure rfl rfl rfl (Pv.assign rfl) ?_
  refine Rg.nil ?_
  refine Vc.seq ?_
  refine Vc.seq ?_
  refine Vc.text (List.range 2) (sd [(0, .pure), (1, .pure)]) rfl ?_
  refine Rg.pure rfl rfl rfl (Pv.move rfl) ?_
  refine Rg.pure rfl rfl rfl (Pv.eqlNil rfl rfl) ?_
  refine Rg.nil ?_
  refine Vc.cond rfl (fun h33 => absurd h33 (by (intro h; cases h))) (fun h33 => ?_)
  refine Vc.skip ?_
  refine Vc.seq ?_
  refine Vc.text (List.range 4) (sd [(0, .pure), (1, .pure), (2, .eff), (3, .pure)]) rfl ?_
  refine Rg.pure rfl rfl rfl (Pv.move rfl) ?_
  refine Rg.pure rfl rfl rfl (Pv.move rfl) ?_
  refine Rg.callH rfl rfl rfl (run_callF rfl) (fun F' hF' => write_good (F := F') hP31 hD26 hw26 (by omega) hI31 (by omega) (by omega) (oAB_small (by omega) (by omega)) (oAB_a _ _) 50 (hb.mono fun b o h => hF' b o (.inr h)) (by omega)) rfl ?_
  rintro _ _ ⟨h1', h2', L1, P1, D1, ck1, n1, rfl, rfl, hP36, hD36, hw36, hn36, hck36, hI36, _, _, _⟩
  rw [oAB_setA] at hI36
  simp only [List.append_assoc]
  refine Rg.pure rfl rfl rfl (Pv.assign rfl) ?_
  refine Rg.nil ?_
  refine Vc.seq ?_
  refine Vc.text (List.range 3) (sd [(0, .pure), (1, .eff), (2, .pure)]) rfl ?_
  refine Rg.pure rfl rfl rfl (Pv.move rfl) ?_
  refine Rg.callH rfl rfl rfl (run_callF rfl) (fun F' hF' => flush_spec (F := F') hP36 hD36 hw36 (by omega) hI36 (oAB_small (by omega) (by omega)) fA) rfl ?_
  rintro _ _ ⟨h3, h4, P2, D2, rfl, rfl, hP38, hD38, hw38, hI38, hl38, hd38⟩
  simp only [List.append_assoc]
  obtain ⟨f2, hf2, hf2n⟩ := hI38.flushed (oAB_a _ _) fun q x hx e => by
    cases h : x.dirty with
    | false => rfl
    | true => exact absurd e (hd38 q x hx h).1
  have hsy := sync_any hI38.up hI38.arm hf2
  rw [hf2n] at hsy
  refine Rg.pure rfl rfl rfl (Pv.assign rfl) ?_
  refine Rg.nil ?_
  refine Vc.seq ?_
  refine Vc.text (List.range 3) (sd [(0, .pure), (1, .eff), (2, .pure)]) rfl ?_
  refine Rg.pure rfl rfl rfl (Pv.move rfl) ?_
  refine Rg.callH rfl rfl rfl (run_callF rfl) (fun F' hF' => sync_w (F := F') hD38 hw38 (by omega) (by omega) fA hsy) rfl ?_
  rintro _ s40 ⟨rfl, hD40, hw40⟩
  obtain ⟨hc1, hc2, hc3⟩ := crash_synced (k := fA) (t := putAt A 50 b) hw40.nodup hI38.up (show findF (setF D2.files fA _) fA = _ by rw [findF_setF hf2, if_pos rfl]) []
  refine Rg.pure rfl rfl rfl (Pv.assign rfl) ?_
  refine Rg.nil ?_
  refine Vc.seq ?_
  refine Vc.text (List.range 2) (sd [(0, .pure), (1, .eff)]) rfl ?_
  refine Rg.pure rfl rfl rfl (Pv.move rfl) ?_
  refine Rg.callH rfl rfl rfl (run_callF rfl) (fun F' hF' => crash_w (F := F') hD40 hw40 (by omega) (by omega) Arg.nilB rfl) rfl ?_
  rintro v42 s42 ⟨hD42, hw42⟩
  generalize hDc : crashD [] _ = Dc at hD42 hw42 hc1 hc2 hc3
  obtain ⟨hs1, hb1⟩ := size_dn (k := fA) hc2 hc3
  refine Rg.nil ?_
  refine Vc.seq ?_
  refine Vc.text (List.range 7) (sd [(0, .pure), (1, .eff), (2, .pure), (3, .pure), (4, .pure), (5, .pure), (6, .pure)]) rfl ?_
  refine Rg.pure rfl rfl rfl (Pv.move rfl) ?_
  refine Rg.callH rfl rfl rfl (run_callF rfl) (fun F' hF' => read_no (F := F') hP38 hD42 (show Dq (n1 + fr + 1) _ from hw42.mono (by omega) (by omega)) (by omega) fA hs1 (by omega) 0 1 (.inl ⟨by decide, rfl⟩)) rfl ?_
  rintro _ _ ⟨h5, h6, rfl, rfl, hP45, hD45, hw45⟩
  rw [hb1] at hD45 hw45
  obtain ⟨hs2, hb2⟩ := size_dn (D := { Dc with ops := Dc.ops + 1 }) (k := fA) hc2 hc3
  simp only [List.append_assoc]
  refine Rg.pure rfl rfl rfl (Pv.move rfl) ?_
  refine Rg.pure rfl rfl rfl (Pv.extract rfl rfl) ?_
  refine Rg.pure rfl rfl rfl (Pv.extract rfl rfl) ?_
  refine Rg.pure rfl rfl rfl (Pv.assign rfl) ?_
  refine Rg.pure rfl rfl rfl (Pv.assign rfl) ?_
  refine Rg.nil ?_
  refine Vc.seq ?_
  refine Vc.text (List.range 5) (sd [(0, .pure), (1, .eff), (2, .eff), (3, .eff), (4, .pure)]) rfl ?_
  refine Rg.pure rfl rfl rfl (Pv.move rfl) ?_
  refine Rg.bsliceR (E := byteE) (e := 5) (cs := [.int .u8 120]) [120] rfl rfl rfl rfl rfl rfl rfl (by rfl) rfl (by decide) (fun b49 own49 => ?_)
  refine Rg.convSl (ys := [120]) rfl rfl rfl rfl rfl ?_
  refine Rg.callH rfl rfl rfl (run_callF rfl) (fun F' hF' => write_no (F := F') hP45 hD45 hw45 (by omega) fA hs2 (by omega) 0 (Arg.strR (ys := [120]) (hF' _ _ (.inl (by simp))) (by decide)) (.inl ⟨by decide, rfl⟩)) rfl ?_
  rintro _ _ ⟨h7, h8, rfl, rfl, hP51, hD51, hw51⟩
  rw [hb2] at hD51 hw51
  simp only [List.append_assoc]
  refine Rg.pure rfl rfl rfl (Pv.assign rfl) ?_
  refine Rg.nil ?_
  refine Vc.seq ?_
  refine Vc.text (List.range 2) (sd [(0, .pure), (1, .eff)]) rfl ?_
  refine Rg.pure rfl rfl rfl (Pv.move rfl) ?_
  refine Rg.callH rfl rfl rfl (run_callF rfl) (fun F' hF' => restart_w (F := F') hD51 hw51) rfl ?_
  rintro v53 s53 ⟨hD53, hw53⟩
  have hbg := begins_up (D := { Dc with ops := Dc.ops + 1 + 1, down := false }) hc3 rfl
  have hrd : readD { Dc with ops := Dc.ops + 1 + 1, down := false } fA ((50 : Nat) : Int) (b.length : Int) = (b, 0) := by
    simp only [readD, hbg]
    rw [if_neg (show ¬ (0 : Int) = 7 by decide), hc1]
    simp only []
    rw [if_neg (by rw [hA1]; omega)]
    exact congrArg (fun l => (l, (0 : Int))) (put_part (by omega))
  refine Rg.nil ?_
  refine Vc.seq ?_
  refine Vc.text (List.range 9) (sd [(0, .pure), (1, .pure), (2, .pure), (3, .eff), (4, .pure), (5, .pure), (6, .pure), (7, .pure), (8, .pure)]) rfl ?_
  refine Rg.pure rfl rfl rfl (Pv.move rfl) ?_
  refine Rg.pure rfl rfl rfl (Pv.move rfl) ?_
  refine Rg.pure rfl rfl rfl (Pv.lenS rfl) ?_
  refine Rg.callH rfl rfl rfl (run_callF rfl) (fun F' hF' => readAt_w (F := F') hD53 hw53 (by omega) (by omega) fA ((50 : Nat) : Int) (b.length : Int) hrd (congrArg Prod.snd hbg)) rfl ?_
  rintro _ _ ⟨u, su, s58, rfl, ou, hD58, hw58, rfl⟩
  simp only [List.append_assoc]
  refine Rg.pure rfl rfl rfl (Pv.move rfl) ?_
  refine Rg.pure rfl rfl rfl (Pv.extract rfl rfl) ?_
  refine Rg.pure rfl rfl rfl (Pv.extract rfl rfl) ?_
  refine Rg.pure rfl rfl rfl (Pv.assign rfl) ?_
  refine Rg.pure rfl rfl rfl (Pv.assign rfl) ?_
  refine Rg.nil ?_
  refine Vc.seq ?_
  refine Vc.text (List.range 33) (sd [(0, .pure), (1, .pure), (2, .pure), (3, .pure), (4, .pure), (5, .pure), (6, .pure), (7, .pure), (8, .pure), (9, .pure), (10, .pure), (11, .pure), (12, .pure), (13, .pure), (14, .pure), (15, .pure), (16, .pure), (17, .pure), (18, .pure), (19, .pure), (20, .pure), (21, .pure), (22, .pure), (23, .pure), (24, .pure), (25, .pure), (26, .pure), (27, .read), (28, .pure), (29, .read), (30, .pure), (31, .pure), (32, .pure)]) rfl ?_
  refine Rg.pure rfl rfl rfl (Pv.move rfl) ?_
  refine Rg.pure rfl rfl rfl (Pv.move rfl) ?_
  refine Rg.split (t := 62) rfl (fun h62 => ?_) (fun h62 => absurd h62 (by decide))
  refine Rg.pure rfl rfl rfl (Pv.move rfl) ?_
  refine Rg.pure rfl rfl rfl (Pv.eql rfl rfl) ?_
  refine Rg.pure rfl rfl rfl (Pv.pickT rfl rfl) ?_
  refine Rg.pure rfl rfl rfl (Pv.move rfl) ?_
  refine Rg.split (t := 66) rfl (fun h66 => ?_) (fun h66 => absurd h66 (by decide))
  refine Rg.pure rfl rfl rfl (Pv.move rfl) ?_
  refine Rg.pure rfl rfl rfl (Pv.eql rfl rfl) ?_
  refine Rg.pure rfl rfl rfl (Pv.pickT rfl rfl) ?_
  refine Rg.pure rfl rfl rfl (Pv.move rfl) ?_
  refine Rg.split (t := 70) rfl (fun h70 => ?_) (fun h70 => absurd h70 (by decide))
  refine Rg.pure rfl rfl rfl (Pv.move rfl) ?_
  refine Rg.pure rfl rfl rfl (Pv.eql rfl rfl) ?_
  refine Rg.pure rfl rfl rfl (Pv.pickT rfl rfl) ?_
  refine Rg.pure rfl rfl rfl (Pv.move rfl) ?_
  refine Rg.split (t := 74) rfl (fun h74 => ?_) (fun h74 => absurd h74 (by decide))
  refine Rg.pure rfl rfl rfl (Pv.move rfl) ?_
  refine Rg.pure rfl rfl rfl (Pv.eql rfl rfl) ?_
  refine Rg.pure rfl rfl rfl (Pv.pickT rfl rfl) ?_
  refine Rg.pure rfl rfl rfl (Pv.move rfl) ?_
  refine Rg.split (t := 78) rfl (fun h78 => ?_) (fun h78 => absurd h78 (by decide))
  refine Rg.pure rfl rfl rfl (Pv.move rfl) ?_
  refine Rg.pure rfl rfl rfl (Pv.eql rfl rfl) ?_
  refine Rg.pure rfl rfl rfl (Pv.pickT rfl rfl) ?_
  refine Rg.pure rfl rfl rfl (Pv.move rfl) ?_
  refine Rg.split (t := 82) rfl (fun h82 => ?_) (fun h82 => absurd h82 (by decide))
  refine Rg.pure rfl rfl rfl (Pv.move rfl) ?_
  refine Rg.pure rfl rfl rfl (Pv.eql rfl rfl) ?_
  refine Rg.pure rfl rfl rfl (Pv.pickT rfl rfl) ?_
  refine Rg.pure rfl rfl rfl (Pv.move rfl) ?_
  refine Rg.split (t := 86) rfl (fun h86 => ?_) (fun h86 => absurd h86 (by decide))
  refine Rg.pure rfl rfl rfl (Pv.move rfl) ?_
  refine Rg.read rfl rfl rfl (Ev.str (Src.own (rest := []) ou Sb.sub) rfl) ?_
  refine Rg.pure rfl rfl rfl (Pv.move rfl) ?_
  refine Rg.read rfl rfl rfl (Ev.str (hb.src) rfl) ?_
  refine Rg.pure rfl rfl rfl (Pv.eqlS rfl rfl) ?_
  refine Rg.pure rfl rfl rfl (Pv.pickT rfl rfl) ?_
  refine Rg.pure rfl rfl rfl (Pv.assign rfl) ?_
  refine Rg.nil ?_
  refine Vc.ret (Vc.rets rfl (.cons (.tmp rfl) (.nil)) ?_)
  exact congrArg Value.bool (by simp)
end Go.Proofs.Ytjhegjcjplpmjaa
