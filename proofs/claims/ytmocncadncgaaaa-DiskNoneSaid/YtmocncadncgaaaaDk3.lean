/- The statements' functions: texts, DiskNone, DiskNames. -/
import Derived.Test.YtmocncadncgaaaaDk2
namespace Go.Proofs.Ytmocncadncgaaaa
set_option linter.unusedVariables false

theorem texts_spec {F : Fm} {va vb : Value} {xs ys : List (List UInt8)} (ha : Arg strE F va xs) (hb : Arg strE F vb ys) (hN : xs.length < 1000000) (hM : ys.length < 1000000) :
    Spec Try.prog 29 #[va, vb] F [] fun v _ => v = .bool (decide (xs = ys)) := by
  obtain ⟨p, c, rfl⟩ := ha.shape
  obtain ⟨q, d, rfl⟩ := hb.shape
  refine Spec.of (n := 26) (vs := [.slice p xs.length c, .slice q ys.length d]) Try.func29 rfl Try.ntmps29 rfl ?_
  refine Vc.seq ?_
  refine Vc.text (List.range 1) (sd [(0, .pure)]) rfl ?_
  refine Rg.pure rfl rfl rfl (Pv.assign rfl) ?_
  refine Rg.nil ?_
  refine Vc.seq ?_
  refine Vc.seq ?_
  refine Vc.text (List.range 5) (sd [(0, .pure), (1, .pure), (2, .pure), (3, .pure), (4, .pure)]) rfl ?_
  refine Rg.pure rfl rfl rfl (Pv.move rfl) ?_
  refine Rg.pure rfl rfl rfl (Pv.lenS rfl) ?_
  refine Rg.pure rfl rfl rfl (Pv.move rfl) ?_
  refine Rg.pure rfl rfl rfl (Pv.lenS rfl) ?_
  refine Rg.pure rfl rfl rfl (Pv.neq rfl rfl) ?_
  refine Rg.nil ?_
  refine Vc.cond rfl (fun h10 => ?_) (fun h10 => ?_)
  ·
    simp only [bne_iff_ne, ne_eq] at h10
    refine Vc.seq ?_
    refine Vc.text (List.range 1) (sd [(0, .pure)]) rfl ?_
    refine Rg.pure rfl rfl rfl (Pv.assign rfl) ?_
    refine Rg.nil ?_
    refine Vc.ret (Vc.rets rfl (.cons (.tmp rfl) (.nil)) ?_)
    exact congrArg Value.bool (decide_eq_false (fun e => h10 (by rw [e]))).symm
  ·
    simp only [bne_eq_false_iff_eq] at h10
    have hl : xs.length = ys.length := by omega
    refine Vc.skip ?_
    refine Vc.seq ?_
    refine Vc.seq ?_
    refine Vc.text (List.range 1) (sd [(0, .pure)]) rfl ?_
    refine Rg.pure rfl rfl rfl (Pv.assign rfl) ?_
    refine Rg.nil ?_
    refine Vc.block ?_
    refine Vc.loop1 (fun (i : Nat) => i ≤ xs.length ∧ xs.take i = ys.take i) (fun i => [(0, .slice p xs.length c), (1, .slice q ys.length d), (5, .int .i64 (i : Int))]) (fun i => []) (fun i => xs.length - i) 0 ⟨Nat.zero_le _, rfl⟩ (.cons rfl (.cons rfl (.cons rfl .nil))) pulled ?_
    rintro i ⟨hi, htk⟩
    refine Vc.seq ?_
    refine Vc.seq ?_
    refine Vc.text (List.range 4) (sd [(0, .pure), (1, .pure), (2, .pure), (3, .pure)]) rfl ?_
    refine Rg.pure rfl rfl rfl (Pv.move rfl) ?_
    refine Rg.pure rfl rfl rfl (Pv.move rfl) ?_
    refine Rg.pure rfl rfl rfl (Pv.lenS rfl) ?_
    refine Rg.pure rfl rfl rfl (Pv.lss rfl rfl) ?_
    refine Rg.nil ?_
    refine Vc.cond rfl (fun h14 => ?_) (fun h14 => ?_)
    ·
      simp only [decide_eq_true_eq] at h14
      obtain ⟨b1, o1, c1, e, _⟩ := ha.block (by omega)
      cases e
      obtain ⟨b2, o2, c2, e, _⟩ := hb.block (by omega)
      cases e
      have t1 : xs.take (i + 1) = xs.take i ++ [xs[i]!] := by rw [List.take_succ_eq_append_getElem (by omega), getElem!_pos xs i (by omega)]
      have t2 : ys.take (i + 1) = ys.take i ++ [ys[i]!] := by rw [List.take_succ_eq_append_getElem (by omega), getElem!_pos ys i (by omega)]
      refine Vc.skip ?_
      refine Vc.seq ?_
      refine Vc.block ?_
      refine Vc.seq ?_
      refine Vc.draw [] (sd [(0, .pure), (1, .pure), (2, .pure), (3, .read), (4, .pure), (5, .pure), (6, .pure), (7, .read), (8, .pure)]) mixed (by kernel_rfl) ?_
      refine Rg.pure rfl rfl rfl (Pv.move rfl) ?_
      refine Rg.pure rfl rfl rfl (Pv.move rfl) ?_
      refine Rg.pure rfl rfl rfl (Pv.ixA (i) rfl rfl (by omega) (by omega)) ?_
      refine Rg.read rfl rfl rfl (Ev.ldS (i) (ha.src) rfl rfl rfl (by omega)) ?_
      refine Rg.pure rfl rfl rfl (Pv.move rfl) ?_
      refine Rg.pure rfl rfl rfl (Pv.move rfl) ?_
      refine Rg.pure rfl rfl rfl (Pv.ixA (i) rfl rfl (by omega) (by omega)) ?_
      refine Rg.read rfl rfl rfl (Ev.ldS (i) (hb.src) rfl rfl rfl (by omega)) ?_
      refine Rg.pure rfl rfl rfl (Pv.neqS rfl rfl) ?_
      refine Rg.nil ?_
      refine Vc.cond rfl (fun h25 => ?_) (fun h25 => ?_)
      ·
        simp only [Bool.not_eq_true', decide_eq_false_iff_not] at h25
        rw [kS_ne] at h25
        refine Vc.seq ?_
        refine Vc.text (List.range 1) (sd [(0, .pure)]) rfl ?_
        refine Rg.pure rfl rfl rfl (Pv.assign rfl) ?_
        refine Rg.nil ?_
        refine Vc.ret (Vc.rets rfl (.cons (.tmp rfl) (.nil)) ?_)
        exact congrArg Value.bool (decide_eq_false (fun e => h25 (by rw [e]))).symm
      ·
        simp only [Bool.not_eq_false', decide_eq_true_eq] at h25
        rw [kS_ne] at h25
        refine Vc.skip ?_
        refine Vc.blk ?_
        refine Vc.text (List.range 3) (sd [(0, .pure), (1, .pure), (2, .pure)]) rfl ?_
        refine Rg.pure rfl rfl rfl (Pv.move rfl) ?_
        refine Rg.pure rfl rfl rfl (Pv.asI (i + 1) (Pv.add rfl rfl (by omega)) (by omega)) ?_
        refine Rg.pure rfl rfl rfl (Pv.assign rfl) ?_
        refine Rg.nil ?_
        exact Vc.inv1 (i + 1) ⟨⟨by omega, by rw [t1, t2, htk, h25]⟩, by omega⟩ (.cons rfl (.cons rfl (.cons rfl .nil))) pulled
    ·
      simp only [decide_eq_false_iff_not] at h14
      have hxy : xs = ys := by rwa [List.take_of_length_le (by omega), List.take_of_length_le (by omega)] at htk
      refine Vc.exit rfl ?_
      refine Vc.seq ?_
      refine Vc.text (List.range 1) (sd [(0, .pure)]) rfl ?_
      refine Rg.pure rfl rfl rfl (Pv.assign rfl) ?_
      refine Rg.nil ?_
      refine Vc.ret (Vc.rets rfl (.cons (.tmp rfl) (.nil)) ?_)
      exact congrArg Value.bool (decide_eq_true hxy).symm

/-! ### None -/
section
variable {k : List UInt8} {f : Fl} {room ops : Int}
theorem begins0 : beginsD (d0 room ops) = (0, d0 room (ops + 1)) := begins_up rfl rfl
theorem find0 : findF [] k = none := rfl
theorem write0 (at_ : Option Int) (bs : List UInt8) : writeD (d0 room ops) k at_ bs = (4, d0 room (ops + 1)) := by
  simp only [writeD, begins0, find0]
  rfl
theorem size0 : sizeD (d0 room ops) k = (0, 4) := by
  simp only [sizeD, begins0, find0]
  rfl
theorem read0 (a m : Int) : readD (d0 room ops) k a m = ([], 4) := by
  simp only [readD, begins0, find0]
  rfl
theorem sync0 : syncD (d0 room ops) k = (4, d0 room (ops + 1)) := by
  simp only [syncD, begins0, find0]
  rfl
theorem rename0 (to : List UInt8) : renameD (d0 room ops) k to = (4, d0 room (ops + 1)) := by
  simp only [renameD, begins0, find0]
  rfl
theorem remove0 : removeD (d0 room ops) k = (4, d0 room (ops + 1)) := by
  simp only [removeD, begins0, find0]
  rfl
theorem create0n (hk : mayN ⟨k.toArray⟩ = false) : createD (d0 room ops) k = (1, d0 room (ops + 1)) := by
  simp only [createD, begins0, hk]
  rfl
theorem create1n (hk : mayN ⟨k.toArray⟩ = true) : createD (d1 k f room ops false) k = (5, d1 k f room (ops + 1) false) := by
  simp only [createD, begins1, hk, find1]
  rfl
theorem rename1n : renameD (d1 k f room ops false) k [] = (1, d1 k f room (ops + 1) false) := by
  simp only [renameD, begins1, find1]
  rfl
theorem remove1 : removeD (d1 k f room ops false) k = (0, d0 room (ops + 1)) := by
  have h : cutF [(k, f)] k = [] := by simp [cutF]
  simp only [removeD, begins1, find1, goneD, h]
  rw [if_neg (by decide), Int.sub_self]
end
set_option maxHeartbeats 1000000 in
theorem DiskNone_t (F : Fm) (s : List UInt8) (v1 : Value) (xs : List UInt8) (ha : Arg byteE F v1 xs) (hm : mayN ⟨s.toArray⟩ = true) :
    Spec Try.prog 10 #[kS s, v1] F [] fun v _ => v = .bool true := by
  obtain ⟨p1, c1, rfl⟩ := ha.shape
  obtain ⟨b, hbl, _, hbc, hb⟩ := ha.upTo 60
  rw [← hbl] at hb hbc
  have hmay : mayN ⟨s.toArray⟩ = (decide (1 ≤ s.length) && decide (s.length ≤ 24)) := rfl
  have hsz : (⟨s.toArray⟩ : ByteArray).size = s.length := rfl
  have hml := hm
  rw [hmay] at hml
  simp only [Bool.and_eq_true, decide_eq_true_eq] at hml
  refine Spec.of (n := 141) (vs := [kS s, .slice p1 xs.length c1]) Try.func10 rfl Try.ntmps10 rfl ?_
  refine Vc.seq ?_
  refine Vc.text (List.range 1) (sd [(0, .pure)]) rfl ?_
  refine Rg.pure rfl rfl rfl (Pv.assign rfl) ?_
  refine Rg.nil ?_
  refine Vc.seq ?_
  refine Vc.text (List.range 2) (sd [(0, .eff), (1, .pure)]) rfl ?_
  refine Rg.callP rfl rfl rfl (run_callF rfl) (shown_spec _) ?_
  rintro _ rfl
  refine Rg.pure rfl rfl rfl (Pv.assign rfl) ?_
  refine Rg.nil ?_
  refine Vc.seq ?_
  refine Vc.text (List.range 6) (sd [(0, .pure), (1, .pure), (2, .pure), (3, .pure), (4, .pure), (5, .pure)]) rfl ?_
  refine Rg.pure rfl rfl rfl (Pv.move rfl) ?_
  refine Rg.pure rfl rfl rfl (Pv.move rfl) ?_
  refine Rg.pure rfl rfl rfl (Pv.lenS rfl) ?_
  refine Rg.pure rfl rfl rfl (Pv.asI (b.length) (Pv.min rfl rfl) (by omega)) ?_
  refine Rg.pure rfl rfl rfl (Pv.slTo (b.length) rfl rfl (by omega)) ?_
  refine Rg.pure rfl rfl rfl (Pv.assign rfl) ?_
  refine Rg.nil ?_
  refine Vc.seq ?_
  refine Vc.text (List.range 2) (sd [(0, .eff), (1, .pure)]) rfl ?_
  refine Rg.callA rfl rfl rfl (run_callF rfl) (new_w _ 100 100 (by decide)) ?_
  rintro _ s28 ⟨db, rfl, hD28, hw28⟩
  refine Rg.pure rfl rfl rfl (Pv.assign rfl) ?_
  refine Rg.nil ?_
  refine Vc.seq ?_
  refine Vc.seq ?_
  refine Vc.text (List.range 2) (sd [(0, .pure), (1, .pure)]) rfl ?_
  refine Rg.pure rfl rfl rfl (Pv.move rfl) ?_
  refine Rg.pure rfl rfl rfl (Pv.eqlNil rfl rfl) ?_
  refine Rg.nil ?_
  refine Vc.cond rfl (fun h30 => absurd h30 (by (cases h30))) (fun h30 => ?_)
  refine Vc.skip ?_
  refine Vc.seq ?_
  refine Vc.text (List.range 5) (sd [(0, .pure), (1, .pure), (2, .pure), (3, .eff), (4, .pure)]) rfl ?_
  refine Rg.pure rfl rfl rfl (Pv.move rfl) ?_
  refine Rg.pure rfl rfl rfl (Pv.move rfl) ?_
  refine Rg.pure rfl rfl rfl (Pv.move rfl) ?_
  refine Rg.callH rfl rfl rfl (run_callF rfl) (fun F' hF' => append_w (F := F') hD28 hw28 (by omega) (by omega) s (hb.mono fun b o h => hF' b o (.inr h)) (by omega) (write0 none b)) rfl ?_
  rintro _ s34 ⟨rfl, hD34, hw34⟩
  refine Rg.pure rfl rfl rfl (Pv.assign rfl) ?_
  refine Rg.nil ?_
  refine Vc.seq ?_
  refine Vc.text (List.range 5) (sd [(0, .pure), (1, .pure), (2, .pure), (3, .eff), (4, .pure)]) rfl ?_
  refine Rg.pure rfl rfl rfl (Pv.move rfl) ?_
  refine Rg.pure rfl rfl rfl (Pv.move rfl) ?_
  refine Rg.pure rfl rfl rfl (Pv.move rfl) ?_
  refine Rg.callH rfl rfl rfl (run_callF rfl) (fun F' hF' => writeAt_w (F := F') hD34 hw34 (by omega) (by omega) s 0 (hb.mono fun b o h => hF' b o (.inr h)) (by omega) (write0 (some 0) b)) rfl ?_
  rintro _ s38 ⟨rfl, hD38, hw38⟩
  refine Rg.pure rfl rfl rfl (Pv.assign rfl) ?_
  refine Rg.nil ?_
  refine Vc.seq ?_
  refine Vc.text (List.range 8) (sd [(0, .pure), (1, .pure), (2, .eff), (3, .pure), (4, .pure), (5, .pure), (6, .pure), (7, .pure)]) rfl ?_
  refine Rg.pure rfl rfl rfl (Pv.move rfl) ?_
  refine Rg.pure rfl rfl rfl (Pv.move rfl) ?_
  refine Rg.callH rfl rfl rfl (run_callF rfl) (fun F' hF' => readAt_w (F := F') hD38 hw38 (by omega) (by omega) s 0 0 (read0 0 0) (congrArg Prod.snd begins0)) rfl ?_
  rintro _ _ ⟨u42, q42, s42, rfl, own42, hD42, hw42, rfl⟩
  rw [List.append_assoc]
  refine Rg.pure rfl rfl rfl (Pv.move rfl) ?_
  refine Rg.pure rfl rfl rfl (Pv.extract rfl rfl) ?_
  refine Rg.pure rfl rfl rfl (Pv.extract rfl rfl) ?_
  refine Rg.pure rfl rfl rfl (Pv.assign rfl) ?_
  refine Rg.pure rfl rfl rfl (Pv.assign rfl) ?_
  refine Rg.nil ?_
  refine Vc.seq ?_
  refine Vc.text (List.range 8) (sd [(0, .pure), (1, .pure), (2, .eff), (3, .pure), (4, .pure), (5, .pure), (6, .pure), (7, .pure)]) rfl ?_
  refine Rg.pure rfl rfl rfl (Pv.move rfl) ?_
  refine Rg.pure rfl rfl rfl (Pv.move rfl) ?_
  refine Rg.callH rfl rfl rfl (run_callF rfl) (fun F' hF' => size_w (F := F') hD42 hw42 (by omega) (by omega) s size0 (congrArg Prod.snd begins0)) rfl ?_
  rintro _ s48 ⟨rfl, hD48, hw48⟩
  refine Rg.pure rfl rfl rfl (Pv.move rfl) ?_
  refine Rg.pure rfl rfl rfl (Pv.extract rfl rfl) ?_
  refine Rg.pure rfl rfl rfl (Pv.extract rfl rfl) ?_
  refine Rg.pure rfl rfl rfl (Pv.assign rfl) ?_
  refine Rg.pure rfl rfl rfl (Pv.assign rfl) ?_
  refine Rg.nil ?_
  refine Vc.seq ?_
  refine Vc.text (List.range 4) (sd [(0, .pure), (1, .pure), (2, .eff), (3, .pure)]) rfl ?_
  refine Rg.pure rfl rfl rfl (Pv.move rfl) ?_
  refine Rg.pure rfl rfl rfl (Pv.move rfl) ?_
  refine Rg.callH rfl rfl rfl (run_callF rfl) (fun F' hF' => sync_w (F := F') hD48 hw48 (by omega) (by omega) s sync0) rfl ?_
  rintro _ s53 ⟨rfl, hD53, hw53⟩
  refine Rg.pure rfl rfl rfl (Pv.assign rfl) ?_
  refine Rg.nil ?_
  refine Vc.seq ?_
  refine Vc.text (List.range 4) (sd [(0, .pure), (1, .pure), (2, .eff), (3, .pure)]) rfl ?_
  refine Rg.pure rfl rfl rfl (Pv.move rfl) ?_
  refine Rg.pure rfl rfl rfl (Pv.move rfl) ?_
  refine Rg.callH rfl rfl rfl (run_callF rfl) (fun F' hF' => rename_w (F := F') hD53 hw53 (by omega) (by omega) s [120] (rename0 [120])) rfl ?_
  rintro _ s56 ⟨rfl, hD56, hw56⟩
  refine Rg.pure rfl rfl rfl (Pv.assign rfl) ?_
  refine Rg.nil ?_
  refine Vc.seq ?_
  refine Vc.text (List.range 4) (sd [(0, .pure), (1, .pure), (2, .eff), (3, .pure)]) rfl ?_
  refine Rg.pure rfl rfl rfl (Pv.move rfl) ?_
  refine Rg.pure rfl rfl rfl (Pv.move rfl) ?_
  refine Rg.callH rfl rfl rfl (run_callF rfl) (fun F' hF' => remove_w (F := F') hD56 hw56 (by omega) (by omega) s remove0) rfl ?_
  rintro _ s59 ⟨rfl, hD59, hw59⟩
  refine Rg.pure rfl rfl rfl (Pv.assign rfl) ?_
  refine Rg.nil ?_
  refine Vc.seq ?_
  refine Vc.text (List.range 4) (sd [(0, .pure), (1, .pure), (2, .eff), (3, .pure)]) rfl ?_
  refine Rg.pure rfl rfl rfl (Pv.move rfl) ?_
  refine Rg.pure rfl rfl rfl (Pv.move rfl) ?_
  refine Rg.callH rfl rfl rfl (run_callF rfl) (fun F' hF' => create_w (F := F') hD59 hw59 (by omega) (by omega) s (create1 hm)) rfl ?_
  rintro _ s62 ⟨rfl, hD62, hw62⟩
  refine Rg.pure rfl rfl rfl (Pv.assign rfl) ?_
  refine Rg.nil ?_
  refine Vc.seq ?_
  refine Vc.text (List.range 9) (sd [(0, .pure), (1, .pure), (2, .pure), (3, .pure), (4, .pure), (5, .pure), (6, .pure), (7, .pure), (8, .pure)]) rfl ?_
  refine Rg.pure rfl rfl rfl (Pv.move rfl) ?_
  refine Rg.pure rfl rfl rfl (Pv.as (.int .i64 (s.length : Int)) (Pv.lenStr rfl) (by rw [hsz])) ?_
  refine Rg.pure rfl rfl rfl (Pv.geq rfl rfl) ?_
  refine Rg.pure rfl rfl rfl (Pv.move rfl) ?_
  refine Rg.split (t := 66) rfl (fun h66 => ?_) (fun h66 => absurd h66 (by simp; omega))
  refine Rg.pure rfl rfl rfl (Pv.move rfl) ?_
  refine Rg.pure rfl rfl rfl (Pv.as (.int .i64 (s.length : Int)) (Pv.lenStr rfl) (by rw [hsz])) ?_
  refine Rg.pure rfl rfl rfl (Pv.leq rfl rfl) ?_
  refine Rg.pure rfl rfl rfl (Pv.pickT rfl rfl) ?_
  refine Rg.pure rfl rfl rfl (Pv.assign rfl) ?_
  refine Rg.nil ?_
  refine Vc.seq ?_
  refine Vc.text (List.range 27) (sd [(0, .pure), (1, .pure), (2, .pure), (3, .pure), (4, .pure), (5, .pure), (6, .pure), (7, .pure), (8, .pure), (9, .pure), (10, .pure), (11, .pure), (12, .pure), (13, .pure), (14, .pure), (15, .pure), (16, .pure), (17, .pure), (18, .pure), (19, .pure), (20, .pure), (21, .pure), (22, .pure), (23, .pure), (24, .pure), (25, .pure), (26, .pure)]) rfl ?_
  refine Rg.pure rfl rfl rfl (Pv.move rfl) ?_
  refine Rg.pure rfl rfl rfl (Pv.eql rfl rfl) ?_
  refine Rg.pure rfl rfl rfl (Pv.move rfl) ?_
  refine Rg.split (t := 73) rfl (fun h73 => ?_) (fun h73 => absurd h73 (by decide))
  refine Rg.pure rfl rfl rfl (Pv.move rfl) ?_
  refine Rg.pure rfl rfl rfl (Pv.eql rfl rfl) ?_
  refine Rg.pure rfl rfl rfl (Pv.pickT rfl rfl) ?_
  refine Rg.pure rfl rfl rfl (Pv.move rfl) ?_
  refine Rg.split (t := 77) rfl (fun h77 => ?_) (fun h77 => absurd h77 (by decide))
  refine Rg.pure rfl rfl rfl (Pv.move rfl) ?_
  refine Rg.pure rfl rfl rfl (Pv.eql rfl rfl) ?_
  refine Rg.pure rfl rfl rfl (Pv.pickT rfl rfl) ?_
  refine Rg.pure rfl rfl rfl (Pv.move rfl) ?_
  refine Rg.split (t := 81) rfl (fun h81 => ?_) (fun h81 => absurd h81 (by decide))
  refine Rg.pure rfl rfl rfl (Pv.move rfl) ?_
  refine Rg.pure rfl rfl rfl (Pv.eql rfl rfl) ?_
  refine Rg.pure rfl rfl rfl (Pv.pickT rfl rfl) ?_
  refine Rg.pure rfl rfl rfl (Pv.move rfl) ?_
  refine Rg.split (t := 85) rfl (fun h85 => ?_) (fun h85 => absurd h85 (by decide))
  refine Rg.pure rfl rfl rfl (Pv.move rfl) ?_
  refine Rg.pure rfl rfl rfl (Pv.eql rfl rfl) ?_
  refine Rg.pure rfl rfl rfl (Pv.pickT rfl rfl) ?_
  refine Rg.pure rfl rfl rfl (Pv.move rfl) ?_
  refine Rg.split (t := 89) rfl (fun h89 => ?_) (fun h89 => absurd h89 (by decide))
  refine Rg.pure rfl rfl rfl (Pv.move rfl) ?_
  refine Rg.pure rfl rfl rfl (Pv.eql rfl rfl) ?_
  refine Rg.pure rfl rfl rfl (Pv.pickT rfl rfl) ?_
  refine Rg.pure rfl rfl rfl (Pv.move rfl) ?_
  refine Rg.split (t := 93) rfl (fun h93 => ?_) (fun h93 => absurd h93 (by decide))
  refine Rg.pure rfl rfl rfl (Pv.move rfl) ?_
  refine Rg.pure rfl rfl rfl (Pv.eql rfl rfl) ?_
  refine Rg.pure rfl rfl rfl (Pv.pickT rfl rfl) ?_
  refine Rg.pure rfl rfl rfl (Pv.assign rfl) ?_
  refine Rg.nil ?_
  refine Vc.seq ?_
  refine Vc.seq ?_
  refine Vc.text (List.range 2) (sd [(0, .pure), (1, .pure)]) rfl ?_
  refine Rg.pure rfl rfl rfl (Pv.move rfl) ?_
  refine Rg.pure rfl rfl rfl (Pv.not rfl) ?_
  refine Rg.nil ?_
  refine Vc.cond rfl (fun h98 => absurd h98 (by simp; omega)) (fun h98 => ?_)
  refine Vc.skip ?_
  refine Vc.seq ?_
  refine Vc.text (List.range 4) (sd [(0, .pure), (1, .pure), (2, .eff), (3, .pure)]) rfl ?_
  refine Rg.pure rfl rfl rfl (Pv.move rfl) ?_
  refine Rg.pure rfl rfl rfl (Pv.move rfl) ?_
  refine Rg.callH rfl rfl rfl (run_callF rfl) (fun F' hF' => create_w (F := F') hD62 hw62 (by omega) (by omega) s (create1n hm)) rfl ?_
  rintro _ s109 ⟨rfl, hD109, hw109⟩
  refine Rg.pure rfl rfl rfl (Pv.assign rfl) ?_
  refine Rg.nil ?_
  refine Vc.seq ?_
  refine Vc.text (List.range 4) (sd [(0, .pure), (1, .pure), (2, .eff), (3, .pure)]) rfl ?_
  refine Rg.pure rfl rfl rfl (Pv.move rfl) ?_
  refine Rg.pure rfl rfl rfl (Pv.move rfl) ?_
  refine Rg.callH rfl rfl rfl (run_callF rfl) (fun F' hF' => rename_w (F := F') hD109 hw109 (by omega) (by omega) s [] rename1n) rfl ?_
  rintro _ s112 ⟨rfl, hD112, hw112⟩
  refine Rg.pure rfl rfl rfl (Pv.assign rfl) ?_
  refine Rg.nil ?_
  refine Vc.seq ?_
  refine Vc.text (List.range 4) (sd [(0, .pure), (1, .pure), (2, .eff), (3, .pure)]) rfl ?_
  refine Rg.pure rfl rfl rfl (Pv.move rfl) ?_
  refine Rg.pure rfl rfl rfl (Pv.move rfl) ?_
  refine Rg.callH rfl rfl rfl (run_callF rfl) (fun F' hF' => remove_w (F := F') hD112 hw112 (by omega) (by omega) s remove1) rfl ?_
  rintro _ s115 ⟨rfl, hD115, hw115⟩
  refine Rg.pure rfl rfl rfl (Pv.assign rfl) ?_
  refine Rg.nil ?_
  refine Vc.seq ?_
  refine Vc.text (List.range 26) (sd [(0, .pure), (1, .pure), (2, .pure), (3, .pure), (4, .pure), (5, .pure), (6, .pure), (7, .pure), (8, .pure), (9, .pure), (10, .pure), (11, .pure), (12, .pure), (13, .pure), (14, .pure), (15, .pure), (16, .pure), (17, .pure), (18, .pure), (19, .pure), (20, .pure), (21, .pure), (22, .eff), (23, .pure), (24, .pure), (25, .pure)]) rfl ?_
  refine Rg.pure rfl rfl rfl (Pv.move rfl) ?_
  refine Rg.pure rfl rfl rfl (Pv.move rfl) ?_
  refine Rg.split (t := 117) rfl (fun h117 => ?_) (fun h117 => absurd h117 (by decide))
  refine Rg.pure rfl rfl rfl (Pv.move rfl) ?_
  refine Rg.pure rfl rfl rfl (Pv.pickT rfl rfl) ?_
  refine Rg.pure rfl rfl rfl (Pv.move rfl) ?_
  refine Rg.split (t := 120) rfl (fun h120 => ?_) (fun h120 => absurd h120 (by decide))
  refine Rg.pure rfl rfl rfl (Pv.move rfl) ?_
  refine Rg.pure rfl rfl rfl (Pv.eql rfl rfl) ?_
  refine Rg.pure rfl rfl rfl (Pv.pickT rfl rfl) ?_
  refine Rg.pure rfl rfl rfl (Pv.move rfl) ?_
  refine Rg.split (t := 124) rfl (fun h124 => ?_) (fun h124 => absurd h124 (by decide))
  refine Rg.pure rfl rfl rfl (Pv.move rfl) ?_
  refine Rg.pure rfl rfl rfl (Pv.eql rfl rfl) ?_
  refine Rg.pure rfl rfl rfl (Pv.pickT rfl rfl) ?_
  refine Rg.pure rfl rfl rfl (Pv.move rfl) ?_
  refine Rg.split (t := 128) rfl (fun h128 => ?_) (fun h128 => absurd h128 (by decide))
  refine Rg.pure rfl rfl rfl (Pv.move rfl) ?_
  refine Rg.pure rfl rfl rfl (Pv.eql rfl rfl) ?_
  refine Rg.pure rfl rfl rfl (Pv.pickT rfl rfl) ?_
  refine Rg.pure rfl rfl rfl (Pv.move rfl) ?_
  refine Rg.split (t := 132) rfl (fun h132 => ?_) (fun h132 => absurd h132 (by decide))
  refine Rg.pure rfl rfl rfl (Pv.move rfl) ?_
  refine Rg.pure rfl rfl rfl (Pv.eql rfl rfl) ?_
  refine Rg.pure rfl rfl rfl (Pv.pickT rfl rfl) ?_
  refine Rg.pure rfl rfl rfl (Pv.move rfl) ?_
  refine Rg.split (t := 136) rfl (fun h136 => ?_) (fun h136 => absurd h136 (by decide))
  refine Rg.pure rfl rfl rfl (Pv.move rfl) ?_
  refine Rg.callP rfl rfl rfl (run_callF rfl) (opsD_spec hD115 frz_sb) ?_
  rintro _ rfl
  refine Rg.pure rfl rfl rfl (Pv.eql rfl rfl) ?_
  refine Rg.pure rfl rfl rfl (Pv.pickT rfl rfl) ?_
  refine Rg.pure rfl rfl rfl (Pv.assign rfl) ?_
  refine Rg.nil ?_
  refine Vc.ret (Vc.rets rfl (.cons (.tmp rfl) (.nil)) ?_)
  exact congrArg Value.bool (by decide)
set_option maxHeartbeats 1000000 in
theorem DiskNone_f (F : Fm) (s : List UInt8) (v1 : Value) (xs : List UInt8) (ha : Arg byteE F v1 xs) (hm : mayN ⟨s.toArray⟩ = false) :
    Spec Try.prog 10 #[kS s, v1] F [] fun v _ => v = .bool true := by
  obtain ⟨p1, c1, rfl⟩ := ha.shape
  obtain ⟨b, hbl, _, hbc, hb⟩ := ha.upTo 60
  rw [← hbl] at hb hbc
  have hmay : mayN ⟨s.toArray⟩ = (decide (1 ≤ s.length) && decide (s.length ≤ 24)) := rfl
  have hsz : (⟨s.toArray⟩ : ByteArray).size = s.length := rfl
  have hml := hm
  rw [hmay] at hml
  simp only [Bool.and_eq_false_iff, decide_eq_false_iff_not] at hml
  refine Spec.of (n := 141) (vs := [kS s, .slice p1 xs.length c1]) Try.func10 rfl Try.ntmps10 rfl ?_
  refine Vc.seq ?_
  refine Vc.text (List.range 1) (sd [(0, .pure)]) rfl ?_
  refine Rg.pure rfl rfl rfl (Pv.assign rfl) ?_
  refine Rg.nil ?_
  refine Vc.seq ?_
  refine Vc.text (List.range 2) (sd [(0, .eff), (1, .pure)]) rfl ?_
  refine Rg.callP rfl rfl rfl (run_callF rfl) (shown_spec _) ?_
  rintro _ rfl
  refine Rg.pure rfl rfl rfl (Pv.assign rfl) ?_
  refine Rg.nil ?_
  refine Vc.seq ?_
  refine Vc.text (List.range 6) (sd [(0, .pure), (1, .pure), (2, .pure), (3, .pure), (4, .pure), (5, .pure)]) rfl ?_
  refine Rg.pure rfl rfl rfl (Pv.move rfl) ?_
  refine Rg.pure rfl rfl rfl (Pv.move rfl) ?_
  refine Rg.pure rfl rfl rfl (Pv.lenS rfl) ?_
  refine Rg.pure rfl rfl rfl (Pv.asI (b.length) (Pv.min rfl rfl) (by omega)) ?_
  refine Rg.pure rfl rfl rfl (Pv.slTo (b.length) rfl rfl (by omega)) ?_
  refine Rg.pure rfl rfl rfl (Pv.assign rfl) ?_
  refine Rg.nil ?_
  refine Vc.seq ?_
  refine Vc.text (List.range 2) (sd [(0, .eff), (1, .pure)]) rfl ?_
  refine Rg.callA rfl rfl rfl (run_callF rfl) (new_w _ 100 100 (by decide)) ?_
  rintro _ s28 ⟨db, rfl, hD28, hw28⟩
  refine Rg.pure rfl rfl rfl (Pv.assign rfl) ?_
  refine Rg.nil ?_
  refine Vc.seq ?_
  refine Vc.seq ?_
  refine Vc.text (List.range 2) (sd [(0, .pure), (1, .pure)]) rfl ?_
  refine Rg.pure rfl rfl rfl (Pv.move rfl) ?_
  refine Rg.pure rfl rfl rfl (Pv.eqlNil rfl rfl) ?_
  refine Rg.nil ?_
  refine Vc.cond rfl (fun h30 => absurd h30 (by (cases h30))) (fun h30 => ?_)
  refine Vc.skip ?_
  refine Vc.seq ?_
  refine Vc.text (List.range 5) (sd [(0, .pure), (1, .pure), (2, .pure), (3, .eff), (4, .pure)]) rfl ?_
  refine Rg.pure rfl rfl rfl (Pv.move rfl) ?_
  refine Rg.pure rfl rfl rfl (Pv.move rfl) ?_
  refine Rg.pure rfl rfl rfl (Pv.move rfl) ?_
  refine Rg.callH rfl rfl rfl (run_callF rfl) (fun F' hF' => append_w (F := F') hD28 hw28 (by omega) (by omega) s (hb.mono fun b o h => hF' b o (.inr h)) (by omega) (write0 none b)) rfl ?_
  rintro _ s34 ⟨rfl, hD34, hw34⟩
  refine Rg.pure rfl rfl rfl (Pv.assign rfl) ?_
  refine Rg.nil ?_
  refine Vc.seq ?_
  refine Vc.text (List.range 5) (sd [(0, .pure), (1, .pure), (2, .pure), (3, .eff), (4, .pure)]) rfl ?_
  refine Rg.pure rfl rfl rfl (Pv.move rfl) ?_
  refine Rg.pure rfl rfl rfl (Pv.move rfl) ?_
  refine Rg.pure rfl rfl rfl (Pv.move rfl) ?_
  refine Rg.callH rfl rfl rfl (run_callF rfl) (fun F' hF' => writeAt_w (F := F') hD34 hw34 (by omega) (by omega) s 0 (hb.mono fun b o h => hF' b o (.inr h)) (by omega) (write0 (some 0) b)) rfl ?_
  rintro _ s38 ⟨rfl, hD38, hw38⟩
  refine Rg.pure rfl rfl rfl (Pv.assign rfl) ?_
  refine Rg.nil ?_
  refine Vc.seq ?_
  refine Vc.text (List.range 8) (sd [(0, .pure), (1, .pure), (2, .eff), (3, .pure), (4, .pure), (5, .pure), (6, .pure), (7, .pure)]) rfl ?_
  refine Rg.pure rfl rfl rfl (Pv.move rfl) ?_
  refine Rg.pure rfl rfl rfl (Pv.move rfl) ?_
  refine Rg.callH rfl rfl rfl (run_callF rfl) (fun F' hF' => readAt_w (F := F') hD38 hw38 (by omega) (by omega) s 0 0 (read0 0 0) (congrArg Prod.snd begins0)) rfl ?_
  rintro _ _ ⟨u42, q42, s42, rfl, own42, hD42, hw42, rfl⟩
  rw [List.append_assoc]
  refine Rg.pure rfl rfl rfl (Pv.move rfl) ?_
  refine Rg.pure rfl rfl rfl (Pv.extract rfl rfl) ?_
  refine Rg.pure rfl rfl rfl (Pv.extract rfl rfl) ?_
  refine Rg.pure rfl rfl rfl (Pv.assign rfl) ?_
  refine Rg.pure rfl rfl rfl (Pv.assign rfl) ?_
  refine Rg.nil ?_
  refine Vc.seq ?_
  refine Vc.text (List.range 8) (sd [(0, .pure), (1, .pure), (2, .eff), (3, .pure), (4, .pure), (5, .pure), (6, .pure), (7, .pure)]) rfl ?_
  refine Rg.pure rfl rfl rfl (Pv.move rfl) ?_
  refine Rg.pure rfl rfl rfl (Pv.move rfl) ?_
  refine Rg.callH rfl rfl rfl (run_callF rfl) (fun F' hF' => size_w (F := F') hD42 hw42 (by omega) (by omega) s size0 (congrArg Prod.snd begins0)) rfl ?_
  rintro _ s48 ⟨rfl, hD48, hw48⟩
  refine Rg.pure rfl rfl rfl (Pv.move rfl) ?_
  refine Rg.pure rfl rfl rfl (Pv.extract rfl rfl) ?_
  refine Rg.pure rfl rfl rfl (Pv.extract rfl rfl) ?_
  refine Rg.pure rfl rfl rfl (Pv.assign rfl) ?_
  refine Rg.pure rfl rfl rfl (Pv.assign rfl) ?_
  refine Rg.nil ?_
  refine Vc.seq ?_
  refine Vc.text (List.range 4) (sd [(0, .pure), (1, .pure), (2, .eff), (3, .pure)]) rfl ?_
  refine Rg.pure rfl rfl rfl (Pv.move rfl) ?_
  refine Rg.pure rfl rfl rfl (Pv.move rfl) ?_
  refine Rg.callH rfl rfl rfl (run_callF rfl) (fun F' hF' => sync_w (F := F') hD48 hw48 (by omega) (by omega) s sync0) rfl ?_
  rintro _ s53 ⟨rfl, hD53, hw53⟩
  refine Rg.pure rfl rfl rfl (Pv.assign rfl) ?_
  refine Rg.nil ?_
  refine Vc.seq ?_
  refine Vc.text (List.range 4) (sd [(0, .pure), (1, .pure), (2, .eff), (3, .pure)]) rfl ?_
  refine Rg.pure rfl rfl rfl (Pv.move rfl) ?_
  refine Rg.pure rfl rfl rfl (Pv.move rfl) ?_
  refine Rg.callH rfl rfl rfl (run_callF rfl) (fun F' hF' => rename_w (F := F') hD53 hw53 (by omega) (by omega) s [120] (rename0 [120])) rfl ?_
  rintro _ s56 ⟨rfl, hD56, hw56⟩
  refine Rg.pure rfl rfl rfl (Pv.assign rfl) ?_
  refine Rg.nil ?_
  refine Vc.seq ?_
  refine Vc.text (List.range 4) (sd [(0, .pure), (1, .pure), (2, .eff), (3, .pure)]) rfl ?_
  refine Rg.pure rfl rfl rfl (Pv.move rfl) ?_
  refine Rg.pure rfl rfl rfl (Pv.move rfl) ?_
  refine Rg.callH rfl rfl rfl (run_callF rfl) (fun F' hF' => remove_w (F := F') hD56 hw56 (by omega) (by omega) s remove0) rfl ?_
  rintro _ s59 ⟨rfl, hD59, hw59⟩
  refine Rg.pure rfl rfl rfl (Pv.assign rfl) ?_
  refine Rg.nil ?_
  refine Vc.seq ?_
  refine Vc.text (List.range 4) (sd [(0, .pure), (1, .pure), (2, .eff), (3, .pure)]) rfl ?_
  refine Rg.pure rfl rfl rfl (Pv.move rfl) ?_
  refine Rg.pure rfl rfl rfl (Pv.move rfl) ?_
  refine Rg.callH rfl rfl rfl (run_callF rfl) (fun F' hF' => create_w (F := F') hD59 hw59 (by omega) (by omega) s (create0n hm)) rfl ?_
  rintro _ s62 ⟨rfl, hD62, hw62⟩
  refine Rg.pure rfl rfl rfl (Pv.assign rfl) ?_
  refine Rg.nil ?_
  refine Vc.seq ?_
  refine Vc.text (List.range 9) (sd [(0, .pure), (1, .pure), (2, .pure), (3, .pure), (4, .pure), (5, .pure), (6, .pure), (7, .pure), (8, .pure)]) rfl ?_
  refine Rg.pure rfl rfl rfl (Pv.move rfl) ?_
  refine Rg.pure rfl rfl rfl (Pv.as (.int .i64 (s.length : Int)) (Pv.lenStr rfl) (by rw [hsz])) ?_
  refine Rg.pure rfl rfl rfl (Pv.geq rfl rfl) ?_
  refine Rg.pure rfl rfl rfl (Pv.move rfl) ?_
  refine Rg.split (t := 66) rfl (fun h66 => ?_) (fun h66 => ?_)
  ·
    simp only [decide_eq_true_eq] at h66
    refine Rg.pure rfl rfl rfl (Pv.move rfl) ?_
    refine Rg.pure rfl rfl rfl (Pv.as (.int .i64 (s.length : Int)) (Pv.lenStr rfl) (by rw [hsz])) ?_
    refine Rg.pure rfl rfl rfl (Pv.leq rfl rfl) ?_
    refine Rg.pure rfl rfl rfl (Pv.pickT rfl rfl) ?_
    refine Rg.pure rfl rfl rfl (Pv.assign rfl) ?_
    refine Rg.nil ?_
    refine Vc.seq ?_
    refine Vc.text (List.range 27) (sd [(0, .pure), (1, .pure), (2, .pure), (3, .pure), (4, .pure), (5, .pure), (6, .pure), (7, .pure), (8, .pure), (9, .pure), (10, .pure), (11, .pure), (12, .pure), (13, .pure), (14, .pure), (15, .pure), (16, .pure), (17, .pure), (18, .pure), (19, .pure), (20, .pure), (21, .pure), (22, .pure), (23, .pure), (24, .pure), (25, .pure), (26, .pure)]) rfl ?_
    refine Rg.pure rfl rfl rfl (Pv.move rfl) ?_
    refine Rg.pure rfl rfl rfl (Pv.eql rfl rfl) ?_
    refine Rg.pure rfl rfl rfl (Pv.move rfl) ?_
    refine Rg.split (t := 73) rfl (fun h73 => ?_) (fun h73 => absurd h73 (by decide))
    refine Rg.pure rfl rfl rfl (Pv.move rfl) ?_
    refine Rg.pure rfl rfl rfl (Pv.eql rfl rfl) ?_
    refine Rg.pure rfl rfl rfl (Pv.pickT rfl rfl) ?_
    refine Rg.pure rfl rfl rfl (Pv.move rfl) ?_
    refine Rg.split (t := 77) rfl (fun h77 => ?_) (fun h77 => absurd h77 (by decide))
    refine Rg.pure rfl rfl rfl (Pv.move rfl) ?_
    refine Rg.pure rfl rfl rfl (Pv.eql rfl rfl) ?_
    refine Rg.pure rfl rfl rfl (Pv.pickT rfl rfl) ?_
    refine Rg.pure rfl rfl rfl (Pv.move rfl) ?_
    refine Rg.split (t := 81) rfl (fun h81 => ?_) (fun h81 => absurd h81 (by decide))
    refine Rg.pure rfl rfl rfl (Pv.move rfl) ?_
    refine Rg.pure rfl rfl rfl (Pv.eql rfl rfl) ?_
    refine Rg.pure rfl rfl rfl (Pv.pickT rfl rfl) ?_
    refine Rg.pure rfl rfl rfl (Pv.move rfl) ?_
    refine Rg.split (t := 85) rfl (fun h85 => ?_) (fun h85 => absurd h85 (by decide))
    refine Rg.pure rfl rfl rfl (Pv.move rfl) ?_
    refine Rg.pure rfl rfl rfl (Pv.eql rfl rfl) ?_
    refine Rg.pure rfl rfl rfl (Pv.pickT rfl rfl) ?_
    refine Rg.pure rfl rfl rfl (Pv.move rfl) ?_
    refine Rg.split (t := 89) rfl (fun h89 => ?_) (fun h89 => absurd h89 (by decide))
    refine Rg.pure rfl rfl rfl (Pv.move rfl) ?_
    refine Rg.pure rfl rfl rfl (Pv.eql rfl rfl) ?_
    refine Rg.pure rfl rfl rfl (Pv.pickT rfl rfl) ?_
    refine Rg.pure rfl rfl rfl (Pv.move rfl) ?_
    refine Rg.split (t := 93) rfl (fun h93 => ?_) (fun h93 => absurd h93 (by decide))
    refine Rg.pure rfl rfl rfl (Pv.move rfl) ?_
    refine Rg.pure rfl rfl rfl (Pv.eql rfl rfl) ?_
    refine Rg.pure rfl rfl rfl (Pv.pickT rfl rfl) ?_
    refine Rg.pure rfl rfl rfl (Pv.assign rfl) ?_
    refine Rg.nil ?_
    refine Vc.seq ?_
    refine Vc.seq ?_
    refine Vc.text (List.range 2) (sd [(0, .pure), (1, .pure)]) rfl ?_
    refine Rg.pure rfl rfl rfl (Pv.move rfl) ?_
    refine Rg.pure rfl rfl rfl (Pv.not rfl) ?_
    refine Rg.nil ?_
    refine Vc.cond rfl (fun h98 => ?_) (fun h98 => absurd h98 (by simp; omega))
    refine Vc.seq ?_
    refine Vc.text (List.range 9) (sd [(0, .pure), (1, .pure), (2, .pure), (3, .pure), (4, .pure), (5, .pure), (6, .pure), (7, .pure), (8, .pure)]) rfl ?_
    refine Rg.pure rfl rfl rfl (Pv.move rfl) ?_
    refine Rg.pure rfl rfl rfl (Pv.move rfl) ?_
    refine Rg.split (t := 100) rfl (fun h100 => ?_) (fun h100 => absurd h100 (by decide))
    refine Rg.pure rfl rfl rfl (Pv.move rfl) ?_
    refine Rg.pure rfl rfl rfl (Pv.pickT rfl rfl) ?_
    refine Rg.pure rfl rfl rfl (Pv.move rfl) ?_
    refine Rg.split (t := 103) rfl (fun h103 => ?_) (fun h103 => absurd h103 (by decide))
    refine Rg.pure rfl rfl rfl (Pv.move rfl) ?_
    refine Rg.pure rfl rfl rfl (Pv.eql rfl rfl) ?_
    refine Rg.pure rfl rfl rfl (Pv.pickT rfl rfl) ?_
    refine Rg.pure rfl rfl rfl (Pv.assign rfl) ?_
    refine Rg.nil ?_
    refine Vc.ret (Vc.rets rfl (.cons (.tmp rfl) (.nil)) ?_)
    exact congrArg Value.bool (by decide)
  ·
    iterate 3 (first | refine Rg.skipP rfl rfl rfl ?_ | refine Rg.skipR rfl rfl rfl ?_ | refine Rg.skipE rfl rfl rfl ?_)
    refine Rg.pure rfl rfl rfl (Pv.pickF rfl rfl) ?_
    refine Rg.pure rfl rfl rfl (Pv.assign rfl) ?_
    refine Rg.nil ?_
    refine Vc.seq ?_
    refine Vc.text (List.range 27) (sd [(0, .pure), (1, .pure), (2, .pure), (3, .pure), (4, .pure), (5, .pure), (6, .pure), (7, .pure), (8, .pure), (9, .pure), (10, .pure), (11, .pure), (12, .pure), (13, .pure), (14, .pure), (15, .pure), (16, .pure), (17, .pure), (18, .pure), (19, .pure), (20, .pure), (21, .pure), (22, .pure), (23, .pure), (24, .pure), (25, .pure), (26, .pure)]) rfl ?_
    refine Rg.pure rfl rfl rfl (Pv.move rfl) ?_
    refine Rg.pure rfl rfl rfl (Pv.eql rfl rfl) ?_
    refine Rg.pure rfl rfl rfl (Pv.move rfl) ?_
    refine Rg.split (t := 73) rfl (fun h73 => ?_) (fun h73 => absurd h73 (by decide))
    refine Rg.pure rfl rfl rfl (Pv.move rfl) ?_
    refine Rg.pure rfl rfl rfl (Pv.eql rfl rfl) ?_
    refine Rg.pure rfl rfl rfl (Pv.pickT rfl rfl) ?_
    refine Rg.pure rfl rfl rfl (Pv.move rfl) ?_
    refine Rg.split (t := 77) rfl (fun h77 => ?_) (fun h77 => absurd h77 (by decide))
    refine Rg.pure rfl rfl rfl (Pv.move rfl) ?_
    refine Rg.pure rfl rfl rfl (Pv.eql rfl rfl) ?_
    refine Rg.pure rfl rfl rfl (Pv.pickT rfl rfl) ?_
    refine Rg.pure rfl rfl rfl (Pv.move rfl) ?_
    refine Rg.split (t := 81) rfl (fun h81 => ?_) (fun h81 => absurd h81 (by decide))
    refine Rg.pure rfl rfl rfl (Pv.move rfl) ?_
    refine Rg.pure rfl rfl rfl (Pv.eql rfl rfl) ?_
    refine Rg.pure rfl rfl rfl (Pv.pickT rfl rfl) ?_
    refine Rg.pure rfl rfl rfl (Pv.move rfl) ?_
    refine Rg.split (t := 85) rfl (fun h85 => ?_) (fun h85 => absurd h85 (by decide))
    refine Rg.pure rfl rfl rfl (Pv.move rfl) ?_
    refine Rg.pure rfl rfl rfl (Pv.eql rfl rfl) ?_
    refine Rg.pure rfl rfl rfl (Pv.pickT rfl rfl) ?_
    refine Rg.pure rfl rfl rfl (Pv.move rfl) ?_
    refine Rg.split (t := 89) rfl (fun h89 => ?_) (fun h89 => absurd h89 (by decide))
    refine Rg.pure rfl rfl rfl (Pv.move rfl) ?_
    refine Rg.pure rfl rfl rfl (Pv.eql rfl rfl) ?_
    refine Rg.pure rfl rfl rfl (Pv.pickT rfl rfl) ?_
    refine Rg.pure rfl rfl rfl (Pv.move rfl) ?_
    refine Rg.split (t := 93) rfl (fun h93 => ?_) (fun h93 => absurd h93 (by decide))
    refine Rg.pure rfl rfl rfl (Pv.move rfl) ?_
    refine Rg.pure rfl rfl rfl (Pv.eql rfl rfl) ?_
    refine Rg.pure rfl rfl rfl (Pv.pickT rfl rfl) ?_
    refine Rg.pure rfl rfl rfl (Pv.assign rfl) ?_
    refine Rg.nil ?_
    refine Vc.seq ?_
    refine Vc.seq ?_
    refine Vc.text (List.range 2) (sd [(0, .pure), (1, .pure)]) rfl ?_
    refine Rg.pure rfl rfl rfl (Pv.move rfl) ?_
    refine Rg.pure rfl rfl rfl (Pv.not rfl) ?_
    refine Rg.nil ?_
    refine Vc.cond rfl (fun h98 => ?_) (fun h98 => absurd h98 (by decide))
    refine Vc.seq ?_
    refine Vc.text (List.range 9) (sd [(0, .pure), (1, .pure), (2, .pure), (3, .pure), (4, .pure), (5, .pure), (6, .pure), (7, .pure), (8, .pure)]) rfl ?_
    refine Rg.pure rfl rfl rfl (Pv.move rfl) ?_
    refine Rg.pure rfl rfl rfl (Pv.move rfl) ?_
    refine Rg.split (t := 100) rfl (fun h100 => ?_) (fun h100 => absurd h100 (by decide))
    refine Rg.pure rfl rfl rfl (Pv.move rfl) ?_
    refine Rg.pure rfl rfl rfl (Pv.pickT rfl rfl) ?_
    refine Rg.pure rfl rfl rfl (Pv.move rfl) ?_
    refine Rg.split (t := 103) rfl (fun h103 => ?_) (fun h103 => absurd h103 (by decide))
    refine Rg.pure rfl rfl rfl (Pv.move rfl) ?_
    refine Rg.pure rfl rfl rfl (Pv.eql rfl rfl) ?_
    refine Rg.pure rfl rfl rfl (Pv.pickT rfl rfl) ?_
    refine Rg.pure rfl rfl rfl (Pv.assign rfl) ?_
    refine Rg.nil ?_
    refine Vc.ret (Vc.rets rfl (.cons (.tmp rfl) (.nil)) ?_)
    exact congrArg Value.bool (by decide)
theorem DiskNone_spec (F : Fm) (s : List UInt8) (v1 : Value) (xs : List UInt8) (ha : Arg byteE F v1 xs) : Spec Try.prog 10 #[kS s, v1] F [] fun v _ => v = .bool true := by
  cases hm : mayN ⟨s.toArray⟩ with
  | true => exact DiskNone_t F s v1 xs ha hm
  | false => exact DiskNone_f F s v1 xs ha hm

/-! ### Names -/
theorem mk2 : createD (d1 [120] ⟨[], []⟩ 100 1 false) [121] = (0, ⟨[([120], ⟨[], []⟩), ([121], ⟨[], []⟩)], 100, 0, 2, 0, [], false⟩) := by
  simp only [createD, begins1]
  rfl
/-- two files, up, not armed -/
abbrev d2 (k1 k2 : List UInt8) (f1 f2 : Fl) (room ops : Int) : Dk := ⟨[(k1, f1), (k2, f2)], room, (secs f1.now.length : Nat) + (secs f2.now.length : Nat), ops, 0, [], false⟩
theorem begins2 {k1 k2 : List UInt8} {f1 f2 : Fl} {room ops : Int} : beginsD (d2 k1 k2 f1 f2 room ops) = (0, d2 k1 k2 f1 f2 room (ops + 1)) := begins_up rfl rfl
theorem app2a {k1 k2 : List UInt8} {n1 y1 : List UInt8} {f2 : Fl} {room ops : Int} (hk : k1 ≠ k2) (bs : List UInt8) (h : ((secs (n1.length + bs.length) : Nat) : Int) + (secs f2.now.length : Nat) ≤ room) :
    writeD (d2 k1 k2 ⟨n1, y1⟩ f2 room ops) k1 none bs = (0, d2 k1 k2 ⟨n1 ++ bs, y1⟩ f2 room (ops + 1)) := by
  have hf : findF [(k1, (⟨n1, y1⟩ : Fl)), (k2, f2)] k1 = some ⟨n1, y1⟩ := by simp [findF]
  have hs : ∀ f', setF [(k1, (⟨n1, y1⟩ : Fl)), (k2, f2)] k1 f' = [(k1, f'), (k2, f2)] := fun f' => by simp [setF, Ne.symm hk]
  simp only [writeD, begins2, hf, hs, Option.getD_none]
  have hm : max n1.length (n1.length + bs.length) = n1.length + bs.length := by omega
  have hw : wrG room (((secs n1.length : Nat) : Int) + (secs f2.now.length : Nat)) n1 ((n1.length : Nat) : Int) bs = (0, ((secs (n1 ++ bs).length : Nat) : Int) + (secs f2.now.length : Nat), n1 ++ bs) := by
    unfold wrG
    rw [if_neg (by omega), Int.toNat_natCast, hm, if_neg (by omega), putAt_end, List.length_append]
    congr 2
    omega
  rw [hw]
  rfl
theorem app2b {k1 k2 : List UInt8} {n2 y2 : List UInt8} {f1 : Fl} {room ops : Int} (hk : k1 ≠ k2) (bs : List UInt8) (h : ((secs f1.now.length : Nat) : Int) + (secs (n2.length + bs.length) : Nat) ≤ room) :
    writeD (d2 k1 k2 f1 ⟨n2, y2⟩ room ops) k2 none bs = (0, d2 k1 k2 f1 ⟨n2 ++ bs, y2⟩ room (ops + 1)) := by
  have hf : findF [(k1, f1), (k2, (⟨n2, y2⟩ : Fl))] k2 = some ⟨n2, y2⟩ := by simp [findF, hk]
  have hs : ∀ f', setF [(k1, f1), (k2, (⟨n2, y2⟩ : Fl))] k2 f' = [(k1, f1), (k2, f')] := fun f' => by simp [setF, hk]
  simp only [writeD, begins2, hf, hs, Option.getD_none]
  have hm : max n2.length (n2.length + bs.length) = n2.length + bs.length := by omega
  have hw : wrG room (((secs f1.now.length : Nat) : Int) + (secs n2.length : Nat)) n2 ((n2.length : Nat) : Int) bs = (0, ((secs f1.now.length : Nat) : Int) + (secs (n2 ++ bs).length : Nat), n2 ++ bs) := by
    unfold wrG
    rw [if_neg (by omega), Int.toNat_natCast, hm, if_neg (by omega), putAt_end, List.length_append]
    congr 2
    omega
  rw [hw]
  rfl
theorem sync2a {k1 k2 : List UInt8} {n1 y1 : List UInt8} {f2 : Fl} {room ops : Int} (hk : k1 ≠ k2) : syncD (d2 k1 k2 ⟨n1, y1⟩ f2 room ops) k1 = (0, d2 k1 k2 ⟨n1, n1⟩ f2 room (ops + 1)) := by
  have hf : findF [(k1, (⟨n1, y1⟩ : Fl)), (k2, f2)] k1 = some ⟨n1, y1⟩ := by simp [findF]
  have hs : ∀ f', setF [(k1, (⟨n1, y1⟩ : Fl)), (k2, f2)] k1 f' = [(k1, f'), (k2, f2)] := fun f' => by simp [setF, Ne.symm hk]
  simp only [syncD, begins2, hf, hs]
  rfl
theorem rename2 {k1 k2 : List UInt8} {f1 f2 : Fl} {room ops : Int} (hk : k1 ≠ k2) (hm : mayN ⟨k2.toArray⟩ = true) : renameD (d2 k1 k2 f1 f2 room ops) k1 k2 = (0, d1 k2 f1 room (ops + 1) false) := by
  have hf : findF [(k1, f1), (k2, f2)] k1 = some f1 := by simp [findF]
  have hf2 : findF [(k1, f1), (k2, f2)] k2 = some f2 := by simp [findF, hk]
  have hc : cutF [(k1, f1), (k2, f2)] k2 = [(k1, f1)] := by simp [cutF, hk]
  have hc2 : cutF [(k1, f1)] k1 = [] := by simp [cutF]
  simp only [renameD, begins2, hf, hm, goneD, hf2, hc, hc2]
  rw [if_neg (by decide), if_neg (by decide), if_neg hk]
  have : ((secs f1.now.length : Nat) : Int) + (secs f2.now.length : Nat) - (secs f2.now.length : Nat) = (secs f1.now.length : Nat) := by omega
  rw [this]
  rfl
theorem list1 {k : List UInt8} {f : Fl} {room ops : Int} : listD (d1 k f room ops false) = ([k], 0) := by
  simp only [listD, begins1]
  rw [if_neg (by decide)]
  simp [Go.Proofs.Ytmocncadncgaaaa.sortN]
theorem size1n {k k2 : List UInt8} {f : Fl} {room ops : Int} (h : k ≠ k2) : sizeD (d1 k f room ops false) k2 = (0, 4) := by
  have hf : findF [(k, f)] k2 = none := by simp [findF, h]
  simp only [sizeD, begins1, hf]
  rfl
theorem list_w {F : Fm} {db n B : Nat} {D D' : Dk} {s : Hl} {l : List (List UInt8)} {e : Int} (hD : DiskAt db D s) (hw : Dw n B D) (hnn : n < 1000) (hB : B ≤ 1000000) (hE : listD D = (l, e)) (hD' : (beginsD D).2 = D') :
    Spec Try.prog 28 #[.pointer (some ⟨db, 0, Option.none⟩)] F s fun v s' => ∃ u s1 s2, v = .tuple #[u, .int .i64 e] ∧ Own strE u l s1 ∧ DiskAt db D' s2 ∧ Dw (n + 1) B D' ∧ s' = s1 ++ s2 :=
  (list_spec hD hw hnn hB).mono fun v s ⟨u, s1, s2, h1, h2, h3, h4⟩ => by
    have h5 := hw.begins
    rw [hE] at h1 h2
    rw [hD'] at h3 h5
    exact ⟨u, s1, s2, h1, h2, h3, h5, h4⟩
set_option maxHeartbeats 1000000 in
theorem DiskNames_spec (F : Fm) (v0 v1 : Value) (xs ys : List UInt8) (ha : Arg byteE F v0 xs) (hb : Arg byteE F v1 ys) :
    Spec Try.prog 9 #[v0, v1] F [] fun v _ => v = .bool true := by
  obtain ⟨p0, c0, rfl⟩ := ha.shape
  obtain ⟨p1, c1, rfl⟩ := hb.shape
  obtain ⟨a, hal, _, hac, haa⟩ := ha.upTo 60
  obtain ⟨b, hbl, _, hbc, hbb⟩ := hb.upTo 60
  rw [← hal] at haa hac
  rw [← hbl] at hbb hbc
  refine Spec.of (n := 118) (vs := [.slice p0 xs.length c0, .slice p1 ys.length c1]) Try.func9 rfl Try.ntmps9 rfl ?_
  refine Vc.seq ?_
  refine Vc.text (List.range 1) (sd [(0, .pure)]) rfl ?_
  refine Rg.pure rfl rfl rfl (Pv.assign rfl) ?_
  refine Rg.nil ?_
  refine Vc.seq ?_
  refine Vc.text (List.range 2) (sd [(0, .eff), (1, .pure)]) rfl ?_
  refine Rg.callP rfl rfl rfl (run_callF rfl) (shown_spec _) ?_
  rintro _ rfl
  refine Rg.pure rfl rfl rfl (Pv.assign rfl) ?_
  refine Rg.nil ?_
  refine Vc.seq ?_
  refine Vc.text (List.range 6) (sd [(0, .pure), (1, .pure), (2, .pure), (3, .pure), (4, .pure), (5, .pure)]) rfl ?_
  refine Rg.pure rfl rfl rfl (Pv.move rfl) ?_
  refine Rg.pure rfl rfl rfl (Pv.move rfl) ?_
  refine Rg.pure rfl rfl rfl (Pv.lenS rfl) ?_
  refine Rg.pure rfl rfl rfl (Pv.asI (a.length) (Pv.min rfl rfl) (by omega)) ?_
  refine Rg.pure rfl rfl rfl (Pv.slTo (a.length) rfl rfl (by omega)) ?_
  refine Rg.pure rfl rfl rfl (Pv.assign rfl) ?_
  refine Rg.nil ?_
  refine Vc.seq ?_
  refine Vc.text (List.range 6) (sd [(0, .pure), (1, .pure), (2, .pure), (3, .pure), (4, .pure), (5, .pure)]) rfl ?_
  refine Rg.pure rfl rfl rfl (Pv.move rfl) ?_
  refine Rg.pure rfl rfl rfl (Pv.move rfl) ?_
  refine Rg.pure rfl rfl rfl (Pv.lenS rfl) ?_
  refine Rg.pure rfl rfl rfl (Pv.asI (b.length) (Pv.min rfl rfl) (by omega)) ?_
  refine Rg.pure rfl rfl rfl (Pv.slTo (b.length) rfl rfl (by omega)) ?_
  refine Rg.pure rfl rfl rfl (Pv.assign rfl) ?_
  refine Rg.nil ?_
  refine Vc.seq ?_
  refine Vc.text (List.range 2) (sd [(0, .eff), (1, .pure)]) rfl ?_
  refine Rg.callA rfl rfl rfl (run_callF rfl) (new_w _ 100 100 (by decide)) ?_
  rintro _ s27 ⟨db, rfl, hD27, hw27⟩
  refine Rg.pure rfl rfl rfl (Pv.assign rfl) ?_
  refine Rg.nil ?_
  refine Vc.seq ?_
  refine Vc.seq ?_
  refine Vc.text (List.range 2) (sd [(0, .pure), (1, .pure)]) rfl ?_
  refine Rg.pure rfl rfl rfl (Pv.move rfl) ?_
  refine Rg.pure rfl rfl rfl (Pv.eqlNil rfl rfl) ?_
  refine Rg.nil ?_
  refine Vc.cond rfl (fun h29 => absurd h29 (by (cases h29))) (fun h29 => ?_)
  refine Vc.skip ?_
  refine Vc.seq ?_
  refine Vc.text (List.range 2) (sd [(0, .pure), (1, .eff)]) rfl ?_
  refine Rg.pure rfl rfl rfl (Pv.move rfl) ?_
  refine Rg.callH rfl rfl rfl (run_callF rfl) (fun F' hF' => create_w (F := F') hD27 hw27 (by omega) (by omega) [120] (create1 (by decide))) rfl ?_
  rintro _ s31 ⟨rfl, hD31, hw31⟩
  refine Rg.nil ?_
  refine Vc.seq ?_
  refine Vc.text (List.range 2) (sd [(0, .pure), (1, .eff)]) rfl ?_
  refine Rg.pure rfl rfl rfl (Pv.move rfl) ?_
  refine Rg.callH rfl rfl rfl (run_callF rfl) (fun F' hF' => create_w (F := F') (D' := d2 [120] [121] ⟨[], []⟩ ⟨[], []⟩ 100 2) hD31 hw31 (by omega) (by omega) [121] mk2) rfl ?_
  rintro _ s33 ⟨rfl, hD33, hw33⟩
  refine Rg.nil ?_
  refine Vc.seq ?_
  refine Vc.text (List.range 3) (sd [(0, .pure), (1, .pure), (2, .eff)]) rfl ?_
  refine Rg.pure rfl rfl rfl (Pv.move rfl) ?_
  refine Rg.pure rfl rfl rfl (Pv.move rfl) ?_
  refine Rg.callH rfl rfl rfl (run_callF rfl) (fun F' hF' => append_w (F := F') hD33 hw33 (by omega) (by omega) [120] (haa.mono fun b o h => hF' b o (.inr h)) (by omega) (app2a (by decide) a (by simp [secs]; omega))) rfl ?_
  rintro _ s36 ⟨rfl, hD36, hw36⟩
  rw [List.nil_append] at hD36 hw36
  refine Rg.nil ?_
  refine Vc.seq ?_
  refine Vc.text (List.range 3) (sd [(0, .pure), (1, .pure), (2, .eff)]) rfl ?_
  refine Rg.pure rfl rfl rfl (Pv.move rfl) ?_
  refine Rg.pure rfl rfl rfl (Pv.move rfl) ?_
  refine Rg.callH rfl rfl rfl (run_callF rfl) (fun F' hF' => append_w (F := F') hD36 hw36 (by omega) (by omega) [121] (hbb.mono fun b o h => hF' b o (.inr h)) (by omega) (app2b (by decide) b (by simp [secs]; omega))) rfl ?_
  rintro _ s39 ⟨rfl, hD39, hw39⟩
  rw [List.nil_append] at hD39 hw39
  refine Rg.nil ?_
  refine Vc.seq ?_
  refine Vc.text (List.range 2) (sd [(0, .pure), (1, .eff)]) rfl ?_
  refine Rg.pure rfl rfl rfl (Pv.move rfl) ?_
  refine Rg.callH rfl rfl rfl (run_callF rfl) (fun F' hF' => sync_w (F := F') hD39 hw39 (by omega) (by omega) [120] (sync2a (by decide))) rfl ?_
  rintro _ s41 ⟨rfl, hD41, hw41⟩
  refine Rg.nil ?_
  refine Vc.seq ?_
  refine Vc.text (List.range 3) (sd [(0, .pure), (1, .eff), (2, .pure)]) rfl ?_
  refine Rg.pure rfl rfl rfl (Pv.move rfl) ?_
  refine Rg.callH rfl rfl rfl (run_callF rfl) (fun F' hF' => rename_w (F := F') hD41 hw41 (by omega) (by omega) [120] [121] (rename2 (by decide) (by decide))) rfl ?_
  rintro _ s43 ⟨rfl, hD43, hw43⟩
  refine Rg.pure rfl rfl rfl (Pv.assign rfl) ?_
  refine Rg.nil ?_
  refine Vc.seq ?_
  refine Vc.text (List.range 7) (sd [(0, .pure), (1, .eff), (2, .pure), (3, .pure), (4, .pure), (5, .pure), (6, .pure)]) rfl ?_
  refine Rg.pure rfl rfl rfl (Pv.move rfl) ?_
  refine Rg.callH rfl rfl rfl (run_callF rfl) (fun F' hF' => size_w (F := F') hD43 hw43 (by omega) (by omega) [120] (size1n (by decide)) (congrArg Prod.snd begins1)) rfl ?_
  rintro _ s46 ⟨rfl, hD46, hw46⟩
  refine Rg.pure rfl rfl rfl (Pv.move rfl) ?_
  refine Rg.pure rfl rfl rfl (Pv.extract rfl rfl) ?_
  refine Rg.pure rfl rfl rfl (Pv.extract rfl rfl) ?_
  refine Rg.pure rfl rfl rfl (Pv.assign rfl) ?_
  refine Rg.pure rfl rfl rfl (Pv.assign rfl) ?_
  refine Rg.nil ?_
  refine Vc.seq ?_
  refine Vc.text (List.range 7) (sd [(0, .pure), (1, .eff), (2, .pure), (3, .pure), (4, .pure), (5, .pure), (6, .pure)]) rfl ?_
  refine Rg.pure rfl rfl rfl (Pv.move rfl) ?_
  refine Rg.callH rfl rfl rfl (run_callF rfl) (fun F' hF' => list_w (F := F') hD46 hw46 (by omega) (by omega) list1 (congrArg Prod.snd begins1)) rfl ?_
  rintro _ _ ⟨u51, q51, s51, rfl, own51, hD51, hw51, rfl⟩
  rw [List.append_assoc]
  refine Rg.pure rfl rfl rfl (Pv.move rfl) ?_
  refine Rg.pure rfl rfl rfl (Pv.extract rfl rfl) ?_
  refine Rg.pure rfl rfl rfl (Pv.extract rfl rfl) ?_
  refine Rg.pure rfl rfl rfl (Pv.assign rfl) ?_
  refine Rg.pure rfl rfl rfl (Pv.assign rfl) ?_
  refine Rg.nil ?_
  refine Vc.seq ?_
  refine Vc.text (List.range 9) (sd [(0, .pure), (1, .pure), (2, .pure), (3, .eff), (4, .pure), (5, .pure), (6, .pure), (7, .pure), (8, .pure)]) rfl ?_
  refine Rg.pure rfl rfl rfl (Pv.move rfl) ?_
  refine Rg.pure rfl rfl rfl (Pv.move rfl) ?_
  refine Rg.pure rfl rfl rfl (Pv.lenS rfl) ?_
  refine Rg.callH rfl rfl rfl (run_callF rfl) (fun F' hF' => readAt_w (F := F') hD51 hw51 (by omega) (by omega) [121] 0 (a.length : Nat) read1all (congrArg Prod.snd begins1)) rfl ?_
  rintro _ _ ⟨u58, q58, s58, rfl, own58, hD58, hw58, rfl⟩
  rw [List.append_assoc]
  refine Rg.pure rfl rfl rfl (Pv.move rfl) ?_
  refine Rg.pure rfl rfl rfl (Pv.extract rfl rfl) ?_
  refine Rg.pure rfl rfl rfl (Pv.extract rfl rfl) ?_
  refine Rg.pure rfl rfl rfl (Pv.assign rfl) ?_
  refine Rg.pure rfl rfl rfl (Pv.assign rfl) ?_
  refine Rg.nil ?_
  refine Vc.seq ?_
  refine Vc.text (List.range 2) (sd [(0, .pure), (1, .eff)]) rfl ?_
  refine Rg.pure rfl rfl rfl (Pv.move rfl) ?_
  refine Rg.callH rfl rfl rfl (run_callF rfl) (fun F' hF' => crash_w (F := F') hD58 hw58 (by omega) (by omega) Arg.nilB (crash1 [])) rfl ?_
  rintro v62 s62 ⟨hD62, hw62⟩
  rw [torn_same] at hD62 hw62
  refine Rg.nil ?_
  refine Vc.seq ?_
  refine Vc.text (List.range 2) (sd [(0, .pure), (1, .eff)]) rfl ?_
  refine Rg.pure rfl rfl rfl (Pv.move rfl) ?_
  refine Rg.callH rfl rfl rfl (run_callF rfl) (fun F' hF' => restart_w (F := F') hD62 hw62) rfl ?_
  rintro v64 s64 ⟨hD64, hw64⟩
  refine Rg.nil ?_
  refine Vc.seq ?_
  refine Vc.text (List.range 7) (sd [(0, .pure), (1, .eff), (2, .pure), (3, .pure), (4, .pure), (5, .pure), (6, .pure)]) rfl ?_
  refine Rg.pure rfl rfl rfl (Pv.move rfl) ?_
  refine Rg.callH rfl rfl rfl (run_callF rfl) (fun F' hF' => size_w (F := F') hD64 hw64 (by omega) (by omega) [121] size1 (congrArg Prod.snd begins1)) rfl ?_
  rintro _ s67 ⟨rfl, hD67, hw67⟩
  refine Rg.pure rfl rfl rfl (Pv.move rfl) ?_
  refine Rg.pure rfl rfl rfl (Pv.extract rfl rfl) ?_
  refine Rg.pure rfl rfl rfl (Pv.extract rfl rfl) ?_
  refine Rg.pure rfl rfl rfl (Pv.assign rfl) ?_
  refine Rg.pure rfl rfl rfl (Pv.assign rfl) ?_
  refine Rg.nil ?_
  refine Vc.seq ?_
  refine Vc.text (List.range 49) (sd [(0, .pure), (1, .pure), (2, .pure), (3, .pure), (4, .pure), (5, .pure), (6, .pure), (7, .pure), (8, .pure), (9, .pure), (10, .pure), (11, .pure), (12, .pure), (13, .pure), (14, .pure), (15, .eff), (16, .eff), (17, .pure), (18, .pure), (19, .pure), (20, .pure), (21, .pure), (22, .pure), (23, .pure), (24, .read), (25, .pure), (26, .read), (27, .pure), (28, .pure), (29, .pure), (30, .pure), (31, .pure), (32, .pure), (33, .pure), (34, .pure), (35, .pure), (36, .pure), (37, .pure), (38, .pure), (39, .pure), (40, .pure), (41, .eff), (42, .pure), (43, .pure), (44, .pure), (45, .pure), (46, .pure), (47, .pure), (48, .pure)]) rfl ?_
  refine Rg.pure rfl rfl rfl (Pv.move rfl) ?_
  refine Rg.pure rfl rfl rfl (Pv.move rfl) ?_
  refine Rg.split (t := 71) rfl (fun h71 => ?_) (fun h71 => absurd h71 (by decide))
  refine Rg.pure rfl rfl rfl (Pv.move rfl) ?_
  refine Rg.pure rfl rfl rfl (Pv.eql rfl rfl) ?_
  refine Rg.pure rfl rfl rfl (Pv.pickT rfl rfl) ?_
  refine Rg.pure rfl rfl rfl (Pv.move rfl) ?_
  refine Rg.split (t := 75) rfl (fun h75 => ?_) (fun h75 => absurd h75 (by decide))
  refine Rg.pure rfl rfl rfl (Pv.move rfl) ?_
  refine Rg.pure rfl rfl rfl (Pv.eql rfl rfl) ?_
  refine Rg.pure rfl rfl rfl (Pv.pickT rfl rfl) ?_
  refine Rg.pure rfl rfl rfl (Pv.move rfl) ?_
  refine Rg.split (t := 79) rfl (fun h79 => ?_) (fun h79 => absurd h79 (by decide))
  refine Rg.pure rfl rfl rfl (Pv.move rfl) ?_
  refine Rg.pure rfl rfl rfl (Pv.eql rfl rfl) ?_
  refine Rg.pure rfl rfl rfl (Pv.pickT rfl rfl) ?_
  refine Rg.pure rfl rfl rfl (Pv.move rfl) ?_
  refine Rg.split (t := 83) rfl (fun h83 => ?_) (fun h83 => absurd h83 (by decide))
  refine Rg.pure rfl rfl rfl (Pv.move rfl) ?_
  refine Rg.bslice1R (E := strE) (e := 9) [121] rfl rfl rfl rfl rfl rfl rfl rfl (fun b85 own85 => ?_)
  refine Rg.callP rfl rfl rfl (run_callF rfl) (texts_spec (Arg.own own51 frz_sb) (Arg.own own85 frz_sb) (by simp) (by simp)) ?_
  rintro _ rfl
  refine Rg.pure rfl rfl rfl (Pv.pickT rfl rfl) ?_
  refine Rg.pure rfl rfl rfl (Pv.move rfl) ?_
  refine Rg.split (t := 88) rfl (fun h88 => ?_) (fun h88 => absurd h88 (by simp))
  refine Rg.pure rfl rfl rfl (Pv.move rfl) ?_
  refine Rg.pure rfl rfl rfl (Pv.eql rfl rfl) ?_
  refine Rg.pure rfl rfl rfl (Pv.pickT rfl rfl) ?_
  refine Rg.pure rfl rfl rfl (Pv.move rfl) ?_
  refine Rg.split (t := 92) rfl (fun h92 => ?_) (fun h92 => absurd h92 (by decide))
  refine Rg.pure rfl rfl rfl (Pv.move rfl) ?_
  refine Rg.read rfl rfl rfl (Ev.str ((Arg.own (F := frz F q58) own58 fun b o hb => Or.inl hb).srcF) rfl) ?_
  refine Rg.pure rfl rfl rfl (Pv.move rfl) ?_
  refine Rg.read rfl rfl rfl (Ev.str (haa.src) rfl) ?_
  refine Rg.pure rfl rfl rfl (Pv.eqlS rfl rfl) ?_
  refine Rg.pure rfl rfl rfl (Pv.pickT rfl rfl) ?_
  refine Rg.pure rfl rfl rfl (Pv.move rfl) ?_
  refine Rg.split (t := 99) rfl (fun h99 => ?_) (fun h99 => absurd h99 (by simp))
  refine Rg.pure rfl rfl rfl (Pv.move rfl) ?_
  refine Rg.pure rfl rfl rfl (Pv.eql rfl rfl) ?_
  refine Rg.pure rfl rfl rfl (Pv.pickT rfl rfl) ?_
  refine Rg.pure rfl rfl rfl (Pv.move rfl) ?_
  refine Rg.split (t := 103) rfl (fun h103 => ?_) (fun h103 => absurd h103 (by decide))
  refine Rg.pure rfl rfl rfl (Pv.move rfl) ?_
  refine Rg.pure rfl rfl rfl (Pv.move rfl) ?_
  refine Rg.pure rfl rfl rfl (Pv.lenS rfl) ?_
  refine Rg.pure rfl rfl rfl (Pv.eql rfl rfl) ?_
  refine Rg.pure rfl rfl rfl (Pv.pickT rfl rfl) ?_
  refine Rg.pure rfl rfl rfl (Pv.move rfl) ?_
  refine Rg.split (t := 109) rfl (fun h109 => ?_) (fun h109 => absurd h109 (by simp))
  refine Rg.pure rfl rfl rfl (Pv.move rfl) ?_
  refine Rg.callP rfl rfl rfl (run_callF rfl) (usedD_spec hD67 frz_sb) ?_
  rintro _ rfl
  refine Rg.pure rfl rfl rfl (Pv.move rfl) ?_
  refine Rg.pure rfl rfl rfl (Pv.lenS rfl) ?_
  refine Rg.pure rfl rfl rfl (Pv.add rfl rfl (by omega)) ?_
  refine Rg.pure rfl rfl rfl (Pv.quo rfl rfl (by omega)) ?_
  refine Rg.pure rfl rfl rfl (Pv.eql rfl rfl) ?_
  refine Rg.pure rfl rfl rfl (Pv.pickT rfl rfl) ?_
  refine Rg.pure rfl rfl rfl (Pv.assign rfl) ?_
  refine Rg.nil ?_
  refine Vc.ret (Vc.rets rfl (.cons (.tmp rfl) (.nil)) ?_)
  exact congrArg Value.bool (by simp [secs])
end Go.Proofs.Ytmocncadncgaaaa
