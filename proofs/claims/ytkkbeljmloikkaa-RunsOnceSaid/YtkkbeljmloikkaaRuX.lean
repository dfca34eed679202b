/- The statements' functions: RunsCombine, RunsTell, RunsBudget. -/
import Derived.Test.YtkkbeljmloikkaaRuW
namespace Go.Proofs.Ytkkbeljmloikkaa
set_option linter.unusedVariables false

theorem sorted_ok {F : Fm} {va : Value} {xs : List Rc} (ha : Arg recE F va xs) (hN : xs.length < 1000000) (hR : NR xs) {how : Int} (hok : okHow how = true) :
    Spec Try.prog 13 #[va, .int .i64 how] F [] fun v s => ∃ u, v = .tuple #[u, .int .i64 0] ∧ Own recE u (sortedG how xs) s :=
  (sorted_spec ha hN hR how).mono fun v s ⟨u, er, e, h⟩ => by
    obtain ⟨_, rfl, h2⟩ := h.resolve_right (fun h => by rw [hok] at h; cases h.1)
    exact ⟨u, e, h2⟩
theorem merge_ok {F : Fm} {va : Value} {ls : List Sv} {xss : List (List Rc)} (ha : ArgRR F va ls xss) (hn : xss.length < 100000) (hT : xss.flatten.length < 1000000) (hR : NR xss.flatten) {how : Int} (hok : okHow how = true) :
    Spec Try.prog 16 #[va, .int .i64 how] F [] fun v s => ∃ u, v = .tuple #[u, .int .i64 0] ∧ Own recE u (sortedG how xss.flatten) s :=
  (merge_spec ha hn hT hR how).mono fun v s ⟨u, er, e, h⟩ => by
    obtain ⟨_, rfl, h2⟩ := h.resolve_right (fun h => by rw [hok] at h; cases h.1)
    exact ⟨u, e, h2⟩
theorem cut_ok {F : Fm} {va : Value} {xs : List Rc} (ha : Arg recE F va xs) (hN : xs.length < 1000000) (hR : NR xs) (n : Nat) (hn : 1 ≤ n) (hn2 : n ≤ 1000) {how : Int} (hok : okHow how = true) :
    Spec Try.prog 14 #[va, .int .i64 (n : Int), .int .i64 how] F [] fun v s => ∃ u, v = .tuple #[u, .int .i64 0] ∧ OwnRR u (cutG n how xs) s :=
  (cut_spec ha hN hR n how (by omega)).mono fun v s ⟨u, er, e, h⟩ => by
    obtain ⟨_, _, rfl, h2⟩ := h.resolve_right (fun h => by rw [hok] at h; rcases h.1 with h | h <;> first | omega | cases h)
    exact ⟨u, e, h2⟩

theorem and1 (p : Int) : andN p 1 ≤ 1 := by have := andN_le (p := p) (q := 1) (by omega); omega
theorem comb_sum (a b : Int) (h : 0 ≤ a ∧ a < 18446744073709551616) (hb : 0 ≤ b) : a ≤ comb 1 a b := by unfold comb; rw [if_pos rfl]; split <;> omega
theorem comb_min (a b : Int) : comb 2 a b ≤ a := by unfold comb; rw [if_neg (by decide)]; omega
theorem RunsCombine_spec (F : Fm) (a b c how : Int) (ha : 0 ≤ a ∧ a < 18446744073709551616) (hb : 0 ≤ b ∧ b < 18446744073709551616) (hc : 0 ≤ c ∧ c < 18446744073709551616) :
    Spec Try.prog 6 #[.int .u64 a, .int .u64 b, .int .u64 c, .int .i64 how] F [] fun v _ => v = .bool true := by
  have hand := and1 how
  refine Spec.of (n := 65) (vs := [.int .u64 a, .int .u64 b, .int .u64 c, .int .i64 how]) Try.func6 rfl Try.ntmps6 rfl ?_
  refine Vc.seq ?_
  refine Vc.text (List.range 1) (sd [(0, .pure)]) rfl ?_
  refine Rg.pure rfl rfl rfl (Pv.assign rfl) ?_
  refine Rg.nil ?_
  refine Vc.seq ?_
  refine Vc.text (List.range 2) (sd [(0, .eff), (1, .pure)]) rfl ?_
  refine Rg.callP rfl rfl rfl (run_callF rfl) (shown_spec _) ?_
  rintro _ rfl
  refine Rg.pure rfl rfl rfl (Pv.assign rfl) ?_
  refine Rg.nil ?_
  refine Vc.seq ?_
  refine Vc.text (List.range 4) (sd [(0, .pure), (1, .pure), (2, .pure), (3, .pure)]) rfl ?_
  refine Rg.pure rfl rfl rfl (Pv.move rfl) ?_
  refine Rg.pure rfl rfl rfl (Pv.and rfl rfl (by omega)) ?_
  generalize hg : andN how 1 = g at hand
  refine Rg.pure rfl rfl rfl (Pv.asI (1 + g) (Pv.add rfl rfl (by omega)) (by omega)) ?_
  refine Rg.pure rfl rfl rfl (Pv.assign rfl) ?_
  refine Rg.nil ?_
  refine Vc.seq ?_
  refine Vc.text (List.range 8) (sd [(0, .pure), (1, .pure), (2, .pure), (3, .pure), (4, .eff), (5, .pure), (6, .eff), (7, .pure)]) rfl ?_
  refine Rg.pure rfl rfl rfl (Pv.move rfl) ?_
  refine Rg.pure rfl rfl rfl (Pv.move rfl) ?_
  refine Rg.pure rfl rfl rfl (Pv.move rfl) ?_
  refine Rg.pure rfl rfl rfl (Pv.move rfl) ?_
  refine Rg.callP rfl rfl rfl (run_callF rfl) (combine_spec _ _ _ _ ha.1 hb.1) ?_
  rintro _ rfl
  have hab := comb_in (how := ((1 + g : Nat) : Int)) ha hb
  refine Rg.pure rfl rfl rfl (Pv.move rfl) ?_
  refine Rg.callP rfl rfl rfl (run_callF rfl) (combine_spec _ _ _ _ hab.1 hc.1) ?_
  rintro _ rfl
  refine Rg.pure rfl rfl rfl (Pv.assign rfl) ?_
  refine Rg.nil ?_
  refine Vc.seq ?_
  refine Vc.text (List.range 8) (sd [(0, .pure), (1, .pure), (2, .pure), (3, .pure), (4, .pure), (5, .eff), (6, .eff), (7, .pure)]) rfl ?_
  refine Rg.pure rfl rfl rfl (Pv.move rfl) ?_
  refine Rg.pure rfl rfl rfl (Pv.move rfl) ?_
  refine Rg.pure rfl rfl rfl (Pv.move rfl) ?_
  refine Rg.pure rfl rfl rfl (Pv.move rfl) ?_
  refine Rg.pure rfl rfl rfl (Pv.move rfl) ?_
  refine Rg.callP rfl rfl rfl (run_callF rfl) (combine_spec _ _ _ _ hc.1 hb.1) ?_
  rintro _ rfl
  have hcb := comb_in (how := ((1 + g : Nat) : Int)) hc hb
  refine Rg.callP rfl rfl rfl (run_callF rfl) (combine_spec _ _ _ _ ha.1 hcb.1) ?_
  rintro _ rfl
  rw [comb_comm _ c b, ← comb_assoc ha.1 hb.1 hc.1]
  refine Rg.pure rfl rfl rfl (Pv.assign rfl) ?_
  refine Rg.nil ?_
  refine Vc.seq ?_
  refine Vc.text (List.range 36) (sd [(0, .pure), (1, .pure), (2, .pure), (3, .pure), (4, .pure), (5, .pure), (6, .pure), (7, .pure), (8, .pure), (9, .pure), (10, .eff), (11, .pure), (12, .pure), (13, .pure), (14, .eff), (15, .pure), (16, .pure), (17, .pure), (18, .pure), (19, .pure), (20, .pure), (21, .pure), (22, .pure), (23, .pure), (24, .pure), (25, .pure), (26, .pure), (27, .pure), (28, .pure), (29, .pure), (30, .pure), (31, .pure), (32, .pure), (33, .pure), (34, .pure), (35, .pure)]) rfl ?_
  refine Rg.pure rfl rfl rfl (Pv.move rfl) ?_
  refine Rg.pure rfl rfl rfl (Pv.move rfl) ?_
  refine Rg.split (t := 31) rfl (fun h31 => ?_) (fun h31 => absurd h31 (by decide))
  refine Rg.pure rfl rfl rfl (Pv.move rfl) ?_
  refine Rg.pure rfl rfl rfl (Pv.move rfl) ?_
  refine Rg.pure rfl rfl rfl (Pv.eql rfl rfl) ?_
  refine Rg.pure rfl rfl rfl (Pv.pickT rfl rfl) ?_
  refine Rg.pure rfl rfl rfl (Pv.move rfl) ?_
  refine Rg.split (t := 36) rfl (fun h36 => ?_) (fun h36 => absurd h36 (by simp))
  refine Rg.pure rfl rfl rfl (Pv.move rfl) ?_
  refine Rg.pure rfl rfl rfl (Pv.move rfl) ?_
  refine Rg.pure rfl rfl rfl (Pv.move rfl) ?_
  refine Rg.callP rfl rfl rfl (run_callF rfl) (combine_spec _ _ _ _ ha.1 hb.1) ?_
  rintro _ rfl
  refine Rg.pure rfl rfl rfl (Pv.move rfl) ?_
  refine Rg.pure rfl rfl rfl (Pv.move rfl) ?_
  refine Rg.pure rfl rfl rfl (Pv.move rfl) ?_
  refine Rg.callP rfl rfl rfl (run_callF rfl) (rcombine_spec _ _ _ _ ha hb) ?_
  rintro _ rfl
  refine Rg.pure rfl rfl rfl (Pv.eql rfl rfl) ?_
  refine Rg.pure rfl rfl rfl (Pv.pickT rfl rfl) ?_
  refine Rg.pure rfl rfl rfl (Pv.move rfl) ?_
  refine Rg.split (t := 47) rfl (fun h47 => ?_) (fun h47 => absurd h47 (by simp))
  refine Rg.pure rfl rfl rfl (Pv.move rfl) ?_
  refine Rg.pure rfl rfl rfl (Pv.eql rfl rfl) ?_
  refine Rg.pure rfl rfl rfl (Pv.move rfl) ?_
  refine Rg.split (t := 50) rfl (fun h50 => ?_) (fun h50 => ?_)
  ·
    simp only [beq_iff_eq] at h50
    obtain rfl : g = 0 := by omega
    refine Rg.pure rfl rfl rfl (Pv.move rfl) ?_
    refine Rg.pure rfl rfl rfl (Pv.move rfl) ?_
    refine Rg.pure rfl rfl rfl (Pv.geq rfl rfl) ?_
    refine Rg.pure rfl rfl rfl (Pv.pickT rfl rfl) ?_
    refine Rg.pure rfl rfl rfl (Pv.move rfl) ?_
    refine Rg.split (t := 55) rfl (fun h55 => ?_) (fun h55 => absurd h55 (by intro hh; exact of_decide_eq_false hh (Int.le_trans (comb_sum a b ha hb.1) (comb_sum _ c hab hc.1))))
    iterate 7 (first | refine Rg.skipP rfl rfl rfl ?_ | refine Rg.skipR rfl rfl rfl ?_ | refine Rg.skipE rfl rfl rfl ?_)
    refine Rg.pure rfl rfl rfl (Pv.pickT rfl rfl) ?_
    refine Rg.pure rfl rfl rfl (Pv.pickT rfl rfl) ?_
    refine Rg.pure rfl rfl rfl (Pv.assign rfl) ?_
    refine Rg.nil ?_
    refine Vc.ret (Vc.rets rfl (.cons (.tmp rfl) (.nil)) ?_)
    rfl
  ·
    simp only [beq_eq_false_iff_ne, ne_eq] at h50
    obtain rfl : g = 1 := by omega
    iterate 3 (first | refine Rg.skipP rfl rfl rfl ?_ | refine Rg.skipR rfl rfl rfl ?_ | refine Rg.skipE rfl rfl rfl ?_)
    refine Rg.pure rfl rfl rfl (Pv.pickF rfl rfl) ?_
    refine Rg.pure rfl rfl rfl (Pv.move rfl) ?_
    refine Rg.pure rfl rfl rfl (Pv.move rfl) ?_
    refine Rg.pure rfl rfl rfl (Pv.eql rfl rfl) ?_
    refine Rg.pure rfl rfl rfl (Pv.move rfl) ?_
    refine Rg.split (t := 58) rfl (fun h58 => ?_) (fun h58 => absurd h58 (by simp))
    refine Rg.pure rfl rfl rfl (Pv.move rfl) ?_
    refine Rg.pure rfl rfl rfl (Pv.move rfl) ?_
    refine Rg.pure rfl rfl rfl (Pv.leq rfl rfl) ?_
    refine Rg.pure rfl rfl rfl (Pv.pickT rfl rfl) ?_
    refine Rg.pure rfl rfl rfl (Pv.pickF rfl rfl) ?_
    refine Rg.pure rfl rfl rfl (Pv.pickT rfl rfl) ?_
    refine Rg.pure rfl rfl rfl (Pv.assign rfl) ?_
    refine Rg.nil ?_
    refine Vc.ret (Vc.rets rfl (.cons (.tmp rfl) (.nil)) ?_)
    exact congrArg Value.bool (decide_eq_true (Int.le_trans (comb_min _ c) (comb_min a b)))

theorem take100_len (xs : List Rc) : (xs.take 100).length ≤ 100 := by simp; omega
set_option maxHeartbeats 2000000 in
theorem RunsTell_spec (F : Fm) (v0 : Value) (xs0 : List Rc) (z how : Int) (ha : Arg recE F v0 xs0) (hR0 : NR xs0) :
    Spec Try.prog 3 #[v0, .int .i64 z, .int .i64 how] F [] fun v _ => v = .bool true := by
  obtain ⟨p0, c0, rfl⟩ := ha.shape
  have hl := take100_len xs0
  have hR := hR0.take 100
  obtain ⟨y, hy⟩ : ∃ y, y = min z 1000 := ⟨_, rfl⟩
  have hy1 : y ≤ 1000 := by omega
  refine Spec.of (n := 140) (vs := [.slice p0 xs0.length c0, .int .i64 z, .int .i64 how]) Try.func3 rfl Try.ntmps3 rfl ?_
  refine Vc.seq ?_
  refine Vc.text (List.range 1) (sd [(0, .pure)]) rfl ?_
  refine Rg.pure rfl rfl rfl (Pv.assign rfl) ?_
  refine Rg.nil ?_
  refine Vc.seq ?_
  refine Vc.text (List.range 2) (sd [(0, .eff), (1, .pure)]) rfl ?_
  refine Rg.callP rfl rfl rfl (run_callF rfl) (shown_spec _) ?_
  rintro _ rfl
  refine Rg.pure rfl rfl rfl (Pv.assign rfl) ?_
  refine Rg.nil ?_
  refine Vc.seq ?_
  refine Vc.text (List.range 3) (sd [(0, .pure), (1, .eff), (2, .pure)]) rfl ?_
  refine Rg.pure rfl rfl rfl (Pv.move rfl) ?_
  refine Rg.callA rfl rfl rfl (run_callF rfl) (few_spec (ha.mono fun b o h => Or.inr h)) ?_
  rintro _ s20 own
  generalize xs0.take 100 = xs at own hl hR
  obtain ⟨q, c, rfl⟩ := own.shape
  refine Rg.pure rfl rfl rfl (Pv.assign rfl) ?_
  refine Rg.nil ?_
  refine Vc.seq ?_
  refine Vc.text (List.range 3) (sd [(0, .pure), (1, .eff), (2, .pure)]) rfl ?_
  refine Rg.pure rfl rfl rfl (Pv.move rfl) ?_
  refine Rg.callA rfl rfl rfl (run_callF rfl) (few_spec (Arg.own own frz_sb)) ?_
  rintro _ s22 own2
  rw [List.take_of_length_le hl] at own2
  obtain ⟨q2, c2, rfl⟩ := own2.shape
  refine Rg.pure rfl rfl rfl (Pv.assign rfl) ?_
  refine Rg.nil ?_
  refine Vc.seq ?_
  refine Vc.text (List.range 3) (sd [(0, .pure), (1, .pure), (2, .pure)]) rfl ?_
  refine Rg.pure rfl rfl rfl (Pv.move rfl) ?_
  refine Rg.pure rfl rfl rfl (Pv.as (.int .i64 y) (Pv.min rfl rfl) (by rw [hy])) ?_
  refine Rg.pure rfl rfl rfl (Pv.assign rfl) ?_
  refine Rg.nil ?_
  refine Vc.seq ?_
  refine Vc.text (List.range 8) (sd [(0, .pure), (1, .pure), (2, .eff), (3, .pure), (4, .pure), (5, .pure), (6, .pure), (7, .pure)]) rfl ?_
  refine Rg.pure rfl rfl rfl (Pv.move rfl) ?_
  refine Rg.pure rfl rfl rfl (Pv.move rfl) ?_
  refine Rg.callA rfl rfl rfl (run_callF rfl) (sorted_spec (Arg.own own frz_sb) (by omega) hR how) ?_
  rintro _ s28 ⟨u28, e28, rfl, h28⟩
  refine Rg.pure rfl rfl rfl (Pv.move rfl) ?_
  refine Rg.pure rfl rfl rfl (Pv.extract rfl rfl) ?_
  refine Rg.pure rfl rfl rfl (Pv.extract rfl rfl) ?_
  refine Rg.pure rfl rfl rfl (Pv.assign rfl) ?_
  refine Rg.pure rfl rfl rfl (Pv.assign rfl) ?_
  refine Rg.nil ?_
  refine Vc.seq ?_
  refine Vc.text (List.range 9) (sd [(0, .pure), (1, .pure), (2, .pure), (3, .eff), (4, .pure), (5, .pure), (6, .pure), (7, .pure), (8, .pure)]) rfl ?_
  refine Rg.pure rfl rfl rfl (Pv.move rfl) ?_
  refine Rg.pure rfl rfl rfl (Pv.move rfl) ?_
  refine Rg.pure rfl rfl rfl (Pv.move rfl) ?_
  refine Rg.callA rfl rfl rfl (run_callF rfl) (cut_spec (Arg.own own frz_sb) (by omega) hR y how hy1) ?_
  rintro _ s35 ⟨u35, e35, rfl, h35⟩
  refine Rg.pure rfl rfl rfl (Pv.move rfl) ?_
  refine Rg.pure rfl rfl rfl (Pv.extract rfl rfl) ?_
  refine Rg.pure rfl rfl rfl (Pv.extract rfl rfl) ?_
  refine Rg.pure rfl rfl rfl (Pv.assign rfl) ?_
  refine Rg.pure rfl rfl rfl (Pv.assign rfl) ?_
  refine Rg.nil ?_
  refine Vc.seq ?_
  refine Vc.cut1 (fun (bb : Bool) => bb = okHow how) (fun bb => [(0, .slice q xs.length c), (1, .int .i64 y), (2, .int .i64 how), (7, .bool true), (8, .slice q2 xs.length c2), (9, u28), (10, .int .i64 e28), (11, u35), (12, .int .i64 e35), (13, .bool bb)]) (fun bb => s35 ++ (s28 ++ (s22 ++ s20))) ?_ ?_
  ·
    refine Vc.text (List.range 7) (sd [(0, .pure), (1, .pure), (2, .pure), (3, .pure), (4, .pure), (5, .pure), (6, .pure)]) rfl ?_
    refine Rg.pure rfl rfl rfl (Pv.move rfl) ?_
    refine Rg.pure rfl rfl rfl (Pv.geq rfl rfl) ?_
    refine Rg.pure rfl rfl rfl (Pv.move rfl) ?_
    refine Rg.split (t := 40) rfl (fun h40 => ?_) (fun h40 => ?_)
    ·
      refine Rg.pure rfl rfl rfl (Pv.move rfl) ?_
      refine Rg.pure rfl rfl rfl (Pv.leq rfl rfl) ?_
      refine Rg.pure rfl rfl rfl (Pv.pickT rfl rfl) ?_
      refine Rg.pure rfl rfl rfl (Pv.assign rfl) ?_
      refine Rg.nil ?_
      exact Vc.inv1 _ (by rw [okHow, h40, Bool.true_and]) (.cons rfl (.cons rfl (.cons rfl (.cons rfl (.cons rfl (.cons rfl (.cons rfl (.cons rfl (.cons rfl (.cons rfl .nil)))))))))) pulled
    ·
      iterate 2 (first | refine Rg.skipP rfl rfl rfl ?_ | refine Rg.skipR rfl rfl rfl ?_ | refine Rg.skipE rfl rfl rfl ?_)
      refine Rg.pure rfl rfl rfl (Pv.pickF rfl rfl) ?_
      refine Rg.pure rfl rfl rfl (Pv.assign rfl) ?_
      refine Rg.nil ?_
      exact Vc.inv1 _ (by rw [okHow, h40]; rfl) (.cons rfl (.cons rfl (.cons rfl (.cons rfl (.cons rfl (.cons rfl (.cons rfl (.cons rfl (.cons rfl (.cons rfl .nil)))))))))) pulled
  ·
    rintro bb hbb
    refine Vc.seq ?_
    refine Vc.seq ?_
    refine Vc.text (List.range 20) (sd [(0, .pure), (1, .pure), (2, .eff), (3, .pure), (4, .pure), (5, .pure), (6, .pure), (7, .pure), (8, .pure), (9, .pure), (10, .pure), (11, .pure), (12, .pure), (13, .pure), (14, .pure), (15, .pure), (16, .pure), (17, .pure), (18, .pure), (19, .pure)]) rfl ?_
    refine Rg.pure rfl rfl rfl (Pv.move rfl) ?_
    refine Rg.pure rfl rfl rfl (Pv.move rfl) ?_
    refine Rg.callP rfl rfl rfl (run_callF rfl) (rsameR_spec (Arg.own own frz_sb) (Arg.own own2 frz_sb) (by omega) (by omega)) ?_
    rintro _ rfl
    refine Rg.pure rfl rfl rfl (Pv.not rfl) ?_
    refine Rg.pure rfl rfl rfl (Pv.move rfl) ?_
    refine Rg.split (t := 48) rfl (fun h48 => absurd h48 (by simp)) (fun h48 => ?_)
    refine Rg.pure rfl rfl rfl (Pv.move rfl) ?_
    refine Rg.pure rfl rfl rfl (Pv.eql rfl rfl) ?_
    refine Rg.pure rfl rfl rfl (Pv.move rfl) ?_
    refine Rg.pure rfl rfl rfl (Pv.neqB rfl rfl) ?_
    refine Rg.pure rfl rfl rfl (Pv.pickF rfl rfl) ?_
    refine Rg.pure rfl rfl rfl (Pv.move rfl) ?_
    refine Rg.split (t := 54) rfl (fun h54 => absurd h54 (by rcases h28 with ⟨a, b, _⟩ | ⟨a, b, _⟩ <;> rw [b, hbb, a] <;> decide)) (fun h54 => ?_)
    refine Rg.pure rfl rfl rfl (Pv.move rfl) ?_
    refine Rg.pure rfl rfl rfl (Pv.eql rfl rfl) ?_
    refine Rg.pure rfl rfl rfl (Pv.move rfl) ?_
    refine Rg.pure rfl rfl rfl (Pv.move rfl) ?_
    refine Rg.split (t := 58) rfl (fun h58 => ?_) (fun h58 => ?_)
    ·
      subst h58
      obtain ⟨_, rfl, own28⟩ := h28.resolve_right (fun h => by rw [← hbb] at h; cases h.1)
      obtain ⟨q28, c28, rfl⟩ := own28.shape
      have hsl := sortedG_length how xs
      refine Rg.pure rfl rfl rfl (Pv.move rfl) ?_
      refine Rg.pure rfl rfl rfl (Pv.gtr rfl rfl) ?_
      refine Rg.pure rfl rfl rfl (Pv.pickT rfl rfl) ?_
      refine Rg.pure rfl rfl rfl (Pv.neqB rfl rfl) ?_
      refine Rg.pure rfl rfl rfl (Pv.pickF rfl rfl) ?_
      refine Rg.nil ?_
      refine Vc.cond rfl (fun h63 => absurd h63 (by rcases h35 with ⟨a, _, b, _⟩ | ⟨a, b, _⟩ <;> rw [b] <;> simp <;> first | omega | (rcases a with a | a <;> first | omega | (rw [← hbb] at a; cases a)))) (fun h63 => ?_)
      refine Vc.skip ?_
      refine Vc.seq ?_
      refine Vc.seq ?_
      refine Vc.text (List.range 2) (sd [(0, .pure), (1, .pure)]) rfl ?_
      refine Rg.pure rfl rfl rfl (Pv.move rfl) ?_
      refine Rg.pure rfl rfl rfl (Pv.not rfl) ?_
      refine Rg.nil ?_
      refine Vc.cond rfl (fun h65 => absurd h65 (by decide)) (fun h65 => ?_)
      refine Vc.skip ?_
      refine Vc.seq ?_
      refine Vc.seq ?_
      refine Vc.text (List.range 6) (sd [(0, .pure), (1, .pure), (2, .pure), (3, .eff), (4, .eff), (5, .pure)]) rfl ?_
      refine Rg.pure rfl rfl rfl (Pv.move rfl) ?_
      refine Rg.pure rfl rfl rfl (Pv.move rfl) ?_
      refine Rg.pure rfl rfl rfl (Pv.move rfl) ?_
      refine Rg.callA rfl rfl rfl (run_callF rfl) (rsorted_spec (Arg.own own frz_sb) (by omega) hR how) ?_
      rintro _ s99 own99
      obtain ⟨q99, c99, rfl⟩ := own99.shape
      refine Rg.callP rfl rfl rfl (run_callF rfl) (rsameR_spec (Arg.own own28 frz_sb) (Arg.own own99 frz_sb) (by omega) (by omega)) ?_
      rintro _ rfl
      refine Rg.pure rfl rfl rfl (Pv.not rfl) ?_
      refine Rg.nil ?_
      refine Vc.cond rfl (fun h101 => absurd h101 (by simp)) (fun h101 => ?_)
      refine Vc.skip ?_
      refine Vc.seq ?_
      refine Vc.seq ?_
      refine Vc.text (List.range 2) (sd [(0, .pure), (1, .pure)]) rfl ?_
      refine Rg.pure rfl rfl rfl (Pv.move rfl) ?_
      refine Rg.pure rfl rfl rfl (Pv.lss rfl rfl) ?_
      refine Rg.nil ?_
      refine Vc.cond rfl (fun h103 => ?_) (fun h103 => ?_)
      ·
        simp only [decide_eq_true_eq] at h103
        obtain ⟨_, rfl, rfl⟩ := h35.resolve_left (fun h => by omega)
        refine Vc.seq ?_
        refine Vc.text (List.range 11) (sd [(0, .pure), (1, .pure), (2, .pure), (3, .pure), (4, .pure), (5, .pure), (6, .pure), (7, .pure), (8, .pure), (9, .pure), (10, .pure)]) rfl ?_
        refine Rg.pure rfl rfl rfl (Pv.move rfl) ?_
        refine Rg.pure rfl rfl rfl (Pv.move rfl) ?_
        refine Rg.split (t := 105) rfl (fun h105 => ?_) (fun h105 => absurd h105 (by decide))
        refine Rg.pure rfl rfl rfl (Pv.move rfl) ?_
        refine Rg.pure rfl rfl rfl (Pv.eql rfl rfl) ?_
        refine Rg.pure rfl rfl rfl (Pv.pickT rfl rfl) ?_
        refine Rg.pure rfl rfl rfl (Pv.move rfl) ?_
        refine Rg.split (t := 109) rfl (fun h109 => ?_) (fun h109 => absurd h109 (by decide))
        refine Rg.pure rfl rfl rfl (Pv.move rfl) ?_
        refine Rg.pure rfl rfl rfl (Pv.lenS rfl) ?_
        refine Rg.pure rfl rfl rfl (Pv.eql rfl rfl) ?_
        refine Rg.pure rfl rfl rfl (Pv.pickT rfl rfl) ?_
        refine Rg.pure rfl rfl rfl (Pv.assign rfl) ?_
        refine Rg.nil ?_
        refine Vc.ret (Vc.rets rfl (.cons (.tmp rfl) (.nil)) ?_)
        rfl
      ·
        simp only [decide_eq_false_iff_not] at h103
        obtain ⟨n, rfl⟩ : ∃ n : Nat, y = n := ⟨y.toNat, by omega⟩
        obtain ⟨_, _, _, vs, s0, s1, own35, owns35, rfl⟩ := h35.resolve_right (fun h => by rw [← hbb] at h; rcases h.1 with h | h <;> first | omega | cases h)
        rw [show (n : Int).toNat = n by simp] at owns35
        simp only [List.append_assoc]
        obtain ⟨q35, c35, rfl⟩ := own35.shape
        have hv35 := owns35.len
        refine Vc.skip ?_
        refine Vc.seq ?_
        refine Vc.text (List.range 5) (sd [(0, .pure), (1, .pure), (2, .pure), (3, .eff), (4, .pure)]) rfl ?_
        refine Rg.pure rfl rfl rfl (Pv.move rfl) ?_
        refine Rg.pure rfl rfl rfl (Pv.move rfl) ?_
        refine Rg.pure rfl rfl rfl (Pv.move rfl) ?_
        refine Rg.callA rfl rfl rfl (run_callF rfl) (rcut_spec (Arg.own own frz_sb) (by omega) hR n (by omega) (by omega) how) ?_
        rintro _ s117 ⟨ws, r0, r1, own117, owns117, rfl⟩
        simp only [List.append_assoc]
        obtain ⟨q117, c117, rfl⟩ := own117.shape
        have hv117 := owns117.len
        have hcl : (cutG n how xs).length ≤ 100 := by
          have := nc_le (n := n) (len := xs.length) (by omega)
          rw [cutG, List.length_map, List.length_range]; omega
        have hclen : ∀ i, i < (cutG n how xs).length → ((cutG n how xs)[i]!).length ≤ 100 := fun i hi => by
          rw [getElem!_pos _ i hi]
          obtain ⟨j, _, e⟩ := List.mem_map.1 (List.getElem_mem hi)
          rw [← e]
          have := sortedG_length how (chunkL n xs j)
          rw [chunkL_length] at this
          omega
        refine Rg.pure rfl rfl rfl (Pv.assign rfl) ?_
        refine Rg.nil ?_
        refine Vc.seq ?_
        refine Vc.seq ?_
        refine Vc.text (List.range 5) (sd [(0, .pure), (1, .pure), (2, .pure), (3, .pure), (4, .pure)]) rfl ?_
        refine Rg.pure rfl rfl rfl (Pv.move rfl) ?_
        refine Rg.pure rfl rfl rfl (Pv.lenS rfl) ?_
        refine Rg.pure rfl rfl rfl (Pv.move rfl) ?_
        refine Rg.pure rfl rfl rfl (Pv.lenS rfl) ?_
        refine Rg.pure rfl rfl rfl (Pv.neq rfl rfl) ?_
        refine Rg.nil ?_
        refine Vc.cond rfl (fun h122 => absurd h122 (by simp; omega)) (fun h122 => ?_)
        refine Vc.skip ?_
        refine Vc.seq ?_
        refine Vc.seq ?_
        refine Vc.text (List.range 1) (sd [(0, .pure)]) rfl ?_
        refine Rg.pure rfl rfl rfl (Pv.assign rfl) ?_
        refine Rg.nil ?_
        refine Vc.block ?_
        refine Vc.loop1 (fun (i : Nat) => i ≤ vs.length) (fun i => [(7, .bool true), (11, .slice q35 vs.length c35), (16, .slice q117 ws.length c117), (17, .int .i64 (i : Int))]) (fun i => s0 ++ (s1 ++ (r0 ++ r1))) (fun i => vs.length - i) 0 (Nat.zero_le _) (.cons rfl (.cons rfl (.cons rfl (.cons rfl .nil)))) pulled ?_
        rintro i hi
        refine Vc.seq ?_
        refine Vc.seq ?_
        refine Vc.text (List.range 4) (sd [(0, .pure), (1, .pure), (2, .pure), (3, .pure)]) rfl ?_
        refine Rg.pure rfl rfl rfl (Pv.move rfl) ?_
        refine Rg.pure rfl rfl rfl (Pv.move rfl) ?_
        refine Rg.pure rfl rfl rfl (Pv.lenS rfl) ?_
        refine Rg.pure rfl rfl rfl (Pv.lss rfl rfl) ?_
        refine Rg.nil ?_
        refine Vc.cond rfl (fun h126 => ?_) (fun h126 => ?_)
        ·
          simp only [decide_eq_true_eq] at h126
          obtain ⟨b35, c35', sp35, e, rfl, _, _⟩ := own35.block (by omega)
          cases e
          obtain ⟨b117, c117', sp117, e, rfl, _, _⟩ := own117.block (by omega)
          cases e
          have hci := hclen i (by omega)
          refine Vc.skip ?_
          refine Vc.seq ?_
          refine Vc.block ?_
          refine Vc.seq ?_
          refine Vc.draw [] (sd [(0, .pure), (1, .pure), (2, .pure), (3, .read), (4, .pure), (5, .pure), (6, .pure), (7, .read), (8, .eff), (9, .pure)]) mixed (by kernel_rfl) ?_
          refine Rg.pure rfl rfl rfl (Pv.move rfl) ?_
          refine Rg.pure rfl rfl rfl (Pv.move rfl) ?_
          refine Rg.pure rfl rfl rfl (Pv.ixA (i) rfl rfl (by omega) (by omega)) ?_
          refine Rg.read rfl rfl rfl (Ev.as vs[i]!.v (Ev.ldR (E := slE) i rfl (Nat.zero_add _) (by omega)) rfl) ?_
          refine Rg.pure rfl rfl rfl (Pv.move rfl) ?_
          refine Rg.pure rfl rfl rfl (Pv.move rfl) ?_
          refine Rg.pure rfl rfl rfl (Pv.ixA (i) rfl rfl (by omega) (by omega)) ?_
          refine Rg.read rfl rfl rfl (Ev.as ws[i]!.v (Ev.ldR (E := slE) i rfl (Nat.zero_add _) (by omega)) rfl) ?_
          refine Rg.callP rfl rfl rfl (run_callF rfl) (rsameR_spec (owns35.arg frz_sb i (by omega)) (owns117.arg frz_sb i (by omega)) (by omega) (by omega)) ?_
          rintro _ rfl
          refine Rg.pure rfl rfl rfl (Pv.not rfl) ?_
          refine Rg.nil ?_
          refine Vc.cond rfl (fun h138 => absurd h138 (by simp)) (fun h138 => ?_)
          refine Vc.skip ?_
          refine Vc.blk ?_
          refine Vc.text (List.range 3) (sd [(0, .pure), (1, .pure), (2, .pure)]) rfl ?_
          refine Rg.pure rfl rfl rfl (Pv.move rfl) ?_
          refine Rg.pure rfl rfl rfl (Pv.asI (i + 1) (Pv.add rfl rfl (by omega)) (by omega)) ?_
          refine Rg.pure rfl rfl rfl (Pv.assign rfl) ?_
          refine Rg.nil ?_
          exact Vc.inv1 (i + 1) ⟨by omega, by omega⟩ (.cons rfl (.cons rfl (.cons rfl (.cons rfl .nil)))) pulled
        ·
          refine Vc.exit rfl ?_
          refine Vc.seq ?_
          refine Vc.text (List.range 2) (sd [(0, .pure), (1, .pure)]) rfl ?_
          refine Rg.pure rfl rfl rfl (Pv.move rfl) ?_
          refine Rg.pure rfl rfl rfl (Pv.assign rfl) ?_
          refine Rg.nil ?_
          refine Vc.ret (Vc.rets rfl (.cons (.tmp rfl) (.nil)) ?_)
          rfl
    ·
      subst h58
      obtain ⟨_, rfl, rfl⟩ := h28.resolve_left (fun h => by rw [← hbb] at h; cases h.1)
      obtain ⟨_, rfl, rfl⟩ := h35.resolve_left (fun h => by rw [← hbb] at h; cases h.2.1)
      iterate 2 (first | refine Rg.skipP rfl rfl rfl ?_ | refine Rg.skipR rfl rfl rfl ?_ | refine Rg.skipE rfl rfl rfl ?_)
      refine Rg.pure rfl rfl rfl (Pv.pickF rfl rfl) ?_
      refine Rg.pure rfl rfl rfl (Pv.neqB rfl rfl) ?_
      refine Rg.pure rfl rfl rfl (Pv.pickF rfl rfl) ?_
      refine Rg.nil ?_
      refine Vc.cond rfl (fun h63 => absurd h63 (by decide)) (fun h63 => ?_)
      refine Vc.skip ?_
      refine Vc.seq ?_
      refine Vc.seq ?_
      refine Vc.text (List.range 2) (sd [(0, .pure), (1, .pure)]) rfl ?_
      refine Rg.pure rfl rfl rfl (Pv.move rfl) ?_
      refine Rg.pure rfl rfl rfl (Pv.not rfl) ?_
      refine Rg.nil ?_
      refine Vc.cond rfl (fun h65 => ?_) (fun h65 => absurd h65 (by decide))
      refine Vc.seq ?_
      refine Vc.text (List.range 9) (sd [(0, .pure), (1, .eff), (2, .pure), (3, .eff), (4, .pure), (5, .pure), (6, .pure), (7, .pure), (8, .pure)]) rfl ?_
      refine Rg.pure rfl rfl rfl (Pv.move rfl) ?_
      refine Rg.bslice1R (E := slE) ⟨q, xs.length, c⟩ rfl rfl rfl rfl rfl rfl rfl (by rfl) (fun b68 own68 => ?_)
      refine Rg.pure rfl rfl rfl (Pv.move rfl) ?_
      refine Rg.callA rfl rfl rfl (run_callF rfl) (merge_spec (ls := [⟨q, xs.length, c⟩]) (xss := [xs]) ⟨Arg.own own68 frz_sb, rfl, fun i hi => (by obtain rfl : i = 0 := (by simp at hi; omega); exact Arg.own own frz_sb)⟩ (by simp) (by simp; omega) (by simpa using hR) how) ?_
      rintro _ s70 ⟨u70, e70, rfl, h70⟩
      obtain ⟨_, rfl, rfl⟩ := h70.resolve_left (fun h => by rw [← hbb] at h; cases h.1)
      refine Rg.pure rfl rfl rfl (Pv.move rfl) ?_
      refine Rg.pure rfl rfl rfl (Pv.extract rfl rfl) ?_
      refine Rg.pure rfl rfl rfl (Pv.extract rfl rfl) ?_
      refine Rg.pure rfl rfl rfl (Pv.assign rfl) ?_
      refine Rg.pure rfl rfl rfl (Pv.assign rfl) ?_
      refine Rg.nil ?_
      refine Vc.seq ?_
      refine Vc.text (List.range 24) (sd [(0, .pure), (1, .pure), (2, .pure), (3, .pure), (4, .pure), (5, .pure), (6, .pure), (7, .pure), (8, .pure), (9, .pure), (10, .pure), (11, .pure), (12, .pure), (13, .pure), (14, .pure), (15, .pure), (16, .pure), (17, .pure), (18, .pure), (19, .pure), (20, .pure), (21, .pure), (22, .pure), (23, .pure)]) rfl ?_
      refine Rg.pure rfl rfl rfl (Pv.move rfl) ?_
      refine Rg.pure rfl rfl rfl (Pv.move rfl) ?_
      refine Rg.split (t := 74) rfl (fun h74 => ?_) (fun h74 => absurd h74 (by decide))
      refine Rg.pure rfl rfl rfl (Pv.move rfl) ?_
      refine Rg.pure rfl rfl rfl (Pv.eql rfl rfl) ?_
      refine Rg.pure rfl rfl rfl (Pv.pickT rfl rfl) ?_
      refine Rg.pure rfl rfl rfl (Pv.move rfl) ?_
      refine Rg.split (t := 78) rfl (fun h78 => ?_) (fun h78 => absurd h78 (by decide))
      refine Rg.pure rfl rfl rfl (Pv.move rfl) ?_
      refine Rg.pure rfl rfl rfl (Pv.eql rfl rfl) ?_
      refine Rg.pure rfl rfl rfl (Pv.pickT rfl rfl) ?_
      refine Rg.pure rfl rfl rfl (Pv.move rfl) ?_
      refine Rg.split (t := 82) rfl (fun h82 => ?_) (fun h82 => absurd h82 (by decide))
      refine Rg.pure rfl rfl rfl (Pv.move rfl) ?_
      refine Rg.pure rfl rfl rfl (Pv.eql rfl rfl) ?_
      refine Rg.pure rfl rfl rfl (Pv.pickT rfl rfl) ?_
      refine Rg.pure rfl rfl rfl (Pv.move rfl) ?_
      refine Rg.split (t := 86) rfl (fun h86 => ?_) (fun h86 => absurd h86 (by decide))
      refine Rg.pure rfl rfl rfl (Pv.move rfl) ?_
      refine Rg.pure rfl rfl rfl (Pv.lenS rfl) ?_
      refine Rg.pure rfl rfl rfl (Pv.eql rfl rfl) ?_
      refine Rg.pure rfl rfl rfl (Pv.pickT rfl rfl) ?_
      refine Rg.pure rfl rfl rfl (Pv.move rfl) ?_
      refine Rg.split (t := 91) rfl (fun h91 => ?_) (fun h91 => absurd h91 (by decide))
      refine Rg.pure rfl rfl rfl (Pv.move rfl) ?_
      refine Rg.pure rfl rfl rfl (Pv.lenS rfl) ?_
      refine Rg.pure rfl rfl rfl (Pv.eql rfl rfl) ?_
      refine Rg.pure rfl rfl rfl (Pv.pickT rfl rfl) ?_
      refine Rg.pure rfl rfl rfl (Pv.assign rfl) ?_
      refine Rg.nil ?_
      refine Vc.ret (Vc.rets rfl (.cons (.tmp rfl) (.nil)) ?_)
      rfl
end Go.Proofs.Ytkkbeljmloikkaa
