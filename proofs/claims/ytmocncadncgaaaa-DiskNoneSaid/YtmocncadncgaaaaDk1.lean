/- The statements' functions: DiskTwice, DiskArms. -/
import Derived.Test.YtmocncadncgaaaaDk0
namespace Go.Proofs.Ytmocncadncgaaaa
set_option linter.unusedVariables false

theorem piece_all (t : List UInt8) (i : Nat) : sameSec t t i = true := by
  unfold sameSec secTo
  rw [decide_eq_true (Nat.min_le_right _ _), decide_eq_true rfl]
  rfl
theorem torn_same (t : List UInt8) (ks : List Bool) : ∀ n, tornG t t ks n = (t, ks)
  | 0 => rfl
  | n + 1 => by rw [tornG_succ, torn_same t ks n, tornStep, if_pos (piece_all t n)]
theorem Arg.upTo {α : Type} {E : Enc α} {F : Fm} {p : Option Addr} {c : Nat} {xs : List α} (h : Arg E F (.slice p xs.length c) xs) (k : Nat) : ∃ b : List α, b.length = min xs.length k ∧ b = xs.take k ∧ min xs.length k ≤ c ∧ Arg E F (.slice p (min xs.length k) c) b :=
  ⟨xs.take k, by simp; omega, rfl, by have := h.cap.2; omega, by
    have := h.take (k := min xs.length k) (Nat.min_le_left _ _)
    rwa [show xs.take (min xs.length k) = xs.take k by rw [List.take_eq_take_iff]; omega] at this⟩

theorem DiskTwice_spec (F : Fm) (v0 v1 v2 : Value) (xs : List UInt8) (l1 l2 : List Bool) (ha : Arg byteE F v0 xs) (h1 : Arg boolE F v1 l1) (h2 : Arg boolE F v2 l2) :
    Spec Try.prog 6 #[v0, v1, v2] F [] fun v _ => v = .bool true := by
  obtain ⟨p0, c0, rfl⟩ := ha.shape
  obtain ⟨p1, c1, rfl⟩ := h1.shape
  obtain ⟨p2, c2, rfl⟩ := h2.shape
  obtain ⟨b, hbl, _, hbc, hb⟩ := ha.upTo 200
  obtain ⟨k1, hk1, _, hkc1, hka1⟩ := h1.upTo 60
  obtain ⟨k2, hk2, _, hkc2, hka2⟩ := h2.upTo 60
  refine Spec.of (n := 113) (vs := [.slice p0 xs.length c0, .slice p1 l1.length c1, .slice p2 l2.length c2]) Try.func6 rfl Try.ntmps6 rfl ?_
  refine Vc.seq ?_
  refine Vc.text (List.range 1) (sd [(0, .pure)]) rfl ?_
  refine Rg.pure rfl rfl rfl (Pv.assign rfl) ?_
  refine Rg.nil ?_
  refine Vc.seq ?_
  refine Vc.text (List.range 2) (sd [(0, .eff), (1, .pure)]) rfl ?_
  refine Rg.callP rfl rfl rfl (run_callF rfl) (shown_spec _) ?_
  rintro _ rfl
  refine Rg.pure rfl rfl rfl (Pv.assign rfl) ?_
  refine Rg.nil ?_
  refine Vc.seq ?_
  refine Vc.text (List.range 6) (sd [(0, .pure), (1, .pure), (2, .pure), (3, .pure), (4, .pure), (5, .pure)]) rfl ?_
  refine Rg.pure rfl rfl rfl (Pv.move rfl) ?_
  refine Rg.pure rfl rfl rfl (Pv.move rfl) ?_
  refine Rg.pure rfl rfl rfl (Pv.lenS rfl) ?_
  refine Rg.pure rfl rfl rfl (Pv.asI (min xs.length 200) (Pv.min rfl rfl) (by omega)) ?_
  refine Rg.pure rfl rfl rfl (Pv.slTo (min xs.length 200) rfl rfl (by omega)) ?_
  refine Rg.pure rfl rfl rfl (Pv.assign rfl) ?_
  refine Rg.nil ?_
  refine Vc.seq ?_
  refine Vc.text (List.range 2) (sd [(0, .eff), (1, .pure)]) rfl ?_
  refine Rg.callA rfl rfl rfl (run_callF rfl) (new_w _ 100 100 (by decide)) ?_
  rintro _ s23 ⟨db, rfl, hD, hw⟩
  refine Rg.pure rfl rfl rfl (Pv.assign rfl) ?_
  refine Rg.nil ?_
  refine Vc.seq ?_
  refine Vc.seq ?_
  refine Vc.text (List.range 13) (sd [(0, .pure), (1, .pure), (2, .pure), (3, .pure), (4, .eff), (5, .pure), (6, .pure), (7, .pure), (8, .pure), (9, .pure), (10, .eff), (11, .pure), (12, .pure)]) rfl ?_
  refine Rg.pure rfl rfl rfl (Pv.move rfl) ?_
  refine Rg.pure rfl rfl rfl (Pv.eqlNil rfl rfl) ?_
  refine Rg.pure rfl rfl rfl (Pv.move rfl) ?_
  refine Rg.split (t := 26) rfl (fun h26 => absurd h26 (by (cases h26))) (fun h26 => ?_)
  refine Rg.pure rfl rfl rfl (Pv.move rfl) ?_
  refine Rg.callH rfl rfl rfl (run_callF rfl) (fun F' hF' => create_w (F := F') hD hw (by omega) (by omega) [102] (create1 (by decide))) rfl ?_
  rintro _ s28 ⟨rfl, hD28, hw28⟩
  refine Rg.pure rfl rfl rfl (Pv.neq rfl rfl) ?_
  refine Rg.pure rfl rfl rfl (Pv.pickF rfl rfl) ?_
  refine Rg.pure rfl rfl rfl (Pv.move rfl) ?_
  refine Rg.split (t := 31) rfl (fun h31 => absurd h31 (by decide)) (fun h31 => ?_)
  refine Rg.pure rfl rfl rfl (Pv.move rfl) ?_
  refine Rg.pure rfl rfl rfl (Pv.move rfl) ?_
  refine Rg.callH rfl rfl rfl (run_callF rfl) (fun F' hF' => append_w (F := F') hD28 hw28 (by omega) (by omega) [102] (hb.mono fun b o h => hF' b o (.inr h)) (by omega) (app1 b (by simp [secs]; omega))) rfl ?_
  rintro _ s34 ⟨rfl, hD34, hw34⟩
  rw [List.nil_append] at hD34 hw34
  refine Rg.pure rfl rfl rfl (Pv.neq rfl rfl) ?_
  refine Rg.pure rfl rfl rfl (Pv.pickF rfl rfl) ?_
  refine Rg.nil ?_
  refine Vc.cond rfl (fun h36 => absurd h36 (by decide)) (fun h36 => ?_)
  refine Vc.skip ?_
  refine Vc.seq ?_
  refine Vc.text (List.range 7) (sd [(0, .pure), (1, .pure), (2, .pure), (3, .pure), (4, .pure), (5, .pure), (6, .eff)]) rfl ?_
  refine Rg.pure rfl rfl rfl (Pv.move rfl) ?_
  refine Rg.pure rfl rfl rfl (Pv.move rfl) ?_
  refine Rg.pure rfl rfl rfl (Pv.move rfl) ?_
  refine Rg.pure rfl rfl rfl (Pv.lenS rfl) ?_
  refine Rg.pure rfl rfl rfl (Pv.asI (min l1.length 60) (Pv.min rfl rfl) (by omega)) ?_
  refine Rg.pure rfl rfl rfl (Pv.slTo (min l1.length 60) rfl rfl (by omega)) ?_
  refine Rg.callH rfl rfl rfl (run_callF rfl) (fun F' hF' => crash_w (F := F') hD34 hw34 (by omega) (by omega) (hka1.mono fun b o h => hF' b o (.inr h)) (crash1 k1)) rfl ?_
  rintro v43 s43 ⟨hD43, hw43⟩
  have htl := (hw43.find find1).1
  generalize (tornG b [] k1 (secs b.length)).1 = t at hD43 hw43 htl
  replace htl : t.length ≤ 0 + b.length := htl
  refine Rg.nil ?_
  refine Vc.seq ?_
  refine Vc.text (List.range 7) (sd [(0, .pure), (1, .pure), (2, .pure), (3, .pure), (4, .pure), (5, .pure), (6, .eff)]) rfl ?_
  refine Rg.pure rfl rfl rfl (Pv.move rfl) ?_
  refine Rg.pure rfl rfl rfl (Pv.move rfl) ?_
  refine Rg.pure rfl rfl rfl (Pv.move rfl) ?_
  refine Rg.pure rfl rfl rfl (Pv.lenS rfl) ?_
  refine Rg.pure rfl rfl rfl (Pv.asI (min l2.length 60) (Pv.min rfl rfl) (by omega)) ?_
  refine Rg.pure rfl rfl rfl (Pv.slTo (min l2.length 60) rfl rfl (by omega)) ?_
  refine Rg.callH rfl rfl rfl (run_callF rfl) (fun F' hF' => crash_w (F := F') hD43 hw43 (by omega) (by omega) (hka2.mono fun b o h => hF' b o (.inr h)) (crash1d k2)) rfl ?_
  rintro v50 s50 ⟨hD50, hw50⟩
  refine Rg.nil ?_
  refine Vc.seq ?_
  refine Vc.text (List.range 2) (sd [(0, .pure), (1, .eff)]) rfl ?_
  refine Rg.pure rfl rfl rfl (Pv.move rfl) ?_
  refine Rg.callH rfl rfl rfl (run_callF rfl) (fun F' hF' => restart_w (F := F') hD50 hw50) rfl ?_
  rintro v52 s52 ⟨hD52, hw52⟩
  refine Rg.nil ?_
  refine Vc.seq ?_
  refine Vc.text (List.range 7) (sd [(0, .pure), (1, .eff), (2, .pure), (3, .pure), (4, .pure), (5, .pure), (6, .pure)]) rfl ?_
  refine Rg.pure rfl rfl rfl (Pv.move rfl) ?_
  refine Rg.callH rfl rfl rfl (run_callF rfl) (fun F' hF' => size_w (F := F') hD52 hw52 (by omega) (by omega) [102] size1 (congrArg Prod.snd begins1)) rfl ?_
  rintro _ s55 ⟨rfl, hD55, hw55⟩
  refine Rg.pure rfl rfl rfl (Pv.move rfl) ?_
  refine Rg.pure rfl rfl rfl (Pv.extract rfl rfl) ?_
  refine Rg.pure rfl rfl rfl (Pv.extract rfl rfl) ?_
  refine Rg.pure rfl rfl rfl (Pv.assign rfl) ?_
  refine Rg.pure rfl rfl rfl (Pv.assign rfl) ?_
  refine Rg.nil ?_
  refine Vc.seq ?_
  refine Vc.text (List.range 8) (sd [(0, .pure), (1, .pure), (2, .eff), (3, .pure), (4, .pure), (5, .pure), (6, .pure), (7, .pure)]) rfl ?_
  refine Rg.pure rfl rfl rfl (Pv.move rfl) ?_
  refine Rg.pure rfl rfl rfl (Pv.move rfl) ?_
  refine Rg.callH rfl rfl rfl (run_callF rfl) (fun F' hF' => readAt_w (F := F') hD55 hw55 (by omega) (by omega) [102] 0 (t.length : Nat) read1all (congrArg Prod.snd begins1)) rfl ?_
  rintro _ _ ⟨u61, q61, s61, rfl, own61, hD61, hw61, rfl⟩
  rw [List.append_assoc]
  refine Rg.pure rfl rfl rfl (Pv.move rfl) ?_
  refine Rg.pure rfl rfl rfl (Pv.extract rfl rfl) ?_
  refine Rg.pure rfl rfl rfl (Pv.extract rfl rfl) ?_
  refine Rg.pure rfl rfl rfl (Pv.assign rfl) ?_
  refine Rg.pure rfl rfl rfl (Pv.assign rfl) ?_
  refine Rg.nil ?_
  refine Vc.seq ?_
  refine Vc.text (List.range 7) (sd [(0, .pure), (1, .pure), (2, .pure), (3, .pure), (4, .pure), (5, .pure), (6, .eff)]) rfl ?_
  refine Rg.pure rfl rfl rfl (Pv.move rfl) ?_
  refine Rg.pure rfl rfl rfl (Pv.move rfl) ?_
  refine Rg.pure rfl rfl rfl (Pv.move rfl) ?_
  refine Rg.pure rfl rfl rfl (Pv.lenS rfl) ?_
  refine Rg.pure rfl rfl rfl (Pv.asI (min l2.length 60) (Pv.min rfl rfl) (by omega)) ?_
  refine Rg.pure rfl rfl rfl (Pv.slTo (min l2.length 60) rfl rfl (by omega)) ?_
  refine Rg.callH rfl rfl rfl (run_callF rfl) (fun F' hF' => crash_w (F := F') hD61 hw61 (by omega) (by omega) (hka2.mono fun b o h => hF' b o (.inr h)) (crash1 k2)) rfl ?_
  rintro v70 s70 ⟨hD70, hw70⟩
  rw [torn_same] at hD70 hw70
  refine Rg.nil ?_
  refine Vc.seq ?_
  refine Vc.text (List.range 2) (sd [(0, .pure), (1, .eff)]) rfl ?_
  refine Rg.pure rfl rfl rfl (Pv.move rfl) ?_
  refine Rg.callH rfl rfl rfl (run_callF rfl) (fun F' hF' => restart_w (F := F') hD70 hw70) rfl ?_
  rintro v72 s72 ⟨hD72, hw72⟩
  refine Rg.nil ?_
  refine Vc.seq ?_
  refine Vc.text (List.range 7) (sd [(0, .pure), (1, .eff), (2, .pure), (3, .pure), (4, .pure), (5, .pure), (6, .pure)]) rfl ?_
  refine Rg.pure rfl rfl rfl (Pv.move rfl) ?_
  refine Rg.callH rfl rfl rfl (run_callF rfl) (fun F' hF' => size_w (F := F') hD72 hw72 (by omega) (by omega) [102] size1 (congrArg Prod.snd begins1)) rfl ?_
  rintro _ s75 ⟨rfl, hD75, hw75⟩
  refine Rg.pure rfl rfl rfl (Pv.move rfl) ?_
  refine Rg.pure rfl rfl rfl (Pv.extract rfl rfl) ?_
  refine Rg.pure rfl rfl rfl (Pv.extract rfl rfl) ?_
  refine Rg.pure rfl rfl rfl (Pv.assign rfl) ?_
  refine Rg.pure rfl rfl rfl (Pv.assign rfl) ?_
  refine Rg.nil ?_
  refine Vc.seq ?_
  refine Vc.text (List.range 8) (sd [(0, .pure), (1, .pure), (2, .eff), (3, .pure), (4, .pure), (5, .pure), (6, .pure), (7, .pure)]) rfl ?_
  refine Rg.pure rfl rfl rfl (Pv.move rfl) ?_
  refine Rg.pure rfl rfl rfl (Pv.move rfl) ?_
  refine Rg.callH rfl rfl rfl (run_callF rfl) (fun F' hF' => readAt_w (F := F') hD75 hw75 (by omega) (by omega) [102] 0 (t.length : Nat) read1all (congrArg Prod.snd begins1)) rfl ?_
  rintro _ _ ⟨u81, q81, s81, rfl, own81, hD81, hw81, rfl⟩
  rw [List.append_assoc]
  refine Rg.pure rfl rfl rfl (Pv.move rfl) ?_
  refine Rg.pure rfl rfl rfl (Pv.extract rfl rfl) ?_
  refine Rg.pure rfl rfl rfl (Pv.extract rfl rfl) ?_
  refine Rg.pure rfl rfl rfl (Pv.assign rfl) ?_
  refine Rg.pure rfl rfl rfl (Pv.assign rfl) ?_
  refine Rg.nil ?_
  refine Vc.seq ?_
  refine Vc.text (List.range 30) (sd [(0, .pure), (1, .pure), (2, .pure), (3, .pure), (4, .pure), (5, .pure), (6, .pure), (7, .pure), (8, .pure), (9, .pure), (10, .pure), (11, .pure), (12, .pure), (13, .pure), (14, .pure), (15, .pure), (16, .pure), (17, .pure), (18, .pure), (19, .pure), (20, .pure), (21, .pure), (22, .pure), (23, .pure), (24, .read), (25, .pure), (26, .read), (27, .pure), (28, .pure), (29, .pure)]) rfl ?_
  refine Rg.pure rfl rfl rfl (Pv.move rfl) ?_
  refine Rg.pure rfl rfl rfl (Pv.move rfl) ?_
  refine Rg.split (t := 85) rfl (fun h85 => ?_) (fun h85 => absurd h85 (by decide))
  refine Rg.pure rfl rfl rfl (Pv.move rfl) ?_
  refine Rg.pure rfl rfl rfl (Pv.eql rfl rfl) ?_
  refine Rg.pure rfl rfl rfl (Pv.pickT rfl rfl) ?_
  refine Rg.pure rfl rfl rfl (Pv.move rfl) ?_
  refine Rg.split (t := 89) rfl (fun h89 => ?_) (fun h89 => absurd h89 (by decide))
  refine Rg.pure rfl rfl rfl (Pv.move rfl) ?_
  refine Rg.pure rfl rfl rfl (Pv.eql rfl rfl) ?_
  refine Rg.pure rfl rfl rfl (Pv.pickT rfl rfl) ?_
  refine Rg.pure rfl rfl rfl (Pv.move rfl) ?_
  refine Rg.split (t := 93) rfl (fun h93 => ?_) (fun h93 => absurd h93 (by decide))
  refine Rg.pure rfl rfl rfl (Pv.move rfl) ?_
  refine Rg.pure rfl rfl rfl (Pv.eql rfl rfl) ?_
  refine Rg.pure rfl rfl rfl (Pv.pickT rfl rfl) ?_
  refine Rg.pure rfl rfl rfl (Pv.move rfl) ?_
  refine Rg.split (t := 97) rfl (fun h97 => ?_) (fun h97 => absurd h97 (by decide))
  refine Rg.pure rfl rfl rfl (Pv.move rfl) ?_
  refine Rg.pure rfl rfl rfl (Pv.eql rfl rfl) ?_
  refine Rg.pure rfl rfl rfl (Pv.pickT rfl rfl) ?_
  refine Rg.pure rfl rfl rfl (Pv.move rfl) ?_
  refine Rg.split (t := 101) rfl (fun h101 => ?_) (fun h101 => absurd h101 (by decide))
  refine Rg.pure rfl rfl rfl (Pv.move rfl) ?_
  refine Rg.pure rfl rfl rfl (Pv.move rfl) ?_
  refine Rg.pure rfl rfl rfl (Pv.eql rfl rfl) ?_
  refine Rg.pure rfl rfl rfl (Pv.pickT rfl rfl) ?_
  refine Rg.pure rfl rfl rfl (Pv.move rfl) ?_
  refine Rg.split (t := 106) rfl (fun h106 => ?_) (fun h106 => absurd h106 (by simp))
  refine Rg.pure rfl rfl rfl (Pv.move rfl) ?_
  refine Rg.read rfl rfl rfl (Ev.str ((Arg.own (F := frz F q61) own61 fun b o hb => Or.inl hb).srcF) rfl) ?_
  refine Rg.pure rfl rfl rfl (Pv.move rfl) ?_
  refine Rg.read rfl rfl rfl (Ev.str ((Arg.own (F := frz F q81) own81 fun b o hb => Or.inl hb).srcF) rfl) ?_
  refine Rg.pure rfl rfl rfl (Pv.eqlS rfl rfl) ?_
  refine Rg.pure rfl rfl rfl (Pv.pickT rfl rfl) ?_
  refine Rg.pure rfl rfl rfl (Pv.assign rfl) ?_
  refine Rg.nil ?_
  refine Vc.ret (Vc.rets rfl (.cons (.tmp rfl) (.nil)) ?_)
  exact congrArg Value.bool (by simp)

/-! ### Armed -/
def armD (n j : Nat) : Dk := ⟨[([102], ⟨[], []⟩)], 10, 0, 1 + j, if j < n then (n : Int) - j else 0, [], decide (n ≤ j)⟩
theorem crash_empty (ops : Int) : crashD [] ⟨[([102], ⟨[], []⟩)], 10, 0, ops, 0, [], false⟩ = ⟨[([102], ⟨[], []⟩)], 10, 0, ops, 0, [], true⟩ := by
  have := crash1 (k := [102]) (now := []) (sy := []) (room := 10) (ops := ops) []
  rw [torn_same] at this
  exact this
theorem arm_begins {n j : Nat} (hn : 1 ≤ n) : beginsD (armD n j) = (if n ≤ j + 1 then 7 else 0, armD n (j + 1)) := by
  have e1 : (1 + (j : Int) + 1) = 1 + ((j + 1 : Nat) : Int) := by omega
  have e2 : (n : Int) - j - 1 = n - ((j + 1 : Nat) : Int) := by omega
  by_cases h : j < n
  · have hd : decide (n ≤ j) = false := decide_eq_false (by omega)
    have e0 : armD n j = ⟨[([102], ⟨[], []⟩)], 10, 0, 1 + j, (n : Int) - j, [], false⟩ := by rw [armD, if_pos h, hd]
    rw [e0]
    simp only [beginsD]
    rw [if_pos (show 0 < (n : Int) - j by omega)]
    by_cases h1 : j + 1 < n
    · rw [if_neg (show ¬ (n : Int) - j - 1 = 0 by omega), if_neg (show ¬ n ≤ j + 1 by omega), armD, if_pos h1, decide_eq_false (show ¬ n ≤ j + 1 by omega), e1, e2]
      rfl
    · rw [if_pos (show (n : Int) - j - 1 = 0 by omega), if_pos (show n ≤ j + 1 by omega), crash_empty, armD, if_neg h1, decide_eq_true (show n ≤ j + 1 by omega), e1]
      rfl
  · have e0 : armD n j = ⟨[([102], ⟨[], []⟩)], 10, 0, 1 + j, 0, [], true⟩ := by rw [armD, if_neg h, decide_eq_true (by omega)]
    rw [e0, begins_dn rfl rfl, if_pos (by omega), armD, if_neg (by omega), decide_eq_true (by omega), ← e1]
theorem arm_size {n j : Nat} (hn : 1 ≤ n) : sizeD (armD n j) [102] = (0, if n ≤ j + 1 then 7 else 0) := by
  unfold sizeD
  rw [arm_begins hn]
  by_cases h : n ≤ j + 1
  · simp only [if_pos h]
    rfl
  · simp only [if_neg h]
    have : findF (armD n (j + 1)).files [102] = some ⟨[], []⟩ := rfl
    rw [this]
    rfl

theorem DiskArms_spec (F : Fm) (n0 m0 : Int) : Spec Try.prog 4 #[.int .i64 n0, .int .i64 m0] F [] fun v _ => v = .bool true := by
  obtain ⟨n, hn⟩ : ∃ n, n = 1 + andN n0 65535 % 20 := ⟨_, rfl⟩
  obtain ⟨m, hm⟩ : ∃ m, m = andN m0 65535 % 31 := ⟨_, rfl⟩
  have hn1 : 1 ≤ n := by omega
  have hn20 : n ≤ 20 := by omega
  have hm30 : m ≤ 30 := by omega
  refine Spec.of (n := 84) (vs := [.int .i64 n0, .int .i64 m0]) Try.func4 rfl Try.ntmps4 rfl ?_
  refine Vc.seq ?_
  refine Vc.text (List.range 1) (sd [(0, .pure)]) rfl ?_
  refine Rg.pure rfl rfl rfl (Pv.assign rfl) ?_
  refine Rg.nil ?_
  refine Vc.seq ?_
  refine Vc.text (List.range 2) (sd [(0, .eff), (1, .pure)]) rfl ?_
  refine Rg.callP rfl rfl rfl (run_callF rfl) (shown_spec _) ?_
  rintro _ rfl
  refine Rg.pure rfl rfl rfl (Pv.assign rfl) ?_
  refine Rg.nil ?_
  refine Vc.seq ?_
  refine Vc.text (List.range 5) (sd [(0, .pure), (1, .pure), (2, .pure), (3, .pure), (4, .pure)]) rfl ?_
  refine Rg.pure rfl rfl rfl (Pv.move rfl) ?_
  refine Rg.pure rfl rfl rfl (Pv.and rfl rfl (by omega)) ?_
  refine Rg.pure rfl rfl rfl (Pv.rem rfl rfl (by omega)) ?_
  refine Rg.pure rfl rfl rfl (Pv.asI (n) (Pv.add rfl rfl (by omega)) (by omega)) ?_
  refine Rg.pure rfl rfl rfl (Pv.assign rfl) ?_
  refine Rg.nil ?_
  refine Vc.seq ?_
  refine Vc.text (List.range 4) (sd [(0, .pure), (1, .pure), (2, .pure), (3, .pure)]) rfl ?_
  refine Rg.pure rfl rfl rfl (Pv.move rfl) ?_
  refine Rg.pure rfl rfl rfl (Pv.and rfl rfl (by omega)) ?_
  refine Rg.pure rfl rfl rfl (Pv.asI (m) (Pv.rem rfl rfl (by omega)) (by omega)) ?_
  refine Rg.pure rfl rfl rfl (Pv.assign rfl) ?_
  refine Rg.nil ?_
  refine Vc.seq ?_
  refine Vc.text (List.range 2) (sd [(0, .eff), (1, .pure)]) rfl ?_
  refine Rg.callA rfl rfl rfl (run_callF rfl) (new_w _ 10 10 (by decide)) ?_
  rintro _ s20 ⟨db, rfl, hD, hw⟩
  refine Rg.pure rfl rfl rfl (Pv.assign rfl) ?_
  refine Rg.nil ?_
  refine Vc.seq ?_
  refine Vc.seq ?_
  refine Vc.text (List.range 7) (sd [(0, .pure), (1, .pure), (2, .pure), (3, .pure), (4, .eff), (5, .pure), (6, .pure)]) rfl ?_
  refine Rg.pure rfl rfl rfl (Pv.move rfl) ?_
  refine Rg.pure rfl rfl rfl (Pv.eqlNil rfl rfl) ?_
  refine Rg.pure rfl rfl rfl (Pv.move rfl) ?_
  refine Rg.split (t := 23) rfl (fun h23 => absurd h23 (by (cases h23))) (fun h23 => ?_)
  refine Rg.pure rfl rfl rfl (Pv.move rfl) ?_
  refine Rg.callH rfl rfl rfl (run_callF rfl) (fun F' hF' => create_w (F := F') hD hw (by omega) (by omega) [102] (create1 (by decide))) rfl ?_
  rintro _ s25 ⟨rfl, hD25, hw25⟩
  refine Rg.pure rfl rfl rfl (Pv.neq rfl rfl) ?_
  refine Rg.pure rfl rfl rfl (Pv.pickF rfl rfl) ?_
  refine Rg.nil ?_
  refine Vc.cond rfl (fun h27 => absurd h27 (by decide)) (fun h27 => ?_)
  refine Vc.skip ?_
  refine Vc.seq ?_
  refine Vc.text (List.range 3) (sd [(0, .pure), (1, .pure), (2, .eff)]) rfl ?_
  refine Rg.pure rfl rfl rfl (Pv.move rfl) ?_
  refine Rg.pure rfl rfl rfl (Pv.move rfl) ?_
  refine Rg.callH rfl rfl rfl (run_callF rfl) (fun F' hF' => arm_w (F := F') hD25 hw25 (n : Int) (by omega) Arg.nilB (by simp)) rfl ?_
  rintro v30 s30 ⟨hD30, hw30⟩
  have e30 : ({ (d1 [102] ⟨[], []⟩ 10 (0 + 1) false) with armed := max (n : Int) 0, keep := [] } : Dk) = armD n 0 := by
    have h1 : max (n : Int) 0 = (n : Int) - ((0 : Nat) : Int) := by omega
    rw [h1, armD, if_pos (by omega), decide_eq_false (by omega)]
    rfl
  rw [e30] at hD30 hw30
  refine Rg.nil ?_
  refine Vc.seq ?_
  refine Vc.seq ?_
  refine Vc.text (List.range 1) (sd [(0, .pure)]) rfl ?_
  refine Rg.pure rfl rfl rfl (Pv.assign rfl) ?_
  refine Rg.nil ?_
  refine Vc.block ?_
  refine Vc.loop2 (fun (j : Nat) (s : Hl) => j ≤ m ∧ DiskAt db (armD n j) s ∧ Dw (1 + j) 0 (armD n j)) (fun j s => [(0, .int .i64 (n : Int)), (1, .int .i64 (m : Int)), (5, .bool true), (6, .pointer (some ⟨db, 0, none⟩)), (7, .int .i64 ((j + 1 : Nat) : Int))]) (fun j s => s) (fun j s => m - j) 0 s30 ⟨Nat.zero_le _, hD30, hw30⟩ (.cons rfl (.cons rfl (.cons rfl (.cons rfl (.cons rfl .nil))))) pulled ?_
  rintro j s ⟨hj, hD, hw⟩
  refine Vc.seq ?_
  refine Vc.seq ?_
  refine Vc.text (List.range 3) (sd [(0, .pure), (1, .pure), (2, .pure)]) rfl ?_
  refine Rg.pure rfl rfl rfl (Pv.move rfl) ?_
  refine Rg.pure rfl rfl rfl (Pv.move rfl) ?_
  refine Rg.pure rfl rfl rfl (Pv.leq rfl rfl) ?_
  refine Rg.nil ?_
  refine Vc.cond rfl (fun h33 => ?_) (fun h33 => ?_)
  ·
    simp only [decide_eq_true_eq] at h33
    refine Vc.skip ?_
    refine Vc.seq ?_
    refine Vc.block ?_
    refine Vc.seq ?_
    refine Vc.text (List.range 7) (sd [(0, .pure), (1, .eff), (2, .pure), (3, .pure), (4, .pure), (5, .pure), (6, .pure)]) rfl ?_
    refine Rg.pure rfl rfl rfl (Pv.move rfl) ?_
    refine Rg.callH rfl rfl rfl (run_callF rfl) (fun F' hF' => size_w (F := F') hD hw (by omega) (by omega) [102] (arm_size hn1) (congrArg Prod.snd (arm_begins hn1))) rfl ?_
    rintro _ s38 ⟨rfl, hD38, hw38⟩
    refine Rg.pure rfl rfl rfl (Pv.move rfl) ?_
    refine Rg.pure rfl rfl rfl (Pv.extract rfl rfl) ?_
    refine Rg.pure rfl rfl rfl (Pv.extract rfl rfl) ?_
    refine Rg.pure rfl rfl rfl (Pv.assign rfl) ?_
    refine Rg.pure rfl rfl rfl (Pv.assign rfl) ?_
    refine Rg.nil ?_
    refine Vc.seq ?_
    refine Vc.text (List.range 29) (sd [(0, .pure), (1, .pure), (2, .pure), (3, .pure), (4, .pure), (5, .pure), (6, .pure), (7, .pure), (8, .eff), (9, .pure), (10, .pure), (11, .pure), (12, .pure), (13, .pure), (14, .pure), (15, .pure), (16, .pure), (17, .pure), (18, .pure), (19, .pure), (20, .pure), (21, .pure), (22, .pure), (23, .pure), (24, .eff), (25, .pure), (26, .pure), (27, .pure), (28, .pure)]) rfl ?_
    refine Rg.pure rfl rfl rfl (Pv.move rfl) ?_
    refine Rg.pure rfl rfl rfl (Pv.eql rfl rfl) ?_
    refine Rg.pure rfl rfl rfl (Pv.move rfl) ?_
    refine Rg.pure rfl rfl rfl (Pv.move rfl) ?_
    refine Rg.pure rfl rfl rfl (Pv.geq rfl rfl) ?_
    refine Rg.pure rfl rfl rfl (Pv.neqB rfl rfl) ?_
    refine Rg.pure rfl rfl rfl (Pv.move rfl) ?_
    refine Rg.split (t := 47) rfl (fun h47 => absurd h47 (by by_cases h : n ≤ j + 1 <;> simp [h] <;> omega)) (fun h47 => ?_)
    refine Rg.pure rfl rfl rfl (Pv.move rfl) ?_
    refine Rg.callP rfl rfl rfl (run_callF rfl) (downD_spec hD38 frz_sb) ?_
    rintro _ rfl
    refine Rg.pure rfl rfl rfl (Pv.move rfl) ?_
    refine Rg.pure rfl rfl rfl (Pv.move rfl) ?_
    refine Rg.pure rfl rfl rfl (Pv.geq rfl rfl) ?_
    refine Rg.pure rfl rfl rfl (Pv.neqB rfl rfl) ?_
    refine Rg.pure rfl rfl rfl (Pv.pickF rfl rfl) ?_
    refine Rg.pure rfl rfl rfl (Pv.move rfl) ?_
    refine Rg.split (t := 55) rfl (fun h55 => absurd h55 (by simp [armD]; by_cases h : n ≤ j + 1 <;> simp [h] <;> omega)) (fun h55 => ?_)
    refine Rg.pure rfl rfl rfl (Pv.move rfl) ?_
    refine Rg.pure rfl rfl rfl (Pv.neq rfl rfl) ?_
    refine Rg.pure rfl rfl rfl (Pv.move rfl) ?_
    refine Rg.split (t := 58) rfl (fun h58 => ?_) (fun h58 => ?_)
    ·
      simp only [bne_iff_ne, ne_eq] at h58
      have hnj : n ≤ j + 1 := by by_cases h : n ≤ j + 1; exact h; rw [if_neg h] at h58; exact absurd rfl h58
      refine Rg.pure rfl rfl rfl (Pv.move rfl) ?_
      refine Rg.pure rfl rfl rfl (Pv.neq rfl rfl) ?_
      refine Rg.pure rfl rfl rfl (Pv.pickT rfl rfl) ?_
      refine Rg.pure rfl rfl rfl (Pv.pickF rfl rfl) ?_
      refine Rg.pure rfl rfl rfl (Pv.move rfl) ?_
      refine Rg.split (t := 63) rfl (fun h63 => absurd h63 (by simp [hnj])) (fun h63 => ?_)
      refine Rg.pure rfl rfl rfl (Pv.move rfl) ?_
      refine Rg.callP rfl rfl rfl (run_callF rfl) (opsD_spec hD38 frz_sb) ?_
      rintro _ rfl
      refine Rg.pure rfl rfl rfl (Pv.move rfl) ?_
      refine Rg.pure rfl rfl rfl (Pv.add rfl rfl (by omega)) ?_
      refine Rg.pure rfl rfl rfl (Pv.neq rfl rfl) ?_
      refine Rg.pure rfl rfl rfl (Pv.pickF rfl rfl) ?_
      refine Rg.nil ?_
      refine Vc.cond rfl (fun h69 => absurd h69 (by simp [armD]; omega)) (fun h69 => ?_)
      refine Vc.skip ?_
      refine Vc.blk ?_
      refine Vc.text (List.range 3) (sd [(0, .pure), (1, .pure), (2, .pure)]) rfl ?_
      refine Rg.pure rfl rfl rfl (Pv.move rfl) ?_
      refine Rg.pure rfl rfl rfl (Pv.add rfl rfl (by omega)) ?_
      refine Rg.pure rfl rfl rfl (Pv.assign rfl) ?_
      refine Rg.nil ?_
      exact Vc.inv2 (j + 1) s38 ⟨⟨by omega, hD38, by rw [show 1 + (j + 1) = 1 + j + 1 by omega]; exact hw38⟩, by omega⟩ (.cons rfl (.cons rfl (.cons rfl (.cons rfl (.cons rfl .nil))))) pulled
    ·
      iterate 2 (first | refine Rg.skipP rfl rfl rfl ?_ | refine Rg.skipR rfl rfl rfl ?_ | refine Rg.skipE rfl rfl rfl ?_)
      refine Rg.pure rfl rfl rfl (Pv.pickF rfl rfl) ?_
      refine Rg.pure rfl rfl rfl (Pv.pickF rfl rfl) ?_
      refine Rg.pure rfl rfl rfl (Pv.move rfl) ?_
      refine Rg.pure rfl rfl rfl (Pv.move rfl) ?_
      refine Rg.callP rfl rfl rfl (run_callF rfl) (opsD_spec hD38 frz_sb) ?_
      rintro _ rfl
      refine Rg.pure rfl rfl rfl (Pv.move rfl) ?_
      refine Rg.pure rfl rfl rfl (Pv.add rfl rfl (by omega)) ?_
      refine Rg.pure rfl rfl rfl (Pv.neq rfl rfl) ?_
      refine Rg.pure rfl rfl rfl (Pv.pickF rfl rfl) ?_
      refine Rg.nil ?_
      refine Vc.cond rfl (fun h69 => absurd h69 (by simp [armD]; omega)) (fun h69 => ?_)
      refine Vc.skip ?_
      refine Vc.blk ?_
      refine Vc.text (List.range 3) (sd [(0, .pure), (1, .pure), (2, .pure)]) rfl ?_
      refine Rg.pure rfl rfl rfl (Pv.move rfl) ?_
      refine Rg.pure rfl rfl rfl (Pv.add rfl rfl (by omega)) ?_
      refine Rg.pure rfl rfl rfl (Pv.assign rfl) ?_
      refine Rg.nil ?_
      exact Vc.inv2 (j + 1) s38 ⟨⟨by omega, hD38, by rw [show 1 + (j + 1) = 1 + j + 1 by omega]; exact hw38⟩, by omega⟩ (.cons rfl (.cons rfl (.cons rfl (.cons rfl (.cons rfl .nil))))) pulled
  ·
    simp only [decide_eq_false_iff_not] at h33
    refine Vc.exit rfl ?_
    refine Vc.seq ?_
    refine Vc.text (List.range 2) (sd [(0, .pure), (1, .eff)]) rfl ?_
    refine Rg.pure rfl rfl rfl (Pv.move rfl) ?_
    refine Rg.callH rfl rfl rfl (run_callF rfl) (fun F' hF' => arm_w (F := F') hD hw 0 (by omega) Arg.nilB (by simp)) rfl ?_
    rintro v71 s71 ⟨hD71, hw71⟩
    refine Rg.nil ?_
    refine Vc.seq ?_
    refine Vc.text (List.range 2) (sd [(0, .pure), (1, .eff)]) rfl ?_
    refine Rg.pure rfl rfl rfl (Pv.move rfl) ?_
    refine Rg.callH rfl rfl rfl (run_callF rfl) (fun F' hF' => restart_w (F := F') hD71 hw71) rfl ?_
    rintro v73 s73 ⟨hD73, hw73⟩
    have e73 : ({ ({ armD n j with armed := max 0 0, keep := [] } : Dk) with down := false } : Dk) = d1 [102] ⟨[], []⟩ 10 (1 + j) false := rfl
    rw [e73] at hD73 hw73
    refine Rg.nil ?_
    refine Vc.seq ?_
    refine Vc.text (List.range 7) (sd [(0, .pure), (1, .eff), (2, .pure), (3, .pure), (4, .pure), (5, .pure), (6, .pure)]) rfl ?_
    refine Rg.pure rfl rfl rfl (Pv.move rfl) ?_
    refine Rg.callH rfl rfl rfl (run_callF rfl) (fun F' hF' => size_w (F := F') hD73 hw73 (by omega) (by omega) [102] size1 (congrArg Prod.snd begins1)) rfl ?_
    rintro _ s76 ⟨rfl, hD76, hw76⟩
    refine Rg.pure rfl rfl rfl (Pv.move rfl) ?_
    refine Rg.pure rfl rfl rfl (Pv.extract rfl rfl) ?_
    refine Rg.pure rfl rfl rfl (Pv.extract rfl rfl) ?_
    refine Rg.pure rfl rfl rfl (Pv.assign rfl) ?_
    refine Rg.pure rfl rfl rfl (Pv.assign rfl) ?_
    refine Rg.nil ?_
    refine Vc.seq ?_
    refine Vc.text (List.range 6) (sd [(0, .pure), (1, .pure), (2, .pure), (3, .pure), (4, .pure), (5, .pure)]) rfl ?_
    refine Rg.pure rfl rfl rfl (Pv.move rfl) ?_
    refine Rg.pure rfl rfl rfl (Pv.move rfl) ?_
    refine Rg.split (t := 80) rfl (fun h80 => ?_) (fun h80 => absurd h80 (by decide))
    refine Rg.pure rfl rfl rfl (Pv.move rfl) ?_
    refine Rg.pure rfl rfl rfl (Pv.eql rfl rfl) ?_
    refine Rg.pure rfl rfl rfl (Pv.pickT rfl rfl) ?_
    refine Rg.pure rfl rfl rfl (Pv.assign rfl) ?_
    refine Rg.nil ?_
    refine Vc.ret (Vc.rets rfl (.cons (.tmp rfl) (.nil)) ?_)
    exact congrArg Value.bool (by simp)
end Go.Proofs.Ytmocncadncgaaaa
