/- The statements' functions: DiskTwice, DiskArms. The statements' functions: DiskTorn. The statements' functions: texts, DiskNone, DiskNames. The statements' functions: DiskSynced. The statements' functions: DiskWrites. The statements' functions: DiskRoom. -/
import Derived.Test.YtmocncadncgaaaaDk0
namespace Go.Proofs.Ytmocncadncgaaaa
set_option linter.unusedVariables false

theorem piece_all (t : List UInt8) (i : Nat) : sameSec t t i = true := by
  unfold sameSec secTo
  rw [decide_eq_true (Nat.min_le_right _ _), decide_eq_true rfl]
  rfl
theorem torn_same (t : List UInt8) (ks : List Bool) : ∀ n, tornG t t ks n = (t, ks)
  | 0 => rfl
  | n + 1 => by rw [tornG_succ, torn_same t ks n, tornStep, if_pos (piece_all t n)]
theorem Arg.upTo {α : Type} {E : Enc α} {F : Fm} {p : Option Addr} {c : Nat} {xs : List α} (h : Arg E F (.slice p xs.length c) xs) (k : Nat) : ∃ b : List α, b.length = min xs.length k ∧ b = xs.take k ∧ min xs.length k ≤ c ∧ Arg E F (.slice p (min xs.length k) c) b :=
  ⟨xs.take k, by simp; omega, rfl, by have := h.cap.2; omega, by
    have := h.take (k := min xs.length k) (Nat.min_le_left _ _)
    rwa [show xs.take (min xs.length k) = xs.take k by rw [List.take_eq_take_iff]; omega] at this⟩

theorem DiskTwice_spec (F : Fm) (v0 v1 v2 : Value) (xs : List UInt8) (l1 l2 : List Bool) (ha : Arg byteE F v0 xs) (h1 : Arg boolE F v1 l1) (h2 : Arg boolE F v2 l2) :
    Spec Try.prog 6 #[v0, v1, v2] F [] fun v _ => v = .bool true := by
  obtain ⟨p0, c0, rfl⟩ := ha.shape
  obtain ⟨p1, c1, rfl⟩ := h1.shape
  obtain ⟨p2, c2, rfl⟩ := h2.shape
  obtain ⟨b, hbl, _, hbc, hb⟩ := ha.upTo 200
  obtain ⟨k1, hk1, _, hkc1, hka1⟩ := h1.upTo 60
  obtain ⟨k2, hk2, _, hkc2, hka2⟩ := h2.upTo 60
  refine Spec.of (n := 113) (vs := [.slice p0 xs.length c0, .slice p1 l1.length c1, .slice p2 l2.length c2]) Try.func6 rfl Try.ntmps6 rfl ?_
  refine Vc.seq ?_
  refine Vc.text (List.range 1) (sd [(0, .pure)]) rfl ?_
  refine Rg.pure rfl rfl rfl (Pv.assign rfl) ?_
  refine Rg.nil ?_
  refine Vc.seq ?_
  refine Vc.text (List.range 2) (sd [(0, .eff), (1, .pure)]) rfl ?_
  refine Rg.callP rfl rfl rfl (run_callF rfl) (shown_spec _) ?_
  rintro _ rfl
  refine Rg.pure rfl rfl rfl (Pv.assign rfl) ?_
  refine Rg.nil ?_
  refine Vc.seq ?_
  refine Vc.text (List.range 6) (sd [(0, .pure), (1, .pure), (2, .pure), (3, .pure), (4, .pure), (5, .pure)]) rfl ?_
  refine Rg.pure rfl rfl rfl (Pv.move rfl) ?_
  refine Rg.pure rfl rfl rfl (Pv.move rfl) ?_
  refine Rg.pure rfl rfl rfl (Pv.lenS rfl) ?_
  refine Rg.pure rfl rfl rfl (Pv.asI (min xs.length 200) (Pv.min rfl rfl) (by omega)) ?_
  refine Rg.pure rfl rfl rfl (Pv.slTo (min xs.length 200) rfl rfl (by omega)) ?_
  refine Rg.pure rfl rfl rfl (Pv.assign rfl) ?_
  refine Rg.nil ?_
  refine Vc.seq ?_
  refine Vc.text (List.range 2) (sd [(0, .eff), (1, .pure)]) rfl ?_
  refine Rg.callA rfl rfl rfl (run_callF rfl) (new_w _ 100 100 (by decide)) ?_
  rintro _ s23 ⟨db, rfl, hD, hw⟩
  refine Rg.pure rfl rfl rfl (Pv.assign rfl) ?_
  refine Rg.nil ?_
  refine Vc.seq ?_
  refine Vc.seq ?_
  refine Vc.text (List.range 13) (sd [(0, .pure), (1, .pure), (2, .pure), (3, .pure), (4, .eff), (5, .pure), (6, .pure), (7, .pure), (8, .pure), (9, .pure), (10, .eff), (11, .pure), (12, .pure)]) rfl ?_
  refine Rg.pure rfl rfl rfl (Pv.move rfl) ?_
  refine Rg.pure rfl rfl rfl (Pv.eqlNil rfl rfl) ?_
  refine Rg.pure rfl rfl rfl (Pv.move rfl) ?_
  refine Rg.split (t := 26) rfl (fun h26 => absurd h26 (by (cases h26))) (fun h26 => ?_)
  refine Rg.pure rfl rfl rfl (Pv.move rfl) ?_
  refine Rg.callH rfl rfl rfl (run_callF rfl) (fun F' hF' => create_w (F := F') hD hw (by omega) (by omega) [102] (create1 (by decide))) rfl ?_
  rintro _ s28 ⟨rfl, hD28, hw28⟩
  refine Rg.pure rfl rfl rfl (Pv.neq rfl rfl) ?_
  refine Rg.pure rfl rfl rfl (Pv.pickF rfl rfl) ?_
  refine Rg.pure rfl rfl rfl (Pv.move rfl) ?_
  refine Rg.split (t := 31) rfl (fun h31 => absurd h31 (by decide)) (fun h31 => ?_)
  refine Rg.pure rfl rfl rfl (Pv.move rfl) ?_
  refine Rg.pure rfl rfl rfl (Pv.move rfl) ?_
  refine Rg.callH rfl rfl rfl (run_callF rfl) (fun F' hF' => append_w (F := F') hD28 hw28 (by omega) (by omega) [102] (hb.mono fun b o h => hF' b o (.inr h)) (by omega) (app1 b (by simp [secs]; omega))) rfl ?_
  rintro _ s34 ⟨rfl, hD34, hw34⟩
  rw [List.nil_append] at hD34 hw34
  refine Rg.pure rfl rfl rfl (Pv.neq rfl rfl) ?_
  refine Rg.pure rfl rfl rfl (Pv.pickF rfl rfl) ?_
  refine Rg.nil ?_
  refine Vc.cond rfl (fun h36 => absurd h36 (by decide)) (fun h36 => ?_)
  refine Vc.skip ?_
  refine Vc.seq ?_
  refine Vc.text (List.range 7) (sd [(0, .pure), (1, .pure), (2, .pure), (3, .pure), (4, .pure), (5, .pure), (6, .eff)]) rfl ?_
  refine Rg.pure rfl rfl rfl (Pv.move rfl) ?_
  refine Rg.pure rfl rfl rfl (Pv.move rfl) ?_
  refine Rg.pure rfl rfl rfl (Pv.move rfl) ?_
  refine Rg.pure rfl rfl rfl (Pv.lenS rfl) ?_
  refine Rg.pure rfl rfl rfl (Pv.asI (min l1.length 60) (Pv.min rfl rfl) (by omega)) ?_
  refine Rg.pure rfl rfl rfl (Pv.slTo (min l1.length 60) rfl rfl (by omega)) ?_
  refine Rg.callH rfl rfl rfl (run_callF rfl) (fun F' hF' => crash_w (F := F') hD34 hw34 (by omega) (by omega) (hka1.mono fun b o h => hF' b o (.inr h)) (crash1 k1)) rfl ?_
  rintro v43 s43 ⟨hD43, hw43⟩
  have htl := (hw43.find find1).1
  generalize (tornG b [] k1 (secs b.length)).1 = t at hD43 hw43 htl
  replace htl : t.length ≤ 0 + b.length := htl
  refine Rg.nil ?_
  refine Vc.seq ?_
  refine Vc.text (List.range 7) (sd [(0, .pure), (1, .pure), (2, .pure), (3, .pure), (4, .pure), (5, .pure), (6, .eff)]) rfl ?_
  refine Rg.pure rfl rfl rfl (Pv.move rfl) ?_
  refine Rg.pure rfl rfl rfl (Pv.move rfl) ?_
  refine Rg.pure rfl rfl rfl (Pv.move rfl) ?_
  refine Rg.pure rfl rfl rfl (Pv.lenS rfl) ?_
  refine Rg.pure rfl rfl rfl (Pv.asI (min l2.length 60) (Pv.min rfl rfl) (by omega)) ?_
  refine Rg.pure rfl rfl rfl (Pv.slTo (min l2.length 60) rfl rfl (by omega)) ?_
  refine Rg.callH rfl rfl rfl (run_callF rfl) (fun F' hF' => crash_w (F := F') hD43 hw43 (by omega) (by omega) (hka2.mono fun b o h => hF' b o (.inr h)) (crash1d k2)) rfl ?_
  rintro v50 s50 ⟨hD50, hw50⟩
  refine Rg.nil ?_
  refine Vc.seq ?_
  refine Vc.text (List.range 2) (sd [(0, .pure), (1, .eff)]) rfl ?_
  refine Rg.pure rfl rfl rfl (Pv.move rfl) ?_
  refine Rg.callH rfl rfl rfl (run_callF rfl) (fun F' hF' => restart_w (F := F') hD50 hw50) rfl ?_
  rintro v52 s52 ⟨hD52, hw52⟩
  refine Rg.nil ?_
  refine Vc.seq ?_
  refine Vc.text (List.range 7) (sd [(0, .pure), (1, .eff), (2, .pure), (3, .pure), (4, .pure), (5, .pure), (6, .pure)]) rfl ?_
  refine Rg.pure rfl rfl rfl (Pv.move rfl) ?_
  refine Rg.callH rfl rfl rfl (run_callF rfl) (fun F' hF' => size_w (F := F') hD52 hw52 (by omega) (by omega) [102] size1 (congrArg Prod.snd begins1)) rfl ?_
  rintro _ s55 ⟨rfl, hD55, hw55⟩
  refine Rg.pure rfl rfl rfl (Pv.move rfl) ?_
  refine Rg.pure rfl rfl rfl (Pv.extract rfl rfl) ?_
  refine Rg.pure rfl rfl rfl (Pv.extract rfl rfl) ?_
  refine Rg.pure rfl rfl rfl (Pv.assign rfl) ?_
  refine Rg.pure rfl rfl rfl (Pv.assign rfl) ?_
  refine Rg.nil ?_
  refine Vc.seq ?_
  refine Vc.text (List.range 8) (sd [(0, .pure), (1, .pure), (2, .eff), (3, .pure), (4, .pure), (5, .pure), (6, .pure), (7, .pure)]) rfl ?_
  refine Rg.pure rfl rfl rfl (Pv.move rfl) ?_
  refine Rg.pure rfl rfl rfl (Pv.move rfl) ?_
  refine Rg.callH rfl rfl rfl (run_callF rfl) (fun F' hF' => readAt_w (F := F') hD55 hw55 (by omega) (by omega) [102] 0 (t.length : Nat) read1all (congrArg Prod.snd begins1)) rfl ?_
  rintro _ _ ⟨u61, q61, s61, rfl, own61, hD61, hw61, rfl⟩
  rw [List.append_assoc]
  refine Rg.pure rfl rfl rfl (Pv.move rfl) ?_
  refine Rg.pure rfl rfl rfl (Pv.extract rfl rfl) ?_
  refine Rg.pure rfl rfl rfl (Pv.extract rfl rfl) ?_
  refine Rg.pure rfl rfl rfl (Pv.assign rfl) ?_
  refine Rg.pure rfl rfl rfl (Pv.assign rfl) ?_
  refine Rg.nil ?_
  refine Vc.seq ?_
  refine Vc.text (List.range 7) (sd [(0, .pure), (1, .pure), (2, .pure), (3, .pure), (4, .pure), (5, .pure), (6, .eff)]) rfl ?_
  refine Rg.pure rfl rfl rfl (Pv.move rfl) ?_
  refine Rg.pure rfl rfl rfl (Pv.move rfl) ?_
  refine Rg.pure rfl rfl rfl (Pv.move rfl) ?_
  refine Rg.pure rfl rfl rfl (Pv.lenS rfl) ?_
  refine Rg.pure rfl rfl rfl (Pv.asI (min l2.length 60) (Pv.min rfl rfl) (by omega)) ?_
  refine Rg.pure rfl rfl rfl (Pv.slTo (min l2.length 60) rfl rfl (by omega)) ?_
  refine Rg.callH rfl rfl rfl (run_callF rfl) (fun F' hF' => crash_w (F := F') hD61 hw61 (by omega) (by omega) (hka2.mono fun b o h => hF' b o (.inr h)) (crash1 k2)) rfl ?_
  rintro v70 s70 ⟨hD70, hw70⟩
  rw [torn_same] at hD70 hw70
  refine Rg.nil ?_
  refine Vc.seq ?_
  refine Vc.text (List.range 2) (sd [(0, .pure), (1, .eff)]) rfl ?_
  refine Rg.pure rfl rfl rfl (Pv.move rfl) ?_
  refine Rg.callH rfl rfl rfl (run_callF rfl) (fun F' hF' => restart_w (F := F') hD70 hw70) rfl ?_
  rintro v72 s72 ⟨hD72, hw72⟩
  refine Rg.nil ?_
  refine Vc.seq ?_
  refine Vc.text (List.range 7) (sd [(0, .pure), (1, .eff), (2, .pure), (3, .pure), (4, .pure), (5, .pure), (6, .pure)]) rfl ?_
  refine Rg.pure rfl rfl rfl (Pv.move rfl) ?_
  refine Rg.callH rfl rfl rfl (run_callF rfl) (fun F' hF' => size_w (F := F') hD72 hw72 (by omega) (by omega) [102] size1 (congrArg Prod.snd begins1)) rfl ?_
  rintro _ s75 ⟨rfl, hD75, hw75⟩
  refine Rg.pure rfl rfl rfl (Pv.move rfl) ?_
  refine Rg.pure rfl rfl rfl (Pv.extract rfl rfl) ?_
  refine Rg.pure rfl rfl rfl (Pv.extract rfl rfl) ?_
  refine Rg.pure rfl rfl rfl (Pv.assign rfl) ?_
  refine Rg.pure rfl rfl rfl (Pv.assign rfl) ?_
  refine Rg.nil ?_
  refine Vc.seq ?_
  refine Vc.text (List.range 8) (sd [(0, .pure), (1, .pure), (2, .eff), (3, .pure), (4, .pure), (5, .pure), (6, .pure), (7, .pure)]) rfl ?_
  refine Rg.pure rfl rfl rfl (Pv.move rfl) ?_
  refine Rg.pure rfl rfl rfl (Pv.move rfl) ?_
  refine Rg.callH rfl rfl rfl (run_callF rfl) (fun F' hF' => readAt_w (F := F') hD75 hw75 (by omega) (by omega) [102] 0 (t.length : Nat) read1all (congrArg Prod.snd begins1)) rfl ?_
  rintro _ _ ⟨u81, q81, s81, rfl, own81, hD81, hw81, rfl⟩
  rw [List.append_assoc]
  refine Rg.pure rfl rfl rfl (Pv.move rfl) ?_
  refine Rg.pure rfl rfl rfl (Pv.extract rfl rfl) ?_
  refine Rg.pure rfl rfl rfl (Pv.extract rfl rfl) ?_
  refine Rg.pure rfl rfl rfl (Pv.assign rfl) ?_
  refine Rg.pure rfl rfl rfl (Pv.assign rfl) ?_
  refine Rg.nil ?_
  refine Vc.seq ?_
  refine Vc.text (List.range 30) (sd [(0, .pure), (1, .pure), (2, .pure), (3, .pure), (4, .pure), (5, .pure), (6, .pure), (7, .pure), (8, .pure), (9, .pure), (10, .pure), (11, .pure), (12, .pure), (13, .pure), (14, .pure), (15, .pure), (16, .pure), (17, .pure), (18, .pure), (19, .pure), (20, .pure), (21, .pure), (22, .pure), (23, .pure), (24, .read), (25, .pure), (26, .read), (27, .pure), (28, .pure), (29, .pure)]) rfl ?_
  refine Rg.pure rfl rfl rfl (Pv.move rfl) ?_
  refine Rg.pure rfl rfl rfl (Pv.move rfl) ?_
  refine Rg.split (t := 85) rfl (fun h85 => ?_) (fun h85 => absurd h85 (by decide))
  refine Rg.pure rfl rfl rfl (Pv.move rfl) ?_
  refine Rg.pure rfl rfl rfl (Pv.eql rfl rfl) ?_
  refine Rg.pure rfl rfl rfl (Pv.pickT rfl rfl) ?_
  refine Rg.pure rfl rfl rfl (Pv.move rfl) ?_
  refine Rg.split (t := 89) rfl (fun h89 => ?_) (fun h89 => absurd h89 (by decide))
  refine Rg.pure rfl rfl rfl (Pv.move rfl) ?_
  refine Rg.pure rfl rfl rfl (Pv.eql rfl rfl) ?_
  refine Rg.pure rfl rfl rfl (Pv.pickT rfl rfl) ?_
  refine Rg.pure rfl rfl rfl (Pv.move rfl) ?_
  refine Rg.split (t := 93) rfl (fun h93 => ?_) (fun h93 => absurd h93 (by decide))
  refine Rg.pure rfl rfl rfl (Pv.move rfl) ?_
  refine Rg.pure rfl rfl rfl (Pv.eql rfl rfl) ?_
  refine Rg.pure rfl rfl rfl (Pv.pickT rfl rfl) ?_
  refine Rg.pure rfl rfl rfl (Pv.move rfl) ?_
  refine Rg.split (t := 97) rfl (fun h97 => ?_) (fun h97 => absurd h97 (by decide))
  refine Rg.pure rfl rfl rfl (Pv.move rfl) ?_
  refine Rg.pure rfl rfl rfl (Pv.eql rfl rfl) ?_
  refine Rg.pure rfl rfl rfl (Pv.pickT rfl rfl) ?_
  refine Rg.pure rfl rfl rfl (Pv.move rfl) ?_
  refine Rg.split (t := 101) rfl (fun h101 => ?_) (fun h101 => absurd h101 (by decide))
  refine Rg.pure rfl rfl rfl (Pv.move rfl) ?_
  refine Rg.pure rfl rfl rfl (Pv.move rfl) ?_
  refine Rg.pure rfl rfl rfl (Pv.eql rfl rfl) ?_
  refine Rg.pure rfl rfl rfl (Pv.pickT rfl rfl) ?_
  refine Rg.pure rfl rfl rfl (Pv.move rfl) ?_
  refine Rg.split (t := 106) rfl (fun h106 => ?_) (fun h106 => absurd h106 (by simp))
  refine Rg.pure rfl rfl rfl (Pv.move rfl) ?_
  refine Rg.read rfl rfl rfl (Ev.str ((Arg.own (F := frz F q61) own61 fun b o hb => Or.inl hb).srcF) rfl) ?_
  refine Rg.pure rfl rfl rfl (Pv.move rfl) ?_
  refine Rg.read rfl rfl rfl (Ev.str ((Arg.own (F := frz F q81) own81 fun b o hb => Or.inl hb).srcF) rfl) ?_
  refine Rg.pure rfl rfl rfl (Pv.eqlS rfl rfl) ?_
  refine Rg.pure rfl rfl rfl (Pv.pickT rfl rfl) ?_
  refine Rg.pure rfl rfl rfl (Pv.assign rfl) ?_
  refine Rg.nil ?_
  refine Vc.ret (Vc.rets rfl (.cons (.tmp rfl) (.nil)) ?_)
  exact congrArg Value.bool (by simp)

/-! ### Armed -/
def armD (n j : Nat) : Dk := ⟨[([102], ⟨[], []⟩)], 10, 0, 1 + j, if j < n then (n : Int) - j else 0, [], decide (n ≤ j)⟩
theorem crash_empty (ops : Int) : crashD [] ⟨[([102], ⟨[], []⟩)], 10, 0, ops, 0, [], false⟩ = ⟨[([102], ⟨[], []⟩)], 10, 0, ops, 0, [], true⟩ := by
  have := crash1 (k := [102]) (now := []) (sy := []) (room := 10) (ops := ops) []
  rw [torn_same] at this
  exact this
theorem arm_begins {n j : Nat} (hn : 1 ≤ n) : beginsD (armD n j) = (if n ≤ j + 1 then 7 else 0, armD n (j + 1)) := by
  have e1 : (1 + (j : Int) + 1) = 1 + ((j + 1 : Nat) : Int) := by omega
  have e2 : (n : Int) - j - 1 = n - ((j + 1 : Nat) : Int) := by omega
  by_cases h : j < n
  · have hd : decide (n ≤ j) = false := decide_eq_false (by omega)
    have e0 : armD n j = ⟨[([102], ⟨[], []⟩)], 10, 0, 1 + j, (n : Int) - j, [], false⟩ := by rw [armD, if_pos h, hd]
    rw [e0]
    simp only [beginsD]
    rw [if_pos (show 0 < (n : Int) - j by omega)]
    by_cases h1 : j + 1 < n
    · rw [if_neg (show ¬ (n : Int) - j - 1 = 0 by omega), if_neg (show ¬ n ≤ j + 1 by omega), armD, if_pos h1, decide_eq_false (show ¬ n ≤ j + 1 by omega), e1, e2]
      rfl
    · rw [if_pos (show (n : Int) - j - 1 = 0 by omega), if_pos (show n ≤ j + 1 by omega), crash_empty, armD, if_neg h1, decide_eq_true (show n ≤ j + 1 by omega), e1]
      rfl
  · have e0 : armD n j = ⟨[([102], ⟨[], []⟩)], 10, 0, 1 + j, 0, [], true⟩ := by rw [armD, if_neg h, decide_eq_true (by omega)]
    rw [e0, begins_dn rfl rfl, if_pos (by omega), armD, if_neg (by omega), decide_eq_true (by omega), ← e1]
theorem arm_size {n j : Nat} (hn : 1 ≤ n) : sizeD (armD n j) [102] = (0, if n ≤ j + 1 then 7 else 0) := by
  unfold sizeD
  rw [arm_begins hn]
  by_cases h : n ≤ j + 1
  · simp only [if_pos h]
    rfl
  · simp only [if_neg h]
    have : findF (armD n (j + 1)).files [102] = some ⟨[], []⟩ := rfl
    rw [this]
    rfl

theorem DiskArms_spec (F : Fm) (n0 m0 : Int) : Spec Try.prog 4 #[.int .i64 n0, .int .i64 m0] F [] fun v _ => v = .bool true := by
  obtain ⟨n, hn⟩ : ∃ n, n = 1 + andN n0 65535 % 20 := ⟨_, rfl⟩
  obtain ⟨m, hm⟩ : ∃ m, m = andN m0 65535 % 31 := ⟨_, rfl⟩
  have hn1 : 1 ≤ n := by omega
  have hn20 : n ≤ 20 := by omega
  have hm30 : m ≤ 30 := by omega
  refine Spec.of (n := 84) (vs := [.int .i64 n0, .int .i64 m0]) Try.func4 rfl Try.ntmps4 rfl ?_
  refine Vc.seq ?_
  refine Vc.text (List.range 1) (sd [(0, .pure)]) rfl ?_
  refine Rg.pure rfl rfl rfl (Pv.assign rfl) ?_
  refine Rg.nil ?_
  refine Vc.seq ?_
  refine Vc.text (List.range 2) (sd [(0, .eff), (1, .pure)]) rfl ?_
  refine Rg.callP rfl rfl rfl (run_callF rfl) (shown_spec _) ?_
  rintro _ rfl
  refine Rg.pure rfl rfl rfl (Pv.assign rfl) ?_
  refine Rg.nil ?_
  refine Vc.seq ?_
  refine Vc.text (List.range 5) (sd [(0, .pure), (1, .pure), (2, .pure), (3, .pure), (4, .pure)]) rfl ?_
  refine Rg.pure rfl rfl rfl (Pv.move rfl) ?_
  refine Rg.pure rfl rfl rfl (Pv.and rfl rfl (by omega)) ?_
  refine Rg.pure rfl rfl rfl (Pv.rem rfl rfl (by omega)) ?_
  refine Rg.pure rfl rfl rfl (Pv.asI (n) (Pv.add rfl rfl (by omega)) (by omega)) ?_
  refine Rg.pure rfl rfl rfl (Pv.assign rfl) ?_
  refine Rg.nil ?_
  refine Vc.seq ?_
  refine Vc.text (List.range 4) (sd [(0, .pure), (1, .pure), (2, .pure), (3, .pure)]) rfl ?_
  refine Rg.pure rfl rfl rfl (Pv.move rfl) ?_
  refine Rg.pure rfl rfl rfl (Pv.and rfl rfl (by omega)) ?_
  refine Rg.pure rfl rfl rfl (Pv.asI (m) (Pv.rem rfl rfl (by omega)) (by omega)) ?_
  refine Rg.pure rfl rfl rfl (Pv.assign rfl) ?_
  refine Rg.nil ?_
  refine Vc.seq ?_
  refine Vc.text (List.range 2) (sd [(0, .eff), (1, .pure)]) rfl ?_
  refine Rg.callA rfl rfl rfl (run_callF rfl) (new_w _ 10 10 (by decide)) ?_
  rintro _ s20 ⟨db, rfl, hD, hw⟩
  refine Rg.pure rfl rfl rfl (Pv.assign rfl) ?_
  refine Rg.nil ?_
  refine Vc.seq ?_
  refine Vc.seq ?_
  refine Vc.text (List.range 7) (sd [(0, .pure), (1, .pure), (2, .pure), (3, .pure), (4, .eff), (5, .pure), (6, .pure)]) rfl ?_
  refine Rg.pure rfl rfl rfl (Pv.move rfl) ?_
  refine Rg.pure rfl rfl rfl (Pv.eqlNil rfl rfl) ?_
  refine Rg.pure rfl rfl rfl (Pv.move rfl) ?_
  refine Rg.split (t := 23) rfl (fun h23 => absurd h23 (by (cases h23))) (fun h23 => ?_)
  refine Rg.pure rfl rfl rfl (Pv.move rfl) ?_
  refine Rg.callH rfl rfl rfl (run_callF rfl) (fun F' hF' => create_w (F := F') hD hw (by omega) (by omega) [102] (create1 (by decide))) rfl ?_
  rintro _ s25 ⟨rfl, hD25, hw25⟩
  refine Rg.pure rfl rfl rfl (Pv.neq rfl rfl) ?_
  refine Rg.pure rfl rfl rfl (Pv.pickF rfl rfl) ?_
  refine Rg.nil ?_
  refine Vc.cond rfl (fun h27 => absurd h27 (by decide)) (fun h27 => ?_)
  refine Vc.skip ?_
  refine Vc.seq ?_
  refine Vc.text (List.range 3) (sd [(0, .pure), (1, .pure), (2, .eff)]) rfl ?_
  refine Rg.pure rfl rfl rfl (Pv.move rfl) ?_
  refine Rg.pure rfl rfl rfl (Pv.move rfl) ?_
  refine Rg.callH rfl rfl rfl (run_callF rfl) (fun F' hF' => arm_w (F := F') hD25 hw25 (n : Int) (by omega) Arg.nilB (by simp)) rfl ?_
  rintro v30 s30 ⟨hD30, hw30⟩
  have e30 : ({ (d1 [102] ⟨[], []⟩ 10 (0 + 1) false) with armed := max (n : Int) 0, keep := [] } : Dk) = armD n 0 := by
    have h1 : max (n : Int) 0 = (n : Int) - ((0 : Nat) : Int) := by omega
    rw [h1, armD, if_pos (by omega), decide_eq_false (by omega)]
    rfl
  rw [e30] at hD30 hw30
  refine Rg.nil ?_
  refine Vc.seq ?_
  refine Vc.seq ?_
  refine Vc.text (List.range 1) (sd [(0, .pure)]) rfl ?_
  refine Rg.pure rfl rfl rfl (Pv.assign rfl) ?_
  refine Rg.nil ?_
  refine Vc.block ?_
  refine Vc.loop2 (fun (j : Nat) (s : Hl) => j ≤ m ∧ DiskAt db (armD n j) s ∧ Dw (1 + j) 0 (armD n j)) (fun j s => [(0, .int .i64 (n : Int)), (1, .int .i64 (m : Int)), (5, .bool true), (6, .pointer (some ⟨db, 0, none⟩)), (7, .int .i64 ((j + 1 : Nat) : Int))]) (fun j s => s) (fun j s => m - j) 0 s30 ⟨Nat.zero_le _, hD30, hw30⟩ (.cons rfl (.cons rfl (.cons rfl (.cons rfl (.cons rfl .nil))))) pulled ?_
  rintro j s ⟨hj, hD, hw⟩
  refine Vc.seq ?_
  refine Vc.seq ?_
  refine Vc.text (List.range 3) (sd [(0, .pure), (1, .pure), (2, .pure)]) rfl ?_
  refine Rg.pure rfl rfl rfl (Pv.move rfl) ?_
  refine Rg.pure rfl rfl rfl (Pv.move rfl) ?_
  refine Rg.pure rfl rfl rfl (Pv.leq rfl rfl) ?_
  refine Rg.nil ?_
  refine Vc.cond rfl (fun h33 => ?_) (fun h33 => ?_)
  ·
    simp only [decide_eq_true_eq] at h33
    refine Vc.skip ?_
    refine Vc.seq ?_
    refine Vc.block ?_
    refine Vc.seq ?_
    refine Vc.text (List.range 7) (sd [(0, .pure), (1, .eff), (2, .pure), (3, .pure), (4, .pure), (5, .pure), (6, .pure)]) rfl ?_
    refine Rg.pure rfl rfl rfl (Pv.move rfl) ?_
    refine Rg.callH rfl rfl rfl (run_callF rfl) (fun F' hF' => size_w (F := F') hD hw (by omega) (by omega) [102] (arm_size hn1) (congrArg Prod.snd (arm_begins hn1))) rfl ?_
    rintro _ s38 ⟨rfl, hD38, hw38⟩
    refine Rg.pure rfl rfl rfl (Pv.move rfl) ?_
    refine Rg.pure rfl rfl rfl (Pv.extract rfl rfl) ?_
    refine Rg.pure rfl rfl rfl (Pv.extract rfl rfl) ?_
    refine Rg.pure rfl rfl rfl (Pv.assign rfl) ?_
    refine Rg.pure rfl rfl rfl (Pv.assign rfl) ?_
    refine Rg.nil ?_
    refine Vc.seq ?_
    refine Vc.text (List.range 29) (sd [(0, .pure), (1, .pure), (2, .pure), (3, .pure), (4, .pure), (5, .pure), (6, .pure), (7, .pure), (8, .eff), (9, .pure), (10, .pure), (11, .pure), (12, .pure), (13, .pure), (14, .pure), (15, .pure), (16, .pure), (17, .pure), (18, .pure), (19, .pure), (20, .pure), (21, .pure), (22, .pure), (23, .pure), (24, .eff), (25, .pure), (26, .pure), (27, .pure), (28, .pure)]) rfl ?_
    refine Rg.pure rfl rfl rfl (Pv.move rfl) ?_
    refine Rg.pure rfl rfl rfl (Pv.eql rfl rfl) ?_
    refine Rg.pure rfl rfl rfl (Pv.move rfl) ?_
    refine Rg.pure rfl rfl rfl (Pv.move rfl) ?_
    refine Rg.pure rfl rfl rfl (Pv.geq rfl rfl) ?_
    refine Rg.pure rfl rfl rfl (Pv.neqB rfl rfl) ?_
    refine Rg.pure rfl rfl rfl (Pv.move rfl) ?_
    refine Rg.split (t := 47) rfl (fun h47 => absurd h47 (by by_cases h : n ≤ j + 1 <;> simp [h] <;> omega)) (fun h47 => ?_)
    refine Rg.pure rfl rfl rfl (Pv.move rfl) ?_
    refine Rg.callP rfl rfl rfl (run_callF rfl) (downD_spec hD38 frz_sb) ?_
    rintro _ rfl
    refine Rg.pure rfl rfl rfl (Pv.move rfl) ?_
    refine Rg.pure rfl rfl rfl (Pv.move rfl) ?_
    refine Rg.pure rfl rfl rfl (Pv.geq rfl rfl) ?_
    refine Rg.pure rfl rfl rfl (Pv.neqB rfl rfl) ?_
    refine Rg.pure rfl rfl rfl (Pv.pickF rfl rfl) ?_
    refine Rg.pure rfl rfl rfl (Pv.move rfl) ?_
    refine Rg.split (t := 55) rfl (fun h55 => absurd h55 (by simp [armD]; by_cases h : n ≤ j + 1 <;> simp [h] <;> omega)) (fun h55 => ?_)
    refine Rg.pure rfl rfl rfl (Pv.move rfl) ?_
    refine Rg.pure rfl rfl rfl (Pv.neq rfl rfl) ?_
    refine Rg.pure rfl rfl rfl (Pv.move rfl) ?_
    refine Rg.split (t := 58) rfl (fun h58 => ?_) (fun h58 => ?_)
    ·
      simp only [bne_iff_ne, ne_eq] at h58
      have hnj : n ≤ j + 1 := by by_cases h : n ≤ j + 1; exact h; rw [if_neg h] at h58; exact absurd rfl h58
      refine Rg.pure rfl rfl rfl (Pv.move rfl) ?_
      refine Rg.pure rfl rfl rfl (Pv.neq rfl rfl) ?_
      refine Rg.pure rfl rfl rfl (Pv.pickT rfl rfl) ?_
      refine Rg.pure rfl rfl rfl (Pv.pickF rfl rfl) ?_
      refine Rg.pure rfl rfl rfl (Pv.move rfl) ?_
      refine Rg.split (t := 63) rfl (fun h63 => absurd h63 (by simp [hnj])) (fun h63 => ?_)
      refine Rg.pure rfl rfl rfl (Pv.move rfl) ?_
      refine Rg.callP rfl rfl rfl (run_callF rfl) (opsD_spec hD38 frz_sb) ?_
      rintro _ rfl
      refine Rg.pure rfl rfl rfl (Pv.move rfl) ?_
      refine Rg.pure rfl rfl rfl (Pv.add rfl rfl (by omega)) ?_
      refine Rg.pure rfl rfl rfl (Pv.neq rfl rfl) ?_
      refine Rg.pure rfl rfl rfl (Pv.pickF rfl rfl) ?_
      refine Rg.nil ?_
      refine Vc.cond rfl (fun h69 => absurd h69 (by simp [armD]; omega)) (fun h69 => ?_)
      refine Vc.skip ?_
      refine Vc.blk ?_
      refine Vc.text (List.range 3) (sd [(0, .pure), (1, .pure), (2, .pure)]) rfl ?_
      refine Rg.pure rfl rfl rfl (Pv.move rfl) ?_
      refine Rg.pure rfl rfl rfl (Pv.add rfl rfl (by omega)) ?_
      refine Rg.pure rfl rfl rfl (Pv.assign rfl) ?_
      refine Rg.nil ?_
      exact Vc.inv2 (j + 1) s38 ⟨⟨by omega, hD38, by rw [show 1 + (j + 1) = 1 + j + 1 by omega]; exact hw38⟩, by omega⟩ (.cons rfl (.cons rfl (.cons rfl (.cons rfl (.cons rfl .nil))))) pulled
    ·
      iterate 2 (first | refine Rg.skipP rfl rfl rfl ?_ | refine Rg.skipR rfl rfl rfl ?_ | refine Rg.skipE rfl rfl rfl ?_)
      refine Rg.pure rfl rfl rfl (Pv.pickF rfl rfl) ?_
      refine Rg.pure rfl rfl rfl (Pv.pickF rfl rfl) ?_
      refine Rg.pure rfl rfl rfl (Pv.move rfl) ?_
      refine Rg.pure rfl rfl rfl (Pv.move rfl) ?_
      refine Rg.callP rfl rfl rfl (run_callF rfl) (opsD_spec hD38 frz_sb) ?_
      rintro _ rfl
      refine Rg.pure rfl rfl rfl (Pv.move rfl) ?_
      refine Rg.pure rfl rfl rfl (Pv.add rfl rfl (by omega)) ?_
      refine Rg.pure rfl rfl rfl (Pv.neq rfl rfl) ?_
      refine Rg.pure rfl rfl rfl (Pv.pickF rfl rfl) ?_
      refine Rg.nil ?_
      refine Vc.cond rfl (fun h69 => absurd h69 (by simp [armD]; omega)) (fun h69 => ?_)
      refine Vc.skip ?_
      refine Vc.blk ?_
      refine Vc.text (List.range 3) (sd [(0, .pure), (1, .pure), (2, .pure)]) rfl ?_
      refine Rg.pure rfl rfl rfl (Pv.move rfl) ?_
      refine Rg.pure rfl rfl rfl (Pv.add rfl rfl (by omega)) ?_
      refine Rg.pure rfl rfl rfl (Pv.assign rfl) ?_
      refine Rg.nil ?_
      exact Vc.inv2 (j + 1) s38 ⟨⟨by omega, hD38, by rw [show 1 + (j + 1) = 1 + j + 1 by omega]; exact hw38⟩, by omega⟩ (.cons rfl (.cons rfl (.cons rfl (.cons rfl (.cons rfl .nil))))) pulled
  ·
    simp only [decide_eq_false_iff_not] at h33
    refine Vc.exit rfl ?_
    refine Vc.seq ?_
    refine Vc.text (List.range 2) (sd [(0, .pure), (1, .eff)]) rfl ?_
    refine Rg.pure rfl rfl rfl (Pv.move rfl) ?_
    refine Rg.callH rfl rfl rfl (run_callF rfl) (fun F' hF' => arm_w (F := F') hD hw 0 (by omega) Arg.nilB (by simp)) rfl ?_
    rintro v71 s71 ⟨hD71, hw71⟩
    refine Rg.nil ?_
    refine Vc.seq ?_
    refine Vc.text (List.range 2) (sd [(0, .pure), (1, .eff)]) rfl ?_
    refine Rg.pure rfl rfl rfl (Pv.move rfl) ?_
    refine Rg.callH rfl rfl rfl (run_callF rfl) (fun F' hF' => restart_w (F := F') hD71 hw71) rfl ?_
    rintro v73 s73 ⟨hD73, hw73⟩
    have e73 : ({ ({ armD n j with armed := max 0 0, keep := [] } : Dk) with down := false } : Dk) = d1 [102] ⟨[], []⟩ 10 (1 + j) false := rfl
    rw [e73] at hD73 hw73
    refine Rg.nil ?_
    refine Vc.seq ?_
    refine Vc.text (List.range 7) (sd [(0, .pure), (1, .eff), (2, .pure), (3, .pure), (4, .pure), (5, .pure), (6, .pure)]) rfl ?_
    refine Rg.pure rfl rfl rfl (Pv.move rfl) ?_
    refine Rg.callH rfl rfl rfl (run_callF rfl) (fun F' hF' => size_w (F := F') hD73 hw73 (by omega) (by omega) [102] size1 (congrArg Prod.snd begins1)) rfl ?_
    rintro _ s76 ⟨rfl, hD76, hw76⟩
    refine Rg.pure rfl rfl rfl (Pv.move rfl) ?_
    refine Rg.pure rfl rfl rfl (Pv.extract rfl rfl) ?_
    refine Rg.pure rfl rfl rfl (Pv.extract rfl rfl) ?_
    refine Rg.pure rfl rfl rfl (Pv.assign rfl) ?_
    refine Rg.pure rfl rfl rfl (Pv.assign rfl) ?_
    refine Rg.nil ?_
    refine Vc.seq ?_
    refine Vc.text (List.range 6) (sd [(0, .pure), (1, .pure), (2, .pure), (3, .pure), (4, .pure), (5, .pure)]) rfl ?_
    refine Rg.pure rfl rfl rfl (Pv.move rfl) ?_
    refine Rg.pure rfl rfl rfl (Pv.move rfl) ?_
    refine Rg.split (t := 80) rfl (fun h80 => ?_) (fun h80 => absurd h80 (by decide))
    refine Rg.pure rfl rfl rfl (Pv.move rfl) ?_
    refine Rg.pure rfl rfl rfl (Pv.eql rfl rfl) ?_
    refine Rg.pure rfl rfl rfl (Pv.pickT rfl rfl) ?_
    refine Rg.pure rfl rfl rfl (Pv.assign rfl) ?_
    refine Rg.nil ?_
    refine Vc.ret (Vc.rets rfl (.cons (.tmp rfl) (.nil)) ?_)
    exact congrArg Value.bool (by simp)
end Go.Proofs.Ytmocncadncgaaaa

namespace Go.Proofs.Ytmocncadncgaaaa
set_option linter.unusedVariables false

/-- of a file that was never synced -/
theorem put_behind {st pc : List UInt8} {a to : Nat} (h1 : st.length ≤ a) (h2 : a ≤ to) (h3 : pc.length = to - a) : putAt (padTo st to) a pc = padTo st a ++ pc := by
  unfold putAt padTo
  have e1 : (st ++ List.replicate (to - st.length) (0 : UInt8)).drop (a + pc.length) = [] := List.drop_eq_nil_of_le (by simp; omega)
  have e2 : (st ++ List.replicate (to - st.length) (0 : UInt8)).take a = st ++ List.replicate (a - st.length) 0 := by
    rw [List.take_append, List.take_of_length_le h1, List.take_replicate]
    congr 2
    omega
  rw [e1, e2, List.append_nil]
theorem torn_ks {b : List UInt8} {ks : List Bool} : ∀ {i : Nat}, 16 * i < b.length + 16 → (tornG b [] ks i).2 = ks.drop i ∧ (tornG b [] ks i).1.length ≤ 16 * i ∧ (tornG b [] ks i).1.length ≤ b.length
  | 0, _ => ⟨by simp [tornG], by simp [tornG], by simp [tornG]⟩
  | i + 1, h => by
    obtain ⟨h1, h2, h3⟩ := torn_ks (b := b) (ks := ks) (i := i) (by omega)
    have hs : sameSec b [] i = false := by
      unfold sameSec secTo
      rw [List.length_nil, decide_eq_false (show ¬ min (16 * i + 16) b.length ≤ 0 by omega)]
      rfl
    have ht : 16 * i ≤ secTo b i ∧ secTo b i ≤ 16 * i + 16 ∧ secTo b i ≤ b.length := by unfold secTo; omega
    have hp : (piece b (16 * i) (secTo b i)).length = secTo b i - 16 * i := by simp [piece]; omega
    rw [tornG_succ, tornStep, if_neg (by rw [hs]; decide)]
    split
    · rw [put_behind h2 ht.1 hp]
      refine ⟨by rw [h1, List.drop_drop, Nat.add_comm], ?_, ?_⟩
      · simp [padTo, hp]; omega
      · simp [padTo, hp]; omega
    · refine ⟨by rw [h1, List.drop_drop, Nat.add_comm], ?_, h3⟩
      show (tornG b [] ks i).1.length ≤ _
      omega
theorem torn_next {b : List UInt8} {ks : List Bool} {i : Nat} (h : 16 * i < b.length) : (tornG b [] ks (i + 1)).1 = if (ks.drop i).headD false = true then padTo (tornG b [] ks i).1 (16 * i) ++ piece b (16 * i) (secTo b i) else (tornG b [] ks i).1 := by
  obtain ⟨h1, h2, h3⟩ := torn_ks (b := b) (ks := ks) (i := i) (by omega)
  have hs : sameSec b [] i = false := by
    unfold sameSec secTo
    rw [List.length_nil, decide_eq_false (show ¬ min (16 * i + 16) b.length ≤ 0 by omega)]
    rfl
  have ht : 16 * i ≤ secTo b i ∧ secTo b i ≤ b.length := by unfold secTo; omega
  have hp : (piece b (16 * i) (secTo b i)).length = secTo b i - 16 * i := by simp [piece]; omega
  rw [tornG_succ, tornStep, if_neg (by rw [hs]; decide), hdB, h1]
  split
  · rw [put_behind h2 ht.1 hp]
  · rfl
theorem headD_drop {ks : List Bool} {i : Nat} : (ks.drop i).headD false = if i < ks.length then ks[i]! else false := by
  by_cases h : i < ks.length
  · rw [if_pos h, List.drop_eq_getElem_cons h, getElem!_pos ks i h]
    rfl
  · rw [if_neg h, List.drop_eq_nil_of_le (by omega)]
    rfl
theorem pad_snoc {st : List UInt8} {j : Nat} : (st ++ List.replicate j 0) ++ [(0 : UInt8)] = st ++ List.replicate (j + 1) 0 := by
  rw [List.append_assoc, ← List.replicate_succ']

theorem DiskTorn_spec (F : Fm) (v0 v1 : Value) (xs : List UInt8) (l1 : List Bool) (ha : Arg byteE F v0 xs) (h1 : Arg boolE F v1 l1) :
    Spec Try.prog 5 #[v0, v1] F [] fun v _ => v = .bool true := by
  obtain ⟨p0, c0, rfl⟩ := ha.shape
  obtain ⟨p1, c1, rfl⟩ := h1.shape
  obtain ⟨b, hbl, _, hbc, hb⟩ := ha.upTo 200
  obtain ⟨k1, hk1, _, hkc1, hka1⟩ := h1.upTo 60
  rw [← hbl] at hb hbc
  rw [← hk1] at hka1 hkc1
  refine Spec.of (n := 117) (vs := [.slice p0 xs.length c0, .slice p1 l1.length c1]) Try.func5 rfl Try.ntmps5 rfl ?_
  refine Vc.seq ?_
  refine Vc.text (List.range 1) (sd [(0, .pure)]) rfl ?_
  refine Rg.pure rfl rfl rfl (Pv.assign rfl) ?_
  refine Rg.nil ?_
  refine Vc.seq ?_
  refine Vc.text (List.range 2) (sd [(0, .eff), (1, .pure)]) rfl ?_
  refine Rg.callP rfl rfl rfl (run_callF rfl) (shown_spec _) ?_
  rintro _ rfl
  refine Rg.pure rfl rfl rfl (Pv.assign rfl) ?_
  refine Rg.nil ?_
  refine Vc.seq ?_
  refine Vc.text (List.range 6) (sd [(0, .pure), (1, .pure), (2, .pure), (3, .pure), (4, .pure), (5, .pure)]) rfl ?_
  refine Rg.pure rfl rfl rfl (Pv.move rfl) ?_
  refine Rg.pure rfl rfl rfl (Pv.move rfl) ?_
  refine Rg.pure rfl rfl rfl (Pv.lenS rfl) ?_
  refine Rg.pure rfl rfl rfl (Pv.asI (b.length) (Pv.min rfl rfl) (by omega)) ?_
  refine Rg.pure rfl rfl rfl (Pv.slTo (b.length) rfl rfl (by omega)) ?_
  refine Rg.pure rfl rfl rfl (Pv.assign rfl) ?_
  refine Rg.nil ?_
  refine Vc.seq ?_
  refine Vc.text (List.range 6) (sd [(0, .pure), (1, .pure), (2, .pure), (3, .pure), (4, .pure), (5, .pure)]) rfl ?_
  refine Rg.pure rfl rfl rfl (Pv.move rfl) ?_
  refine Rg.pure rfl rfl rfl (Pv.move rfl) ?_
  refine Rg.pure rfl rfl rfl (Pv.lenS rfl) ?_
  refine Rg.pure rfl rfl rfl (Pv.asI (k1.length) (Pv.min rfl rfl) (by omega)) ?_
  refine Rg.pure rfl rfl rfl (Pv.slTo (k1.length) rfl rfl (by omega)) ?_
  refine Rg.pure rfl rfl rfl (Pv.assign rfl) ?_
  refine Rg.nil ?_
  refine Vc.seq ?_
  refine Vc.text (List.range 2) (sd [(0, .eff), (1, .pure)]) rfl ?_
  refine Rg.callA rfl rfl rfl (run_callF rfl) (new_w _ 100 100 (by decide)) ?_
  rintro _ s25 ⟨db, rfl, hD, hw⟩
  refine Rg.pure rfl rfl rfl (Pv.assign rfl) ?_
  refine Rg.nil ?_
  refine Vc.seq ?_
  refine Vc.seq ?_
  refine Vc.text (List.range 13) (sd [(0, .pure), (1, .pure), (2, .pure), (3, .pure), (4, .eff), (5, .pure), (6, .pure), (7, .pure), (8, .pure), (9, .pure), (10, .eff), (11, .pure), (12, .pure)]) rfl ?_
  refine Rg.pure rfl rfl rfl (Pv.move rfl) ?_
  refine Rg.pure rfl rfl rfl (Pv.eqlNil rfl rfl) ?_
  refine Rg.pure rfl rfl rfl (Pv.move rfl) ?_
  refine Rg.split (t := 28) rfl (fun h28 => absurd h28 (by (cases h28))) (fun h28 => ?_)
  refine Rg.pure rfl rfl rfl (Pv.move rfl) ?_
  refine Rg.callH rfl rfl rfl (run_callF rfl) (fun F' hF' => create_w (F := F') hD hw (by omega) (by omega) [102] (create1 (by decide))) rfl ?_
  rintro _ s30 ⟨rfl, hD30, hw30⟩
  refine Rg.pure rfl rfl rfl (Pv.neq rfl rfl) ?_
  refine Rg.pure rfl rfl rfl (Pv.pickF rfl rfl) ?_
  refine Rg.pure rfl rfl rfl (Pv.move rfl) ?_
  refine Rg.split (t := 33) rfl (fun h33 => absurd h33 (by decide)) (fun h33 => ?_)
  refine Rg.pure rfl rfl rfl (Pv.move rfl) ?_
  refine Rg.pure rfl rfl rfl (Pv.move rfl) ?_
  refine Rg.callH rfl rfl rfl (run_callF rfl) (fun F' hF' => append_w (F := F') hD30 hw30 (by omega) (by omega) [102] (hb.mono fun b o h => hF' b o (.inr h)) (by omega) (app1 b (by simp [secs]; omega))) rfl ?_
  rintro _ s36 ⟨rfl, hD36, hw36⟩
  rw [List.nil_append] at hD36 hw36
  refine Rg.pure rfl rfl rfl (Pv.neq rfl rfl) ?_
  refine Rg.pure rfl rfl rfl (Pv.pickF rfl rfl) ?_
  refine Rg.nil ?_
  refine Vc.cond rfl (fun h38 => absurd h38 (by decide)) (fun h38 => ?_)
  refine Vc.skip ?_
  refine Vc.seq ?_
  refine Vc.text (List.range 3) (sd [(0, .pure), (1, .pure), (2, .eff)]) rfl ?_
  refine Rg.pure rfl rfl rfl (Pv.move rfl) ?_
  refine Rg.pure rfl rfl rfl (Pv.move rfl) ?_
  refine Rg.callH rfl rfl rfl (run_callF rfl) (fun F' hF' => crash_w (F := F') hD36 hw36 (by omega) (by omega) (hka1.mono fun b o h => hF' b o (.inr h)) (crash1 k1)) rfl ?_
  rintro v41 s41 ⟨hD41, hw41⟩
  refine Rg.nil ?_
  refine Vc.seq ?_
  refine Vc.text (List.range 2) (sd [(0, .pure), (1, .eff)]) rfl ?_
  refine Rg.pure rfl rfl rfl (Pv.move rfl) ?_
  refine Rg.callH rfl rfl rfl (run_callF rfl) (fun F' hF' => restart_w (F := F') hD41 hw41) rfl ?_
  rintro v43 s43 ⟨hD43, hw43⟩
  refine Rg.nil ?_
  refine Vc.seq ?_
  refine Vc.text (List.range 2) (sd [(0, .eff), (1, .pure)]) rfl ?_
  refine Rg.bslice0 (E := byteE) rfl rfl rfl (fun b44 own44 => ?_)
  refine Rg.pure rfl rfl rfl (Pv.assign rfl) ?_
  refine Rg.nil ?_
  refine Vc.seq ?_
  refine Vc.seq ?_
  refine Vc.text (List.range 1) (sd [(0, .pure)]) rfl ?_
  refine Rg.pure rfl rfl rfl (Pv.assign rfl) ?_
  refine Rg.nil ?_
  refine Vc.block ?_
  refine Vc.loop3 (fun (i : Nat) (v : Value) (sg : Hl) => 16 * i < b.length + 16 ∧ Own byteE v (tornG b [] k1 i).1 sg) (fun i v sg => [(0, .slice p0 b.length c0), (1, .slice p1 k1.length c1), (5, .bool true), (6, .pointer (some ⟨db, 0, none⟩)), (7, v), (8, .int .i64 (i : Int))]) (fun i v sg => sg ++ s43) (fun i v sg => b.length + 16 - 16 * i) 0 _ _ ⟨by omega, own44⟩ (.cons rfl (.cons rfl (.cons rfl (.cons rfl (.cons rfl (.cons rfl .nil)))))) pulled ?_
  rintro i v sg ⟨hi, own⟩
  obtain ⟨hks, hl1, hl2⟩ := torn_ks (b := b) (ks := k1) hi
  obtain ⟨pv, cv, rfl⟩ := own.shape
  refine Vc.seq ?_
  refine Vc.seq ?_
  refine Vc.text (List.range 5) (sd [(0, .pure), (1, .pure), (2, .pure), (3, .pure), (4, .pure)]) rfl ?_
  refine Rg.pure rfl rfl rfl (Pv.move rfl) ?_
  refine Rg.pure rfl rfl rfl (Pv.asI (16 * i) (Pv.mul rfl rfl (by omega)) (by omega)) ?_
  refine Rg.pure rfl rfl rfl (Pv.move rfl) ?_
  refine Rg.pure rfl rfl rfl (Pv.lenS rfl) ?_
  refine Rg.pure rfl rfl rfl (Pv.lss rfl rfl) ?_
  refine Rg.nil ?_
  refine Vc.cond rfl (fun h49 => ?_) (fun h49 => ?_)
  ·
    simp only [decide_eq_true_eq] at h49
    have hi16 : 16 * i < b.length := by omega
    have hto : secTo b i ≤ b.length ∧ 16 * i ≤ secTo b i := by unfold secTo; omega
    have hpl : (piece b (16 * i) (secTo b i)).length = secTo b i - 16 * i := by simp [piece]; omega
    have hnx := torn_next (ks := k1) hi16
    rw [headD_drop] at hnx
    refine Vc.skip ?_
    refine Vc.seq ?_
    refine Vc.block ?_
    refine Vc.seq ?_
    refine Vc.text (List.range 7) (sd [(0, .pure), (1, .pure), (2, .pure), (3, .pure), (4, .pure), (5, .pure), (6, .pure)]) rfl ?_
    refine Rg.pure rfl rfl rfl (Pv.move rfl) ?_
    refine Rg.pure rfl rfl rfl (Pv.asI (16 * i) (Pv.mul rfl rfl (by omega)) (by omega)) ?_
    refine Rg.pure rfl rfl rfl (Pv.asI (16 * i + 16) (Pv.add rfl rfl (by omega)) (by omega)) ?_
    refine Rg.pure rfl rfl rfl (Pv.move rfl) ?_
    refine Rg.pure rfl rfl rfl (Pv.lenS rfl) ?_
    refine Rg.pure rfl rfl rfl (Pv.asI (secTo b i) (Pv.min rfl rfl) (by unfold secTo; omega)) ?_
    refine Rg.pure rfl rfl rfl (Pv.assign rfl) ?_
    refine Rg.nil ?_
    refine Vc.seq ?_
    refine Vc.cut1 (fun (bb : Bool) => (tornG b [] k1 (i + 1)).1 = if bb = true then padTo (tornG b [] k1 i).1 (16 * i) ++ piece b (16 * i) (secTo b i) else (tornG b [] k1 i).1) (fun bb => [(67, .bool bb), (0, .slice p0 b.length c0), (1, .slice p1 k1.length c1), (5, .bool true), (6, .pointer (some ⟨db, 0, none⟩)), (7, .slice pv (tornG b [] k1 i).1.length cv), (8, .int .i64 (i : Int)), (9, .int .i64 ((secTo b i : Nat) : Int))]) (fun bb => sg ++ s43) ?_ ?_
    ·
      refine Vc.text (List.range 10) (sd [(0, .pure), (1, .pure), (2, .pure), (3, .pure), (4, .pure), (5, .pure), (6, .pure), (7, .pure), (8, .read), (9, .pure)]) rfl ?_
      refine Rg.pure rfl rfl rfl (Pv.move rfl) ?_
      refine Rg.pure rfl rfl rfl (Pv.move rfl) ?_
      refine Rg.pure rfl rfl rfl (Pv.lenS rfl) ?_
      refine Rg.pure rfl rfl rfl (Pv.lss rfl rfl) ?_
      refine Rg.pure rfl rfl rfl (Pv.move rfl) ?_
      refine Rg.split (t := 62) rfl (fun h62 => ?_) (fun h62 => ?_)
      ·
        simp only [decide_eq_true_eq] at h62
        have hik : i < k1.length := by omega
        obtain ⟨b1, off1, c1', e, _⟩ := hka1.block (by omega)
        cases e
        rw [if_pos hik] at hnx
        refine Rg.pure rfl rfl rfl (Pv.move rfl) ?_
        refine Rg.pure rfl rfl rfl (Pv.move rfl) ?_
        refine Rg.pure rfl rfl rfl (Pv.ixA (i) rfl rfl (by omega) (by omega)) ?_
        refine Rg.read rfl rfl rfl (Ev.ldS (i) (hka1.src) rfl rfl rfl (by omega)) ?_
        refine Rg.pure rfl rfl rfl (Pv.pickT rfl rfl) ?_
        refine Rg.nil ?_
        exact Vc.inv1 _ hnx (.cons rfl (.cons rfl (.cons rfl (.cons rfl (.cons rfl (.cons rfl (.cons rfl (.cons rfl .nil)))))))) pulled
      ·
        simp only [decide_eq_false_iff_not] at h62
        rw [if_neg (show ¬ i < k1.length by omega)] at hnx
        iterate 4 (first | refine Rg.skipP rfl rfl rfl ?_ | refine Rg.skipR rfl rfl rfl ?_ | refine Rg.skipE rfl rfl rfl ?_)
        refine Rg.pure rfl rfl rfl (Pv.pickF rfl rfl) ?_
        refine Rg.nil ?_
        exact Vc.inv1 false hnx (.cons rfl (.cons rfl (.cons rfl (.cons rfl (.cons rfl (.cons rfl (.cons rfl (.cons rfl .nil)))))))) pulled
    ·
      rintro bb hbb
      refine Vc.cond rfl (fun h67 => ?_) (fun h67 => ?_)
      ·
        rw [if_pos h67] at hbb
        refine Vc.seq ?_
        refine Vc.block ?_
        refine Vc.loop3 (fun (j : Nat) (v : Value) (sg : Hl) => j ≤ 16 * i - (tornG b [] k1 i).1.length ∧ Own byteE v ((tornG b [] k1 i).1 ++ List.replicate j 0) sg) (fun j v sg => [(0, .slice p0 b.length c0), (1, .slice p1 k1.length c1), (5, .bool true), (6, .pointer (some ⟨db, 0, none⟩)), (7, v), (8, .int .i64 (i : Int)), (9, .int .i64 ((secTo b i : Nat) : Int))]) (fun j v sg => sg ++ s43) (fun j v sg => 16 * i - (tornG b [] k1 i).1.length - j) 0 _ sg ⟨Nat.zero_le _, by simpa using own⟩ (.cons rfl (.cons rfl (.cons rfl (.cons rfl (.cons rfl (.cons rfl (.cons rfl .nil))))))) pulled ?_
        rintro j v2 sg2 ⟨hj, own2⟩
        have hl3 : ((tornG b [] k1 i).1 ++ List.replicate j (0 : UInt8)).length = (tornG b [] k1 i).1.length + j := by simp
        obtain ⟨pw, cw, rfl⟩ := own2.shape
        refine Vc.seq ?_
        refine Vc.seq ?_
        refine Vc.text (List.range 5) (sd [(0, .pure), (1, .pure), (2, .pure), (3, .pure), (4, .pure)]) rfl ?_
        refine Rg.pure rfl rfl rfl (Pv.move rfl) ?_
        refine Rg.pure rfl rfl rfl (Pv.lenS rfl) ?_
        refine Rg.pure rfl rfl rfl (Pv.move rfl) ?_
        refine Rg.pure rfl rfl rfl (Pv.asI (16 * i) (Pv.mul rfl rfl (by omega)) (by omega)) ?_
        refine Rg.pure rfl rfl rfl (Pv.lss rfl rfl) ?_
        refine Rg.nil ?_
        refine Vc.cond rfl (fun h72 => ?_) (fun h72 => ?_)
        ·
          simp only [decide_eq_true_eq] at h72
          refine Vc.skip ?_
          refine Vc.block ?_
          refine Vc.text (List.range 4) (sd [(0, .pure), (1, .eff), (2, .eff), (3, .pure)]) rfl ?_
          refine Rg.pure rfl rfl rfl (Pv.move rfl) ?_
          refine Rg.bslice1 rfl rfl rfl rfl rfl rfl rfl (fun b74 => ?_)
          refine Rg.append rfl rfl rfl rfl rfl own2 (Src.one (y := (0 : UInt8)) rfl) (by simp <;> omega) (by simp [maxLen] <;> omega) rfl (fun v75 s75 own75 => ?_)
          rw [pad_snoc] at own75
          refine Rg.pure rfl rfl rfl (Pv.assign rfl) ?_
          refine Rg.nil ?_
          refine Vc.blk ?_
          exact Vc.inv3 (j + 1) v75 s75 ⟨⟨by omega, own75⟩, by omega⟩ (.cons rfl (.cons rfl (.cons rfl (.cons rfl (.cons rfl (.cons rfl (.cons rfl .nil))))))) pulled
        ·
          simp only [decide_eq_false_iff_not] at h72
          have hjj : j = 16 * i - (tornG b [] k1 i).1.length := by omega
          refine Vc.exit rfl ?_
          refine Vc.text (List.range 8) (sd [(0, .pure), (1, .pure), (2, .pure), (3, .pure), (4, .pure), (5, .pure), (6, .eff), (7, .pure)]) rfl ?_
          refine Rg.pure rfl rfl rfl (Pv.move rfl) ?_
          refine Rg.pure rfl rfl rfl (Pv.move rfl) ?_
          refine Rg.pure rfl rfl rfl (Pv.move rfl) ?_
          refine Rg.pure rfl rfl rfl (Pv.asI (16 * i) (Pv.mul rfl rfl (by omega)) (by omega)) ?_
          refine Rg.pure rfl rfl rfl (Pv.move rfl) ?_
          refine Rg.pure rfl rfl rfl (Pv.sl (lv := some (.int .i64 ((16 * i : Nat) : Int))) (hv := some (.int .i64 ((secTo b i : Nat) : Int))) (16 * i) (secTo b i) rfl rfl rfl (by omega) (by omega) (by simp)) ?_
          refine Rg.append rfl rfl rfl rfl rfl own2 (((hb.from (i := 16 * i) (by omega)).take (k := secTo b i - 16 * i) (by simp; omega)).src (ys := piece b (16 * i) (secTo b i))) (by simp <;> omega) (by simp [maxLen] <;> omega) rfl (fun v82 s82 own82 => ?_)
          have hfin : ((tornG b [] k1 i).1 ++ List.replicate j (0 : UInt8)) ++ piece b (16 * i) (secTo b i) = (tornG b [] k1 (i + 1)).1 := by rw [hbb, padTo, hjj]
          rw [hfin] at own82
          refine Rg.pure rfl rfl rfl (Pv.assign rfl) ?_
          refine Rg.nil ?_
          refine Vc.blk ?_
          refine Vc.text (List.range 3) (sd [(0, .pure), (1, .pure), (2, .pure)]) rfl ?_
          refine Rg.pure rfl rfl rfl (Pv.move rfl) ?_
          refine Rg.pure rfl rfl rfl (Pv.asI (i + 1) (Pv.add rfl rfl (by omega)) (by omega)) ?_
          refine Rg.pure rfl rfl rfl (Pv.assign rfl) ?_
          refine Rg.nil ?_
          exact Vc.inv3 (i + 1) v82 s82 ⟨⟨by omega, own82⟩, by omega⟩ (.cons rfl (.cons rfl (.cons rfl (.cons rfl (.cons rfl (.cons rfl .nil)))))) pulled
      ·
        rw [if_neg (by simpa using h67)] at hbb
        refine Vc.skip ?_
        refine Vc.blk ?_
        refine Vc.text (List.range 3) (sd [(0, .pure), (1, .pure), (2, .pure)]) rfl ?_
        refine Rg.pure rfl rfl rfl (Pv.move rfl) ?_
        refine Rg.pure rfl rfl rfl (Pv.asI (i + 1) (Pv.add rfl rfl (by omega)) (by omega)) ?_
        refine Rg.pure rfl rfl rfl (Pv.assign rfl) ?_
        refine Rg.nil ?_
        exact Vc.inv3 (i + 1) _ sg ⟨⟨by omega, by rw [hbb]; exact own⟩, by omega⟩ (.cons rfl (.cons rfl (.cons rfl (.cons rfl (.cons rfl (.cons rfl .nil)))))) pulled
  ·
    simp only [decide_eq_false_iff_not] at h49
    obtain rfl : i = secs b.length := by unfold secs; omega
    refine Vc.exit rfl ?_
    refine Vc.seq ?_
    refine Vc.text (List.range 7) (sd [(0, .pure), (1, .eff), (2, .pure), (3, .pure), (4, .pure), (5, .pure), (6, .pure)]) rfl ?_
    refine Rg.pure rfl rfl rfl (Pv.move rfl) ?_
    refine Rg.callH rfl rfl rfl (run_callF rfl) (fun F' hF' => size_w (F := F') hD43 hw43 (by omega) (by omega) [102] size1 (congrArg Prod.snd begins1)) rfl ?_
    rintro _ s85 ⟨rfl, hD85, hw85⟩
    refine Rg.pure rfl rfl rfl (Pv.move rfl) ?_
    refine Rg.pure rfl rfl rfl (Pv.extract rfl rfl) ?_
    refine Rg.pure rfl rfl rfl (Pv.extract rfl rfl) ?_
    refine Rg.pure rfl rfl rfl (Pv.assign rfl) ?_
    refine Rg.pure rfl rfl rfl (Pv.assign rfl) ?_
    refine Rg.nil ?_
    refine Vc.seq ?_
    refine Vc.text (List.range 9) (sd [(0, .pure), (1, .pure), (2, .pure), (3, .eff), (4, .pure), (5, .pure), (6, .pure), (7, .pure), (8, .pure)]) rfl ?_
    refine Rg.pure rfl rfl rfl (Pv.move rfl) ?_
    refine Rg.pure rfl rfl rfl (Pv.move rfl) ?_
    refine Rg.pure rfl rfl rfl (Pv.lenS rfl) ?_
    refine Rg.callH rfl rfl rfl (run_callF rfl) (fun F' hF' => readAt_w (F := F') hD85 hw85 (by omega) (by omega) [102] 0 ((tornG b [] k1 (secs b.length)).1.length : Nat) read1all (congrArg Prod.snd begins1)) rfl ?_
    rintro _ _ ⟨u92, q92, s92, rfl, own92, hD92, hw92, rfl⟩
    rw [List.append_assoc]
    refine Rg.pure rfl rfl rfl (Pv.move rfl) ?_
    refine Rg.pure rfl rfl rfl (Pv.extract rfl rfl) ?_
    refine Rg.pure rfl rfl rfl (Pv.extract rfl rfl) ?_
    refine Rg.pure rfl rfl rfl (Pv.assign rfl) ?_
    refine Rg.pure rfl rfl rfl (Pv.assign rfl) ?_
    refine Rg.nil ?_
    refine Vc.seq ?_
    refine Vc.text (List.range 23) (sd [(0, .pure), (1, .pure), (2, .pure), (3, .pure), (4, .pure), (5, .pure), (6, .pure), (7, .pure), (8, .pure), (9, .pure), (10, .pure), (11, .pure), (12, .pure), (13, .pure), (14, .pure), (15, .pure), (16, .pure), (17, .read), (18, .pure), (19, .read), (20, .pure), (21, .pure), (22, .pure)]) rfl ?_
    refine Rg.pure rfl rfl rfl (Pv.move rfl) ?_
    refine Rg.pure rfl rfl rfl (Pv.move rfl) ?_
    refine Rg.split (t := 96) rfl (fun h96 => ?_) (fun h96 => absurd h96 (by decide))
    refine Rg.pure rfl rfl rfl (Pv.move rfl) ?_
    refine Rg.pure rfl rfl rfl (Pv.eql rfl rfl) ?_
    refine Rg.pure rfl rfl rfl (Pv.pickT rfl rfl) ?_
    refine Rg.pure rfl rfl rfl (Pv.move rfl) ?_
    refine Rg.split (t := 100) rfl (fun h100 => ?_) (fun h100 => absurd h100 (by decide))
    refine Rg.pure rfl rfl rfl (Pv.move rfl) ?_
    refine Rg.pure rfl rfl rfl (Pv.move rfl) ?_
    refine Rg.pure rfl rfl rfl (Pv.lenS rfl) ?_
    refine Rg.pure rfl rfl rfl (Pv.eql rfl rfl) ?_
    refine Rg.pure rfl rfl rfl (Pv.pickT rfl rfl) ?_
    refine Rg.pure rfl rfl rfl (Pv.move rfl) ?_
    refine Rg.split (t := 106) rfl (fun h106 => ?_) (fun h106 => absurd h106 (by simp))
    refine Rg.pure rfl rfl rfl (Pv.move rfl) ?_
    refine Rg.pure rfl rfl rfl (Pv.eql rfl rfl) ?_
    refine Rg.pure rfl rfl rfl (Pv.pickT rfl rfl) ?_
    refine Rg.pure rfl rfl rfl (Pv.move rfl) ?_
    refine Rg.split (t := 110) rfl (fun h110 => ?_) (fun h110 => absurd h110 (by decide))
    refine Rg.pure rfl rfl rfl (Pv.move rfl) ?_
    refine Rg.read rfl rfl rfl (Ev.str ((Arg.own (F := frz F q92) own92 fun b o hb => Or.inl hb).srcF) rfl) ?_
    refine Rg.pure rfl rfl rfl (Pv.move rfl) ?_
    refine Rg.read rfl rfl rfl (Ev.str ((Arg.own (F := frz F sg) own fun b o hb => Or.inl hb).srcF) rfl) ?_
    refine Rg.pure rfl rfl rfl (Pv.eqlS rfl rfl) ?_
    refine Rg.pure rfl rfl rfl (Pv.pickT rfl rfl) ?_
    refine Rg.pure rfl rfl rfl (Pv.assign rfl) ?_
    refine Rg.nil ?_
    refine Vc.ret (Vc.rets rfl (.cons (.tmp rfl) (.nil)) ?_)
    exact congrArg Value.bool (by simp)
end Go.Proofs.Ytmocncadncgaaaa

namespace Go.Proofs.Ytmocncadncgaaaa
set_option linter.unusedVariables false

theorem texts_spec {F : Fm} {va vb : Value} {xs ys : List (List UInt8)} (ha : Arg strE F va xs) (hb : Arg strE F vb ys) (hN : xs.length < 1000000) (hM : ys.length < 1000000) :
    Spec Try.prog 29 #[va, vb] F [] fun v _ => v = .bool (decide (xs = ys)) := by
  obtain ⟨p, c, rfl⟩ := ha.shape
  obtain ⟨q, d, rfl⟩ := hb.shape
  refine Spec.of (n := 26) (vs := [.slice p xs.length c, .slice q ys.length d]) Try.func29 rfl Try.ntmps29 rfl ?_
  refine Vc.seq ?_
  refine Vc.text (List.range 1) (sd [(0, .pure)]) rfl ?_
  refine Rg.pure rfl rfl rfl (Pv.assign rfl) ?_
  refine Rg.nil ?_
  refine Vc.seq ?_
  refine Vc.seq ?_
  refine Vc.text (List.range 5) (sd [(0, .pure), (1, .pure), (2, .pure), (3, .pure), (4, .pure)]) rfl ?_
  refine Rg.pure rfl rfl rfl (Pv.move rfl) ?_
  refine Rg.pure rfl rfl rfl (Pv.lenS rfl) ?_
  refine Rg.pure rfl rfl rfl (Pv.move rfl) ?_
  refine Rg.pure rfl rfl rfl (Pv.lenS rfl) ?_
  refine Rg.pure rfl rfl rfl (Pv.neq rfl rfl) ?_
  refine Rg.nil ?_
  refine Vc.cond rfl (fun h10 => ?_) (fun h10 => ?_)
  ·
    simp only [bne_iff_ne, ne_eq] at h10
    refine Vc.seq ?_
    refine Vc.text (List.range 1) (sd [(0, .pure)]) rfl ?_
    refine Rg.pure rfl rfl rfl (Pv.assign rfl) ?_
    refine Rg.nil ?_
    refine Vc.ret (Vc.rets rfl (.cons (.tmp rfl) (.nil)) ?_)
    exact congrArg Value.bool (decide_eq_false (fun e => h10 (by rw [e]))).symm
  ·
    simp only [bne_eq_false_iff_eq] at h10
    have hl : xs.length = ys.length := by omega
    refine Vc.skip ?_
    refine Vc.seq ?_
    refine Vc.seq ?_
    refine Vc.text (List.range 1) (sd [(0, .pure)]) rfl ?_
    refine Rg.pure rfl rfl rfl (Pv.assign rfl) ?_
    refine Rg.nil ?_
    refine Vc.block ?_
    refine Vc.loop1 (fun (i : Nat) => i ≤ xs.length ∧ xs.take i = ys.take i) (fun i => [(0, .slice p xs.length c), (1, .slice q ys.length d), (5, .int .i64 (i : Int))]) (fun i => []) (fun i => xs.length - i) 0 ⟨Nat.zero_le _, rfl⟩ (.cons rfl (.cons rfl (.cons rfl .nil))) pulled ?_
    rintro i ⟨hi, htk⟩
    refine Vc.seq ?_
    refine Vc.seq ?_
    refine Vc.text (List.range 4) (sd [(0, .pure), (1, .pure), (2, .pure), (3, .pure)]) rfl ?_
    refine Rg.pure rfl rfl rfl (Pv.move rfl) ?_
    refine Rg.pure rfl rfl rfl (Pv.move rfl) ?_
    refine Rg.pure rfl rfl rfl (Pv.lenS rfl) ?_
    refine Rg.pure rfl rfl rfl (Pv.lss rfl rfl) ?_
    refine Rg.nil ?_
    refine Vc.cond rfl (fun h14 => ?_) (fun h14 => ?_)
    ·
      simp only [decide_eq_true_eq] at h14
      obtain ⟨b1, o1, c1, e, _⟩ := ha.block (by omega)
      cases e
      obtain ⟨b2, o2, c2, e, _⟩ := hb.block (by omega)
      cases e
      have t1 : xs.take (i + 1) = xs.take i ++ [xs[i]!] := by rw [List.take_succ_eq_append_getElem (by omega), getElem!_pos xs i (by omega)]
      have t2 : ys.take (i + 1) = ys.take i ++ [ys[i]!] := by rw [List.take_succ_eq_append_getElem (by omega), getElem!_pos ys i (by omega)]
      refine Vc.skip ?_
      refine Vc.seq ?_
      refine Vc.block ?_
      refine Vc.seq ?_
      refine Vc.draw [] (sd [(0, .pure), (1, .pure), (2, .pure), (3, .read), (4, .pure), (5, .pure), (6, .pure), (7, .read), (8, .pure)]) mixed (by kernel_rfl) ?_
      refine Rg.pure rfl rfl rfl (Pv.move rfl) ?_
      refine Rg.pure rfl rfl rfl (Pv.move rfl) ?_
      refine Rg.pure rfl rfl rfl (Pv.ixA (i) rfl rfl (by omega) (by omega)) ?_
      refine Rg.read rfl rfl rfl (Ev.ldS (i) (ha.src) rfl rfl rfl (by omega)) ?_
      refine Rg.pure rfl rfl rfl (Pv.move rfl) ?_
      refine Rg.pure rfl rfl rfl (Pv.move rfl) ?_
      refine Rg.pure rfl rfl rfl (Pv.ixA (i) rfl rfl (by omega) (by omega)) ?_
      refine Rg.read rfl rfl rfl (Ev.ldS (i) (hb.src) rfl rfl rfl (by omega)) ?_
      refine Rg.pure rfl rfl rfl (Pv.neqS rfl rfl) ?_
      refine Rg.nil ?_
      refine Vc.cond rfl (fun h25 => ?_) (fun h25 => ?_)
      ·
        simp only [Bool.not_eq_true', decide_eq_false_iff_not] at h25
        rw [kS_ne] at h25
        refine Vc.seq ?_
        refine Vc.text (List.range 1) (sd [(0, .pure)]) rfl ?_
        refine Rg.pure rfl rfl rfl (Pv.assign rfl) ?_
        refine Rg.nil ?_
        refine Vc.ret (Vc.rets rfl (.cons (.tmp rfl) (.nil)) ?_)
        exact congrArg Value.bool (decide_eq_false (fun e => h25 (by rw [e]))).symm
      ·
        simp only [Bool.not_eq_false', decide_eq_true_eq] at h25
        rw [kS_ne] at h25
        refine Vc.skip ?_
        refine Vc.blk ?_
        refine Vc.text (List.range 3) (sd [(0, .pure), (1, .pure), (2, .pure)]) rfl ?_
        refine Rg.pure rfl rfl rfl (Pv.move rfl) ?_
        refine Rg.pure rfl rfl rfl (Pv.asI (i + 1) (Pv.add rfl rfl (by omega)) (by omega)) ?_
        refine Rg.pure rfl rfl rfl (Pv.assign rfl) ?_
        refine Rg.nil ?_
        exact Vc.inv1 (i + 1) ⟨⟨by omega, by rw [t1, t2, htk, h25]⟩, by omega⟩ (.cons rfl (.cons rfl (.cons rfl .nil))) pulled
    ·
      simp only [decide_eq_false_iff_not] at h14
      have hxy : xs = ys := by rwa [List.take_of_length_le (by omega), List.take_of_length_le (by omega)] at htk
      refine Vc.exit rfl ?_
      refine Vc.seq ?_
      refine Vc.text (List.range 1) (sd [(0, .pure)]) rfl ?_
      refine Rg.pure rfl rfl rfl (Pv.assign rfl) ?_
      refine Rg.nil ?_
      refine Vc.ret (Vc.rets rfl (.cons (.tmp rfl) (.nil)) ?_)
      exact congrArg Value.bool (decide_eq_true hxy).symm

/-! ### None -/
section
variable {k : List UInt8} {f : Fl} {room ops : Int}
theorem begins0 : beginsD (d0 room ops) = (0, d0 room (ops + 1)) := begins_up rfl rfl
theorem find0 : findF [] k = none := rfl
theorem write0 (at_ : Option Int) (bs : List UInt8) : writeD (d0 room ops) k at_ bs = (4, d0 room (ops + 1)) := by
  simp only [writeD, begins0, find0]
  rfl
theorem size0 : sizeD (d0 room ops) k = (0, 4) := by
  simp only [sizeD, begins0, find0]
  rfl
theorem read0 (a m : Int) : readD (d0 room ops) k a m = ([], 4) := by
  simp only [readD, begins0, find0]
  rfl
theorem sync0 : syncD (d0 room ops) k = (4, d0 room (ops + 1)) := by
  simp only [syncD, begins0, find0]
  rfl
theorem rename0 (to : List UInt8) : renameD (d0 room ops) k to = (4, d0 room (ops + 1)) := by
  simp only [renameD, begins0, find0]
  rfl
theorem remove0 : removeD (d0 room ops) k = (4, d0 room (ops + 1)) := by
  simp only [removeD, begins0, find0]
  rfl
theorem create0n (hk : mayN ⟨k.toArray⟩ = false) : createD (d0 room ops) k = (1, d0 room (ops + 1)) := by
  simp only [createD, begins0, hk]
  rfl
theorem create1n (hk : mayN ⟨k.toArray⟩ = true) : createD (d1 k f room ops false) k = (5, d1 k f room (ops + 1) false) := by
  simp only [createD, begins1, hk, find1]
  rfl
theorem rename1n : renameD (d1 k f room ops false) k [] = (1, d1 k f room (ops + 1) false) := by
  simp only [renameD, begins1, find1]
  rfl
theorem remove1 : removeD (d1 k f room ops false) k = (0, d0 room (ops + 1)) := by
  have h : cutF [(k, f)] k = [] := by simp [cutF]
  simp only [removeD, begins1, find1, goneD, h]
  rw [if_neg (by decide), Int.sub_self]
end
set_option maxHeartbeats 1000000 in
theorem DiskNone_t (F : Fm) (s : List UInt8) (v1 : Value) (xs : List UInt8) (ha : Arg byteE F v1 xs) (hm : mayN ⟨s.toArray⟩ = true) :
    Spec Try.prog 10 #[kS s, v1] F [] fun v _ => v = .bool true := by
  obtain ⟨p1, c1, rfl⟩ := ha.shape
  obtain ⟨b, hbl, _, hbc, hb⟩ := ha.upTo 60
  rw [← hbl] at hb hbc
  have hmay : mayN ⟨s.toArray⟩ = (decide (1 ≤ s.length) && decide (s.length ≤ 24)) := rfl
  have hsz : (⟨s.toArray⟩ : ByteArray).size = s.length := rfl
  have hml := hm
  rw [hmay] at hml
  simp only [Bool.and_eq_true, decide_eq_true_eq] at hml
  refine Spec.of (n := 141) (vs := [kS s, .slice p1 xs.length c1]) Try.func10 rfl Try.ntmps10 rfl ?_
  refine Vc.seq ?_
  refine Vc.text (List.range 1) (sd [(0, .pure)]) rfl ?_
  refine Rg.pure rfl rfl rfl (Pv.assign rfl) ?_
  refine Rg.nil ?_
  refine Vc.seq ?_
  refine Vc.text (List.range 2) (sd [(0, .eff), (1, .pure)]) rfl ?_
  refine Rg.callP rfl rfl rfl (run_callF rfl) (shown_spec _) ?_
  rintro _ rfl
  refine Rg.pure rfl rfl rfl (Pv.assign rfl) ?_
  refine Rg.nil ?_
  refine Vc.seq ?_
  refine Vc.text (List.range 6) (sd [(0, .pure), (1, .pure), (2, .pure), (3, .pure), (4, .pure), (5, .pure)]) rfl ?_
  refine Rg.pure rfl rfl rfl (Pv.move rfl) ?_
  refine Rg.pure rfl rfl rfl (Pv.move rfl) ?_
  refine Rg.pure rfl rfl rfl (Pv.lenS rfl) ?_
  refine Rg.pure rfl rfl rfl (Pv.asI (b.length) (Pv.min rfl rfl) (by omega)) ?_
  refine Rg.pure rfl rfl rfl (Pv.slTo (b.length) rfl rfl (by omega)) ?_
  refine Rg.pure rfl rfl rfl (Pv.assign rfl) ?_
  refine Rg.nil ?_
  refine Vc.seq ?_
  refine Vc.text (List.range 2) (sd [(0, .eff), (1, .pure)]) rfl ?_
  refine Rg.callA rfl rfl rfl (run_callF rfl) (new_w _ 100 100 (by decide)) ?_
  rintro _ s28 ⟨db, rfl, hD28, hw28⟩
  refine Rg.pure rfl rfl rfl (Pv.assign rfl) ?_
  refine Rg.nil ?_
  refine Vc.seq ?_
  refine Vc.seq ?_
  refine Vc.text (List.range 2) (sd [(0, .pure), (1, .pure)]) rfl ?_
  refine Rg.pure rfl rfl rfl (Pv.move rfl) ?_
  refine Rg.pure rfl rfl rfl (Pv.eqlNil rfl rfl) ?_
  refine Rg.nil ?_
  refine Vc.cond rfl (fun h30 => absurd h30 (by (cases h30))) (fun h30 => ?_)
  refine Vc.skip ?_
  refine Vc.seq ?_
  refine Vc.text (List.range 5) (sd [(0, .pure), (1, .pure), (2, .pure), (3, .eff), (4, .pure)]) rfl ?_
  refine Rg.pure rfl rfl rfl (Pv.move rfl) ?_
  refine Rg.pure rfl rfl rfl (Pv.move rfl) ?_
  refine Rg.pure rfl rfl rfl (Pv.move rfl) ?_
  refine Rg.callH rfl rfl rfl (run_callF rfl) (fun F' hF' => append_w (F := F') hD28 hw28 (by omega) (by omega) s (hb.mono fun b o h => hF' b o (.inr h)) (by omega) (write0 none b)) rfl ?_
  rintro _ s34 ⟨rfl, hD34, hw34⟩
  refine Rg.pure rfl rfl rfl (Pv.assign rfl) ?_
  refine Rg.nil ?_
  refine Vc.seq ?_
  refine Vc.text (List.range 5) (sd [(0, .pure), (1, .pure), (2, .pure), (3, .eff), (4, .pure)]) rfl ?_
  refine Rg.pure rfl rfl rfl (Pv.move rfl) ?_
  refine Rg.pure rfl rfl rfl (Pv.move rfl) ?_
  refine Rg.pure rfl rfl rfl (Pv.move rfl) ?_
  refine Rg.callH rfl rfl rfl (run_callF rfl) (fun F' hF' => writeAt_w (F := F') hD34 hw34 (by omega) (by omega) s 0 (hb.mono fun b o h => hF' b o (.inr h)) (by omega) (write0 (some 0) b)) rfl ?_
  rintro _ s38 ⟨rfl, hD38, hw38⟩
  refine Rg.pure rfl rfl rfl (Pv.assign rfl) ?_
  refine Rg.nil ?_
  refine Vc.seq ?_
  refine Vc.text (List.range 8) (sd [(0, .pure), (1, .pure), (2, .eff), (3, .pure), (4, .pure), (5, .pure), (6, .pure), (7, .pure)]) rfl ?_
  refine Rg.pure rfl rfl rfl (Pv.move rfl) ?_
  refine Rg.pure rfl rfl rfl (Pv.move rfl) ?_
  refine Rg.callH rfl rfl rfl (run_callF rfl) (fun F' hF' => readAt_w (F := F') hD38 hw38 (by omega) (by omega) s 0 0 (read0 0 0) (congrArg Prod.snd begins0)) rfl ?_
  rintro _ _ ⟨u42, q42, s42, rfl, own42, hD42, hw42, rfl⟩
  rw [List.append_assoc]
  refine Rg.pure rfl rfl rfl (Pv.move rfl) ?_
  refine Rg.pure rfl rfl rfl (Pv.extract rfl rfl) ?_
  refine Rg.pure rfl rfl rfl (Pv.extract rfl rfl) ?_
  refine Rg.pure rfl rfl rfl (Pv.assign rfl) ?_
  refine Rg.pure rfl rfl rfl (Pv.assign rfl) ?_
  refine Rg.nil ?_
  refine Vc.seq ?_
  refine Vc.text (List.range 8) (sd [(0, .pure), (1, .pure), (2, .eff), (3, .pure), (4, .pure), (5, .pure), (6, .pure), (7, .pure)]) rfl ?_
  refine Rg.pure rfl rfl rfl (Pv.move rfl) ?_
  refine Rg.pure rfl rfl rfl (Pv.move rfl) ?_
  refine Rg.callH rfl rfl rfl (run_callF rfl) (fun F' hF' => size_w (F := F') hD42 hw42 (by omega) (by omega) s size0 (congrArg Prod.snd begins0)) rfl ?_
  rintro _ s48 ⟨rfl, hD48, hw48⟩
  refine Rg.pure rfl rfl rfl (Pv.move rfl) ?_
  refine Rg.pure rfl rfl rfl (Pv.extract rfl rfl) ?_
  refine Rg.pure rfl rfl rfl (Pv.extract rfl rfl) ?_
  refine Rg.pure rfl rfl rfl (Pv.assign rfl) ?_
  refine Rg.pure rfl rfl rfl (Pv.assign rfl) ?_
  refine Rg.nil ?_
  refine Vc.seq ?_
  refine Vc.text (List.range 4) (sd [(0, .pure), (1, .pure), (2, .eff), (3, .pure)]) rfl ?_
  refine Rg.pure rfl rfl rfl (Pv.move rfl) ?_
  refine Rg.pure rfl rfl rfl (Pv.move rfl) ?_
  refine Rg.callH rfl rfl rfl (run_callF rfl) (fun F' hF' => sync_w (F := F') hD48 hw48 (by omega) (by omega) s sync0) rfl ?_
  rintro _ s53 ⟨rfl, hD53, hw53⟩
  refine Rg.pure rfl rfl rfl (Pv.assign rfl) ?_
  refine Rg.nil ?_
  refine Vc.seq ?_
  refine Vc.text (List.range 4) (sd [(0, .pure), (1, .pure), (2, .eff), (3, .pure)]) rfl ?_
  refine Rg.pure rfl rfl rfl (Pv.move rfl) ?_
  refine Rg.pure rfl rfl rfl (Pv.move rfl) ?_
  refine Rg.callH rfl rfl rfl (run_callF rfl) (fun F' hF' => rename_w (F := F') hD53 hw53 (by omega) (by omega) s [120] (rename0 [120])) rfl ?_
  rintro _ s56 ⟨rfl, hD56, hw56⟩
  refine Rg.pure rfl rfl rfl (Pv.assign rfl) ?_
  refine Rg.nil ?_
  refine Vc.seq ?_
  refine Vc.text (List.range 4) (sd [(0, .pure), (1, .pure), (2, .eff), (3, .pure)]) rfl ?_
  refine Rg.pure rfl rfl rfl (Pv.move rfl) ?_
  refine Rg.pure rfl rfl rfl (Pv.move rfl) ?_
  refine Rg.callH rfl rfl rfl (run_callF rfl) (fun F' hF' => remove_w (F := F') hD56 hw56 (by omega) (by omega) s remove0) rfl ?_
  rintro _ s59 ⟨rfl, hD59, hw59⟩
  refine Rg.pure rfl rfl rfl (Pv.assign rfl) ?_
  refine Rg.nil ?_
  refine Vc.seq ?_
  refine Vc.text (List.range 4) (sd [(0, .pure), (1, .pure), (2, .eff), (3, .pure)]) rfl ?_
  refine Rg.pure rfl rfl rfl (Pv.move rfl) ?_
  refine Rg.pure rfl rfl rfl (Pv.move rfl) ?_
  refine Rg.callH rfl rfl rfl (run_callF rfl) (fun F' hF' => create_w (F := F') hD59 hw59 (by omega) (by omega) s (create1 hm)) rfl ?_
  rintro _ s62 ⟨rfl, hD62, hw62⟩
  refine Rg.pure rfl rfl rfl (Pv.assign rfl) ?_
  refine Rg.nil ?_
  refine Vc.seq ?_
  refine Vc.text (List.range 9) (sd [(0, .pure), (1, .pure), (2, .pure), (3, .pure), (4, .pure), (5, .pure), (6, .pure), (7, .pure), (8, .pure)]) rfl ?_
  refine Rg.pure rfl rfl rfl (Pv.move rfl) ?_
  refine Rg.pure rfl rfl rfl (Pv.as (.int .i64 (s.length : Int)) (Pv.lenStr rfl) (by rw [hsz])) ?_
  refine Rg.pure rfl rfl rfl (Pv.geq rfl rfl) ?_
  refine Rg.pure rfl rfl rfl (Pv.move rfl) ?_
  refine Rg.split (t := 66) rfl (fun h66 => ?_) (fun h66 => absurd h66 (by simp; omega))
  refine Rg.pure rfl rfl rfl (Pv.move rfl) ?_
  refine Rg.pure rfl rfl rfl (Pv.as (.int .i64 (s.length : Int)) (Pv.lenStr rfl) (by rw [hsz])) ?_
  refine Rg.pure rfl rfl rfl (Pv.leq rfl rfl) ?_
  refine Rg.pure rfl rfl rfl (Pv.pickT rfl rfl) ?_
  refine Rg.pure rfl rfl rfl (Pv.assign rfl) ?_
  refine Rg.nil ?_
  refine Vc.seq ?_
  refine Vc.text (List.range 27) (sd [(0, .pure), (1, .pure), (2, .pure), (3, .pure), (4, .pure), (5, .pure), (6, .pure), (7, .pure), (8, .pure), (9, .pure), (10, .pure), (11, .pure), (12, .pure), (13, .pure), (14, .pure), (15, .pure), (16, .pure), (17, .pure), (18, .pure), (19, .pure), (20, .pure), (21, .pure), (22, .pure), (23, .pure), (24, .pure), (25, .pure), (26, .pure)]) rfl ?_
  refine Rg.pure rfl rfl rfl (Pv.move rfl) ?_
  refine Rg.pure rfl rfl rfl (Pv.eql rfl rfl) ?_
  refine Rg.pure rfl rfl rfl (Pv.move rfl) ?_
  refine Rg.split (t := 73) rfl (fun h73 => ?_) (fun h73 => absurd h73 (by decide))
  refine Rg.pure rfl rfl rfl (Pv.move rfl) ?_
  refine Rg.pure rfl rfl rfl (Pv.eql rfl rfl) ?_
  refine Rg.pure rfl rfl rfl (Pv.pickT rfl rfl) ?_
  refine Rg.pure rfl rfl rfl (Pv.move rfl) ?_
  refine Rg.split (t := 77) rfl (fun h77 => ?_) (fun h77 => absurd h77 (by decide))
  refine Rg.pure rfl rfl rfl (Pv.move rfl) ?_
  refine Rg.pure rfl rfl rfl (Pv.eql rfl rfl) ?_
  refine Rg.pure rfl rfl rfl (Pv.pickT rfl rfl) ?_
  refine Rg.pure rfl rfl rfl (Pv.move rfl) ?_
  refine Rg.split (t := 81) rfl (fun h81 => ?_) (fun h81 => absurd h81 (by decide))
  refine Rg.pure rfl rfl rfl (Pv.move rfl) ?_
  refine Rg.pure rfl rfl rfl (Pv.eql rfl rfl) ?_
  refine Rg.pure rfl rfl rfl (Pv.pickT rfl rfl) ?_
  refine Rg.pure rfl rfl rfl (Pv.move rfl) ?_
  refine Rg.split (t := 85) rfl (fun h85 => ?_) (fun h85 => absurd h85 (by decide))
  refine Rg.pure rfl rfl rfl (Pv.move rfl) ?_
  refine Rg.pure rfl rfl rfl (Pv.eql rfl rfl) ?_
  refine Rg.pure rfl rfl rfl (Pv.pickT rfl rfl) ?_
  refine Rg.pure rfl rfl rfl (Pv.move rfl) ?_
  refine Rg.split (t := 89) rfl (fun h89 => ?_) (fun h89 => absurd h89 (by decide))
  refine Rg.pure rfl rfl rfl (Pv.move rfl) ?_
  refine Rg.pure rfl rfl rfl (Pv.eql rfl rfl) ?_
  refine Rg.pure rfl rfl rfl (Pv.pickT rfl rfl) ?_
  refine Rg.pure rfl rfl rfl (Pv.move rfl) ?_
  refine Rg.split (t := 93) rfl (fun h93 => ?_) (fun h93 => absurd h93 (by decide))
  refine Rg.pure rfl rfl rfl (Pv.move rfl) ?_
  refine Rg.pure rfl rfl rfl (Pv.eql rfl rfl) ?_
  refine Rg.pure rfl rfl rfl (Pv.pickT rfl rfl) ?_
  refine Rg.pure rfl rfl rfl (Pv.assign rfl) ?_
  refine Rg.nil ?_
  refine Vc.seq ?_
  refine Vc.seq ?_
  refine Vc.text (List.range 2) (sd [(0, .pure), (1, .pure)]) rfl ?_
  refine Rg.pure rfl rfl rfl (Pv.move rfl) ?_
  refine Rg.pure rfl rfl rfl (Pv.not rfl) ?_
  refine Rg.nil ?_
  refine Vc.cond rfl (fun h98 => absurd h98 (by simp; omega)) (fun h98 => ?_)
  refine Vc.skip ?_
  refine Vc.seq ?_
  refine Vc.text (List.range 4) (sd [(0, .pure), (1, .pure), (2, .eff), (3, .pure)]) rfl ?_
  refine Rg.pure rfl rfl rfl (Pv.move rfl) ?_
  refine Rg.pure rfl rfl rfl (Pv.move rfl) ?_
  refine Rg.callH rfl rfl rfl (run_callF rfl) (fun F' hF' => create_w (F := F') hD62 hw62 (by omega) (by omega) s (create1n hm)) rfl ?_
  rintro _ s109 ⟨rfl, hD109, hw109⟩
  refine Rg.pure rfl rfl rfl (Pv.assign rfl) ?_
  refine Rg.nil ?_
  refine Vc.seq ?_
  refine Vc.text (List.range 4) (sd [(0, .pure), (1, .pure), (2, .eff), (3, .pure)]) rfl ?_
  refine Rg.pure rfl rfl rfl (Pv.move rfl) ?_
  refine Rg.pure rfl rfl rfl (Pv.move rfl) ?_
  refine Rg.callH rfl rfl rfl (run_callF rfl) (fun F' hF' => rename_w (F := F') hD109 hw109 (by omega) (by omega) s [] rename1n) rfl ?_
  rintro _ s112 ⟨rfl, hD112, hw112⟩
  refine Rg.pure rfl rfl rfl (Pv.assign rfl) ?_
  refine Rg.nil ?_
  refine Vc.seq ?_
  refine Vc.text (List.range 4) (sd [(0, .pure), (1, .pure), (2, .eff), (3, .pure)]) rfl ?_
  refine Rg.pure rfl rfl rfl (Pv.move rfl) ?_
  refine Rg.pure rfl rfl rfl (Pv.move rfl) ?_
  refine Rg.callH rfl rfl rfl (run_callF rfl) (fun F' hF' => remove_w (F := F') hD112 hw112 (by omega) (by omega) s remove1) rfl ?_
  rintro _ s115 ⟨rfl, hD115, hw115⟩
  refine Rg.pure rfl rfl rfl (Pv.assign rfl) ?_
  refine Rg.nil ?_
  refine Vc.seq ?_
  refine Vc.text (List.range 26) (sd [(0, .pure), (1, .pure), (2, .pure), (3, .pure), (4, .pure), (5, .pure), (6, .pure), (7, .pure), (8, .pure), (9, .pure), (10, .pure), (11, .pure), (12, .pure), (13, .pure), (14, .pure), (15, .pure), (16, .pure), (17, .pure), (18, .pure), (19, .pure), (20, .pure), (21, .pure), (22, .eff), (23, .pure), (24, .pure), (25, .pure)]) rfl ?_
  refine Rg.pure rfl rfl rfl (Pv.move rfl) ?_
  refine Rg.pure rfl rfl rfl (Pv.move rfl) ?_
  refine Rg.split (t := 117) rfl (fun h117 => ?_) (fun h117 => absurd h117 (by decide))
  refine Rg.pure rfl rfl rfl (Pv.move rfl) ?_
  refine Rg.pure rfl rfl rfl (Pv.pickT rfl rfl) ?_
  refine Rg.pure rfl rfl rfl (Pv.move rfl) ?_
  refine Rg.split (t := 120) rfl (fun h120 => ?_) (fun h120 => absurd h120 (by decide))
  refine Rg.pure rfl rfl rfl (Pv.move rfl) ?_
  refine Rg.pure rfl rfl rfl (Pv.eql rfl rfl) ?_
  refine Rg.pure rfl rfl rfl (Pv.pickT rfl rfl) ?_
  refine Rg.pure rfl rfl rfl (Pv.move rfl) ?_
  refine Rg.split (t := 124) rfl (fun h124 => ?_) (fun h124 => absurd h124 (by decide))
  refine Rg.pure rfl rfl rfl (Pv.move rfl) ?_
  refine Rg.pure rfl rfl rfl (Pv.eql rfl rfl) ?_
  refine Rg.pure rfl rfl rfl (Pv.pickT rfl rfl) ?_
  refine Rg.pure rfl rfl rfl (Pv.move rfl) ?_
  refine Rg.split (t := 128) rfl (fun h128 => ?_) (fun h128 => absurd h128 (by decide))
  refine Rg.pure rfl rfl rfl (Pv.move rfl) ?_
  refine Rg.pure rfl rfl rfl (Pv.eql rfl rfl) ?_
  refine Rg.pure rfl rfl rfl (Pv.pickT rfl rfl) ?_
  refine Rg.pure rfl rfl rfl (Pv.move rfl) ?_
  refine Rg.split (t := 132) rfl (fun h132 => ?_) (fun h132 => absurd h132 (by decide))
  refine Rg.pure rfl rfl rfl (Pv.move rfl) ?_
  refine Rg.pure rfl rfl rfl (Pv.eql rfl rfl) ?_
  refine Rg.pure rfl rfl rfl (Pv.pickT rfl rfl) ?_
  refine Rg.pure rfl rfl rfl (Pv.move rfl) ?_
  refine Rg.split (t := 136) rfl (fun h136 => ?_) (fun h136 => absurd h136 (by decide))
  refine Rg.pure rfl rfl rfl (Pv.move rfl) ?_
  refine Rg.callP rfl rfl rfl (run_callF rfl) (opsD_spec hD115 frz_sb) ?_
  rintro _ rfl
  refine Rg.pure rfl rfl rfl (Pv.eql rfl rfl) ?_
  refine Rg.pure rfl rfl rfl (Pv.pickT rfl rfl) ?_
  refine Rg.pure rfl rfl rfl (Pv.assign rfl) ?_
  refine Rg.nil ?_
  refine Vc.ret (Vc.rets rfl (.cons (.tmp rfl) (.nil)) ?_)
  exact congrArg Value.bool (by decide)
set_option maxHeartbeats 1000000 in
theorem DiskNone_f (F : Fm) (s : List UInt8) (v1 : Value) (xs : List UInt8) (ha : Arg byteE F v1 xs) (hm : mayN ⟨s.toArray⟩ = false) :
    Spec Try.prog 10 #[kS s, v1] F [] fun v _ => v = .bool true := by
  obtain ⟨p1, c1, rfl⟩ := ha.shape
  obtain ⟨b, hbl, _, hbc, hb⟩ := ha.upTo 60
  rw [← hbl] at hb hbc
  have hmay : mayN ⟨s.toArray⟩ = (decide (1 ≤ s.length) && decide (s.length ≤ 24)) := rfl
  have hsz : (⟨s.toArray⟩ : ByteArray).size = s.length := rfl
  have hml := hm
  rw [hmay] at hml
  simp only [Bool.and_eq_false_iff, decide_eq_false_iff_not] at hml
  refine Spec.of (n := 141) (vs := [kS s, .slice p1 xs.length c1]) Try.func10 rfl Try.ntmps10 rfl ?_
  refine Vc.seq ?_
  refine Vc.text (List.range 1) (sd [(0, .pure)]) rfl ?_
  refine Rg.pure rfl rfl rfl (Pv.assign rfl) ?_
  refine Rg.nil ?_
  refine Vc.seq ?_
  refine Vc.text (List.range 2) (sd [(0, .eff), (1, .pure)]) rfl ?_
  refine Rg.callP rfl rfl rfl (run_callF rfl) (shown_spec _) ?_
  rintro _ rfl
  refine Rg.pure rfl rfl rfl (Pv.assign rfl) ?_
  refine Rg.nil ?_
  refine Vc.seq ?_
  refine Vc.text (List.range 6) (sd [(0, .pure), (1, .pure), (2, .pure), (3, .pure), (4, .pure), (5, .pure)]) rfl ?_
  refine Rg.pure rfl rfl rfl (Pv.move rfl) ?_
  refine Rg.pure rfl rfl rfl (Pv.move rfl) ?_
  refine Rg.pure rfl rfl rfl (Pv.lenS rfl) ?_
  refine Rg.pure rfl rfl rfl (Pv.asI (b.length) (Pv.min rfl rfl) (by omega)) ?_
  refine Rg.pure rfl rfl rfl (Pv.slTo (b.length) rfl rfl (by omega)) ?_
  refine Rg.pure rfl rfl rfl (Pv.assign rfl) ?_
  refine Rg.nil ?_
  refine Vc.seq ?_
  refine Vc.text (List.range 2) (sd [(0, .eff), (1, .pure)]) rfl ?_
  refine Rg.callA rfl rfl rfl (run_callF rfl) (new_w _ 100 100 (by decide)) ?_
  rintro _ s28 ⟨db, rfl, hD28, hw28⟩
  refine Rg.pure rfl rfl rfl (Pv.assign rfl) ?_
  refine Rg.nil ?_
  refine Vc.seq ?_
  refine Vc.seq ?_
  refine Vc.text (List.range 2) (sd [(0, .pure), (1, .pure)]) rfl ?_
  refine Rg.pure rfl rfl rfl (Pv.move rfl) ?_
  refine Rg.pure rfl rfl rfl (Pv.eqlNil rfl rfl) ?_
  refine Rg.nil ?_
  refine Vc.cond rfl (fun h30 => absurd h30 (by (cases h30))) (fun h30 => ?_)
  refine Vc.skip ?_
  refine Vc.seq ?_
  refine Vc.text (List.range 5) (sd [(0, .pure), (1, .pure), (2, .pure), (3, .eff), (4, .pure)]) rfl ?_
  refine Rg.pure rfl rfl rfl (Pv.move rfl) ?_
  refine Rg.pure rfl rfl rfl (Pv.move rfl) ?_
  refine Rg.pure rfl rfl rfl (Pv.move rfl) ?_
  refine Rg.callH rfl rfl rfl (run_callF rfl) (fun F' hF' => append_w (F := F') hD28 hw28 (by omega) (by omega) s (hb.mono fun b o h => hF' b o (.inr h)) (by omega) (write0 none b)) rfl ?_
  rintro _ s34 ⟨rfl, hD34, hw34⟩
  refine Rg.pure rfl rfl rfl (Pv.assign rfl) ?_
  refine Rg.nil ?_
  refine Vc.seq ?_
  refine Vc.text (List.range 5) (sd [(0, .pure), (1, .pure), (2, .pure), (3, .eff), (4, .pure)]) rfl ?_
  refine Rg.pure rfl rfl rfl (Pv.move rfl) ?_
  refine Rg.pure rfl rfl rfl (Pv.move rfl) ?_
  refine Rg.pure rfl rfl rfl (Pv.move rfl) ?_
  refine Rg.callH rfl rfl rfl (run_callF rfl) (fun F' hF' => writeAt_w (F := F') hD34 hw34 (by omega) (by omega) s 0 (hb.mono fun b o h => hF' b o (.inr h)) (by omega) (write0 (some 0) b)) rfl ?_
  rintro _ s38 ⟨rfl, hD38, hw38⟩
  refine Rg.pure rfl rfl rfl (Pv.assign rfl) ?_
  refine Rg.nil ?_
  refine Vc.seq ?_
  refine Vc.text (List.range 8) (sd [(0, .pure), (1, .pure), (2, .eff), (3, .pure), (4, .pure), (5, .pure), (6, .pure), (7, .pure)]) rfl ?_
  refine Rg.pure rfl rfl rfl (Pv.move rfl) ?_
  refine Rg.pure rfl rfl rfl (Pv.move rfl) ?_
  refine Rg.callH rfl rfl rfl (run_callF rfl) (fun F' hF' => readAt_w (F := F') hD38 hw38 (by omega) (by omega) s 0 0 (read0 0 0) (congrArg Prod.snd begins0)) rfl ?_
  rintro _ _ ⟨u42, q42, s42, rfl, own42, hD42, hw42, rfl⟩
  rw [List.append_assoc]
  refine Rg.pure rfl rfl rfl (Pv.move rfl) ?_
  refine Rg.pure rfl rfl rfl (Pv.extract rfl rfl) ?_
  refine Rg.pure rfl rfl rfl (Pv.extract rfl rfl) ?_
  refine Rg.pure rfl rfl rfl (Pv.assign rfl) ?_
  refine Rg.pure rfl rfl rfl (Pv.assign rfl) ?_
  refine Rg.nil ?_
  refine Vc.seq ?_
  refine Vc.text (List.range 8) (sd [(0, .pure), (1, .pure), (2, .eff), (3, .pure), (4, .pure), (5, .pure), (6, .pure), (7, .pure)]) rfl ?_
  refine Rg.pure rfl rfl rfl (Pv.move rfl) ?_
  refine Rg.pure rfl rfl rfl (Pv.move rfl) ?_
  refine Rg.callH rfl rfl rfl (run_callF rfl) (fun F' hF' => size_w (F := F') hD42 hw42 (by omega) (by omega) s size0 (congrArg Prod.snd begins0)) rfl ?_
  rintro _ s48 ⟨rfl, hD48, hw48⟩
  refine Rg.pure rfl rfl rfl (Pv.move rfl) ?_
  refine Rg.pure rfl rfl rfl (Pv.extract rfl rfl) ?_
  refine Rg.pure rfl rfl rfl (Pv.extract rfl rfl) ?_
  refine Rg.pure rfl rfl rfl (Pv.assign rfl) ?_
  refine Rg.pure rfl rfl rfl (Pv.assign rfl) ?_
  refine Rg.nil ?_
  refine Vc.seq ?_
  refine Vc.text (List.range 4) (sd [(0, .pure), (1, .pure), (2, .eff), (3, .pure)]) rfl ?_
  refine Rg.pure rfl rfl rfl (Pv.move rfl) ?_
  refine Rg.pure rfl rfl rfl (Pv.move rfl) ?_
  refine Rg.callH rfl rfl rfl (run_callF rfl) (fun F' hF' => sync_w (F := F') hD48 hw48 (by omega) (by omega) s sync0) rfl ?_
  rintro _ s53 ⟨rfl, hD53, hw53⟩
  refine Rg.pure rfl rfl rfl (Pv.assign rfl) ?_
  refine Rg.nil ?_
  refine Vc.seq ?_
  refine Vc.text (List.range 4) (sd [(0, .pure), (1, .pure), (2, .eff), (3, .pure)]) rfl ?_
  refine Rg.pure rfl rfl rfl (Pv.move rfl) ?_
  refine Rg.pure rfl rfl rfl (Pv.move rfl) ?_
  refine Rg.callH rfl rfl rfl (run_callF rfl) (fun F' hF' => rename_w (F := F') hD53 hw53 (by omega) (by omega) s [120] (rename0 [120])) rfl ?_
  rintro _ s56 ⟨rfl, hD56, hw56⟩
  refine Rg.pure rfl rfl rfl (Pv.assign rfl) ?_
  refine Rg.nil ?_
  refine Vc.seq ?_
  refine Vc.text (List.range 4) (sd [(0, .pure), (1, .pure), (2, .eff), (3, .pure)]) rfl ?_
  refine Rg.pure rfl rfl rfl (Pv.move rfl) ?_
  refine Rg.pure rfl rfl rfl (Pv.move rfl) ?_
  refine Rg.callH rfl rfl rfl (run_callF rfl) (fun F' hF' => remove_w (F := F') hD56 hw56 (by omega) (by omega) s remove0) rfl ?_
  rintro _ s59 ⟨rfl, hD59, hw59⟩
  refine Rg.pure rfl rfl rfl (Pv.assign rfl) ?_
  refine Rg.nil ?_
  refine Vc.seq ?_
  refine Vc.text (List.range 4) (sd [(0, .pure), (1, .pure), (2, .eff), (3, .pure)]) rfl ?_
  refine Rg.pure rfl rfl rfl (Pv.move rfl) ?_
  refine Rg.pure rfl rfl rfl (Pv.move rfl) ?_
  refine Rg.callH rfl rfl rfl (run_callF rfl) (fun F' hF' => create_w (F := F') hD59 hw59 (by omega) (by omega) s (create0n hm)) rfl ?_
  rintro _ s62 ⟨rfl, hD62, hw62⟩
  refine Rg.pure rfl rfl rfl (Pv.assign rfl) ?_
  refine Rg.nil ?_
  refine Vc.seq ?_
  refine Vc.text (List.range 9) (sd [(0, .pure), (1, .pure), (2, .pure), (3, .pure), (4, .pure), (5, .pure), (6, .pure), (7, .pure), (8, .pure)]) rfl ?_
  refine Rg.pure rfl rfl rfl (Pv.move rfl) ?_
  refine Rg.pure rfl rfl rfl (Pv.as (.int .i64 (s.length : Int)) (Pv.lenStr rfl) (by rw [hsz])) ?_
  refine Rg.pure rfl rfl rfl (Pv.geq rfl rfl) ?_
  refine Rg.pure rfl rfl rfl (Pv.move rfl) ?_
  refine Rg.split (t := 66) rfl (fun h66 => ?_) (fun h66 => ?_)
  ·
    simp only [decide_eq_true_eq] at h66
    refine Rg.pure rfl rfl rfl (Pv.move rfl) ?_
    refine Rg.pure rfl rfl rfl (Pv.as (.int .i64 (s.length : Int)) (Pv.lenStr rfl) (by rw [hsz])) ?_
    refine Rg.pure rfl rfl rfl (Pv.leq rfl rfl) ?_
    refine Rg.pure rfl rfl rfl (Pv.pickT rfl rfl) ?_
    refine Rg.pure rfl rfl rfl (Pv.assign rfl) ?_
    refine Rg.nil ?_
    refine Vc.seq ?_
    refine Vc.text (List.range 27) (sd [(0, .pure), (1, .pure), (2, .pure), (3, .pure), (4, .pure), (5, .pure), (6, .pure), (7, .pure), (8, .pure), (9, .pure), (10, .pure), (11, .pure), (12, .pure), (13, .pure), (14, .pure), (15, .pure), (16, .pure), (17, .pure), (18, .pure), (19, .pure), (20, .pure), (21, .pure), (22, .pure), (23, .pure), (24, .pure), (25, .pure), (26, .pure)]) rfl ?_
    refine Rg.pure rfl rfl rfl (Pv.move rfl) ?_
    refine Rg.pure rfl rfl rfl (Pv.eql rfl rfl) ?_
    refine Rg.pure rfl rfl rfl (Pv.move rfl) ?_
    refine Rg.split (t := 73) rfl (fun h73 => ?_) (fun h73 => absurd h73 (by decide))
    refine Rg.pure rfl rfl rfl (Pv.move rfl) ?_
    refine Rg.pure rfl rfl rfl (Pv.eql rfl rfl) ?_
    refine Rg.pure rfl rfl rfl (Pv.pickT rfl rfl) ?_
    refine Rg.pure rfl rfl rfl (Pv.move rfl) ?_
    refine Rg.split (t := 77) rfl (fun h77 => ?_) (fun h77 => absurd h77 (by decide))
    refine Rg.pure rfl rfl rfl (Pv.move rfl) ?_
    refine Rg.pure rfl rfl rfl (Pv.eql rfl rfl) ?_
    refine Rg.pure rfl rfl rfl (Pv.pickT rfl rfl) ?_
    refine Rg.pure rfl rfl rfl (Pv.move rfl) ?_
    refine Rg.split (t := 81) rfl (fun h81 => ?_) (fun h81 => absurd h81 (by decide))
    refine Rg.pure rfl rfl rfl (Pv.move rfl) ?_
    refine Rg.pure rfl rfl rfl (Pv.eql rfl rfl) ?_
    refine Rg.pure rfl rfl rfl (Pv.pickT rfl rfl) ?_
    refine Rg.pure rfl rfl rfl (Pv.move rfl) ?_
    refine Rg.split (t := 85) rfl (fun h85 => ?_) (fun h85 => absurd h85 (by decide))
    refine Rg.pure rfl rfl rfl (Pv.move rfl) ?_
    refine Rg.pure rfl rfl rfl (Pv.eql rfl rfl) ?_
    refine Rg.pure rfl rfl rfl (Pv.pickT rfl rfl) ?_
    refine Rg.pure rfl rfl rfl (Pv.move rfl) ?_
    refine Rg.split (t := 89) rfl (fun h89 => ?_) (fun h89 => absurd h89 (by decide))
    refine Rg.pure rfl rfl rfl (Pv.move rfl) ?_
    refine Rg.pure rfl rfl rfl (Pv.eql rfl rfl) ?_
    refine Rg.pure rfl rfl rfl (Pv.pickT rfl rfl) ?_
    refine Rg.pure rfl rfl rfl (Pv.move rfl) ?_
    refine Rg.split (t := 93) rfl (fun h93 => ?_) (fun h93 => absurd h93 (by decide))
    refine Rg.pure rfl rfl rfl (Pv.move rfl) ?_
    refine Rg.pure rfl rfl rfl (Pv.eql rfl rfl) ?_
    refine Rg.pure rfl rfl rfl (Pv.pickT rfl rfl) ?_
    refine Rg.pure rfl rfl rfl (Pv.assign rfl) ?_
    refine Rg.nil ?_
    refine Vc.seq ?_
    refine Vc.seq ?_
    refine Vc.text (List.range 2) (sd [(0, .pure), (1, .pure)]) rfl ?_
    refine Rg.pure rfl rfl rfl (Pv.move rfl) ?_
    refine Rg.pure rfl rfl rfl (Pv.not rfl) ?_
    refine Rg.nil ?_
    refine Vc.cond rfl (fun h98 => ?_) (fun h98 => absurd h98 (by simp; omega))
    refine Vc.seq ?_
    refine Vc.text (List.range 9) (sd [(0, .pure), (1, .pure), (2, .pure), (3, .pure), (4, .pure), (5, .pure), (6, .pure), (7, .pure), (8, .pure)]) rfl ?_
    refine Rg.pure rfl rfl rfl (Pv.move rfl) ?_
    refine Rg.pure rfl rfl rfl (Pv.move rfl) ?_
    refine Rg.split (t := 100) rfl (fun h100 => ?_) (fun h100 => absurd h100 (by decide))
    refine Rg.pure rfl rfl rfl (Pv.move rfl) ?_
    refine Rg.pure rfl rfl rfl (Pv.pickT rfl rfl) ?_
    refine Rg.pure rfl rfl rfl (Pv.move rfl) ?_
    refine Rg.split (t := 103) rfl (fun h103 => ?_) (fun h103 => absurd h103 (by decide))
    refine Rg.pure rfl rfl rfl (Pv.move rfl) ?_
    refine Rg.pure rfl rfl rfl (Pv.eql rfl rfl) ?_
    refine Rg.pure rfl rfl rfl (Pv.pickT rfl rfl) ?_
    refine Rg.pure rfl rfl rfl (Pv.assign rfl) ?_
    refine Rg.nil ?_
    refine Vc.ret (Vc.rets rfl (.cons (.tmp rfl) (.nil)) ?_)
    exact congrArg Value.bool (by decide)
  ·
    iterate 3 (first | refine Rg.skipP rfl rfl rfl ?_ | refine Rg.skipR rfl rfl rfl ?_ | refine Rg.skipE rfl rfl rfl ?_)
    refine Rg.pure rfl rfl rfl (Pv.pickF rfl rfl) ?_
    refine Rg.pure rfl rfl rfl (Pv.assign rfl) ?_
    refine Rg.nil ?_
    refine Vc.seq ?_
    refine Vc.text (List.range 27) (sd [(0, .pure), (1, .pure), (2, .pure), (3, .pure), (4, .pure), (5, .pure), (6, .pure), (7, .pure), (8, .pure), (9, .pure), (10, .pure), (11, .pure), (12, .pure), (13, .pure), (14, .pure), (15, .pure), (16, .pure), (17, .pure), (18, .pure), (19, .pure), (20, .pure), (21, .pure), (22, .pure), (23, .pure), (24, .pure), (25, .pure), (26, .pure)]) rfl ?_
    refine Rg.pure rfl rfl rfl (Pv.move rfl) ?_
    refine Rg.pure rfl rfl rfl (Pv.eql rfl rfl) ?_
    refine Rg.pure rfl rfl rfl (Pv.move rfl) ?_
    refine Rg.split (t := 73) rfl (fun h73 => ?_) (fun h73 => absurd h73 (by decide))
    refine Rg.pure rfl rfl rfl (Pv.move rfl) ?_
    refine Rg.pure rfl rfl rfl (Pv.eql rfl rfl) ?_
    refine Rg.pure rfl rfl rfl (Pv.pickT rfl rfl) ?_
    refine Rg.pure rfl rfl rfl (Pv.move rfl) ?_
    refine Rg.split (t := 77) rfl (fun h77 => ?_) (fun h77 => absurd h77 (by decide))
    refine Rg.pure rfl rfl rfl (Pv.move rfl) ?_
    refine Rg.pure rfl rfl rfl (Pv.eql rfl rfl) ?_
    refine Rg.pure rfl rfl rfl (Pv.pickT rfl rfl) ?_
    refine Rg.pure rfl rfl rfl (Pv.move rfl) ?_
    refine Rg.split (t := 81) rfl (fun h81 => ?_) (fun h81 => absurd h81 (by decide))
    refine Rg.pure rfl rfl rfl (Pv.move rfl) ?_
    refine Rg.pure rfl rfl rfl (Pv.eql rfl rfl) ?_
    refine Rg.pure rfl rfl rfl (Pv.pickT rfl rfl) ?_
    refine Rg.pure rfl rfl rfl (Pv.move rfl) ?_
    refine Rg.split (t := 85) rfl (fun h85 => ?_) (fun h85 => absurd h85 (by decide))
    refine Rg.pure rfl rfl rfl (Pv.move rfl) ?_
    refine Rg.pure rfl rfl rfl (Pv.eql rfl rfl) ?_
    refine Rg.pure rfl rfl rfl (Pv.pickT rfl rfl) ?_
    refine Rg.pure rfl rfl rfl (Pv.move rfl) ?_
    refine Rg.split (t := 89) rfl (fun h89 => ?_) (fun h89 => absurd h89 (by decide))
    refine Rg.pure rfl rfl rfl (Pv.move rfl) ?_
    refine Rg.pure rfl rfl rfl (Pv.eql rfl rfl) ?_
    refine Rg.pure rfl rfl rfl (Pv.pickT rfl rfl) ?_
    refine Rg.pure rfl rfl rfl (Pv.move rfl) ?_
    refine Rg.split (t := 93) rfl (fun h93 => ?_) (fun h93 => absurd h93 (by decide))
    refine Rg.pure rfl rfl rfl (Pv.move rfl) ?_
    refine Rg.pure rfl rfl rfl (Pv.eql rfl rfl) ?_
    refine Rg.pure rfl rfl rfl (Pv.pickT rfl rfl) ?_
    refine Rg.pure rfl rfl rfl (Pv.assign rfl) ?_
    refine Rg.nil ?_
    refine Vc.seq ?_
    refine Vc.seq ?_
    refine Vc.text (List.range 2) (sd [(0, .pure), (1, .pure)]) rfl ?_
    refine Rg.pure rfl rfl rfl (Pv.move rfl) ?_
    refine Rg.pure rfl rfl rfl (Pv.not rfl) ?_
    refine Rg.nil ?_
    refine Vc.cond rfl (fun h98 => ?_) (fun h98 => absurd h98 (by decide))
    refine Vc.seq ?_
    refine Vc.text (List.range 9) (sd [(0, .pure), (1, .pure), (2, .pure), (3, .pure), (4, .pure), (5, .pure), (6, .pure), (7, .pure), (8, .pure)]) rfl ?_
    refine Rg.pure rfl rfl rfl (Pv.move rfl) ?_
    refine Rg.pure rfl rfl rfl (Pv.move rfl) ?_
    refine Rg.split (t := 100) rfl (fun h100 => ?_) (fun h100 => absurd h100 (by decide))
    refine Rg.pure rfl rfl rfl (Pv.move rfl) ?_
    refine Rg.pure rfl rfl rfl (Pv.pickT rfl rfl) ?_
    refine Rg.pure rfl rfl rfl (Pv.move rfl) ?_
    refine Rg.split (t := 103) rfl (fun h103 => ?_) (fun h103 => absurd h103 (by decide))
    refine Rg.pure rfl rfl rfl (Pv.move rfl) ?_
    refine Rg.pure rfl rfl rfl (Pv.eql rfl rfl) ?_
    refine Rg.pure rfl rfl rfl (Pv.pickT rfl rfl) ?_
    refine Rg.pure rfl rfl rfl (Pv.assign rfl) ?_
    refine Rg.nil ?_
    refine Vc.ret (Vc.rets rfl (.cons (.tmp rfl) (.nil)) ?_)
    exact congrArg Value.bool (by decide)
theorem DiskNone_spec (F : Fm) (s : List UInt8) (v1 : Value) (xs : List UInt8) (ha : Arg byteE F v1 xs) : Spec Try.prog 10 #[kS s, v1] F [] fun v _ => v = .bool true := by
  cases hm : mayN ⟨s.toArray⟩ with
  | true => exact DiskNone_t F s v1 xs ha hm
  | false => exact DiskNone_f F s v1 xs ha hm

/-! ### Names -/
theorem mk2 : createD (d1 [120] ⟨[], []⟩ 100 1 false) [121] = (0, ⟨[([120], ⟨[], []⟩), ([121], ⟨[], []⟩)], 100, 0, 2, 0, [], false⟩) := by
  simp only [createD, begins1]
  rfl
/-- two files, up, not armed -/
abbrev d2 (k1 k2 : List UInt8) (f1 f2 : Fl) (room ops : Int) : Dk := ⟨[(k1, f1), (k2, f2)], room, (secs f1.now.length : Nat) + (secs f2.now.length : Nat), ops, 0, [], false⟩
theorem begins2 {k1 k2 : List UInt8} {f1 f2 : Fl} {room ops : Int} : beginsD (d2 k1 k2 f1 f2 room ops) = (0, d2 k1 k2 f1 f2 room (ops + 1)) := begins_up rfl rfl
theorem app2a {k1 k2 : List UInt8} {n1 y1 : List UInt8} {f2 : Fl} {room ops : Int} (hk : k1 ≠ k2) (bs : List UInt8) (h : ((secs (n1.length + bs.length) : Nat) : Int) + (secs f2.now.length : Nat) ≤ room) :
    writeD (d2 k1 k2 ⟨n1, y1⟩ f2 room ops) k1 none bs = (0, d2 k1 k2 ⟨n1 ++ bs, y1⟩ f2 room (ops + 1)) := by
  have hf : findF [(k1, (⟨n1, y1⟩ : Fl)), (k2, f2)] k1 = some ⟨n1, y1⟩ := by simp [findF]
  have hs : ∀ f', setF [(k1, (⟨n1, y1⟩ : Fl)), (k2, f2)] k1 f' = [(k1, f'), (k2, f2)] := fun f' => by simp [setF, Ne.symm hk]
  simp only [writeD, begins2, hf, hs, Option.getD_none]
  have hm : max n1.length (n1.length + bs.length) = n1.length + bs.length := by omega
  have hw : wrG room (((secs n1.length : Nat) : Int) + (secs f2.now.length : Nat)) n1 ((n1.length : Nat) : Int) bs = (0, ((secs (n1 ++ bs).length : Nat) : Int) + (secs f2.now.length : Nat), n1 ++ bs) := by
    unfold wrG
    rw [if_neg (by omega), Int.toNat_natCast, hm, if_neg (by omega), putAt_end, List.length_append]
    congr 2
    omega
  rw [hw]
  rfl
theorem app2b {k1 k2 : List UInt8} {n2 y2 : List UInt8} {f1 : Fl} {room ops : Int} (hk : k1 ≠ k2) (bs : List UInt8) (h : ((secs f1.now.length : Nat) : Int) + (secs (n2.length + bs.length) : Nat) ≤ room) :
    writeD (d2 k1 k2 f1 ⟨n2, y2⟩ room ops) k2 none bs = (0, d2 k1 k2 f1 ⟨n2 ++ bs, y2⟩ room (ops + 1)) := by
  have hf : findF [(k1, f1), (k2, (⟨n2, y2⟩ : Fl))] k2 = some ⟨n2, y2⟩ := by simp [findF, hk]
  have hs : ∀ f', setF [(k1, f1), (k2, (⟨n2, y2⟩ : Fl))] k2 f' = [(k1, f1), (k2, f')] := fun f' => by simp [setF, hk]
  simp only [writeD, begins2, hf, hs, Option.getD_none]
  have hm : max n2.length (n2.length + bs.length) = n2.length + bs.length := by omega
  have hw : wrG room (((secs f1.now.length : Nat) : Int) + (secs n2.length : Nat)) n2 ((n2.length : Nat) : Int) bs = (0, ((secs f1.now.length : Nat) : Int) + (secs (n2 ++ bs).length : Nat), n2 ++ bs) := by
    unfold wrG
    rw [if_neg (by omega), Int.toNat_natCast, hm, if_neg (by omega), putAt_end, List.length_append]
    congr 2
    omega
  rw [hw]
  rfl
theorem sync2a {k1 k2 : List UInt8} {n1 y1 : List UInt8} {f2 : Fl} {room ops : Int} (hk : k1 ≠ k2) : syncD (d2 k1 k2 ⟨n1, y1⟩ f2 room ops) k1 = (0, d2 k1 k2 ⟨n1, n1⟩ f2 room (ops + 1)) := by
  have hf : findF [(k1, (⟨n1, y1⟩ : Fl)), (k2, f2)] k1 = some ⟨n1, y1⟩ := by simp [findF]
  have hs : ∀ f', setF [(k1, (⟨n1, y1⟩ : Fl)), (k2, f2)] k1 f' = [(k1, f'), (k2, f2)] := fun f' => by simp [setF, Ne.symm hk]
  simp only [syncD, begins2, hf, hs]
  rfl
theorem rename2 {k1 k2 : List UInt8} {f1 f2 : Fl} {room ops : Int} (hk : k1 ≠ k2) (hm : mayN ⟨k2.toArray⟩ = true) : renameD (d2 k1 k2 f1 f2 room ops) k1 k2 = (0, d1 k2 f1 room (ops + 1) false) := by
  have hf : findF [(k1, f1), (k2, f2)] k1 = some f1 := by simp [findF]
  have hf2 : findF [(k1, f1), (k2, f2)] k2 = some f2 := by simp [findF, hk]
  have hc : cutF [(k1, f1), (k2, f2)] k2 = [(k1, f1)] := by simp [cutF, hk]
  have hc2 : cutF [(k1, f1)] k1 = [] := by simp [cutF]
  simp only [renameD, begins2, hf, hm, goneD, hf2, hc, hc2]
  rw [if_neg (by decide), if_neg (by decide), if_neg hk]
  have : ((secs f1.now.length : Nat) : Int) + (secs f2.now.length : Nat) - (secs f2.now.length : Nat) = (secs f1.now.length : Nat) := by omega
  rw [this]
  rfl
theorem list1 {k : List UInt8} {f : Fl} {room ops : Int} : listD (d1 k f room ops false) = ([k], 0) := by
  simp only [listD, begins1]
  rw [if_neg (by decide)]
  simp [Go.Proofs.Ytmocncadncgaaaa.sortN]
theorem size1n {k k2 : List UInt8} {f : Fl} {room ops : Int} (h : k ≠ k2) : sizeD (d1 k f room ops false) k2 = (0, 4) := by
  have hf : findF [(k, f)] k2 = none := by simp [findF, h]
  simp only [sizeD, begins1, hf]
  rfl
theorem list_w {F : Fm} {db n B : Nat} {D D' : Dk} {s : Hl} {l : List (List UInt8)} {e : Int} (hD : DiskAt db D s) (hw : Dw n B D) (hnn : n < 1000) (hB : B ≤ 1000000) (hE : listD D = (l, e)) (hD' : (beginsD D).2 = D') :
    Spec Try.prog 28 #[.pointer (some ⟨db, 0, Option.none⟩)] F s fun v s' => ∃ u s1 s2, v = .tuple #[u, .int .i64 e] ∧ Own strE u l s1 ∧ DiskAt db D' s2 ∧ Dw (n + 1) B D' ∧ s' = s1 ++ s2 :=
  (list_spec hD hw hnn hB).mono fun v s ⟨u, s1, s2, h1, h2, h3, h4⟩ => by
    have h5 := hw.begins
    rw [hE] at h1 h2
    rw [hD'] at h3 h5
    exact ⟨u, s1, s2, h1, h2, h3, h5, h4⟩
set_option maxHeartbeats 1000000 in
theorem DiskNames_spec (F : Fm) (v0 v1 : Value) (xs ys : List UInt8) (ha : Arg byteE F v0 xs) (hb : Arg byteE F v1 ys) :
    Spec Try.prog 9 #[v0, v1] F [] fun v _ => v = .bool true := by
  obtain ⟨p0, c0, rfl⟩ := ha.shape
  obtain ⟨p1, c1, rfl⟩ := hb.shape
  obtain ⟨a, hal, _, hac, haa⟩ := ha.upTo 60
  obtain ⟨b, hbl, _, hbc, hbb⟩ := hb.upTo 60
  rw [← hal] at haa hac
  rw [← hbl] at hbb hbc
  refine Spec.of (n := 118) (vs := [.slice p0 xs.length c0, .slice p1 ys.length c1]) Try.func9 rfl Try.ntmps9 rfl ?_
  refine Vc.seq ?_
  refine Vc.text (List.range 1) (sd [(0, .pure)]) rfl ?_
  refine Rg.pure rfl rfl rfl (Pv.assign rfl) ?_
  refine Rg.nil ?_
  refine Vc.seq ?_
  refine Vc.text (List.range 2) (sd [(0, .eff), (1, .pure)]) rfl ?_
  refine Rg.callP rfl rfl rfl (run_callF rfl) (shown_spec _) ?_
  rintro _ rfl
  refine Rg.pure rfl rfl rfl (Pv.assign rfl) ?_
  refine Rg.nil ?_
  refine Vc.seq ?_
  refine Vc.text (List.range 6) (sd [(0, .pure), (1, .pure), (2, .pure), (3, .pure), (4, .pure), (5, .pure)]) rfl ?_
  refine Rg.pure rfl rfl rfl (Pv.move rfl) ?_
  refine Rg.pure rfl rfl rfl (Pv.move rfl) ?_
  refine Rg.pure rfl rfl rfl (Pv.lenS rfl) ?_
  refine Rg.pure rfl rfl rfl (Pv.asI (a.length) (Pv.min rfl rfl) (by omega)) ?_
  refine Rg.pure rfl rfl rfl (Pv.slTo (a.length) rfl rfl (by omega)) ?_
  refine Rg.pure rfl rfl rfl (Pv.assign rfl) ?_
  refine Rg.nil ?_
  refine Vc.seq ?_
  refine Vc.text (List.range 6) (sd [(0, .pure), (1, .pure), (2, .pure), (3, .pure), (4, .pure), (5, .pure)]) rfl ?_
  refine Rg.pure rfl rfl rfl (Pv.move rfl) ?_
  refine Rg.pure rfl rfl rfl (Pv.move rfl) ?_
  refine Rg.pure rfl rfl rfl (Pv.lenS rfl) ?_
  refine Rg.pure rfl rfl rfl (Pv.asI (b.length) (Pv.min rfl rfl) (by omega)) ?_
  refine Rg.pure rfl rfl rfl (Pv.slTo (b.length) rfl rfl (by omega)) ?_
  refine Rg.pure rfl rfl rfl (Pv.assign rfl) ?_
  refine Rg.nil ?_
  refine Vc.seq ?_
  refine Vc.text (List.range 2) (sd [(0, .eff), (1, .pure)]) rfl ?_
  refine Rg.callA rfl rfl rfl (run_callF rfl) (new_w _ 100 100 (by decide)) ?_
  rintro _ s27 ⟨db, rfl, hD27, hw27⟩
  refine Rg.pure rfl rfl rfl (Pv.assign rfl) ?_
  refine Rg.nil ?_
  refine Vc.seq ?_
  refine Vc.seq ?_
  refine Vc.text (List.range 2) (sd [(0, .pure), (1, .pure)]) rfl ?_
  refine Rg.pure rfl rfl rfl (Pv.move rfl) ?_
  refine Rg.pure rfl rfl rfl (Pv.eqlNil rfl rfl) ?_
  refine Rg.nil ?_
  refine Vc.cond rfl (fun h29 => absurd h29 (by (cases h29))) (fun h29 => ?_)
  refine Vc.skip ?_
  refine Vc.seq ?_
  refine Vc.text (List.range 2) (sd [(0, .pure), (1, .eff)]) rfl ?_
  refine Rg.pure rfl rfl rfl (Pv.move rfl) ?_
  refine Rg.callH rfl rfl rfl (run_callF rfl) (fun F' hF' => create_w (F := F') hD27 hw27 (by omega) (by omega) [120] (create1 (by decide))) rfl ?_
  rintro _ s31 ⟨rfl, hD31, hw31⟩
  refine Rg.nil ?_
  refine Vc.seq ?_
  refine Vc.text (List.range 2) (sd [(0, .pure), (1, .eff)]) rfl ?_
  refine Rg.pure rfl rfl rfl (Pv.move rfl) ?_
  refine Rg.callH rfl rfl rfl (run_callF rfl) (fun F' hF' => create_w (F := F') (D' := d2 [120] [121] ⟨[], []⟩ ⟨[], []⟩ 100 2) hD31 hw31 (by omega) (by omega) [121] mk2) rfl ?_
  rintro _ s33 ⟨rfl, hD33, hw33⟩
  refine Rg.nil ?_
  refine Vc.seq ?_
  refine Vc.text (List.range 3) (sd [(0, .pure), (1, .pure), (2, .eff)]) rfl ?_
  refine Rg.pure rfl rfl rfl (Pv.move rfl) ?_
  refine Rg.pure rfl rfl rfl (Pv.move rfl) ?_
  refine Rg.callH rfl rfl rfl (run_callF rfl) (fun F' hF' => append_w (F := F') hD33 hw33 (by omega) (by omega) [120] (haa.mono fun b o h => hF' b o (.inr h)) (by omega) (app2a (by decide) a (by simp [secs]; omega))) rfl ?_
  rintro _ s36 ⟨rfl, hD36, hw36⟩
  rw [List.nil_append] at hD36 hw36
  refine Rg.nil ?_
  refine Vc.seq ?_
  refine Vc.text (List.range 3) (sd [(0, .pure), (1, .pure), (2, .eff)]) rfl ?_
  refine Rg.pure rfl rfl rfl (Pv.move rfl) ?_
  refine Rg.pure rfl rfl rfl (Pv.move rfl) ?_
  refine Rg.callH rfl rfl rfl (run_callF rfl) (fun F' hF' => append_w (F := F') hD36 hw36 (by omega) (by omega) [121] (hbb.mono fun b o h => hF' b o (.inr h)) (by omega) (app2b (by decide) b (by simp [secs]; omega))) rfl ?_
  rintro _ s39 ⟨rfl, hD39, hw39⟩
  rw [List.nil_append] at hD39 hw39
  refine Rg.nil ?_
  refine Vc.seq ?_
  refine Vc.text (List.range 2) (sd [(0, .pure), (1, .eff)]) rfl ?_
  refine Rg.pure rfl rfl rfl (Pv.move rfl) ?_
  refine Rg.callH rfl rfl rfl (run_callF rfl) (fun F' hF' => sync_w (F := F') hD39 hw39 (by omega) (by omega) [120] (sync2a (by decide))) rfl ?_
  rintro _ s41 ⟨rfl, hD41, hw41⟩
  refine Rg.nil ?_
  refine Vc.seq ?_
  refine Vc.text (List.range 3) (sd [(0, .pure), (1, .eff), (2, .pure)]) rfl ?_
  refine Rg.pure rfl rfl rfl (Pv.move rfl) ?_
  refine Rg.callH rfl rfl rfl (run_callF rfl) (fun F' hF' => rename_w (F := F') hD41 hw41 (by omega) (by omega) [120] [121] (rename2 (by decide) (by decide))) rfl ?_
  rintro _ s43 ⟨rfl, hD43, hw43⟩
  refine Rg.pure rfl rfl rfl (Pv.assign rfl) ?_
  refine Rg.nil ?_
  refine Vc.seq ?_
  refine Vc.text (List.range 7) (sd [(0, .pure), (1, .eff), (2, .pure), (3, .pure), (4, .pure), (5, .pure), (6, .pure)]) rfl ?_
  refine Rg.pure rfl rfl rfl (Pv.move rfl) ?_
  refine Rg.callH rfl rfl rfl (run_callF rfl) (fun F' hF' => size_w (F := F') hD43 hw43 (by omega) (by omega) [120] (size1n (by decide)) (congrArg Prod.snd begins1)) rfl ?_
  rintro _ s46 ⟨rfl, hD46, hw46⟩
  refine Rg.pure rfl rfl rfl (Pv.move rfl) ?_
  refine Rg.pure rfl rfl rfl (Pv.extract rfl rfl) ?_
  refine Rg.pure rfl rfl rfl (Pv.extract rfl rfl) ?_
  refine Rg.pure rfl rfl rfl (Pv.assign rfl) ?_
  refine Rg.pure rfl rfl rfl (Pv.assign rfl) ?_
  refine Rg.nil ?_
  refine Vc.seq ?_
  refine Vc.text (List.range 7) (sd [(0, .pure), (1, .eff), (2, .pure), (3, .pure), (4, .pure), (5, .pure), (6, .pure)]) rfl ?_
  refine Rg.pure rfl rfl rfl (Pv.move rfl) ?_
  refine Rg.callH rfl rfl rfl (run_callF rfl) (fun F' hF' => list_w (F := F') hD46 hw46 (by omega) (by omega) list1 (congrArg Prod.snd begins1)) rfl ?_
  rintro _ _ ⟨u51, q51, s51, rfl, own51, hD51, hw51, rfl⟩
  rw [List.append_assoc]
  refine Rg.pure rfl rfl rfl (Pv.move rfl) ?_
  refine Rg.pure rfl rfl rfl (Pv.extract rfl rfl) ?_
  refine Rg.pure rfl rfl rfl (Pv.extract rfl rfl) ?_
  refine Rg.pure rfl rfl rfl (Pv.assign rfl) ?_
  refine Rg.pure rfl rfl rfl (Pv.assign rfl) ?_
  refine Rg.nil ?_
  refine Vc.seq ?_
  refine Vc.text (List.range 9) (sd [(0, .pure), (1, .pure), (2, .pure), (3, .eff), (4, .pure), (5, .pure), (6, .pure), (7, .pure), (8, .pure)]) rfl ?_
  refine Rg.pure rfl rfl rfl (Pv.move rfl) ?_
  refine Rg.pure rfl rfl rfl (Pv.move rfl) ?_
  refine Rg.pure rfl rfl rfl (Pv.lenS rfl) ?_
  refine Rg.callH rfl rfl rfl (run_callF rfl) (fun F' hF' => readAt_w (F := F') hD51 hw51 (by omega) (by omega) [121] 0 (a.length : Nat) read1all (congrArg Prod.snd begins1)) rfl ?_
  rintro _ _ ⟨u58, q58, s58, rfl, own58, hD58, hw58, rfl⟩
  rw [List.append_assoc]
  refine Rg.pure rfl rfl rfl (Pv.move rfl) ?_
  refine Rg.pure rfl rfl rfl (Pv.extract rfl rfl) ?_
  refine Rg.pure rfl rfl rfl (Pv.extract rfl rfl) ?_
  refine Rg.pure rfl rfl rfl (Pv.assign rfl) ?_
  refine Rg.pure rfl rfl rfl (Pv.assign rfl) ?_
  refine Rg.nil ?_
  refine Vc.seq ?_
  refine Vc.text (List.range 2) (sd [(0, .pure), (1, .eff)]) rfl ?_
  refine Rg.pure rfl rfl rfl (Pv.move rfl) ?_
  refine Rg.callH rfl rfl rfl (run_callF rfl) (fun F' hF' => crash_w (F := F') hD58 hw58 (by omega) (by omega) Arg.nilB (crash1 [])) rfl ?_
  rintro v62 s62 ⟨hD62, hw62⟩
  rw [torn_same] at hD62 hw62
  refine Rg.nil ?_
  refine Vc.seq ?_
  refine Vc.text (List.range 2) (sd [(0, .pure), (1, .eff)]) rfl ?_
  refine Rg.pure rfl rfl rfl (Pv.move rfl) ?_
  refine Rg.callH rfl rfl rfl (run_callF rfl) (fun F' hF' => restart_w (F := F') hD62 hw62) rfl ?_
  rintro v64 s64 ⟨hD64, hw64⟩
  refine Rg.nil ?_
  refine Vc.seq ?_
  refine Vc.text (List.range 7) (sd [(0, .pure), (1, .eff), (2, .pure), (3, .pure), (4, .pure), (5, .pure), (6, .pure)]) rfl ?_
  refine Rg.pure rfl rfl rfl (Pv.move rfl) ?_
  refine Rg.callH rfl rfl rfl (run_callF rfl) (fun F' hF' => size_w (F := F') hD64 hw64 (by omega) (by omega) [121] size1 (congrArg Prod.snd begins1)) rfl ?_
  rintro _ s67 ⟨rfl, hD67, hw67⟩
  refine Rg.pure rfl rfl rfl (Pv.move rfl) ?_
  refine Rg.pure rfl rfl rfl (Pv.extract rfl rfl) ?_
  refine Rg.pure rfl rfl rfl (Pv.extract rfl rfl) ?_
  refine Rg.pure rfl rfl rfl (Pv.assign rfl) ?_
  refine Rg.pure rfl rfl rfl (Pv.assign rfl) ?_
  refine Rg.nil ?_
  refine Vc.seq ?_
  refine Vc.text (List.range 49) (sd [(0, .pure), (1, .pure), (2, .pure), (3, .pure), (4, .pure), (5, .pure), (6, .pure), (7, .pure), (8, .pure), (9, .pure), (10, .pure), (11, .pure), (12, .pure), (13, .pure), (14, .pure), (15, .eff), (16, .eff), (17, .pure), (18, .pure), (19, .pure), (20, .pure), (21, .pure), (22, .pure), (23, .pure), (24, .read), (25, .pure), (26, .read), (27, .pure), (28, .pure), (29, .pure), (30, .pure), (31, .pure), (32, .pure), (33, .pure), (34, .pure), (35, .pure), (36, .pure), (37, .pure), (38, .pure), (39, .pure), (40, .pure), (41, .eff), (42, .pure), (43, .pure), (44, .pure), (45, .pure), (46, .pure), (47, .pure), (48, .pure)]) rfl ?_
  refine Rg.pure rfl rfl rfl (Pv.move rfl) ?_
  refine Rg.pure rfl rfl rfl (Pv.move rfl) ?_
  refine Rg.split (t := 71) rfl (fun h71 => ?_) (fun h71 => absurd h71 (by decide))
  refine Rg.pure rfl rfl rfl (Pv.move rfl) ?_
  refine Rg.pure rfl rfl rfl (Pv.eql rfl rfl) ?_
  refine Rg.pure rfl rfl rfl (Pv.pickT rfl rfl) ?_
  refine Rg.pure rfl rfl rfl (Pv.move rfl) ?_
  refine Rg.split (t := 75) rfl (fun h75 => ?_) (fun h75 => absurd h75 (by decide))
  refine Rg.pure rfl rfl rfl (Pv.move rfl) ?_
  refine Rg.pure rfl rfl rfl (Pv.eql rfl rfl) ?_
  refine Rg.pure rfl rfl rfl (Pv.pickT rfl rfl) ?_
  refine Rg.pure rfl rfl rfl (Pv.move rfl) ?_
  refine Rg.split (t := 79) rfl (fun h79 => ?_) (fun h79 => absurd h79 (by decide))
  refine Rg.pure rfl rfl rfl (Pv.move rfl) ?_
  refine Rg.pure rfl rfl rfl (Pv.eql rfl rfl) ?_
  refine Rg.pure rfl rfl rfl (Pv.pickT rfl rfl) ?_
  refine Rg.pure rfl rfl rfl (Pv.move rfl) ?_
  refine Rg.split (t := 83) rfl (fun h83 => ?_) (fun h83 => absurd h83 (by decide))
  refine Rg.pure rfl rfl rfl (Pv.move rfl) ?_
  refine Rg.bslice1R (E := strE) (e := 9) [121] rfl rfl rfl rfl rfl rfl rfl rfl (fun b85 own85 => ?_)
  refine Rg.callP rfl rfl rfl (run_callF rfl) (texts_spec (Arg.own own51 frz_sb) (Arg.own own85 frz_sb) (by simp) (by simp)) ?_
  rintro _ rfl
  refine Rg.pure rfl rfl rfl (Pv.pickT rfl rfl) ?_
  refine Rg.pure rfl rfl rfl (Pv.move rfl) ?_
  refine Rg.split (t := 88) rfl (fun h88 => ?_) (fun h88 => absurd h88 (by simp))
  refine Rg.pure rfl rfl rfl (Pv.move rfl) ?_
  refine Rg.pure rfl rfl rfl (Pv.eql rfl rfl) ?_
  refine Rg.pure rfl rfl rfl (Pv.pickT rfl rfl) ?_
  refine Rg.pure rfl rfl rfl (Pv.move rfl) ?_
  refine Rg.split (t := 92) rfl (fun h92 => ?_) (fun h92 => absurd h92 (by decide))
  refine Rg.pure rfl rfl rfl (Pv.move rfl) ?_
  refine Rg.read rfl rfl rfl (Ev.str ((Arg.own (F := frz F q58) own58 fun b o hb => Or.inl hb).srcF) rfl) ?_
  refine Rg.pure rfl rfl rfl (Pv.move rfl) ?_
  refine Rg.read rfl rfl rfl (Ev.str (haa.src) rfl) ?_
  refine Rg.pure rfl rfl rfl (Pv.eqlS rfl rfl) ?_
  refine Rg.pure rfl rfl rfl (Pv.pickT rfl rfl) ?_
  refine Rg.pure rfl rfl rfl (Pv.move rfl) ?_
  refine Rg.split (t := 99) rfl (fun h99 => ?_) (fun h99 => absurd h99 (by simp))
  refine Rg.pure rfl rfl rfl (Pv.move rfl) ?_
  refine Rg.pure rfl rfl rfl (Pv.eql rfl rfl) ?_
  refine Rg.pure rfl rfl rfl (Pv.pickT rfl rfl) ?_
  refine Rg.pure rfl rfl rfl (Pv.move rfl) ?_
  refine Rg.split (t := 103) rfl (fun h103 => ?_) (fun h103 => absurd h103 (by decide))
  refine Rg.pure rfl rfl rfl (Pv.move rfl) ?_
  refine Rg.pure rfl rfl rfl (Pv.move rfl) ?_
  refine Rg.pure rfl rfl rfl (Pv.lenS rfl) ?_
  refine Rg.pure rfl rfl rfl (Pv.eql rfl rfl) ?_
  refine Rg.pure rfl rfl rfl (Pv.pickT rfl rfl) ?_
  refine Rg.pure rfl rfl rfl (Pv.move rfl) ?_
  refine Rg.split (t := 109) rfl (fun h109 => ?_) (fun h109 => absurd h109 (by simp))
  refine Rg.pure rfl rfl rfl (Pv.move rfl) ?_
  refine Rg.callP rfl rfl rfl (run_callF rfl) (usedD_spec hD67 frz_sb) ?_
  rintro _ rfl
  refine Rg.pure rfl rfl rfl (Pv.move rfl) ?_
  refine Rg.pure rfl rfl rfl (Pv.lenS rfl) ?_
  refine Rg.pure rfl rfl rfl (Pv.add rfl rfl (by omega)) ?_
  refine Rg.pure rfl rfl rfl (Pv.quo rfl rfl (by omega)) ?_
  refine Rg.pure rfl rfl rfl (Pv.eql rfl rfl) ?_
  refine Rg.pure rfl rfl rfl (Pv.pickT rfl rfl) ?_
  refine Rg.pure rfl rfl rfl (Pv.assign rfl) ?_
  refine Rg.nil ?_
  refine Vc.ret (Vc.rets rfl (.cons (.tmp rfl) (.nil)) ?_)
  exact congrArg Value.bool (by simp [secs])
end Go.Proofs.Ytmocncadncgaaaa

namespace Go.Proofs.Ytmocncadncgaaaa
set_option linter.unusedVariables false

/-! ### A row of rows of bytes -/
structure Sv where
  p : Option Addr
  m : Nat
  c : Nat
  deriving Inhabited
abbrev Sv.v (s : Sv) : Value := .slice s.p s.m s.c
def slE : Enc Sv where
  k := 1
  tid := 29
  cells := fun s => [s.v]
  val := fun s => s.v
  pos := by decide
  len := fun _ => rfl
  one := fun x v hv => by simp at hv; subst hv; rfl
  vc := fun _ => rfl
instance : RowTy Try.prog slE 29 := ⟨Try.sizeOf29, .inr ⟨Try.isAgg29, rfl, fun _ => rfl⟩⟩
/-- A row of rows that may be read. -/
structure ArgRB (F : Fm) (v : Value) (vs : List Sv) (xss : List (List UInt8)) : Prop where
  top : Arg slE F v vs
  len : vs.length = xss.length
  rows : ∀ i, i < xss.length → Arg byteE F vs[i]!.v xss[i]!
/-- what the i-th piece is, cut -/
theorem ArgRB.piece {F : Fm} {v : Value} {vs : List Sv} {xss : List (List UInt8)} (h : ArgRB F v vs xss) {i : Nat} (hi : i < vs.length) : ∃ pk ck ys b, vs[i]! = (⟨pk, ys, ck⟩ : Sv) ∧ b.length = min ys 60 ∧ b = xss[i]!.take 60 ∧ b.length ≤ ck ∧ Arg byteE F (.slice pk b.length ck) b := by
  have hr := h.rows i (by rw [← h.len]; exact hi)
  obtain ⟨⟨pk, mk, ck⟩, hs⟩ : ∃ s, vs[i]! = s := ⟨_, rfl⟩
  rw [hs] at hr
  obtain rfl : mk = xss[i]!.length := hr.cap.1
  obtain ⟨b, h1, h2, h3, h4⟩ := hr.upTo 60
  rw [← h1] at h3 h4
  exact ⟨pk, ck, xss[i]!.length, b, hs, h1, h2, h3, h4⟩

/-! ### Strings -/
section
variable {P : Program} {n : Nf} {F : Fm} {l : Env} {hl : Hl} {d : Option Tmp} {ty : TypeId} {pos : String} {af : Array Edge} {g : Option (Nat × Bool)}
theorem Pv.addS {t t' : TypeId} {x y : Operand} {p q : ByteArray} (hx : ev l x = some (.string p)) (hy : ev l y = some (.string q)) (h : p.size + q.size ≤ 9223372036854775807) : Pv P n l ⟨d, .binOp .add t x y t', ty, pos, af, g⟩ (.string (p ++ q)) := fun a w hf => by
  have : ¬ (((p.size + q.size : Nat) : Int) > IntKind.i64.max) := by show ¬ (_ > (9223372036854775807 : Int)); omega
  simp [execOp, hf.ev hx, hf.ev hy, eqGuard, binOp, Op.stringOp]
  omega
end
theorem str_app (a b : List UInt8) : (⟨a.toArray⟩ : ByteArray) ++ ⟨b.toArray⟩ = ⟨(a ++ b).toArray⟩ := by
  apply ByteArray.ext
  simp

/-! ### What a crash leaves of a file whose front was synced -/
theorem putAt_get {l bs : List UInt8} {k j : Nat} (hk : k ≤ l.length) : (putAt l k bs)[j]? = if j < k then l[j]? else if j < k + bs.length then bs[j - k]? else l[j]? := by
  unfold putAt
  have hlt : (l.take k).length = k := by simp; omega
  by_cases h1 : j < k
  · rw [if_pos h1, List.append_assoc, List.getElem?_append_left (by omega), List.getElem?_take_of_lt h1]
  · rw [if_neg h1]
    by_cases h2 : j < k + bs.length
    · rw [if_pos h2, List.getElem?_append_left (by simp; omega), List.getElem?_append_right (by omega), hlt]
    · rw [if_neg h2, List.getElem?_append_right (by simp; omega), List.getElem?_drop]
      congr 1
      simp
      omega
theorem piece_get {l : List UInt8} {a b j : Nat} (h : j < b - a) : (piece l a b)[j]? = l[a + j]? := by
  unfold piece
  rw [List.getElem?_take_of_lt h, List.getElem?_drop]
/-- each byte is as it was written, or behind what was synced and 0 -/
def Kept (now synced st : List UInt8) : Prop := synced.length ≤ st.length ∧ ∀ j, j < st.length → st[j]? = now[j]? ∨ (synced.length ≤ j ∧ st[j]? = some 0)
theorem torn_kept {now synced : List UInt8} {ks : List Bool} (hpre : ∀ j, j < synced.length → synced[j]? = now[j]?) : ∀ n, 16 * n < now.length + 16 → Kept now synced (tornG now synced ks n).1
  | 0, _ => ⟨Nat.le_refl _, fun j hj => .inl (hpre j hj)⟩
  | n + 1, hn => by
    obtain ⟨h1, h2⟩ := torn_kept hpre (ks := ks) n (by omega)
    rw [tornG_succ, tornStep]
    split
    · exact ⟨h1, h2⟩
    · split
      · have ht : 16 * n ≤ secTo now n ∧ secTo now n ≤ now.length := by unfold secTo; omega
        have hp : (piece now (16 * n) (secTo now n)).length = secTo now n - 16 * n := by simp [piece]; omega
        have hpl : (padTo (tornG now synced ks n).1 (secTo now n)).length = max (tornG now synced ks n).1.length (secTo now n) := by simp [padTo]; omega
        have hle : 16 * n ≤ (padTo (tornG now synced ks n).1 (secTo now n)).length := by omega
        have hl := putAt_length (bs := piece now (16 * n) (secTo now n)) hle
        refine ⟨by show synced.length ≤ (putAt _ _ _).length; rw [hl]; omega, fun j hj => ?_⟩
        have hj' : j < max (tornG now synced ks n).1.length (secTo now n) := by
          have hj2 : j < (putAt (padTo (tornG now synced ks n).1 (secTo now n)) (16 * n) (piece now (16 * n) (secTo now n))).length := hj
          rw [hl] at hj2
          omega
        show (putAt (padTo (tornG now synced ks n).1 (secTo now n)) (16 * n) (piece now (16 * n) (secTo now n)))[j]? = _ ∨ _ ∧ (putAt (padTo (tornG now synced ks n).1 (secTo now n)) (16 * n) (piece now (16 * n) (secTo now n)))[j]? = _
        rw [putAt_get hle]
        have old : (padTo (tornG now synced ks n).1 (secTo now n))[j]? = now[j]? ∨ synced.length ≤ j ∧ (padTo (tornG now synced ks n).1 (secTo now n))[j]? = some 0 := by
          unfold padTo
          by_cases hjl : j < (tornG now synced ks n).1.length
          · rw [List.getElem?_append_left hjl]
            exact h2 j hjl
          · rw [List.getElem?_append_right (by omega), List.getElem?_replicate]
            exact .inr ⟨by omega, by rw [if_pos (by omega)]⟩
        by_cases c1 : j < 16 * n
        · rw [if_pos c1]; exact old
        · rw [if_neg c1]
          by_cases c2 : j < 16 * n + (piece now (16 * n) (secTo now n)).length
          · rw [if_pos c2, piece_get (by omega)]
            left
            congr 1
            omega
          · rw [if_neg c2]; exact old
      · exact ⟨h1, h2⟩
theorem Kept.front {now synced st : List UInt8} (h : Kept now synced st) (hpre : ∀ j, j < synced.length → synced[j]? = now[j]?) : st.take synced.length = synced := by
  apply List.ext_getElem?
  intro j
  by_cases hj : j < synced.length
  · rw [List.getElem?_take_of_lt hj, hpre j hj]
    rcases h.2 j (by have := h.1; omega) with h | ⟨h, _⟩
    · exact h
    · omega
  · rw [List.getElem?_eq_none (by simp; omega), List.getElem?_eq_none (by omega)]
theorem read1to {k : List UInt8} {now sy : List UInt8} {room ops : Int} {m : Nat} (h : m ≤ now.length) : readD (d1 k ⟨now, sy⟩ room ops false) k 0 (m : Nat) = (now.take m, 0) := by
  simp only [readD, begins1, find1]
  rw [if_neg (by decide), if_neg (by omega), Int.toNat_natCast, Int.toNat_zero, List.drop_zero]

set_option maxHeartbeats 1000000 in
theorem DiskSynced_spec (F : Fm) (v0 v1 v2 : Value) (xs : List UInt8) (ls : List Sv) (xss : List (List UInt8)) (ks : List Bool) (h0 : Arg byteE F v0 xs) (hr : ArgRB F v1 ls xss) (h2 : Arg boolE F v2 ks) :
    Spec Try.prog 7 #[v0, v1, v2] F [] fun v _ => v = .bool true := by
  obtain ⟨p0, c0, rfl⟩ := h0.shape
  obtain ⟨p1, c1, rfl⟩ := hr.top.shape
  obtain ⟨p2, c2, rfl⟩ := h2.shape
  obtain ⟨b, hbl, _, hbc, hb⟩ := h0.upTo 60
  obtain ⟨q, hq, _, hqc, hqa⟩ := h2.upTo 60
  rw [← hbl] at hb hbc
  rw [← hq] at hqa hqc
  have hrt := hr.top
  refine Spec.of (n := 165) (vs := [.slice p0 xs.length c0, .slice p1 ls.length c1, .slice p2 ks.length c2]) Try.func7 rfl Try.ntmps7 rfl ?_
  refine Vc.seq ?_
  refine Vc.text (List.range 1) (sd [(0, .pure)]) rfl ?_
  refine Rg.pure rfl rfl rfl (Pv.assign rfl) ?_
  refine Rg.nil ?_
  refine Vc.seq ?_
  refine Vc.text (List.range 2) (sd [(0, .eff), (1, .pure)]) rfl ?_
  refine Rg.callP rfl rfl rfl (run_callF rfl) (shown_spec _) ?_
  rintro _ rfl
  refine Rg.pure rfl rfl rfl (Pv.assign rfl) ?_
  refine Rg.nil ?_
  refine Vc.seq ?_
  refine Vc.text (List.range 6) (sd [(0, .pure), (1, .pure), (2, .pure), (3, .pure), (4, .pure), (5, .pure)]) rfl ?_
  refine Rg.pure rfl rfl rfl (Pv.move rfl) ?_
  refine Rg.pure rfl rfl rfl (Pv.move rfl) ?_
  refine Rg.pure rfl rfl rfl (Pv.lenS rfl) ?_
  refine Rg.pure rfl rfl rfl (Pv.asI (b.length) (Pv.min rfl rfl) (by omega)) ?_
  refine Rg.pure rfl rfl rfl (Pv.slTo (b.length) rfl rfl (by omega)) ?_
  refine Rg.pure rfl rfl rfl (Pv.assign rfl) ?_
  refine Rg.nil ?_
  refine Vc.seq ?_
  refine Vc.text (List.range 6) (sd [(0, .pure), (1, .pure), (2, .pure), (3, .pure), (4, .pure), (5, .pure)]) rfl ?_
  refine Rg.pure rfl rfl rfl (Pv.move rfl) ?_
  refine Rg.pure rfl rfl rfl (Pv.move rfl) ?_
  refine Rg.pure rfl rfl rfl (Pv.lenS rfl) ?_
  refine Rg.pure rfl rfl rfl (Pv.asI (q.length) (Pv.min rfl rfl) (by omega)) ?_
  refine Rg.pure rfl rfl rfl (Pv.slTo (q.length) rfl rfl (by omega)) ?_
  refine Rg.pure rfl rfl rfl (Pv.assign rfl) ?_
  refine Rg.nil ?_
  refine Vc.seq ?_
  refine Vc.text (List.range 2) (sd [(0, .eff), (1, .pure)]) rfl ?_
  refine Rg.callA rfl rfl rfl (run_callF rfl) (new_w _ 1000 1000 (by decide)) ?_
  rintro _ s33 ⟨db, rfl, hD33, hw33⟩
  refine Rg.pure rfl rfl rfl (Pv.assign rfl) ?_
  refine Rg.nil ?_
  refine Vc.seq ?_
  refine Vc.seq ?_
  refine Vc.text (List.range 2) (sd [(0, .pure), (1, .pure)]) rfl ?_
  refine Rg.pure rfl rfl rfl (Pv.move rfl) ?_
  refine Rg.pure rfl rfl rfl (Pv.eqlNil rfl rfl) ?_
  refine Rg.nil ?_
  refine Vc.cond rfl (fun h35 => absurd h35 (by (cases h35))) (fun h35 => ?_)
  refine Vc.skip ?_
  refine Vc.seq ?_
  refine Vc.text (List.range 3) (sd [(0, .pure), (1, .eff), (2, .pure)]) rfl ?_
  refine Rg.pure rfl rfl rfl (Pv.move rfl) ?_
  refine Rg.callH rfl rfl rfl (run_callF rfl) (fun F' hF' => create_w (F := F') hD33 hw33 (by omega) (by omega) [102] (create1 (by decide))) rfl ?_
  rintro _ s37 ⟨rfl, hD37, hw37⟩
  refine Rg.pure rfl rfl rfl (Pv.assign rfl) ?_
  refine Rg.nil ?_
  refine Vc.seq ?_
  refine Vc.text (List.range 4) (sd [(0, .pure), (1, .pure), (2, .eff), (3, .pure)]) rfl ?_
  refine Rg.pure rfl rfl rfl (Pv.move rfl) ?_
  refine Rg.pure rfl rfl rfl (Pv.move rfl) ?_
  refine Rg.callH rfl rfl rfl (run_callF rfl) (fun F' hF' => append_w (F := F') hD37 hw37 (by omega) (by omega) [102] (hb.mono fun b o h => hF' b o (.inr h)) (by omega) (app1 b (by simp [secs]; omega))) rfl ?_
  rintro _ s40 ⟨rfl, hD40, hw40⟩
  rw [List.nil_append] at hD40 hw40
  refine Rg.pure rfl rfl rfl (Pv.assign rfl) ?_
  refine Rg.nil ?_
  refine Vc.seq ?_
  refine Vc.text (List.range 3) (sd [(0, .pure), (1, .eff), (2, .pure)]) rfl ?_
  refine Rg.pure rfl rfl rfl (Pv.move rfl) ?_
  refine Rg.callH rfl rfl rfl (run_callF rfl) (fun F' hF' => sync_w (F := F') hD40 hw40 (by omega) (by omega) [102] sync1) rfl ?_
  rintro _ s42 ⟨rfl, hD42, hw42⟩
  refine Rg.pure rfl rfl rfl (Pv.assign rfl) ?_
  refine Rg.nil ?_
  refine Vc.seq ?_
  refine Vc.text (List.range 3) (sd [(0, .pure), (1, .read), (2, .pure)]) rfl ?_
  refine Rg.pure rfl rfl rfl (Pv.move rfl) ?_
  refine Rg.read rfl rfl rfl (Ev.str (hb.src) rfl) ?_
  refine Rg.pure rfl rfl rfl (Pv.assign rfl) ?_
  refine Rg.nil ?_
  refine Vc.seq ?_
  refine Vc.seq ?_
  refine Vc.text (List.range 1) (sd [(0, .pure)]) rfl ?_
  refine Rg.pure rfl rfl rfl (Pv.assign rfl) ?_
  refine Rg.nil ?_
  refine Vc.block ?_
  refine Vc.loop3 (fun (i : Nat) (pp : List UInt8) (s : Hl) => i ≤ 10 ∧ i ≤ ls.length ∧ pp.length ≤ 60 * i ∧ DiskAt db (d1 [102] ⟨b ++ pp, b⟩ 1000 ((3 + i : Nat) : Int) false) s ∧ Dw (3 + i) (b.length + 60 * i) (d1 [102] ⟨b ++ pp, b⟩ 1000 ((3 + i : Nat) : Int) false)) (fun i pp s => [(0, .slice p0 b.length c0), (1, .slice p1 ls.length c1), (2, .slice p2 q.length c2), (7, .bool true), (8, .pointer (some ⟨db, 0, none⟩)), (9, .int .i64 0), (10, .int .i64 0), (11, .int .i64 0), (12, .string ⟨(b ++ pp).toArray⟩), (13, .int .i64 (i : Int))]) (fun i pp s => s) (fun i pp s => 10 - i) 0 [] s42 ⟨by omega, by omega, Nat.zero_le _, by rw [List.append_nil]; exact hD42, by rw [List.append_nil]; exact hw42.mono (by omega) (by omega)⟩ (.cons rfl (.cons rfl (.cons rfl (.cons rfl (.cons rfl (.cons rfl (.cons rfl (.cons rfl (.cons (congrArg (fun x : List UInt8 => some (Value.string ⟨x.toArray⟩)) (List.append_nil b).symm) (.cons rfl .nil)))))))))) pulled ?_
  rintro i pp s ⟨hi10, hil, hpl, hD, hw⟩
  refine Vc.seq ?_
  refine Vc.seq ?_
  refine Vc.cut1 (fun (bb : Bool) => (bb = true → i < ls.length ∧ i < 10)) (fun bb => [(52, .bool bb), (0, .slice p0 b.length c0), (1, .slice p1 ls.length c1), (2, .slice p2 q.length c2), (7, .bool true), (8, .pointer (some ⟨db, 0, none⟩)), (9, .int .i64 0), (10, .int .i64 0), (11, .int .i64 0), (12, .string ⟨(b ++ pp).toArray⟩), (13, .int .i64 (i : Int))]) (fun bb => s) ?_ ?_
  ·
    refine Vc.text (List.range 8) (sd [(0, .pure), (1, .pure), (2, .pure), (3, .pure), (4, .pure), (5, .pure), (6, .pure), (7, .pure)]) rfl ?_
    refine Rg.pure rfl rfl rfl (Pv.move rfl) ?_
    refine Rg.pure rfl rfl rfl (Pv.move rfl) ?_
    refine Rg.pure rfl rfl rfl (Pv.lenS rfl) ?_
    refine Rg.pure rfl rfl rfl (Pv.lss rfl rfl) ?_
    refine Rg.pure rfl rfl rfl (Pv.move rfl) ?_
    refine Rg.split (t := 49) rfl (fun h49 => ?_) (fun h49 => ?_)
    ·
      simp only [decide_eq_true_eq] at h49
      refine Rg.pure rfl rfl rfl (Pv.move rfl) ?_
      refine Rg.pure rfl rfl rfl (Pv.lss rfl rfl) ?_
      refine Rg.pure rfl rfl rfl (Pv.pickT rfl rfl) ?_
      refine Rg.nil ?_
      exact Vc.inv1 _ (fun hb => ⟨by omega, by have := of_decide_eq_true hb; omega⟩) (.cons rfl (.cons rfl (.cons rfl (.cons rfl (.cons rfl (.cons rfl (.cons rfl (.cons rfl (.cons rfl (.cons rfl (.cons rfl .nil))))))))))) pulled
    ·
      simp only [decide_eq_false_iff_not] at h49
      iterate 2 (first | refine Rg.skipP rfl rfl rfl ?_ | refine Rg.skipR rfl rfl rfl ?_ | refine Rg.skipE rfl rfl rfl ?_)
      refine Rg.pure rfl rfl rfl (Pv.pickF rfl rfl) ?_
      refine Rg.nil ?_
      exact Vc.inv1 _ (fun hb => by cases hb) (.cons rfl (.cons rfl (.cons rfl (.cons rfl (.cons rfl (.cons rfl (.cons rfl (.cons rfl (.cons rfl (.cons rfl (.cons rfl .nil))))))))))) pulled
  ·
    rintro bb hbb
    refine Vc.cond rfl (fun h52 => ?_) (fun h52 => ?_)
    ·
      obtain ⟨hix, hi10'⟩ := hbb h52
      obtain ⟨pk, ck, ys, pc, hsk, hpcl, _, hpcc, hpca⟩ := hr.piece hix
      obtain ⟨bl, off, c', e, _⟩ := hrt.block (by omega)
      cases e
      refine Vc.skip ?_
      refine Vc.seq ?_
      refine Vc.block ?_
      refine Vc.seq ?_
      refine Vc.drawS [] (sd [(0, .pure), (1, .pure), (2, .pure), (3, .read), (4, .pure), (5, .pure), (6, .pure), (7, .read), (8, .pure), (9, .pure), (10, .pure), (11, .pure)]) [] pulled mixed (by kernel_rfl) ?_
      refine Rg.pure rfl rfl rfl (Pv.move rfl) ?_
      refine Rg.pure rfl rfl rfl (Pv.move rfl) ?_
      refine Rg.pure rfl rfl rfl (Pv.ixA (i) rfl rfl (by omega) (by omega)) ?_
      refine Rg.read rfl rfl rfl (Ev.as (.slice pk ys ck) (Ev.ldS (E := slE) i hrt.src rfl rfl rfl (by omega)) (congrArg slE.val hsk)) ?_
      refine Rg.pure rfl rfl rfl (Pv.move rfl) ?_
      refine Rg.pure rfl rfl rfl (Pv.move rfl) ?_
      refine Rg.pure rfl rfl rfl (Pv.ixA (i) rfl rfl (by omega) (by omega)) ?_
      refine Rg.read rfl rfl rfl (Ev.as (.slice pk ys ck) (Ev.ldS (E := slE) i hrt.src rfl rfl rfl (by omega)) (congrArg slE.val hsk)) ?_
      refine Rg.pure rfl rfl rfl (Pv.lenS rfl) ?_
      refine Rg.pure rfl rfl rfl (Pv.asI (pc.length) (Pv.min rfl rfl) (by omega)) ?_
      refine Rg.pure rfl rfl rfl (Pv.slTo (pc.length) rfl rfl (by omega)) ?_
      refine Rg.pure rfl rfl rfl (Pv.assign rfl) ?_
      refine Rg.nil ?_
      refine Vc.seq ?_
      refine Vc.seq ?_
      refine Vc.text (List.range 4) (sd [(0, .pure), (1, .pure), (2, .eff), (3, .pure)]) rfl ?_
      refine Rg.pure rfl rfl rfl (Pv.move rfl) ?_
      refine Rg.pure rfl rfl rfl (Pv.move rfl) ?_
      refine Rg.callH rfl rfl rfl (run_callF rfl) (fun F' hF' => append_w (F := F') hD hw (by omega) (by omega) [102] (hpca.mono fun b o h => hF' b o (.inr h)) (by omega) (app1 pc (by simp [secs]; omega))) rfl ?_
      rintro _ s68 ⟨rfl, hD68, hw68⟩
      rw [List.append_assoc] at hD68 hw68
      refine Rg.pure rfl rfl rfl (Pv.neq rfl rfl) ?_
      refine Rg.nil ?_
      refine Vc.cond rfl (fun h69 => absurd h69 (by decide)) (fun h69 => ?_)
      refine Vc.skip ?_
      refine Vc.text (List.range 5) (sd [(0, .pure), (1, .pure), (2, .read), (3, .pure), (4, .pure)]) rfl ?_
      refine Rg.pure rfl rfl rfl (Pv.move rfl) ?_
      refine Rg.pure rfl rfl rfl (Pv.move rfl) ?_
      refine Rg.read rfl rfl rfl (Ev.str (hpca.src) rfl) ?_
      refine Rg.pure rfl rfl rfl (Pv.as (.string ⟨(b ++ (pp ++ pc)).toArray⟩) (Pv.addS rfl rfl (by show (b ++ pp).toArray.size + pc.toArray.size ≤ _; simp; omega)) (by rw [str_app, List.append_assoc])) ?_
      refine Rg.pure rfl rfl rfl (Pv.assign rfl) ?_
      refine Rg.nil ?_
      refine Vc.blk ?_
      refine Vc.text (List.range 3) (sd [(0, .pure), (1, .pure), (2, .pure)]) rfl ?_
      refine Rg.pure rfl rfl rfl (Pv.move rfl) ?_
      refine Rg.pure rfl rfl rfl (Pv.asI (i + 1) (Pv.add rfl rfl (by omega)) (by omega)) ?_
      refine Rg.pure rfl rfl rfl (Pv.assign rfl) ?_
      refine Rg.nil ?_
      exact Vc.inv3 (i + 1) (pp ++ pc) s68 ⟨⟨by omega, by omega, by simp; omega, hD68, hw68.mono (by omega) (by omega)⟩, by omega⟩ (.cons rfl (.cons rfl (.cons rfl (.cons rfl (.cons rfl (.cons rfl (.cons rfl (.cons rfl (.cons rfl (.cons rfl .nil)))))))))) pulled
    ·
      have hpre : ∀ j, j < b.length → b[j]? = (b ++ pp)[j]? := fun j hj => (List.getElem?_append_left hj).symm
      have hkp := torn_kept (ks := q) hpre (secs (b ++ pp).length) (by unfold secs; omega)
      have hfr := hkp.front hpre
      have htl : (tornG (b ++ pp) b q (secs (b ++ pp).length)).1.length ≤ (b ++ pp).length := tornG_len (by simp) (Nat.le_refl _) _ (by unfold secs; omega)
      refine Vc.exit rfl ?_
      refine Vc.seq ?_
      refine Vc.text (List.range 3) (sd [(0, .pure), (1, .pure), (2, .eff)]) rfl ?_
      refine Rg.pure rfl rfl rfl (Pv.move rfl) ?_
      refine Rg.pure rfl rfl rfl (Pv.move rfl) ?_
      refine Rg.callH rfl rfl rfl (run_callF rfl) (fun F' hF' => crash_w (F := F') hD hw (by omega) (by omega) (hqa.mono fun b o h => hF' b o (.inr h)) (crash1 q)) rfl ?_
      rintro v76 s76 ⟨hD76, hw76⟩
      generalize (tornG (b ++ pp) b q (secs (b ++ pp).length)).1 = t at hD76 hw76 hkp hfr htl
      obtain ⟨hk1, hk2⟩ := hkp
      have hal : (b ++ pp).length = b.length + pp.length := by simp
      refine Rg.nil ?_
      refine Vc.seq ?_
      refine Vc.text (List.range 2) (sd [(0, .pure), (1, .eff)]) rfl ?_
      refine Rg.pure rfl rfl rfl (Pv.move rfl) ?_
      refine Rg.callH rfl rfl rfl (run_callF rfl) (fun F' hF' => restart_w (F := F') hD76 hw76) rfl ?_
      rintro v78 s78 ⟨hD78, hw78⟩
      refine Rg.nil ?_
      refine Vc.seq ?_
      refine Vc.text (List.range 7) (sd [(0, .pure), (1, .eff), (2, .pure), (3, .pure), (4, .pure), (5, .pure), (6, .pure)]) rfl ?_
      refine Rg.pure rfl rfl rfl (Pv.move rfl) ?_
      refine Rg.callH rfl rfl rfl (run_callF rfl) (fun F' hF' => size_w (F := F') hD78 hw78 (by omega) (by omega) [102] size1 (congrArg Prod.snd begins1)) rfl ?_
      rintro _ s81 ⟨rfl, hD81, hw81⟩
      refine Rg.pure rfl rfl rfl (Pv.move rfl) ?_
      refine Rg.pure rfl rfl rfl (Pv.extract rfl rfl) ?_
      refine Rg.pure rfl rfl rfl (Pv.extract rfl rfl) ?_
      refine Rg.pure rfl rfl rfl (Pv.assign rfl) ?_
      refine Rg.pure rfl rfl rfl (Pv.assign rfl) ?_
      refine Rg.nil ?_
      refine Vc.seq ?_
      refine Vc.text (List.range 9) (sd [(0, .pure), (1, .pure), (2, .pure), (3, .eff), (4, .pure), (5, .pure), (6, .pure), (7, .pure), (8, .pure)]) rfl ?_
      refine Rg.pure rfl rfl rfl (Pv.move rfl) ?_
      refine Rg.pure rfl rfl rfl (Pv.move rfl) ?_
      refine Rg.pure rfl rfl rfl (Pv.lenS rfl) ?_
      refine Rg.callH rfl rfl rfl (run_callF rfl) (fun F' hF' => readAt_w (F := F') hD81 hw81 (by omega) (by omega) [102] 0 (b.length : Nat) (read1to hk1) (congrArg Prod.snd begins1)) rfl ?_
      rintro _ _ ⟨u88, q88, s88, rfl, own88, hD88, hw88, rfl⟩
      rw [List.append_assoc]
      refine Rg.pure rfl rfl rfl (Pv.move rfl) ?_
      refine Rg.pure rfl rfl rfl (Pv.extract rfl rfl) ?_
      refine Rg.pure rfl rfl rfl (Pv.extract rfl rfl) ?_
      refine Rg.pure rfl rfl rfl (Pv.assign rfl) ?_
      refine Rg.pure rfl rfl rfl (Pv.assign rfl) ?_
      refine Rg.nil ?_
      refine Vc.seq ?_
      refine Vc.seq ?_
      refine Vc.text (List.range 37) (sd [(0, .pure), (1, .pure), (2, .pure), (3, .pure), (4, .pure), (5, .pure), (6, .pure), (7, .pure), (8, .pure), (9, .pure), (10, .pure), (11, .pure), (12, .pure), (13, .pure), (14, .pure), (15, .pure), (16, .pure), (17, .pure), (18, .pure), (19, .pure), (20, .read), (21, .pure), (22, .read), (23, .pure), (24, .pure), (25, .pure), (26, .pure), (27, .pure), (28, .pure), (29, .pure), (30, .pure), (31, .pure), (32, .pure), (33, .pure), (34, .pure), (35, .pure), (36, .pure)]) rfl ?_
      refine Rg.pure rfl rfl rfl (Pv.move rfl) ?_
      refine Rg.pure rfl rfl rfl (Pv.neq rfl rfl) ?_
      refine Rg.pure rfl rfl rfl (Pv.move rfl) ?_
      refine Rg.split (t := 93) rfl (fun h93 => absurd h93 (by decide)) (fun h93 => ?_)
      refine Rg.pure rfl rfl rfl (Pv.move rfl) ?_
      refine Rg.pure rfl rfl rfl (Pv.neq rfl rfl) ?_
      refine Rg.pure rfl rfl rfl (Pv.pickF rfl rfl) ?_
      refine Rg.pure rfl rfl rfl (Pv.move rfl) ?_
      refine Rg.split (t := 97) rfl (fun h97 => absurd h97 (by decide)) (fun h97 => ?_)
      refine Rg.pure rfl rfl rfl (Pv.move rfl) ?_
      refine Rg.pure rfl rfl rfl (Pv.neq rfl rfl) ?_
      refine Rg.pure rfl rfl rfl (Pv.pickF rfl rfl) ?_
      refine Rg.pure rfl rfl rfl (Pv.move rfl) ?_
      refine Rg.split (t := 101) rfl (fun h101 => absurd h101 (by decide)) (fun h101 => ?_)
      refine Rg.pure rfl rfl rfl (Pv.move rfl) ?_
      refine Rg.pure rfl rfl rfl (Pv.neq rfl rfl) ?_
      refine Rg.pure rfl rfl rfl (Pv.pickF rfl rfl) ?_
      refine Rg.pure rfl rfl rfl (Pv.move rfl) ?_
      refine Rg.split (t := 105) rfl (fun h105 => absurd h105 (by decide)) (fun h105 => ?_)
      refine Rg.pure rfl rfl rfl (Pv.move rfl) ?_
      refine Rg.pure rfl rfl rfl (Pv.neq rfl rfl) ?_
      refine Rg.pure rfl rfl rfl (Pv.pickF rfl rfl) ?_
      refine Rg.pure rfl rfl rfl (Pv.move rfl) ?_
      refine Rg.split (t := 109) rfl (fun h109 => absurd h109 (by decide)) (fun h109 => ?_)
      refine Rg.pure rfl rfl rfl (Pv.move rfl) ?_
      refine Rg.read rfl rfl rfl (Ev.str ((Arg.own (F := frz F q88) own88 fun b o hb => Or.inl hb).srcF) rfl) ?_
      refine Rg.pure rfl rfl rfl (Pv.move rfl) ?_
      refine Rg.read rfl rfl rfl (Ev.str (hb.src) rfl) ?_
      refine Rg.pure rfl rfl rfl (Pv.neqS rfl rfl) ?_
      refine Rg.pure rfl rfl rfl (Pv.pickF rfl rfl) ?_
      refine Rg.pure rfl rfl rfl (Pv.move rfl) ?_
      refine Rg.split (t := 116) rfl (fun h116 => absurd h116 (by simp [hfr])) (fun h116 => ?_)
      refine Rg.pure rfl rfl rfl (Pv.move rfl) ?_
      refine Rg.pure rfl rfl rfl (Pv.move rfl) ?_
      refine Rg.pure rfl rfl rfl (Pv.lenS rfl) ?_
      refine Rg.pure rfl rfl rfl (Pv.lss rfl rfl) ?_
      refine Rg.pure rfl rfl rfl (Pv.pickF rfl rfl) ?_
      refine Rg.pure rfl rfl rfl (Pv.move rfl) ?_
      refine Rg.split (t := 122) rfl (fun h122 => absurd h122 (by simp; omega)) (fun h122 => ?_)
      refine Rg.pure rfl rfl rfl (Pv.move rfl) ?_
      refine Rg.pure rfl rfl rfl (Pv.move rfl) ?_
      refine Rg.pure rfl rfl rfl (Pv.as (.int .i64 ((b ++ pp).length : Int)) (Pv.lenStr rfl) rfl) ?_
      refine Rg.pure rfl rfl rfl (Pv.gtr rfl rfl) ?_
      refine Rg.pure rfl rfl rfl (Pv.pickF rfl rfl) ?_
      refine Rg.nil ?_
      refine Vc.cond rfl (fun h127 => absurd h127 (by simp; omega)) (fun h127 => ?_)
      refine Vc.skip ?_
      refine Vc.seq ?_
      refine Vc.text (List.range 8) (sd [(0, .pure), (1, .pure), (2, .eff), (3, .pure), (4, .pure), (5, .pure), (6, .pure), (7, .pure)]) rfl ?_
      refine Rg.pure rfl rfl rfl (Pv.move rfl) ?_
      refine Rg.pure rfl rfl rfl (Pv.move rfl) ?_
      refine Rg.callH rfl rfl rfl (run_callF rfl) (fun F' hF' => readAt_w (F := F') hD88 hw88 (by omega) (by omega) [102] 0 (t.length : Nat) read1all (congrArg Prod.snd begins1)) rfl ?_
      rintro _ _ ⟨u131, q131, s131, rfl, own131, hD131, hw131, rfl⟩
      rw [List.append_assoc]
      obtain ⟨px, cx, rfl⟩ := own131.shape
      refine Rg.pure rfl rfl rfl (Pv.move rfl) ?_
      refine Rg.pure rfl rfl rfl (Pv.extract rfl rfl) ?_
      refine Rg.pure rfl rfl rfl (Pv.extract rfl rfl) ?_
      refine Rg.pure rfl rfl rfl (Pv.assign rfl) ?_
      refine Rg.pure rfl rfl rfl (Pv.assign rfl) ?_
      refine Rg.nil ?_
      refine Vc.seq ?_
      refine Vc.seq ?_
      refine Vc.text (List.range 8) (sd [(0, .pure), (1, .pure), (2, .pure), (3, .pure), (4, .pure), (5, .pure), (6, .pure), (7, .pure)]) rfl ?_
      refine Rg.pure rfl rfl rfl (Pv.move rfl) ?_
      refine Rg.pure rfl rfl rfl (Pv.neq rfl rfl) ?_
      refine Rg.pure rfl rfl rfl (Pv.move rfl) ?_
      refine Rg.split (t := 136) rfl (fun h136 => absurd h136 (by decide)) (fun h136 => ?_)
      refine Rg.pure rfl rfl rfl (Pv.move rfl) ?_
      refine Rg.pure rfl rfl rfl (Pv.lenS rfl) ?_
      refine Rg.pure rfl rfl rfl (Pv.move rfl) ?_
      refine Rg.pure rfl rfl rfl (Pv.neq rfl rfl) ?_
      refine Rg.pure rfl rfl rfl (Pv.pickF rfl rfl) ?_
      refine Rg.nil ?_
      refine Vc.cond rfl (fun h141 => absurd h141 (by simp)) (fun h141 => ?_)
      refine Vc.skip ?_
      refine Vc.seq ?_
      refine Vc.seq ?_
      refine Vc.text (List.range 3) (sd [(0, .pure), (1, .pure), (2, .pure)]) rfl ?_
      refine Rg.pure rfl rfl rfl (Pv.move rfl) ?_
      refine Rg.pure rfl rfl rfl (Pv.lenS rfl) ?_
      refine Rg.pure rfl rfl rfl (Pv.assign rfl) ?_
      refine Rg.nil ?_
      refine Vc.block ?_
      refine Vc.loop1 (fun (a : Nat) => b.length ≤ a ∧ a ≤ t.length) (fun a => [(7, .bool true), (12, .string ⟨(b ++ pp).toArray⟩), (15, .int .i64 (t.length : Int)), (19, .slice px t.length cx), (21, .int .i64 (a : Int))]) (fun a => q131) (fun a => t.length - a) b.length ⟨Nat.le_refl _, hk1⟩ (.cons rfl (.cons rfl (.cons rfl (.cons rfl (.cons rfl .nil))))) pulled ?_
      rintro a ⟨ha1, ha2⟩
      refine Vc.seq ?_
      refine Vc.seq ?_
      refine Vc.text (List.range 3) (sd [(0, .pure), (1, .pure), (2, .pure)]) rfl ?_
      refine Rg.pure rfl rfl rfl (Pv.move rfl) ?_
      refine Rg.pure rfl rfl rfl (Pv.move rfl) ?_
      refine Rg.pure rfl rfl rfl (Pv.lss rfl rfl) ?_
      refine Rg.nil ?_
      refine Vc.cond rfl (fun h146 => ?_) (fun h146 => ?_)
      ·
        simp only [decide_eq_true_eq] at h146
        have hat : a < t.length := by omega
        obtain ⟨bx, cx', spx, e, rfl, _, _⟩ := own131.block (by omega)
        cases e
        have hkk := hk2 a hat
        have hget : (b ++ pp)[a]? = some (b ++ pp)[a]! := by rw [getElem!_pos _ a (by omega)]; exact List.getElem?_eq_getElem (by omega)
        have hget2 : t[a]? = some t[a]! := by rw [getElem!_pos _ a (by omega)]; exact List.getElem?_eq_getElem (by omega)
        rw [hget, hget2] at hkk
        simp only [Option.some.injEq] at hkk
        refine Vc.skip ?_
        refine Vc.seq ?_
        refine Vc.block ?_
        refine Vc.seq ?_
        refine Vc.draw [] (sd [(0, .pure), (1, .pure), (2, .pure), (3, .read), (4, .pure), (5, .pure), (6, .pure), (7, .pure), (8, .pure), (9, .pure), (10, .pure), (11, .pure), (12, .read), (13, .pure), (14, .pure)]) mixed (by kernel_rfl) ?_
        refine Rg.pure rfl rfl rfl (Pv.move rfl) ?_
        refine Rg.pure rfl rfl rfl (Pv.move rfl) ?_
        refine Rg.pure rfl rfl rfl (Pv.ixA (a) rfl rfl (by omega) (by omega)) ?_
        refine Rg.read rfl rfl rfl (Ev.as (.int .u8 ((t[a]!).toNat : Int)) (Ev.ldR a rfl (Nat.zero_add _) (by omega)) rfl) ?_
        refine Rg.pure rfl rfl rfl (Pv.move rfl) ?_
        refine Rg.pure rfl rfl rfl (Pv.move rfl) ?_
        refine Rg.pure rfl rfl rfl (Pv.as (.int .u8 (((b ++ pp)[a]!).toNat : Int)) (Pv.indexS a rfl rfl (by show (b ++ pp).toArray[a]? = _; simpa using hget)) rfl) ?_
        refine Rg.pure rfl rfl rfl (Pv.neq rfl rfl) ?_
        refine Rg.pure rfl rfl rfl (Pv.move rfl) ?_
        refine Rg.split (t := 157) rfl (fun h157 => ?_) (fun h157 => ?_)
        ·
          simp only [bne_iff_ne, ne_eq] at h157
          have hz : t[a]! = 0 := by rcases hkk with h | ⟨_, h⟩; exact absurd (congrArg (fun x : UInt8 => ((x.toNat : Nat) : Int)) h) h157; exact h
          refine Rg.pure rfl rfl rfl (Pv.move rfl) ?_
          refine Rg.pure rfl rfl rfl (Pv.move rfl) ?_
          refine Rg.pure rfl rfl rfl (Pv.ixA (a) rfl rfl (by omega) (by omega)) ?_
          refine Rg.read rfl rfl rfl (Ev.as (.int .u8 ((t[a]!).toNat : Int)) (Ev.ldR a rfl (Nat.zero_add _) (by omega)) rfl) ?_
          refine Rg.pure rfl rfl rfl (Pv.neq rfl rfl) ?_
          refine Rg.pure rfl rfl rfl (Pv.pickT rfl rfl) ?_
          refine Rg.nil ?_
          refine Vc.cond rfl (fun h163 => absurd h163 (by simp [hz])) (fun h163 => ?_)
          refine Vc.skip ?_
          refine Vc.blk ?_
          refine Vc.text (List.range 3) (sd [(0, .pure), (1, .pure), (2, .pure)]) rfl ?_
          refine Rg.pure rfl rfl rfl (Pv.move rfl) ?_
          refine Rg.pure rfl rfl rfl (Pv.asI (a + 1) (Pv.add rfl rfl (by omega)) (by omega)) ?_
          refine Rg.pure rfl rfl rfl (Pv.assign rfl) ?_
          refine Rg.nil ?_
          exact Vc.inv1 (a + 1) ⟨⟨by omega, by omega⟩, by omega⟩ (.cons rfl (.cons rfl (.cons rfl (.cons rfl (.cons rfl .nil))))) pulled
        ·
          iterate 5 (first | refine Rg.skipP rfl rfl rfl ?_ | refine Rg.skipR rfl rfl rfl ?_ | refine Rg.skipE rfl rfl rfl ?_)
          refine Rg.pure rfl rfl rfl (Pv.pickF rfl rfl) ?_
          refine Rg.nil ?_
          refine Vc.cond rfl (fun h163 => absurd h163 (by decide)) (fun h163 => ?_)
          refine Vc.skip ?_
          refine Vc.blk ?_
          refine Vc.text (List.range 3) (sd [(0, .pure), (1, .pure), (2, .pure)]) rfl ?_
          refine Rg.pure rfl rfl rfl (Pv.move rfl) ?_
          refine Rg.pure rfl rfl rfl (Pv.asI (a + 1) (Pv.add rfl rfl (by omega)) (by omega)) ?_
          refine Rg.pure rfl rfl rfl (Pv.assign rfl) ?_
          refine Rg.nil ?_
          exact Vc.inv1 (a + 1) ⟨⟨by omega, by omega⟩, by omega⟩ (.cons rfl (.cons rfl (.cons rfl (.cons rfl (.cons rfl .nil))))) pulled
      ·
        refine Vc.exit rfl ?_
        refine Vc.seq ?_
        refine Vc.text (List.range 2) (sd [(0, .pure), (1, .pure)]) rfl ?_
        refine Rg.pure rfl rfl rfl (Pv.move rfl) ?_
        refine Rg.pure rfl rfl rfl (Pv.assign rfl) ?_
        refine Rg.nil ?_
        refine Vc.ret (Vc.rets rfl (.cons (.tmp rfl) (.nil)) ?_)
        rfl
end Go.Proofs.Ytmocncadncgaaaa

namespace Go.Proofs.Ytmocncadncgaaaa
set_option linter.unusedVariables false

def intE : Enc Int where
  k := 1
  tid := 3
  cells := fun z => [.int .i64 z]
  val := fun z => .int .i64 z
  pos := by decide
  len := fun _ => rfl
  one := fun x v hv => by simp at hv; subst hv; rfl
  vc := fun _ => rfl
instance : RowTy Try.prog intE 3 := ⟨Try.sizeOf3, .inr ⟨Try.isAgg3, rfl, fun _ => rfl⟩⟩
instance : TySl Try.prog 28 intE 8 := ⟨Try.underlying28, Try.t3, .int .i64 0, by kernel_rfl, by kernel_rfl, rfl, rfl, rfl⟩
instance : TyZero Try.prog intE.tid (intE.val 0) := inferInstanceAs (TyZero Try.prog 3 (.int .i64 0))

theorem take_succ' {p : List UInt8} {n : Nat} (h : n < p.length) : p.take (n + 1) = p.take n ++ [p[n]!] := by
  rw [List.take_succ_eq_append_getElem h, getElem!_pos p n h]
theorem putAt_set {l p : List UInt8} {k n : Nat} (hk : k ≤ l.length) (hn : n < p.length) (h : k + n < l.length) : (putAt l k (p.take n)).set (k + n) p[n]! = putAt l k (p.take (n + 1)) := by
  have h1 : (p.take n).length = n := by simp; omega
  have h2 : (p.take (n + 1)).length = n + 1 := by simp; omega
  have hl := putAt_length (bs := p.take n) hk
  apply List.ext_getElem?
  intro j
  rw [putAt_get hk, h2, List.getElem?_set, putAt_get hk, h1, hl, h1]
  by_cases c : k + n = j
  · subst c
    rw [if_pos rfl, if_pos (by omega), if_neg (by omega), if_pos (by omega), show k + n - k = n by omega, List.getElem?_take_of_lt (by omega), getElem!_pos p n hn]
    exact (List.getElem?_eq_getElem hn).symm
  · rw [if_neg c]
    by_cases c1 : j < k
    · rw [if_pos c1, if_pos c1]
    · rw [if_neg c1, if_neg c1]
      by_cases c2 : j < k + n
      · rw [if_pos c2, if_pos (by omega), List.getElem?_take_of_lt (by omega), List.getElem?_take_of_lt (by omega)]
      · rw [if_neg c2, if_neg (by omega)]
theorem putAt_app {l p : List UInt8} {k n : Nat} (hk : k ≤ l.length) (hn : n < p.length) (h : l.length ≤ k + n) : putAt l k (p.take n) ++ [p[n]!] = putAt l k (p.take (n + 1)) := by
  have h1 : (p.take n).length = n := by simp; omega
  have h2 : (p.take (n + 1)).length = n + 1 := by simp; omega
  unfold putAt
  rw [h1, h2, List.drop_eq_nil_of_le h, List.drop_eq_nil_of_le (by omega), List.append_nil, List.append_nil, take_succ' hn, List.append_assoc]
theorem putAt_nil {l : List UInt8} {k : Nat} : putAt l k [] = l := by simp [putAt]

set_option maxHeartbeats 1000000 in
theorem DiskWrites_spec (F : Fm) (v0 v1 v2 : Value) (xs : List UInt8) (ls : List Sv) (xss : List (List UInt8)) (ats : List Int) (h0 : Arg byteE F v0 xs) (hr : ArgRB F v1 ls xss) (h2 : Arg intE F v2 ats) :
    Spec Try.prog 8 #[v0, v1, v2] F [] fun v _ => v = .bool true := by
  obtain ⟨p0, c0, rfl⟩ := h0.shape
  obtain ⟨p1, c1, rfl⟩ := hr.top.shape
  obtain ⟨p2, c2, rfl⟩ := h2.shape
  obtain ⟨b, hbl, _, hbc, hb⟩ := h0.upTo 200
  rw [← hbl] at hb hbc
  have hrt := hr.top
  refine Spec.of (n := 152) (vs := [.slice p0 xs.length c0, .slice p1 ls.length c1, .slice p2 ats.length c2]) Try.func8 rfl Try.ntmps8 rfl ?_
  refine Vc.seq ?_
  refine Vc.text (List.range 1) (sd [(0, .pure)]) rfl ?_
  refine Rg.pure rfl rfl rfl (Pv.assign rfl) ?_
  refine Rg.nil ?_
  refine Vc.seq ?_
  refine Vc.text (List.range 2) (sd [(0, .eff), (1, .pure)]) rfl ?_
  refine Rg.callP rfl rfl rfl (run_callF rfl) (shown_spec _) ?_
  rintro _ rfl
  refine Rg.pure rfl rfl rfl (Pv.assign rfl) ?_
  refine Rg.nil ?_
  refine Vc.seq ?_
  refine Vc.text (List.range 6) (sd [(0, .pure), (1, .pure), (2, .pure), (3, .pure), (4, .pure), (5, .pure)]) rfl ?_
  refine Rg.pure rfl rfl rfl (Pv.move rfl) ?_
  refine Rg.pure rfl rfl rfl (Pv.move rfl) ?_
  refine Rg.pure rfl rfl rfl (Pv.lenS rfl) ?_
  refine Rg.pure rfl rfl rfl (Pv.asI (b.length) (Pv.min rfl rfl) (by omega)) ?_
  refine Rg.pure rfl rfl rfl (Pv.slTo (b.length) rfl rfl (by omega)) ?_
  refine Rg.pure rfl rfl rfl (Pv.assign rfl) ?_
  refine Rg.nil ?_
  refine Vc.seq ?_
  refine Vc.text (List.range 2) (sd [(0, .eff), (1, .pure)]) rfl ?_
  refine Rg.callA rfl rfl rfl (run_callF rfl) (new_w _ 1000 1000 (by decide)) ?_
  rintro _ s24 ⟨db, rfl, hD24, hw24⟩
  refine Rg.pure rfl rfl rfl (Pv.assign rfl) ?_
  refine Rg.nil ?_
  refine Vc.seq ?_
  refine Vc.seq ?_
  refine Vc.text (List.range 13) (sd [(0, .pure), (1, .pure), (2, .pure), (3, .pure), (4, .eff), (5, .pure), (6, .pure), (7, .pure), (8, .pure), (9, .pure), (10, .eff), (11, .pure), (12, .pure)]) rfl ?_
  refine Rg.pure rfl rfl rfl (Pv.move rfl) ?_
  refine Rg.pure rfl rfl rfl (Pv.eqlNil rfl rfl) ?_
  refine Rg.pure rfl rfl rfl (Pv.move rfl) ?_
  refine Rg.split (t := 27) rfl (fun h27 => absurd h27 (by (cases h27))) (fun h27 => ?_)
  refine Rg.pure rfl rfl rfl (Pv.move rfl) ?_
  refine Rg.callH rfl rfl rfl (run_callF rfl) (fun F' hF' => create_w (F := F') hD24 hw24 (by omega) (by omega) [102] (create1 (by decide))) rfl ?_
  rintro _ s29 ⟨rfl, hD29, hw29⟩
  refine Rg.pure rfl rfl rfl (Pv.neq rfl rfl) ?_
  refine Rg.pure rfl rfl rfl (Pv.pickF rfl rfl) ?_
  refine Rg.pure rfl rfl rfl (Pv.move rfl) ?_
  refine Rg.split (t := 32) rfl (fun h32 => absurd h32 (by decide)) (fun h32 => ?_)
  refine Rg.pure rfl rfl rfl (Pv.move rfl) ?_
  refine Rg.pure rfl rfl rfl (Pv.move rfl) ?_
  refine Rg.callH rfl rfl rfl (run_callF rfl) (fun F' hF' => append_w (F := F') hD29 hw29 (by omega) (by omega) [102] (hb.mono fun b o h => hF' b o (.inr h)) (by omega) (app1 b (by simp [secs]; omega))) rfl ?_
  rintro _ s35 ⟨rfl, hD35, hw35⟩
  rw [List.nil_append] at hD35 hw35
  refine Rg.pure rfl rfl rfl (Pv.neq rfl rfl) ?_
  refine Rg.pure rfl rfl rfl (Pv.pickF rfl rfl) ?_
  refine Rg.nil ?_
  refine Vc.cond rfl (fun h37 => absurd h37 (by decide)) (fun h37 => ?_)
  refine Vc.skip ?_
  refine Vc.seq ?_
  refine Vc.text (List.range 4) (sd [(0, .eff), (1, .pure), (2, .eff), (3, .pure)]) rfl ?_
  refine Rg.bslice0 (E := byteE) rfl rfl rfl (fun b38 own38 => ?_)
  refine Rg.pure rfl rfl rfl (Pv.move rfl) ?_
  refine Rg.append rfl rfl rfl rfl rfl own38 hb.src (by simp <;> omega) (by simp [maxLen] <;> omega) rfl (fun v40 s40 own40 => ?_)
  refine Rg.pure rfl rfl rfl (Pv.assign rfl) ?_
  refine Rg.nil ?_
  refine Vc.seq ?_
  refine Vc.seq ?_
  refine Vc.text (List.range 1) (sd [(0, .pure)]) rfl ?_
  refine Rg.pure rfl rfl rfl (Pv.assign rfl) ?_
  refine Rg.nil ?_
  refine Vc.block ?_
  refine Vc.loop5 (fun (i : Nat) (cur : List UInt8) (s : Hl) (v : Value) (sg : Hl) => i ≤ 20 ∧ i ≤ ls.length ∧ i ≤ ats.length ∧ cur.length ≤ 200 + 60 * i ∧ Own byteE v cur sg ∧ DiskAt db (d1 [102] ⟨cur, []⟩ 1000 ((2 + i : Nat) : Int) false) s ∧ Dw (2 + i) (200 + 60 * i) (d1 [102] ⟨cur, []⟩ 1000 ((2 + i : Nat) : Int) false)) (fun i cur s v sg => [(1, .slice p1 ls.length c1), (2, .slice p2 ats.length c2), (7, .bool true), (8, .pointer (some ⟨db, 0, none⟩)), (9, v), (10, .int .i64 (i : Int))]) (fun i cur s v sg => s ++ sg) (fun i cur s v sg => 20 - i) 0 b s35 _ s40 ⟨by omega, by omega, by omega, by omega, own40, hD35, hw35.mono (by omega) (by omega)⟩ (.cons rfl (.cons rfl (.cons rfl (.cons rfl (.cons rfl (.cons rfl .nil)))))) pulled ?_
  rintro i cur s v sg ⟨hi, hil, hia, hcl, own, hD, hw⟩
  obtain ⟨pv, cv, rfl⟩ := own.shape
  refine Vc.seq ?_
  refine Vc.seq ?_
  refine Vc.cut1 (fun (bb : Bool) => (bb = true → i < ls.length ∧ i < ats.length ∧ i < 20)) (fun bb => [(54, .bool bb), (1, .slice p1 ls.length c1), (2, .slice p2 ats.length c2), (7, .bool true), (8, .pointer (some ⟨db, 0, none⟩)), (9, .slice pv cur.length cv), (10, .int .i64 (i : Int))]) (fun bb => s ++ sg) ?_ ?_
  ·
    refine Vc.text (List.range 14) (sd [(0, .pure), (1, .pure), (2, .pure), (3, .pure), (4, .pure), (5, .pure), (6, .pure), (7, .pure), (8, .pure), (9, .pure), (10, .pure), (11, .pure), (12, .pure), (13, .pure)]) rfl ?_
    refine Rg.pure rfl rfl rfl (Pv.move rfl) ?_
    refine Rg.pure rfl rfl rfl (Pv.move rfl) ?_
    refine Rg.pure rfl rfl rfl (Pv.lenS rfl) ?_
    refine Rg.pure rfl rfl rfl (Pv.lss rfl rfl) ?_
    refine Rg.pure rfl rfl rfl (Pv.move rfl) ?_
    refine Rg.split (t := 45) rfl (fun h45 => ?_) (fun h45 => ?_)
    ·
      simp only [decide_eq_true_eq] at h45
      refine Rg.pure rfl rfl rfl (Pv.move rfl) ?_
      refine Rg.pure rfl rfl rfl (Pv.move rfl) ?_
      refine Rg.pure rfl rfl rfl (Pv.lenS rfl) ?_
      refine Rg.pure rfl rfl rfl (Pv.lss rfl rfl) ?_
      refine Rg.pure rfl rfl rfl (Pv.pickT rfl rfl) ?_
      refine Rg.pure rfl rfl rfl (Pv.move rfl) ?_
      refine Rg.split (t := 51) rfl (fun h51 => ?_) (fun h51 => ?_)
      ·
        simp only [decide_eq_true_eq] at h51
        refine Rg.pure rfl rfl rfl (Pv.move rfl) ?_
        refine Rg.pure rfl rfl rfl (Pv.lss rfl rfl) ?_
        refine Rg.pure rfl rfl rfl (Pv.pickT rfl rfl) ?_
        refine Rg.nil ?_
        exact Vc.inv1 _ (fun hb => ⟨by omega, by omega, by have := of_decide_eq_true hb; omega⟩) (.cons rfl (.cons rfl (.cons rfl (.cons rfl (.cons rfl (.cons rfl (.cons rfl .nil))))))) pulled
      ·
        simp only [decide_eq_false_iff_not] at h51
        iterate 2 (first | refine Rg.skipP rfl rfl rfl ?_ | refine Rg.skipR rfl rfl rfl ?_ | refine Rg.skipE rfl rfl rfl ?_)
        refine Rg.pure rfl rfl rfl (Pv.pickF rfl rfl) ?_
        refine Rg.nil ?_
        exact Vc.inv1 _ (fun hb => by cases hb) (.cons rfl (.cons rfl (.cons rfl (.cons rfl (.cons rfl (.cons rfl (.cons rfl .nil))))))) pulled
    ·
      simp only [decide_eq_false_iff_not] at h45
      iterate 4 (first | refine Rg.skipP rfl rfl rfl ?_ | refine Rg.skipR rfl rfl rfl ?_ | refine Rg.skipE rfl rfl rfl ?_)
      refine Rg.pure rfl rfl rfl (Pv.pickF rfl rfl) ?_
      refine Rg.pure rfl rfl rfl (Pv.move rfl) ?_
      iterate 2 (first | refine Rg.skipP rfl rfl rfl ?_ | refine Rg.skipR rfl rfl rfl ?_ | refine Rg.skipE rfl rfl rfl ?_)
      refine Rg.pure rfl rfl rfl (Pv.pickF rfl rfl) ?_
      refine Rg.nil ?_
      exact Vc.inv1 _ (fun hb => by cases hb) (.cons rfl (.cons rfl (.cons rfl (.cons rfl (.cons rfl (.cons rfl (.cons rfl .nil))))))) pulled
  ·
    rintro bb hbb
    refine Vc.cond rfl (fun h54 => ?_) (fun h54 => ?_)
    ·
      obtain ⟨hix, hiy, hi20⟩ := hbb h54
      obtain ⟨pk, ck, ys, pc, hsk, hpcl, _, hpcc, hpca⟩ := hr.piece hix
      obtain ⟨bl, off, c', e, _⟩ := hrt.block (by omega)
      cases e
      obtain ⟨ba, offa, ca', e, _⟩ := h2.block (by omega)
      cases e
      obtain ⟨k, hk⟩ : ∃ k, k = andN (ats[i]!) 65535 % (cur.length + 1) := ⟨_, rfl⟩
      have hkl : k ≤ cur.length := by have := Nat.mod_lt (andN (ats[i]!) 65535) (show 0 < cur.length + 1 by omega); omega
      have hpul := putAt_length (bs := pc) hkl
      refine Vc.skip ?_
      refine Vc.seq ?_
      refine Vc.block ?_
      refine Vc.seq ?_
      refine Vc.drawS [] (sd [(0, .pure), (1, .pure), (2, .pure), (3, .read), (4, .pure), (5, .pure), (6, .pure), (7, .read), (8, .pure), (9, .pure), (10, .pure), (11, .pure)]) [] pulled mixed (by kernel_rfl) ?_
      refine Rg.pure rfl rfl rfl (Pv.move rfl) ?_
      refine Rg.pure rfl rfl rfl (Pv.move rfl) ?_
      refine Rg.pure rfl rfl rfl (Pv.ixA (i) rfl rfl (by omega) (by omega)) ?_
      refine Rg.read rfl rfl rfl (Ev.as (.slice pk ys ck) (Ev.ldS (E := slE) i hrt.src rfl rfl rfl (by omega)) (congrArg slE.val hsk)) ?_
      refine Rg.pure rfl rfl rfl (Pv.move rfl) ?_
      refine Rg.pure rfl rfl rfl (Pv.move rfl) ?_
      refine Rg.pure rfl rfl rfl (Pv.ixA (i) rfl rfl (by omega) (by omega)) ?_
      refine Rg.read rfl rfl rfl (Ev.as (.slice pk ys ck) (Ev.ldS (E := slE) i hrt.src rfl rfl rfl (by omega)) (congrArg slE.val hsk)) ?_
      refine Rg.pure rfl rfl rfl (Pv.lenS rfl) ?_
      refine Rg.pure rfl rfl rfl (Pv.asI (pc.length) (Pv.min rfl rfl) (by omega)) ?_
      refine Rg.pure rfl rfl rfl (Pv.slTo (pc.length) rfl rfl (by omega)) ?_
      refine Rg.pure rfl rfl rfl (Pv.assign rfl) ?_
      refine Rg.nil ?_
      refine Vc.seq ?_
      refine Vc.text (List.range 10) (sd [(0, .pure), (1, .pure), (2, .pure), (3, .read), (4, .pure), (5, .pure), (6, .pure), (7, .pure), (8, .pure), (9, .pure)]) rfl ?_
      refine Rg.pure rfl rfl rfl (Pv.move rfl) ?_
      refine Rg.pure rfl rfl rfl (Pv.move rfl) ?_
      refine Rg.pure rfl rfl rfl (Pv.ixA (i) rfl rfl (by omega) (by omega)) ?_
      refine Rg.read rfl rfl rfl (Ev.as (.int .i64 (ats[i]!)) (Ev.ldS (E := intE) i h2.src rfl rfl rfl (by omega)) rfl) ?_
      refine Rg.pure rfl rfl rfl (Pv.and rfl rfl (by omega)) ?_
      refine Rg.pure rfl rfl rfl (Pv.move rfl) ?_
      refine Rg.pure rfl rfl rfl (Pv.lenS rfl) ?_
      refine Rg.pure rfl rfl rfl (Pv.asI (cur.length + 1) (Pv.add rfl rfl (by omega)) (by omega)) ?_
      refine Rg.pure rfl rfl rfl (Pv.asI k (Pv.remN (andN (ats[i]!) 65535) (cur.length + 1) rfl rfl (by omega)) (by rw [hk])) ?_
      refine Rg.pure rfl rfl rfl (Pv.assign rfl) ?_
      refine Rg.nil ?_
      refine Vc.seq ?_
      refine Vc.seq ?_
      refine Vc.text (List.range 5) (sd [(0, .pure), (1, .pure), (2, .pure), (3, .eff), (4, .pure)]) rfl ?_
      refine Rg.pure rfl rfl rfl (Pv.move rfl) ?_
      refine Rg.pure rfl rfl rfl (Pv.move rfl) ?_
      refine Rg.pure rfl rfl rfl (Pv.move rfl) ?_
      refine Rg.callH rfl rfl rfl (run_callF rfl) (fun F' hF' => writeAt_w (F := F') hD hw (by omega) (by omega) [102] (k : Int) (hpca.mono fun b o h => hF' b o (.inr h)) (by omega) (write1 k hkl pc (by simp [secs]; omega))) rfl ?_
      rintro _ s80 ⟨rfl, hD80, hw80⟩
      refine Rg.pure rfl rfl rfl (Pv.neq rfl rfl) ?_
      refine Rg.nil ?_
      refine Vc.cond rfl (fun h81 => absurd h81 (by decide)) (fun h81 => ?_)
      refine Vc.skip ?_
      refine Vc.seq ?_
      refine Vc.text (List.range 1) (sd [(0, .pure)]) rfl ?_
      refine Rg.pure rfl rfl rfl (Pv.assign rfl) ?_
      refine Rg.nil ?_
      refine Vc.block ?_
      refine Vc.loop3 (fun (n : Nat) (v : Value) (sg : Hl) => n ≤ pc.length ∧ Own byteE v (putAt cur k (pc.take n)) sg) (fun n v sg => [(1, .slice (some ⟨bl, off, none⟩) ls.length c1), (2, .slice (some ⟨ba, offa, none⟩) ats.length c2), (7, .bool true), (8, .pointer (some ⟨db, 0, none⟩)), (10, .int .i64 (i : Int)), (11, .slice pk pc.length ck), (12, .int .i64 (k : Int)), (9, v), (13, .int .i64 (n : Int))]) (fun n v sg => s80 ++ sg) (fun n v sg => pc.length - n) 0 _ sg ⟨Nat.zero_le _, by rw [List.take_zero, putAt_nil]; exact own⟩ (.cons rfl (.cons rfl (.cons rfl (.cons rfl (.cons rfl (.cons rfl (.cons rfl (.cons rfl (.cons rfl .nil))))))))) pulled ?_
      rintro n v sg2 ⟨hn, own2⟩
      have hpl := putAt_length (bs := pc.take n) hkl
      have htn : (pc.take n).length = n := by simp; omega
      obtain ⟨pw, cw, rfl⟩ := own2.shape
      refine Vc.seq ?_
      refine Vc.seq ?_
      refine Vc.text (List.range 4) (sd [(0, .pure), (1, .pure), (2, .pure), (3, .pure)]) rfl ?_
      refine Rg.pure rfl rfl rfl (Pv.move rfl) ?_
      refine Rg.pure rfl rfl rfl (Pv.move rfl) ?_
      refine Rg.pure rfl rfl rfl (Pv.lenS rfl) ?_
      refine Rg.pure rfl rfl rfl (Pv.lss rfl rfl) ?_
      refine Rg.nil ?_
      refine Vc.cond rfl (fun h85 => ?_) (fun h85 => ?_)
      ·
        simp only [decide_eq_true_eq] at h85
        have hnl : n < pc.length := by omega
        have hpc2 := hpca
        obtain ⟨bp, offp, cp', e, _⟩ := hpca.block (by omega)
        cases e
        refine Vc.skip ?_
        refine Vc.seq ?_
        refine Vc.block ?_
        refine Vc.seq ?_
        refine Vc.text (List.range 6) (sd [(0, .pure), (1, .pure), (2, .pure), (3, .pure), (4, .pure), (5, .pure)]) rfl ?_
        refine Rg.pure rfl rfl rfl (Pv.move rfl) ?_
        refine Rg.pure rfl rfl rfl (Pv.move rfl) ?_
        refine Rg.pure rfl rfl rfl (Pv.asI (k + n) (Pv.add rfl rfl (by omega)) (by omega)) ?_
        refine Rg.pure rfl rfl rfl (Pv.move rfl) ?_
        refine Rg.pure rfl rfl rfl (Pv.lenS rfl) ?_
        refine Rg.pure rfl rfl rfl (Pv.lss rfl rfl) ?_
        refine Rg.nil ?_
        refine Vc.cond rfl (fun h93 => ?_) (fun h93 => ?_)
        ·
          simp only [decide_eq_true_eq] at h93
          have hkn : k + n < cur.length := by omega
          obtain ⟨bo, co, spo, e, rfl, hsc, hcm⟩ := own2.block (by omega)
          cases e
          have hst := putAt_set hkl hnl hkn
          have hsl := congrArg List.length hst
          rw [List.length_set] at hsl
          refine Vc.text (List.range 10) (sd [(0, .pure), (1, .pure), (2, .pure), (3, .pure), (4, .pure), (5, .pure), (6, .pure), (7, .read), (8, .pure), (9, .eff)]) rfl ?_
          refine Rg.pure rfl rfl rfl (Pv.move rfl) ?_
          refine Rg.pure rfl rfl rfl (Pv.move rfl) ?_
          refine Rg.pure rfl rfl rfl (Pv.move rfl) ?_
          refine Rg.pure rfl rfl rfl (Pv.asI (k + n) (Pv.add rfl rfl (by omega)) (by omega)) ?_
          refine Rg.pure rfl rfl rfl (Pv.move rfl) ?_
          refine Rg.pure rfl rfl rfl (Pv.move rfl) ?_
          refine Rg.pure rfl rfl rfl (Pv.ixA (n) rfl rfl (by omega) (by omega)) ?_
          refine Rg.read rfl rfl rfl (Ev.as (.int .u8 ((pc[n]!).toNat : Int)) (Ev.ldS (E := byteE) n hpc2.src rfl rfl rfl (by omega)) rfl) ?_
          refine Rg.pure rfl rfl rfl (Pv.ixA (k + n) rfl rfl (by omega) (by omega)) ?_
          refine Rg.storeR (E := byteE) (z := pc[n]!) (k + n) rfl rfl rfl rfl rfl rfl (Nat.zero_add _) (by omega) rfl ?_
          rw [hst]
          refine Rg.nil ?_
          refine Vc.blk ?_
          refine Vc.text (List.range 3) (sd [(0, .pure), (1, .pure), (2, .pure)]) rfl ?_
          refine Rg.pure rfl rfl rfl (Pv.move rfl) ?_
          refine Rg.pure rfl rfl rfl (Pv.asI (n + 1) (Pv.add rfl rfl (by omega)) (by omega)) ?_
          refine Rg.pure rfl rfl rfl (Pv.assign rfl) ?_
          refine Rg.nil ?_
          exact Vc.inv3 (n + 1) _ _ ⟨⟨by omega, Own.blk' (E := byteE) bo cw _ (putAt cur k (pc.take (n + 1))) spo hsl hsc hcm⟩, by omega⟩ (.cons rfl (.cons rfl (.cons rfl (.cons rfl (.cons rfl (.cons rfl (.cons rfl (.cons rfl (.cons rfl .nil))))))))) pulled
        ·
          simp only [decide_eq_false_iff_not] at h93
          have hap := putAt_app hkl hnl (by omega)
          refine Vc.text (List.range 8) (sd [(0, .pure), (1, .pure), (2, .pure), (3, .pure), (4, .read), (5, .eff), (6, .eff), (7, .pure)]) rfl ?_
          refine Rg.pure rfl rfl rfl (Pv.move rfl) ?_
          refine Rg.pure rfl rfl rfl (Pv.move rfl) ?_
          refine Rg.pure rfl rfl rfl (Pv.move rfl) ?_
          refine Rg.pure rfl rfl rfl (Pv.ixA (n) rfl rfl (by omega) (by omega)) ?_
          refine Rg.read rfl rfl rfl (Ev.as (.int .u8 ((pc[n]!).toNat : Int)) (Ev.ldS (E := byteE) n hpc2.src rfl rfl rfl (by omega)) rfl) ?_
          refine Rg.bslice1 rfl rfl rfl rfl rfl rfl rfl (fun b108 => ?_)
          refine Rg.append rfl rfl rfl rfl rfl own2 (Src.one (y := pc[n]!) rfl) (by simp <;> omega) (by simp [maxLen] <;> omega) rfl (fun v109 s109 own109 => ?_)
          rw [hap] at own109
          refine Rg.pure rfl rfl rfl (Pv.assign rfl) ?_
          refine Rg.nil ?_
          refine Vc.blk ?_
          refine Vc.text (List.range 3) (sd [(0, .pure), (1, .pure), (2, .pure)]) rfl ?_
          refine Rg.pure rfl rfl rfl (Pv.move rfl) ?_
          refine Rg.pure rfl rfl rfl (Pv.asI (n + 1) (Pv.add rfl rfl (by omega)) (by omega)) ?_
          refine Rg.pure rfl rfl rfl (Pv.assign rfl) ?_
          refine Rg.nil ?_
          exact Vc.inv3 (n + 1) v109 s109 ⟨⟨by omega, own109⟩, by omega⟩ (.cons rfl (.cons rfl (.cons rfl (.cons rfl (.cons rfl (.cons rfl (.cons rfl (.cons rfl (.cons rfl .nil))))))))) pulled
      ·
        simp only [decide_eq_false_iff_not] at h85
        obtain rfl : n = pc.length := by omega
        rw [List.take_length] at own2 hpl ⊢
        refine Vc.exit rfl ?_
        refine Vc.blk ?_
        refine Vc.text (List.range 3) (sd [(0, .pure), (1, .pure), (2, .pure)]) rfl ?_
        refine Rg.pure rfl rfl rfl (Pv.move rfl) ?_
        refine Rg.pure rfl rfl rfl (Pv.asI (i + 1) (Pv.add rfl rfl (by omega)) (by omega)) ?_
        refine Rg.pure rfl rfl rfl (Pv.assign rfl) ?_
        refine Rg.nil ?_
        exact Vc.inv5 (i + 1) (putAt cur k pc) s80 _ sg2 ⟨⟨by omega, by omega, by omega, by omega, own2, hD80, hw80.mono (by omega) (by omega)⟩, by omega⟩ (.cons rfl (.cons rfl (.cons rfl (.cons rfl (.cons rfl (.cons rfl .nil)))))) pulled
    ·
      refine Vc.exit rfl ?_
      refine Vc.seq ?_
      refine Vc.text (List.range 7) (sd [(0, .pure), (1, .eff), (2, .pure), (3, .pure), (4, .pure), (5, .pure), (6, .pure)]) rfl ?_
      refine Rg.pure rfl rfl rfl (Pv.move rfl) ?_
      refine Rg.callH rfl rfl rfl (run_callF rfl) (fun F' hF' => size_w (F := F') (m := ((cur.length : Nat) : Int)) hD hw (by omega) (by omega) [102] size1 (congrArg Prod.snd begins1)) rfl ?_
      rintro _ s112 ⟨rfl, hD112, hw112⟩
      refine Rg.pure rfl rfl rfl (Pv.move rfl) ?_
      refine Rg.pure rfl rfl rfl (Pv.extract rfl rfl) ?_
      refine Rg.pure rfl rfl rfl (Pv.extract rfl rfl) ?_
      refine Rg.pure rfl rfl rfl (Pv.assign rfl) ?_
      refine Rg.pure rfl rfl rfl (Pv.assign rfl) ?_
      refine Rg.nil ?_
      refine Vc.seq ?_
      refine Vc.text (List.range 9) (sd [(0, .pure), (1, .pure), (2, .pure), (3, .eff), (4, .pure), (5, .pure), (6, .pure), (7, .pure), (8, .pure)]) rfl ?_
      refine Rg.pure rfl rfl rfl (Pv.move rfl) ?_
      refine Rg.pure rfl rfl rfl (Pv.move rfl) ?_
      refine Rg.pure rfl rfl rfl (Pv.lenS rfl) ?_
      refine Rg.callH rfl rfl rfl (run_callF rfl) (fun F' hF' => readAt_w (F := F') hD112 hw112 (by omega) (by omega) [102] 0 (cur.length : Nat) read1all (congrArg Prod.snd begins1)) rfl ?_
      rintro _ _ ⟨u119, q119, s119, rfl, own119, hD119, hw119, rfl⟩
      rw [List.append_assoc]
      refine Rg.pure rfl rfl rfl (Pv.move rfl) ?_
      refine Rg.pure rfl rfl rfl (Pv.extract rfl rfl) ?_
      refine Rg.pure rfl rfl rfl (Pv.extract rfl rfl) ?_
      refine Rg.pure rfl rfl rfl (Pv.assign rfl) ?_
      refine Rg.pure rfl rfl rfl (Pv.assign rfl) ?_
      refine Rg.nil ?_
      refine Vc.seq ?_
      refine Vc.text (List.range 31) (sd [(0, .pure), (1, .pure), (2, .pure), (3, .pure), (4, .pure), (5, .pure), (6, .pure), (7, .pure), (8, .pure), (9, .pure), (10, .pure), (11, .pure), (12, .pure), (13, .pure), (14, .pure), (15, .pure), (16, .pure), (17, .read), (18, .pure), (19, .read), (20, .pure), (21, .pure), (22, .pure), (23, .pure), (24, .eff), (25, .pure), (26, .pure), (27, .pure), (28, .pure), (29, .pure), (30, .pure)]) rfl ?_
      refine Rg.pure rfl rfl rfl (Pv.move rfl) ?_
      refine Rg.pure rfl rfl rfl (Pv.move rfl) ?_
      refine Rg.split (t := 123) rfl (fun h123 => ?_) (fun h123 => absurd h123 (by decide))
      refine Rg.pure rfl rfl rfl (Pv.move rfl) ?_
      refine Rg.pure rfl rfl rfl (Pv.eql rfl rfl) ?_
      refine Rg.pure rfl rfl rfl (Pv.pickT rfl rfl) ?_
      refine Rg.pure rfl rfl rfl (Pv.move rfl) ?_
      refine Rg.split (t := 127) rfl (fun h127 => ?_) (fun h127 => absurd h127 (by decide))
      refine Rg.pure rfl rfl rfl (Pv.move rfl) ?_
      refine Rg.pure rfl rfl rfl (Pv.move rfl) ?_
      refine Rg.pure rfl rfl rfl (Pv.lenS rfl) ?_
      refine Rg.pure rfl rfl rfl (Pv.eql rfl rfl) ?_
      refine Rg.pure rfl rfl rfl (Pv.pickT rfl rfl) ?_
      refine Rg.pure rfl rfl rfl (Pv.move rfl) ?_
      refine Rg.split (t := 133) rfl (fun h133 => ?_) (fun h133 => absurd h133 (by simp))
      refine Rg.pure rfl rfl rfl (Pv.move rfl) ?_
      refine Rg.pure rfl rfl rfl (Pv.eql rfl rfl) ?_
      refine Rg.pure rfl rfl rfl (Pv.pickT rfl rfl) ?_
      refine Rg.pure rfl rfl rfl (Pv.move rfl) ?_
      refine Rg.split (t := 137) rfl (fun h137 => ?_) (fun h137 => absurd h137 (by decide))
      refine Rg.pure rfl rfl rfl (Pv.move rfl) ?_
      refine Rg.read rfl rfl rfl (Ev.str ((Arg.own (F := frz F q119) own119 fun b o hb => Or.inl hb).srcF) rfl) ?_
      refine Rg.pure rfl rfl rfl (Pv.move rfl) ?_
      refine Rg.read rfl rfl rfl (Ev.str ((Arg.own (F := frz F sg) own fun b o hb => Or.inl hb).srcF) rfl) ?_
      refine Rg.pure rfl rfl rfl (Pv.eqlS rfl rfl) ?_
      refine Rg.pure rfl rfl rfl (Pv.pickT rfl rfl) ?_
      refine Rg.pure rfl rfl rfl (Pv.move rfl) ?_
      refine Rg.split (t := 144) rfl (fun h144 => ?_) (fun h144 => absurd h144 (by simp))
      refine Rg.pure rfl rfl rfl (Pv.move rfl) ?_
      refine Rg.callP rfl rfl rfl (run_callF rfl) (usedD_spec hD119 frz_sb) ?_
      rintro _ rfl
      refine Rg.pure rfl rfl rfl (Pv.move rfl) ?_
      refine Rg.pure rfl rfl rfl (Pv.asI (cur.length + 15) (Pv.add rfl rfl (by omega)) (by omega)) ?_
      refine Rg.pure rfl rfl rfl (Pv.quo rfl rfl (by omega)) ?_
      refine Rg.pure rfl rfl rfl (Pv.eql rfl rfl) ?_
      refine Rg.pure rfl rfl rfl (Pv.pickT rfl rfl) ?_
      refine Rg.pure rfl rfl rfl (Pv.assign rfl) ?_
      refine Rg.nil ?_
      refine Vc.ret (Vc.rets rfl (.cons (.tmp rfl) (.nil)) ?_)
      exact congrArg Value.bool (by simp [secs])
end Go.Proofs.Ytmocncadncgaaaa

namespace Go.Proofs.Ytmocncadncgaaaa
set_option linter.unusedVariables false

abbrev nms : List (List UInt8) := [[97], [98]]
/-- two files that were never synced, by their bytes -/
def dR (L : List (List UInt8)) (room ops : Int) : Dk := d2 [97] [98] ⟨L[0]!, []⟩ ⟨L[1]!, []⟩ room ops
def sz (L : List (List UInt8)) : List Int := L.map fun l => ((l.length : Nat) : Int)
theorem len2 {L : List (List UInt8)} (h : L.length = 2) : ∃ a b, L = [a, b] := by
  match L, h with
  | [a, b], _ => exact ⟨a, b, rfl⟩
theorem sz_get {L : List (List UInt8)} {k : Nat} (hk : k < L.length) : (sz L)[k]! = ((L[k]!.length : Nat) : Int) := by
  rw [getElem!_pos (sz L) k (by simp [sz]; omega), getElem!_pos L k hk]
  simp [sz]
theorem beginsR {L : List (List UInt8)} {room ops : Int} : beginsD (dR L room ops) = (0, dR L room (ops + 1)) := begins2
theorem sizeR {L : List (List UInt8)} {room ops : Int} (hL : L.length = 2) {k : Nat} (hk : k < 2) : sizeD (dR L room ops) (nms[k]!) = (((L[k]!.length : Nat) : Int), 0) := by
  obtain ⟨a, b, rfl⟩ := len2 hL
  have : k = 0 ∨ k = 1 := by omega
  rcases this with rfl | rfl <;> simp only [sizeD, beginsR] <;> rfl
def need (L : List (List UInt8)) (k m : Nat) : Nat := secs (L[k]!.length + m) + secs L[1 - k]!.length
theorem appR {L : List (List UInt8)} {room ops : Int} (hL : L.length = 2) {k : Nat} (hk : k < 2) (bs : List UInt8) :
    writeD (dR L room ops) (nms[k]!) none bs = (if room < (need L k bs.length : Nat) then 6 else 0, dR (if room < (need L k bs.length : Nat) then L else L.set k (L[k]! ++ bs)) room (ops + 1)) := by
  obtain ⟨a, b, rfl⟩ := len2 hL
  have : k = 0 ∨ k = 1 := by omega
  rcases this with rfl | rfl
  · by_cases h : room < ((need [a, b] 0 bs.length : Nat) : Int)
    · rw [if_pos h, if_pos h]
      have h' : room < ((secs (a.length + bs.length) + secs b.length : Nat) : Int) := h
      have hf : findF [([97], (⟨a, []⟩ : Fl)), ([98], ⟨b, []⟩)] [97] = some ⟨a, []⟩ := rfl
      have hs : setF [([97], (⟨a, []⟩ : Fl)), ([98], ⟨b, []⟩)] [97] ⟨a, []⟩ = [([97], ⟨a, []⟩), ([98], ⟨b, []⟩)] := rfl
      show writeD (d2 [97] [98] ⟨a, []⟩ ⟨b, []⟩ room ops) [97] none bs = (6, d2 [97] [98] ⟨a, []⟩ ⟨b, []⟩ room (ops + 1))
      simp only [writeD, begins2, hf, Option.getD_none]
      have hm : max a.length (a.length + bs.length) = a.length + bs.length := by omega
      have hw : wrG room (((secs a.length : Nat) : Int) + (secs b.length : Nat)) a ((a.length : Nat) : Int) bs = (6, ((secs a.length : Nat) : Int) + (secs b.length : Nat), a) := by
        unfold wrG
        rw [if_neg (by omega), Int.toNat_natCast, hm, if_pos (by omega)]
      rw [hw]
      simp only [hs]
      rfl
    · rw [if_neg h, if_neg h]
      have h' : ¬ room < ((secs (a.length + bs.length) + secs b.length : Nat) : Int) := h
      exact app2a (n1 := a) (y1 := []) (f2 := ⟨b, []⟩) (by decide) bs (by show ((secs (a.length + bs.length) : Nat) : Int) + (secs b.length : Nat) ≤ room; omega)
  · by_cases h : room < ((need [a, b] 1 bs.length : Nat) : Int)
    · rw [if_pos h, if_pos h]
      have h' : room < ((secs (b.length + bs.length) + secs a.length : Nat) : Int) := h
      have hf : findF [([97], (⟨a, []⟩ : Fl)), ([98], ⟨b, []⟩)] [98] = some ⟨b, []⟩ := rfl
      have hs : setF [([97], (⟨a, []⟩ : Fl)), ([98], ⟨b, []⟩)] [98] ⟨b, []⟩ = [([97], ⟨a, []⟩), ([98], ⟨b, []⟩)] := rfl
      show writeD (d2 [97] [98] ⟨a, []⟩ ⟨b, []⟩ room ops) [98] none bs = (6, d2 [97] [98] ⟨a, []⟩ ⟨b, []⟩ room (ops + 1))
      simp only [writeD, begins2, hf, Option.getD_none]
      have hm : max b.length (b.length + bs.length) = b.length + bs.length := by omega
      have hw : wrG room (((secs a.length : Nat) : Int) + (secs b.length : Nat)) b ((b.length : Nat) : Int) bs = (6, ((secs a.length : Nat) : Int) + (secs b.length : Nat), b) := by
        unfold wrG
        rw [if_neg (by omega), Int.toNat_natCast, hm, if_pos (by omega)]
      rw [hw]
      simp only [hs]
      rfl
    · rw [if_neg h, if_neg h]
      have h' : ¬ room < ((secs (b.length + bs.length) + secs a.length : Nat) : Int) := h
      exact app2b (f1 := ⟨a, []⟩) (n2 := b) (y2 := []) (by decide) bs (by show ((secs a.length : Nat) : Int) + (secs (b.length + bs.length) : Nat) ≤ room; omega)
theorem mkR (room : Int) : createD (d1 [97] ⟨[], []⟩ room 1 false) [98] = (0, dR [[], []] room 2) := by
  simp only [createD, begins1]
  rfl
theorem set_len {L : List (List UInt8)} {k : Nat} {x : List UInt8} : (L.set k x).length = L.length := List.length_set
theorem sz_set {L : List (List UInt8)} {k : Nat} {x : List UInt8} : sz (L.set k x) = (sz L).set k ((x.length : Nat) : Int) := by simp [sz, List.map_set]
theorem get_set {L : List (List UInt8)} {k j : Nat} {x : List UInt8} (hk : k < L.length) (hj : j < L.length) : (L.set k x)[j]! = if k = j then x else L[j]! := by
  rw [getElem!_pos (L.set k x) j (by simpa using hj), getElem!_pos L j hj, List.getElem_set]

set_option maxHeartbeats 1000000 in
theorem DiskRoom_spec (F : Fm) (r0 : Int) (v1 : Value) (ls : List Sv) (xss : List (List UInt8)) (hr : ArgRB F v1 ls xss) :
    Spec Try.prog 3 #[.int .i64 r0, v1] F [] fun v _ => v = .bool true := by
  obtain ⟨p1, c1, rfl⟩ := hr.top.shape
  have hrt := hr.top
  obtain ⟨room, hroom⟩ : ∃ r, r = andN r0 65535 % 41 := ⟨_, rfl⟩
  have hroom40 : room ≤ 40 := by omega
  refine Spec.of (n := 152) (vs := [.int .i64 r0, .slice p1 ls.length c1]) Try.func3 rfl Try.ntmps3 rfl ?_
  refine Vc.seq ?_
  refine Vc.text (List.range 1) (sd [(0, .pure)]) rfl ?_
  refine Rg.pure rfl rfl rfl (Pv.assign rfl) ?_
  refine Rg.nil ?_
  refine Vc.seq ?_
  refine Vc.text (List.range 2) (sd [(0, .eff), (1, .pure)]) rfl ?_
  refine Rg.callP rfl rfl rfl (run_callF rfl) (shown_spec _) ?_
  rintro _ rfl
  refine Rg.pure rfl rfl rfl (Pv.assign rfl) ?_
  refine Rg.nil ?_
  refine Vc.seq ?_
  refine Vc.text (List.range 4) (sd [(0, .pure), (1, .pure), (2, .pure), (3, .pure)]) rfl ?_
  refine Rg.pure rfl rfl rfl (Pv.move rfl) ?_
  refine Rg.pure rfl rfl rfl (Pv.and rfl rfl (by omega)) ?_
  refine Rg.pure rfl rfl rfl (Pv.asI (room) (Pv.rem rfl rfl (by omega)) (by omega)) ?_
  refine Rg.pure rfl rfl rfl (Pv.assign rfl) ?_
  refine Rg.nil ?_
  refine Vc.seq ?_
  refine Vc.text (List.range 3) (sd [(0, .pure), (1, .eff), (2, .pure)]) rfl ?_
  refine Rg.pure rfl rfl rfl (Pv.move rfl) ?_
  refine Rg.callA rfl rfl rfl (run_callF rfl) (new_w _ (room : Int) (room : Int) (by omega)) ?_
  rintro _ s21 ⟨db, rfl, hD21, hw21⟩
  refine Rg.pure rfl rfl rfl (Pv.assign rfl) ?_
  refine Rg.nil ?_
  refine Vc.seq ?_
  refine Vc.seq ?_
  refine Vc.text (List.range 12) (sd [(0, .pure), (1, .pure), (2, .pure), (3, .pure), (4, .eff), (5, .pure), (6, .pure), (7, .pure), (8, .pure), (9, .eff), (10, .pure), (11, .pure)]) rfl ?_
  refine Rg.pure rfl rfl rfl (Pv.move rfl) ?_
  refine Rg.pure rfl rfl rfl (Pv.eqlNil rfl rfl) ?_
  refine Rg.pure rfl rfl rfl (Pv.move rfl) ?_
  refine Rg.split (t := 24) rfl (fun h24 => absurd h24 (by (cases h24))) (fun h24 => ?_)
  refine Rg.pure rfl rfl rfl (Pv.move rfl) ?_
  refine Rg.callH rfl rfl rfl (run_callF rfl) (fun F' hF' => create_w (F := F') hD21 hw21 (by omega) (by omega) [97] (create1 (by decide))) rfl ?_
  rintro _ s26 ⟨rfl, hD26, hw26⟩
  refine Rg.pure rfl rfl rfl (Pv.neq rfl rfl) ?_
  refine Rg.pure rfl rfl rfl (Pv.pickF rfl rfl) ?_
  refine Rg.pure rfl rfl rfl (Pv.move rfl) ?_
  refine Rg.split (t := 29) rfl (fun h29 => absurd h29 (by decide)) (fun h29 => ?_)
  refine Rg.pure rfl rfl rfl (Pv.move rfl) ?_
  refine Rg.callH rfl rfl rfl (run_callF rfl) (fun F' hF' => create_w (F := F') hD26 hw26 (by omega) (by omega) [98] (mkR (room : Int))) rfl ?_
  rintro _ s31 ⟨rfl, hD31, hw31⟩
  refine Rg.pure rfl rfl rfl (Pv.neq rfl rfl) ?_
  refine Rg.pure rfl rfl rfl (Pv.pickF rfl rfl) ?_
  refine Rg.nil ?_
  refine Vc.cond rfl (fun h33 => absurd h33 (by decide)) (fun h33 => ?_)
  refine Vc.skip ?_
  refine Vc.seq ?_
  refine Vc.text (List.range 2) (sd [(0, .eff), (1, .pure)]) rfl ?_
  refine Rg.makeN intE 0 (m := 2) rfl rfl rfl rfl rfl (by decide) (fun b34 own34 => ?_)
  refine Rg.pure rfl rfl rfl (Pv.assign rfl) ?_
  refine Rg.nil ?_
  refine Vc.seq ?_
  refine Vc.seq ?_
  refine Vc.text (List.range 1) (sd [(0, .pure)]) rfl ?_
  refine Rg.pure rfl rfl rfl (Pv.assign rfl) ?_
  refine Rg.nil ?_
  refine Vc.block ?_
  refine Vc.loop5 (fun (i : Nat) (L : List (List UInt8)) (s : Hl) (v : Value) (sg : Hl) => i ≤ 30 ∧ i ≤ ls.length ∧ L.length = 2 ∧ L[0]!.length ≤ 60 * i ∧ L[1]!.length ≤ 60 * i ∧ secs L[0]!.length + secs L[1]!.length ≤ room ∧ Own intE v (sz L) sg ∧ DiskAt db (dR L room ((2 + 2 * i : Nat) : Int)) s ∧ Dw (2 + 2 * i) (60 * i) (dR L room ((2 + 2 * i : Nat) : Int))) (fun i L s v sg => [(0, .int .i64 (room : Int)), (1, .slice p1 ls.length c1), (5, .bool true), (6, .pointer (some ⟨db, 0, none⟩)), (7, v), (8, .int .i64 (i : Int))]) (fun i L s v sg => s ++ sg) (fun i L s v sg => 30 - i) 0 [[], []] s31 _ _ ⟨by omega, by omega, rfl, Nat.le_refl _, Nat.le_refl _, Nat.zero_le _, own34, hD31, hw31⟩ (.cons rfl (.cons rfl (.cons rfl (.cons rfl (.cons rfl (.cons rfl .nil)))))) pulled ?_
  rintro i L s v sg ⟨hi, hil, hL2, hl0, hl1, hsr, own, hD, hw⟩
  have hszl : (sz L).length = 2 := by simp [sz, hL2]
  obtain ⟨bS, cS, spS, rfl, rfl, hsc, hcm⟩ := own.block (by omega)
  rw [hszl]
  refine Vc.seq ?_
  refine Vc.seq ?_
  refine Vc.cut1 (fun (bb : Bool) => (bb = true → i < ls.length ∧ i < 30)) (fun bb => [(42, .bool bb), (0, .int .i64 (room : Int)), (1, .slice p1 ls.length c1), (5, .bool true), (6, .pointer (some ⟨db, 0, none⟩)), (7, .slice (some ⟨bS, 0, none⟩) 2 cS), (8, .int .i64 (i : Int))]) (fun bb => s ++ [(bS, rowS intE (sz L) spS)]) ?_ ?_
  ·
    refine Vc.text (List.range 8) (sd [(0, .pure), (1, .pure), (2, .pure), (3, .pure), (4, .pure), (5, .pure), (6, .pure), (7, .pure)]) rfl ?_
    refine Rg.pure rfl rfl rfl (Pv.move rfl) ?_
    refine Rg.pure rfl rfl rfl (Pv.move rfl) ?_
    refine Rg.pure rfl rfl rfl (Pv.lenS rfl) ?_
    refine Rg.pure rfl rfl rfl (Pv.lss rfl rfl) ?_
    refine Rg.pure rfl rfl rfl (Pv.move rfl) ?_
    refine Rg.split (t := 39) rfl (fun h39 => ?_) (fun h39 => ?_)
    ·
      simp only [decide_eq_true_eq] at h39
      refine Rg.pure rfl rfl rfl (Pv.move rfl) ?_
      refine Rg.pure rfl rfl rfl (Pv.lss rfl rfl) ?_
      refine Rg.pure rfl rfl rfl (Pv.pickT rfl rfl) ?_
      refine Rg.nil ?_
      exact Vc.inv1 _ (fun hb => ⟨by omega, by have := of_decide_eq_true hb; omega⟩) (.cons rfl (.cons rfl (.cons rfl (.cons rfl (.cons rfl (.cons rfl (.cons rfl .nil))))))) pulled
    ·
      simp only [decide_eq_false_iff_not] at h39
      iterate 2 (first | refine Rg.skipP rfl rfl rfl ?_ | refine Rg.skipR rfl rfl rfl ?_ | refine Rg.skipE rfl rfl rfl ?_)
      refine Rg.pure rfl rfl rfl (Pv.pickF rfl rfl) ?_
      refine Rg.nil ?_
      exact Vc.inv1 _ (fun hb => by cases hb) (.cons rfl (.cons rfl (.cons rfl (.cons rfl (.cons rfl (.cons rfl (.cons rfl .nil))))))) pulled
  ·
    rintro bb hbb
    refine Vc.cond rfl (fun h42 => ?_) (fun h42 => ?_)
    ·
      obtain ⟨hix, hi30⟩ := hbb h42
      obtain ⟨pk, ck, ys, pc, hsk, hpcl, _, hpcc, hpca⟩ := hr.piece hix
      obtain ⟨bl, off, c', e, _⟩ := hrt.block (by omega)
      cases e
      obtain ⟨k, hk⟩ : ∃ k, k = i % 2 := ⟨_, rfl⟩
      have hk2 : k < 2 := by omega
      have hLk : L[k]!.length ≤ 60 * i ∧ L[1 - k]!.length ≤ 60 * i := by
        have : k = 0 ∨ k = 1 := by omega
        rcases this with rfl | rfl
        · exact ⟨hl0, hl1⟩
        · exact ⟨hl1, hl0⟩
      have hgk := sz_get (L := L) (k := k) (by omega)
      have hgk1 := sz_get (L := L) (k := 1 - k) (by omega)
      have hneed : need L k pc.length = (L[k]!.length + pc.length + 15) / 16 + (L[1 - k]!.length + 15) / 16 := rfl
      refine Vc.skip ?_
      refine Vc.seq ?_
      refine Vc.block ?_
      refine Vc.seq ?_
      refine Vc.drawS [] (sd [(0, .pure), (1, .pure), (2, .pure), (3, .read), (4, .pure), (5, .pure), (6, .pure), (7, .read), (8, .pure), (9, .pure), (10, .pure), (11, .pure)]) [] pulled mixed (by kernel_rfl) ?_
      refine Rg.pure rfl rfl rfl (Pv.move rfl) ?_
      refine Rg.pure rfl rfl rfl (Pv.move rfl) ?_
      refine Rg.pure rfl rfl rfl (Pv.ixA (i) rfl rfl (by omega) (by omega)) ?_
      refine Rg.read rfl rfl rfl (Ev.as (.slice pk ys ck) (Ev.ldS (E := slE) i hrt.src rfl rfl rfl (by omega)) (congrArg slE.val hsk)) ?_
      refine Rg.pure rfl rfl rfl (Pv.move rfl) ?_
      refine Rg.pure rfl rfl rfl (Pv.move rfl) ?_
      refine Rg.pure rfl rfl rfl (Pv.ixA (i) rfl rfl (by omega) (by omega)) ?_
      refine Rg.read rfl rfl rfl (Ev.as (.slice pk ys ck) (Ev.ldS (E := slE) i hrt.src rfl rfl rfl (by omega)) (congrArg slE.val hsk)) ?_
      refine Rg.pure rfl rfl rfl (Pv.lenS rfl) ?_
      refine Rg.pure rfl rfl rfl (Pv.asI (pc.length) (Pv.min rfl rfl) (by omega)) ?_
      refine Rg.pure rfl rfl rfl (Pv.slTo (pc.length) rfl rfl (by omega)) ?_
      refine Rg.pure rfl rfl rfl (Pv.assign rfl) ?_
      refine Rg.nil ?_
      refine Vc.seq ?_
      refine Vc.text (List.range 2) (sd [(0, .eff), (1, .pure)]) rfl ?_
      refine Rg.bsliceR (E := strE) (e := 9) (cs := [kS [97], kS [98]]) nms rfl rfl rfl rfl rfl rfl rfl (by rfl) rfl (by decide) (fun b56 own56 => ?_)
      refine Rg.pure rfl rfl rfl (Pv.assign rfl) ?_
      refine Rg.nil ?_
      refine Vc.seq ?_
      refine Vc.text (List.range 3) (sd [(0, .pure), (1, .pure), (2, .pure)]) rfl ?_
      refine Rg.pure rfl rfl rfl (Pv.move rfl) ?_
      refine Rg.pure rfl rfl rfl (Pv.asI (k) (Pv.rem rfl rfl (by omega)) (by omega)) ?_
      refine Rg.pure rfl rfl rfl (Pv.assign rfl) ?_
      refine Rg.nil ?_
      refine Vc.seq ?_
      refine Vc.text (List.range 8) (sd [(0, .pure), (1, .pure), (2, .pure), (3, .pure), (4, .read), (5, .pure), (6, .eff), (7, .pure)]) rfl ?_
      refine Rg.pure rfl rfl rfl (Pv.move rfl) ?_
      refine Rg.pure rfl rfl rfl (Pv.move rfl) ?_
      refine Rg.pure rfl rfl rfl (Pv.move rfl) ?_
      refine Rg.pure rfl rfl rfl (Pv.ixA (k) rfl rfl (by omega) (by omega)) ?_
      refine Rg.read rfl rfl rfl (Ev.as (kS (nms[k]!)) (Ev.ldR (E := strE) k rfl (Nat.zero_add _) (by simp; omega)) rfl) ?_
      refine Rg.pure rfl rfl rfl (Pv.move rfl) ?_
      refine Rg.callH rfl rfl rfl (run_callF rfl) (fun F' hF' => append_w (F := F') hD hw (by omega) (by omega) (nms[k]!) (hpca.mono fun b o h => hF' b o (.inr h)) (by omega) (appR hL2 hk2 pc)) rfl ?_
      rintro _ s65 ⟨rfl, hD65, hw65⟩
      refine Rg.pure rfl rfl rfl (Pv.assign rfl) ?_
      refine Rg.nil ?_
      refine Vc.seq ?_
      refine Vc.draw [] (sd [(0, .pure), (1, .pure), (2, .pure), (3, .read), (4, .pure), (5, .pure), (6, .pure), (7, .pure), (8, .pure), (9, .pure), (10, .pure), (11, .pure), (12, .pure), (13, .read), (14, .pure), (15, .pure), (16, .pure), (17, .pure)]) mixed (by kernel_rfl) ?_
      refine Rg.pure rfl rfl rfl (Pv.move rfl) ?_
      refine Rg.pure rfl rfl rfl (Pv.move rfl) ?_
      refine Rg.pure rfl rfl rfl (Pv.ixA (k) rfl rfl (by omega) (by omega)) ?_
      refine Rg.read rfl rfl rfl (Ev.as (.int .i64 (L[k]!.length : Int)) (Ev.ldR (E := intE) k rfl (Nat.zero_add _) (by omega)) (congrArg intE.val hgk)) ?_
      refine Rg.pure rfl rfl rfl (Pv.move rfl) ?_
      refine Rg.pure rfl rfl rfl (Pv.lenS rfl) ?_
      refine Rg.pure rfl rfl rfl (Pv.asI (L[k]!.length + pc.length) (Pv.add rfl rfl (by omega)) (by omega)) ?_
      refine Rg.pure rfl rfl rfl (Pv.asI (L[k]!.length + pc.length + 15) (Pv.add rfl rfl (by omega)) (by omega)) ?_
      refine Rg.pure rfl rfl rfl (Pv.asI ((L[k]!.length + pc.length + 15) / 16) (Pv.quo rfl rfl (by omega)) (by omega)) ?_
      refine Rg.pure rfl rfl rfl (Pv.move rfl) ?_
      refine Rg.pure rfl rfl rfl (Pv.move rfl) ?_
      refine Rg.pure rfl rfl rfl (Pv.asI (1 - k) (Pv.sub rfl rfl (by omega)) (by omega)) ?_
      refine Rg.pure rfl rfl rfl (Pv.ixA (1 - k) rfl rfl (by omega) (by omega)) ?_
      refine Rg.read rfl rfl rfl (Ev.as (.int .i64 (L[1 - k]!.length : Int)) (Ev.ldR (E := intE) (1 - k) rfl (Nat.zero_add _) (by omega)) (congrArg intE.val hgk1)) ?_
      refine Rg.pure rfl rfl rfl (Pv.asI (L[1 - k]!.length + 15) (Pv.add rfl rfl (by omega)) (by omega)) ?_
      refine Rg.pure rfl rfl rfl (Pv.asI ((L[1 - k]!.length + 15) / 16) (Pv.quo rfl rfl (by omega)) (by omega)) ?_
      refine Rg.pure rfl rfl rfl (Pv.asI (need L k pc.length) (Pv.add rfl rfl (by omega)) (by rw [hneed]; omega)) ?_
      refine Rg.pure rfl rfl rfl (Pv.assign rfl) ?_
      refine Rg.nil ?_
      refine Vc.seq ?_
      refine Vc.seq ?_
      refine Vc.cut1 (fun (bb : Bool) => bb = false) (fun bb => [(96, .bool bb), (0, .int .i64 (room : Int)), (1, .slice (some ⟨bl, off, none⟩) ls.length c1), (5, .bool true), (6, .pointer (some ⟨db, 0, none⟩)), (7, .slice (some ⟨bS, 0, none⟩) 2 cS), (8, .int .i64 (i : Int)), (9, .slice pk pc.length ck), (10, .slice (some ⟨b56, 0, none⟩) 2 2), (11, .int .i64 (k : Int)), (12, .int .i64 (if (room : Int) < (need L k pc.length : Nat) then 6 else 0))]) (fun bb => s65 ++ ((b56, rowS strE nms []) :: [(bS, rowS intE (sz L) spS)])) ?_ ?_
      ·
        refine Vc.text (List.range 14) (sd [(0, .pure), (1, .pure), (2, .pure), (3, .pure), (4, .pure), (5, .pure), (6, .pure), (7, .pure), (8, .pure), (9, .pure), (10, .pure), (11, .pure), (12, .pure), (13, .pure)]) rfl ?_
        refine Rg.pure rfl rfl rfl (Pv.move rfl) ?_
        refine Rg.pure rfl rfl rfl (Pv.eql rfl rfl) ?_
        refine Rg.pure rfl rfl rfl (Pv.move rfl) ?_
        refine Rg.pure rfl rfl rfl (Pv.move rfl) ?_
        refine Rg.pure rfl rfl rfl (Pv.leq rfl rfl) ?_
        refine Rg.pure rfl rfl rfl (Pv.neqB rfl rfl) ?_
        refine Rg.pure rfl rfl rfl (Pv.move rfl) ?_
        refine Rg.split (t := 89) rfl (fun h89 => absurd h89 (by by_cases h : (room : Int) < (need L k pc.length : Nat) <;> simp [h] <;> omega)) (fun h89 => ?_)
        refine Rg.pure rfl rfl rfl (Pv.move rfl) ?_
        refine Rg.pure rfl rfl rfl (Pv.neq rfl rfl) ?_
        refine Rg.pure rfl rfl rfl (Pv.move rfl) ?_
        refine Rg.split (t := 92) rfl (fun h92 => ?_) (fun h92 => ?_)
        ·
          simp only [bne_iff_ne, ne_eq] at h92
          have hfull : (room : Int) < (need L k pc.length : Nat) := by by_cases h : (room : Int) < (need L k pc.length : Nat); exact h; rw [if_neg h] at h92; exact absurd rfl h92
          refine Rg.pure rfl rfl rfl (Pv.move rfl) ?_
          refine Rg.pure rfl rfl rfl (Pv.neq rfl rfl) ?_
          refine Rg.pure rfl rfl rfl (Pv.pickT rfl rfl) ?_
          refine Rg.pure rfl rfl rfl (Pv.pickF rfl rfl) ?_
          refine Rg.nil ?_
          exact Vc.inv1 _ (by simp [hfull]) (.cons rfl (.cons rfl (.cons rfl (.cons rfl (.cons rfl (.cons rfl (.cons rfl (.cons rfl (.cons rfl (.cons rfl (.cons rfl .nil))))))))))) pulled
        ·
          iterate 2 (first | refine Rg.skipP rfl rfl rfl ?_ | refine Rg.skipR rfl rfl rfl ?_ | refine Rg.skipE rfl rfl rfl ?_)
          refine Rg.pure rfl rfl rfl (Pv.pickF rfl rfl) ?_
          refine Rg.pure rfl rfl rfl (Pv.pickF rfl rfl) ?_
          refine Rg.nil ?_
          exact Vc.inv1 false rfl (.cons rfl (.cons rfl (.cons rfl (.cons rfl (.cons rfl (.cons rfl (.cons rfl (.cons rfl (.cons rfl (.cons rfl (.cons rfl .nil))))))))))) pulled
      ·
        rintro bb rfl
        refine Vc.cond rfl (fun h96 => absurd h96 (by decide)) (fun h96 => ?_)
        refine Vc.skip ?_
        refine Vc.seq ?_
        refine Vc.seq ?_
        refine Vc.text (List.range 2) (sd [(0, .pure), (1, .pure)]) rfl ?_
        refine Rg.pure rfl rfl rfl (Pv.move rfl) ?_
        refine Rg.pure rfl rfl rfl (Pv.eql rfl rfl) ?_
        refine Rg.nil ?_
        refine Vc.cut3 (fun (M : List (List UInt8)) (v : Value) (sg : Hl) => M.length = 2 ∧ M[0]!.length ≤ 60 * (i + 1) ∧ M[1]!.length ≤ 60 * (i + 1) ∧ secs M[0]!.length + secs M[1]!.length ≤ room ∧ Own intE v (sz M) sg ∧ DiskAt db (dR M room ((2 + 2 * i : Nat) + 1)) s65 ∧ Dw (2 + 2 * i + 1) (60 * i + pc.length) (dR M room ((2 + 2 * i : Nat) + 1))) (fun M v sg => [(0, .int .i64 (room : Int)), (1, .slice (some ⟨bl, off, none⟩) ls.length c1), (5, .bool true), (6, .pointer (some ⟨db, 0, none⟩)), (7, v), (8, .int .i64 (i : Int)), (10, .slice (some ⟨b56, 0, none⟩) 2 2), (11, .int .i64 (k : Int))]) (fun M v sg => s65 ++ ((b56, rowS strE nms []) :: sg)) ?_ ?_
        ·
          refine Vc.cond rfl (fun h98 => ?_) (fun h98 => ?_)
          ·
            simp only [beq_iff_eq] at h98
            have hfit : ¬ (room : Int) < (need L k pc.length : Nat) := by intro h; rw [if_pos h] at h98; cases h98
            rw [if_neg hfit] at hD65 hw65
            have hset := sz_set (L := L) (k := k) (x := L[k]! ++ pc)
            have hset2 : sz (L.set k (L[k]! ++ pc)) = (sz L).set k (((L[k]!.length + pc.length : Nat)) : Int) := by rw [hset, List.length_append]
            refine Vc.text (List.range 11) (sd [(0, .pure), (1, .pure), (2, .pure), (3, .pure), (4, .pure), (5, .read), (6, .pure), (7, .pure), (8, .pure), (9, .pure), (10, .eff)]) rfl ?_
            refine Rg.pure rfl rfl rfl (Pv.move rfl) ?_
            refine Rg.pure rfl rfl rfl (Pv.move rfl) ?_
            refine Rg.pure rfl rfl rfl (Pv.move rfl) ?_
            refine Rg.pure rfl rfl rfl (Pv.move rfl) ?_
            refine Rg.pure rfl rfl rfl (Pv.ixA (k) rfl rfl (by omega) (by omega)) ?_
            refine Rg.read rfl rfl rfl (Ev.as (.int .i64 (L[k]!.length : Int)) (Ev.ldR (E := intE) k rfl (Nat.zero_add _) (by omega)) (congrArg intE.val hgk)) ?_
            refine Rg.pure rfl rfl rfl (Pv.move rfl) ?_
            refine Rg.pure rfl rfl rfl (Pv.lenS rfl) ?_
            refine Rg.pure rfl rfl rfl (Pv.asI (L[k]!.length + pc.length) (Pv.add rfl rfl (by omega)) (by omega)) ?_
            refine Rg.pure rfl rfl rfl (Pv.ixA (k) rfl rfl (by omega) (by omega)) ?_
            refine Rg.storeR (E := intE) (z := ((L[k]!.length + pc.length : Nat) : Int)) k rfl rfl rfl rfl rfl rfl (Nat.zero_add _) (by omega) rfl ?_
            rw [← hset2]
            refine Rg.nil ?_
            exact Vc.inv3 (L.set k (L[k]! ++ pc)) _ _ ⟨by rw [List.length_set]; exact hL2, by rw [get_set (by omega) (by omega)]; split <;> (try rw [List.length_append]) <;> omega, by rw [get_set (by omega) (by omega)]; split <;> (try rw [List.length_append]) <;> omega, by
              have : k = 0 ∨ k = 1 := by omega
              rcases this with rfl | rfl
              · rw [get_set (by omega) (by omega), get_set (by omega) (by omega), if_pos rfl, if_neg (by omega), List.length_append]
                unfold secs at *
                simp only [hneed, Nat.sub_zero] at hfit
                omega
              · rw [get_set (by omega) (by omega), get_set (by omega) (by omega), if_neg (by omega), if_pos rfl, List.length_append]
                unfold secs at *
                simp only [hneed, Nat.sub_self] at hfit
                omega, by
              have := Own.blk' (E := intE) bS cS 2 (sz (L.set k (L[k]! ++ pc))) spS (by simp [sz, hL2]) (by simpa [hszl] using hsc) hcm
              exact this, hD65, hw65⟩ (.cons rfl (.cons rfl (.cons rfl (.cons rfl (.cons rfl (.cons rfl (.cons rfl (.cons rfl .nil)))))))) pulled
          ·
            simp only [beq_eq_false_iff_ne, ne_eq] at h98
            have hfull : (room : Int) < (need L k pc.length : Nat) := by by_cases h : (room : Int) < (need L k pc.length : Nat); exact h; rw [if_neg h] at h98; exact absurd rfl h98
            rw [if_pos hfull] at hD65 hw65
            refine Vc.skip ?_
            exact Vc.inv3 L _ _ ⟨hL2, by omega, by omega, hsr, by rw [hszl] at own; exact own, hD65, hw65⟩ (.cons rfl (.cons rfl (.cons rfl (.cons rfl (.cons rfl (.cons rfl (.cons rfl (.cons rfl .nil)))))))) pulled
        ·
          rintro M v sg2 ⟨hM2, hm0, hm1, hmr, ownM, hDM, hwM⟩
          have hmszl : (sz M).length = 2 := by simp [sz, hM2]
          obtain ⟨bM, cM, spM, rfl, rfl, hscM, hcmM⟩ := ownM.block (by omega)
          rw [hmszl]
          have hmk := sz_get (L := M) (k := k) (by omega)
          have hmk0 := sz_get (L := M) (k := 0) (by omega)
          have hmk1 := sz_get (L := M) (k := 1) (by omega)
          refine Vc.seq ?_
          refine Vc.text (List.range 11) (sd [(0, .pure), (1, .pure), (2, .pure), (3, .pure), (4, .read), (5, .eff), (6, .pure), (7, .pure), (8, .pure), (9, .pure), (10, .pure)]) rfl ?_
          refine Rg.pure rfl rfl rfl (Pv.move rfl) ?_
          refine Rg.pure rfl rfl rfl (Pv.move rfl) ?_
          refine Rg.pure rfl rfl rfl (Pv.move rfl) ?_
          refine Rg.pure rfl rfl rfl (Pv.ixA (k) rfl rfl (by omega) (by omega)) ?_
          refine Rg.read rfl rfl rfl (Ev.as (kS (nms[k]!)) (Ev.ldR (E := strE) k rfl (Nat.zero_add _) (by simp; omega)) rfl) ?_
          refine Rg.callH rfl rfl rfl (run_callF rfl) (fun F' hF' => size_w (F := F') hDM hwM (by omega) (by omega) (nms[k]!) (sizeR hM2 hk2) (congrArg Prod.snd beginsR)) rfl ?_
          rintro _ s115 ⟨rfl, hD115, hw115⟩
          refine Rg.pure rfl rfl rfl (Pv.move rfl) ?_
          refine Rg.pure rfl rfl rfl (Pv.extract rfl rfl) ?_
          refine Rg.pure rfl rfl rfl (Pv.extract rfl rfl) ?_
          refine Rg.pure rfl rfl rfl (Pv.assign rfl) ?_
          refine Rg.pure rfl rfl rfl (Pv.assign rfl) ?_
          refine Rg.nil ?_
          refine Vc.seq ?_
          refine Vc.draw [] (sd [(0, .pure), (1, .pure), (2, .pure), (3, .pure), (4, .pure), (5, .pure), (6, .pure), (7, .read), (8, .pure), (9, .pure), (10, .pure), (11, .pure), (13, .pure), (14, .pure), (15, .read), (16, .pure), (17, .pure), (18, .pure), (19, .pure), (20, .read), (21, .pure), (22, .pure), (23, .pure), (12, .eff), (24, .pure), (25, .pure), (26, .pure), (27, .pure), (29, .pure), (28, .eff), (30, .eff), (31, .pure), (32, .pure)]) mixed (by kernel_rfl) ?_
          refine Rg.pure rfl rfl rfl (Pv.move rfl) ?_
          refine Rg.pure rfl rfl rfl (Pv.neq rfl rfl) ?_
          refine Rg.pure rfl rfl rfl (Pv.move rfl) ?_
          refine Rg.split (t := 120) rfl (fun h120 => absurd h120 (by decide)) (fun h120 => ?_)
          refine Rg.pure rfl rfl rfl (Pv.move rfl) ?_
          refine Rg.pure rfl rfl rfl (Pv.move rfl) ?_
          refine Rg.pure rfl rfl rfl (Pv.move rfl) ?_
          refine Rg.pure rfl rfl rfl (Pv.ixA (k) rfl rfl (by omega) (by omega)) ?_
          refine Rg.read rfl rfl rfl (Ev.as (.int .i64 (M[k]!.length : Int)) (Ev.ldR (E := intE) k rfl (Nat.zero_add _) (by omega)) (congrArg intE.val hmk)) ?_
          refine Rg.pure rfl rfl rfl (Pv.neq rfl rfl) ?_
          refine Rg.pure rfl rfl rfl (Pv.pickF rfl rfl) ?_
          refine Rg.pure rfl rfl rfl (Pv.move rfl) ?_
          refine Rg.split (t := 128) rfl (fun h128 => absurd h128 (by simp)) (fun h128 => ?_)
          refine Rg.pure rfl rfl rfl (Pv.move rfl) ?_
          refine Rg.pure rfl rfl rfl (Pv.move rfl) ?_
          refine Rg.pure rfl rfl rfl (Pv.ixA (0) rfl rfl (by omega) (by omega)) ?_
          refine Rg.read rfl rfl rfl (Ev.as (.int .i64 (M[0]!.length : Int)) (Ev.ldR (E := intE) 0 rfl (by rfl) (by omega)) (congrArg intE.val hmk0)) ?_
          refine Rg.pure rfl rfl rfl (Pv.asI (M[0]!.length + 15) (Pv.add rfl rfl (by omega)) (by omega)) ?_
          refine Rg.pure rfl rfl rfl (Pv.asI ((M[0]!.length + 15) / 16) (Pv.quo rfl rfl (by omega)) (by omega)) ?_
          refine Rg.pure rfl rfl rfl (Pv.move rfl) ?_
          refine Rg.pure rfl rfl rfl (Pv.ixA (1) rfl rfl (by omega) (by omega)) ?_
          refine Rg.read rfl rfl rfl (Ev.as (.int .i64 (M[1]!.length : Int)) (Ev.ldR (E := intE) 1 rfl (by rfl) (by omega)) (congrArg intE.val hmk1)) ?_
          refine Rg.pure rfl rfl rfl (Pv.asI (M[1]!.length + 15) (Pv.add rfl rfl (by omega)) (by omega)) ?_
          refine Rg.pure rfl rfl rfl (Pv.asI ((M[1]!.length + 15) / 16) (Pv.quo rfl rfl (by omega)) (by omega)) ?_
          refine Rg.pure rfl rfl rfl (Pv.asI ((M[0]!.length + 15) / 16 + (M[1]!.length + 15) / 16) (Pv.add rfl rfl (by omega)) (by omega)) ?_
          refine Rg.callP rfl rfl rfl (run_callF rfl) (usedD_spec hD115 frz_sb) ?_
          rintro _ rfl
          refine Rg.pure rfl rfl rfl (Pv.neq rfl rfl) ?_
          refine Rg.pure rfl rfl rfl (Pv.pickF rfl rfl) ?_
          refine Rg.pure rfl rfl rfl (Pv.move rfl) ?_
          refine Rg.split (t := 144) rfl (fun h144 => absurd h144 (by rw [bne_iff_ne, ne_eq, Classical.not_not]; show ((secs M[0]!.length : Nat) : Int) + (secs M[1]!.length : Nat) = _; unfold secs; omega)) (fun h144 => ?_)
          refine Rg.pure rfl rfl rfl (Pv.move rfl) ?_
          refine Rg.pure rfl rfl rfl (Pv.move rfl) ?_
          refine Rg.callP rfl rfl rfl (run_callF rfl) (usedD_spec hD115 frz_sb) ?_
          rintro _ rfl
          refine Rg.callP rfl rfl rfl (run_callF rfl) (roomD_spec hD115 frz_sb) ?_
          rintro _ rfl
          refine Rg.pure rfl rfl rfl (Pv.gtr rfl rfl) ?_
          refine Rg.pure rfl rfl rfl (Pv.pickF rfl rfl) ?_
          refine Rg.nil ?_
          refine Vc.cond rfl (fun h150 => absurd h150 (by rw [decide_eq_true_eq]; show ¬ ((room : Int) < ((secs M[0]!.length : Nat) : Int) + (secs M[1]!.length : Nat)); omega)) (fun h150 => ?_)
          refine Vc.skip ?_
          refine Vc.blk ?_
          refine Vc.text (List.range 3) (sd [(0, .pure), (1, .pure), (2, .pure)]) rfl ?_
          refine Rg.pure rfl rfl rfl (Pv.move rfl) ?_
          refine Rg.pure rfl rfl rfl (Pv.asI (i + 1) (Pv.add rfl rfl (by omega)) (by omega)) ?_
          refine Rg.pure rfl rfl rfl (Pv.assign rfl) ?_
          refine Rg.nil ?_
          exact Vc.inv5 (i + 1) M s115 _ _ ⟨⟨by omega, by omega, hM2, hm0, hm1, hmr, (by rw [hmszl] at ownM; exact ownM), by rw [show ((2 + 2 * (i + 1) : Nat) : Int) = ((2 + 2 * i : Nat) : Int) + 1 + 1 by omega]; exact hD115, by rw [show ((2 + 2 * (i + 1) : Nat) : Int) = ((2 + 2 * i : Nat) : Int) + 1 + 1 by omega]; exact hw115.mono (by omega) (by omega)⟩, by omega⟩ (.cons rfl (.cons rfl (.cons rfl (.cons rfl (.cons rfl (.cons rfl .nil)))))) pulled
    ·
      refine Vc.exit rfl ?_
      refine Vc.seq ?_
      refine Vc.text (List.range 2) (sd [(0, .pure), (1, .pure)]) rfl ?_
      refine Rg.pure rfl rfl rfl (Pv.move rfl) ?_
      refine Rg.pure rfl rfl rfl (Pv.assign rfl) ?_
      refine Rg.nil ?_
      refine Vc.ret (Vc.rets rfl (.cons (.tmp rfl) (.nil)) ?_)
      rfl
end Go.Proofs.Ytmocncadncgaaaa
