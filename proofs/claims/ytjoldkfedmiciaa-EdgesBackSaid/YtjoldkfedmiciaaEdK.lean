/- The statements' functions: EdgesRead, EdgesMany. -/
import Derived.Test.YtjoldkfedmiciaaEdJ
namespace Go.Proofs.Ytjoldkfedmiciaa
set_option linter.unusedVariables false

theorem decG_len (bs : List UInt8) : (decG bs).2.1.length ≤ bs.length := by
  unfold decG
  split
  · simp
  split
  · simp
  split
  · simp
  split
  · simp
  · simp; omega
theorem EdgesRead_spec (F : Fm) (v0 : Value) (bs : List UInt8) (ha : Arg byteE F v0 bs) :
    Spec Try.prog 4 #[v0] F [] fun v _ => v = .bool true := by
  obtain ⟨p0, c0, rfl⟩ := ha.shape
  have hcap := ha.cap.2
  have ha2 := ha.take (k := min bs.length 1000) (Nat.min_le_left _ _)
  have hly : (bs.take (min bs.length 1000)).length = min bs.length 1000 := by simp
  have hmin : min bs.length 1000 ≤ 1000 := Nat.min_le_right _ _
  refine Spec.of (n := 62) (vs := [.slice p0 bs.length c0]) Try.func4 rfl Try.ntmps4 rfl ?_
  refine Vc.seq ?_
  refine Vc.text (List.range 1) (sd [(0, .pure)]) rfl ?_
  refine Rg.pure rfl rfl rfl (Pv.assign rfl) ?_
  refine Rg.nil ?_
  refine Vc.seq ?_
  refine Vc.text (List.range 2) (sd [(0, .eff), (1, .pure)]) rfl ?_
  refine Rg.callP rfl rfl rfl (run_callF rfl) (shown_spec _) ?_
  rintro _ rfl
  refine Rg.pure rfl rfl rfl (Pv.assign rfl) ?_
  refine Rg.nil ?_
  refine Vc.seq ?_
  refine Vc.text (List.range 6) (sd [(0, .pure), (1, .pure), (2, .pure), (3, .pure), (4, .pure), (5, .pure)]) rfl ?_
  refine Rg.pure rfl rfl rfl (Pv.move rfl) ?_
  refine Rg.pure rfl rfl rfl (Pv.move rfl) ?_
  refine Rg.pure rfl rfl rfl (Pv.lenS rfl) ?_
  refine Rg.pure rfl rfl rfl (Pv.asI (min bs.length 1000) (Pv.min rfl rfl) (by omega)) ?_
  refine Rg.pure rfl rfl rfl (Pv.slTo (min bs.length 1000) rfl rfl (by omega)) ?_
  generalize bs.take (min bs.length 1000) = ys at ha2 hly
  refine Rg.pure rfl rfl rfl (Pv.assign rfl) ?_
  refine Rg.nil ?_
  refine Vc.seq ?_
  refine Vc.text (List.range 3) (sd [(0, .pure), (1, .read), (2, .pure)]) rfl ?_
  refine Rg.pure rfl rfl rfl (Pv.move rfl) ?_
  refine Rg.read rfl rfl rfl (Ev.str (ha2.src) rfl) ?_
  refine Rg.pure rfl rfl rfl (Pv.assign rfl) ?_
  refine Rg.nil ?_
  refine Vc.seq ?_
  refine Vc.text (List.range 10) (sd [(0, .pure), (1, .eff), (2, .pure), (3, .pure), (4, .pure), (5, .pure), (6, .eff), (7, .eff), (8, .pure), (9, .pure)]) rfl ?_
  refine Rg.pure rfl rfl rfl (Pv.move rfl) ?_
  refine Rg.callA rfl rfl rfl (run_callF rfl) (decode_spec (ha2.mono fun b o h => Or.inr h) (by omega)) ?_
  rintro _ s21 ⟨u21, rfl, own21⟩
  have hdl := decG_len ys
  obtain ⟨N, es, at_, er, hd⟩ : ∃ N es at_ er, decG ys = (N, es, at_, er) := ⟨_, _, _, _, rfl⟩
  simp only [hd] at own21 hdl ⊢
  obtain ⟨q21, c21, rfl⟩ := own21.shape
  refine Rg.pure rfl rfl rfl (Pv.move rfl) ?_
  refine Rg.pure rfl rfl rfl (Pv.extract rfl rfl) ?_
  refine Rg.pure rfl rfl rfl (Pv.extract rfl rfl) ?_
  refine Rg.pure rfl rfl rfl (Pv.extract rfl rfl) ?_
  refine Rg.alloc rfl rfl rfl rfl (fun b5 => ?_)
  refine Rg.storeA rfl rfl rfl rfl rfl rfl rfl rfl ?_
  refine Rg.pure rfl rfl rfl (Pv.assign rfl) ?_
  refine Rg.pure rfl rfl rfl (Pv.assign rfl) ?_
  refine Rg.nil ?_
  refine Vc.seq ?_
  refine Vc.text (List.range 10) (sd [(0, .pure), (1, .eff), (2, .pure), (3, .pure), (4, .pure), (5, .pure), (6, .eff), (7, .eff), (8, .pure), (9, .pure)]) rfl ?_
  refine Rg.pure rfl rfl rfl (Pv.move rfl) ?_
  refine Rg.callA rfl rfl rfl (run_callF rfl) (rdecode_spec (ha2.mono fun b o h => Or.inr h) (by omega)) ?_
  rintro _ s27 ⟨u27, rfl, own27⟩
  simp only [hd] at own27 ⊢
  obtain ⟨q27, c27, rfl⟩ := own27.shape
  refine Rg.pure rfl rfl rfl (Pv.move rfl) ?_
  refine Rg.pure rfl rfl rfl (Pv.extract rfl rfl) ?_
  refine Rg.pure rfl rfl rfl (Pv.extract rfl rfl) ?_
  refine Rg.pure rfl rfl rfl (Pv.extract rfl rfl) ?_
  refine Rg.alloc rfl rfl rfl rfl (fun b8 => ?_)
  refine Rg.storeA rfl rfl rfl rfl rfl rfl rfl rfl ?_
  refine Rg.pure rfl rfl rfl (Pv.assign rfl) ?_
  refine Rg.pure rfl rfl rfl (Pv.assign rfl) ?_
  refine Rg.nil ?_
  refine Vc.seq ?_
  refine Vc.text (List.range 32) (sd [(0, .pure), (1, .pure), (2, .pure), (3, .read), (4, .pure), (5, .read), (6, .pure), (7, .pure), (8, .pure), (9, .pure), (10, .read), (11, .pure), (12, .read), (13, .eff), (14, .pure), (15, .pure), (16, .pure), (17, .pure), (18, .pure), (19, .pure), (20, .pure), (21, .pure), (22, .pure), (23, .pure), (24, .pure), (25, .pure), (26, .pure), (27, .read), (28, .pure), (29, .pure), (30, .pure), (31, .pure)]) rfl ?_
  refine Rg.pure rfl rfl rfl (Pv.move rfl) ?_
  refine Rg.pure rfl rfl rfl (Pv.move rfl) ?_
  refine Rg.split (t := 32) rfl (fun h32 => ?_) (fun h32 => absurd h32 (by simp))
  refine Rg.pure rfl rfl rfl (Pv.fa rfl) ?_
  refine Rg.read rfl rfl rfl (Ev.ld rfl rfl) ?_
  refine Rg.pure rfl rfl rfl (Pv.fa rfl) ?_
  refine Rg.read rfl rfl rfl (Ev.ld rfl rfl) ?_
  refine Rg.pure rfl rfl rfl (Pv.eql rfl rfl) ?_
  refine Rg.pure rfl rfl rfl (Pv.pickT rfl rfl) ?_
  refine Rg.pure rfl rfl rfl (Pv.move rfl) ?_
  refine Rg.split (t := 39) rfl (fun h39 => ?_) (fun h39 => absurd h39 (by simp))
  refine Rg.pure rfl rfl rfl (Pv.fa rfl) ?_
  refine Rg.read rfl rfl rfl (Ev.ld rfl rfl) ?_
  refine Rg.pure rfl rfl rfl (Pv.fa rfl) ?_
  refine Rg.read rfl rfl rfl (Ev.ld rfl rfl) ?_
  refine Rg.callP rfl rfl rfl (run_callF rfl) (alike_spec (Arg.own own21 frz_sb) (Arg.own own27 frz_sb) (by omega) (by omega)) ?_
  rintro _ rfl
  refine Rg.pure rfl rfl rfl (Pv.pickT rfl rfl) ?_
  refine Rg.pure rfl rfl rfl (Pv.move rfl) ?_
  refine Rg.split (t := 46) rfl (fun h46 => ?_) (fun h46 => absurd h46 (by simp))
  refine Rg.pure rfl rfl rfl (Pv.move rfl) ?_
  refine Rg.pure rfl rfl rfl (Pv.move rfl) ?_
  refine Rg.pure rfl rfl rfl (Pv.eql rfl rfl) ?_
  refine Rg.pure rfl rfl rfl (Pv.pickT rfl rfl) ?_
  refine Rg.pure rfl rfl rfl (Pv.move rfl) ?_
  refine Rg.split (t := 51) rfl (fun h51 => ?_) (fun h51 => absurd h51 (by simp))
  refine Rg.pure rfl rfl rfl (Pv.move rfl) ?_
  refine Rg.pure rfl rfl rfl (Pv.move rfl) ?_
  refine Rg.pure rfl rfl rfl (Pv.eql rfl rfl) ?_
  refine Rg.pure rfl rfl rfl (Pv.pickT rfl rfl) ?_
  refine Rg.pure rfl rfl rfl (Pv.move rfl) ?_
  refine Rg.split (t := 56) rfl (fun h56 => ?_) (fun h56 => absurd h56 (by simp))
  refine Rg.pure rfl rfl rfl (Pv.move rfl) ?_
  refine Rg.read rfl rfl rfl (Ev.str (ha2.src) rfl) ?_
  refine Rg.pure rfl rfl rfl (Pv.move rfl) ?_
  refine Rg.pure rfl rfl rfl (Pv.eqlS rfl rfl) ?_
  refine Rg.pure rfl rfl rfl (Pv.pickT rfl rfl) ?_
  refine Rg.pure rfl rfl rfl (Pv.assign rfl) ?_
  refine Rg.nil ?_
  refine Vc.ret (Vc.rets rfl (.cons (.tmp rfl) (.nil)) ?_)
  exact congrArg Value.bool (by simp)

theorem EdgesMany_spec (F : Fm) (n : Nat) (hn : n < 4294967296) :
    Spec Try.prog 10 #[.int .u32 (n : Int)] F [] fun v _ => v = .bool true := by
  have hd : decG (leBytes 4 n) = if 1048576 < n then (0, [], 0, 1) else (n, [], 0, 0) := by
    have h1 : getB (leBytes 4 n) 0 4 = n := by
      have := getB_mid [] [] n hn
      simpa using this
    have h2 : (leBytes 4 n).length = 4 := by simp
    simp [decG, h1, scanE]
  obtain ⟨N, at_, er, hd, hr⟩ : ∃ N at_ er, decG (leBytes 4 n) = (N, [], at_, er) ∧ ((1048576 < n ∧ N = 0 ∧ at_ = 0 ∧ er = 1) ∨ (¬ 1048576 < n ∧ N = n ∧ at_ = 0 ∧ er = 0)) := by
    by_cases h : 1048576 < n
    · rw [hd, if_pos h]; exact ⟨_, _, _, rfl, .inl ⟨h, rfl, rfl, rfl⟩⟩
    · rw [hd, if_neg h]; exact ⟨_, _, _, rfl, .inr ⟨h, rfl, rfl, rfl⟩⟩
  refine Spec.of (n := 61) (vs := [.int .u32 (n : Int)]) Try.func10 rfl Try.ntmps10 rfl ?_
  refine Vc.seq ?_
  refine Vc.text (List.range 1) (sd [(0, .pure)]) rfl ?_
  refine Rg.pure rfl rfl rfl (Pv.assign rfl) ?_
  refine Rg.nil ?_
  refine Vc.seq ?_
  refine Vc.text (List.range 2) (sd [(0, .eff), (1, .pure)]) rfl ?_
  refine Rg.callP rfl rfl rfl (run_callF rfl) (shown_spec _) ?_
  rintro _ rfl
  refine Rg.pure rfl rfl rfl (Pv.assign rfl) ?_
  refine Rg.nil ?_
  refine Vc.seq ?_
  refine Vc.text (List.range 13) (sd [(0, .pure), (1, .pure), (2, .pure), (3, .pure), (4, .pure), (5, .pure), (6, .pure), (7, .pure), (8, .pure), (9, .pure), (10, .pure), (11, .eff), (12, .pure)]) rfl ?_
  refine Rg.pure rfl rfl rfl (Pv.move rfl) ?_
  refine Rg.pure rfl rfl rfl (Pv.as (.int .u8 ((UInt8.ofNat n).toNat : Int)) (Pv.convI rfl) (congrArg (Value.int .u8) (wrap_u8 _))) ?_
  refine Rg.pure rfl rfl rfl (Pv.move rfl) ?_
  refine Rg.pure rfl rfl rfl (Pv.asI (n / 256) (Pv.shrN n 8 rfl rfl (by decide)) rfl) ?_
  refine Rg.pure rfl rfl rfl (Pv.as (.int .u8 ((UInt8.ofNat (n / 256)).toNat : Int)) (Pv.convI rfl) (congrArg (Value.int .u8) (wrap_u8 _))) ?_
  refine Rg.pure rfl rfl rfl (Pv.move rfl) ?_
  refine Rg.pure rfl rfl rfl (Pv.asI (n / 256 / 256) (Pv.shrN n 16 rfl rfl (by decide)) (by rw [Nat.div_div_eq_div_mul])) ?_
  refine Rg.pure rfl rfl rfl (Pv.as (.int .u8 ((UInt8.ofNat (n / 256 / 256)).toNat : Int)) (Pv.convI rfl) (congrArg (Value.int .u8) (wrap_u8 _))) ?_
  refine Rg.pure rfl rfl rfl (Pv.move rfl) ?_
  refine Rg.pure rfl rfl rfl (Pv.asI (n / 256 / 256 / 256) (Pv.shrN n 24 rfl rfl (by decide)) (by rw [Nat.div_div_eq_div_mul, Nat.div_div_eq_div_mul])) ?_
  refine Rg.pure rfl rfl rfl (Pv.as (.int .u8 ((UInt8.ofNat (n / 256 / 256 / 256)).toNat : Int)) (Pv.convI rfl) (congrArg (Value.int .u8) (wrap_u8 _))) ?_
  refine Rg.bsliceN (cs := [.int .u8 ((UInt8.ofNat n).toNat : Int), .int .u8 ((UInt8.ofNat (n / 256)).toNat : Int), .int .u8 ((UInt8.ofNat (n / 256 / 256)).toNat : Int), .int .u8 ((UInt8.ofNat (n / 256 / 256 / 256)).toNat : Int)]) rfl rfl rfl rfl rfl rfl rfl (fun b20 => ?_)
  refine Rg.pure rfl rfl rfl (Pv.assign rfl) ?_
  refine Rg.nil ?_
  refine Vc.seq ?_
  refine Vc.text (List.range 10) (sd [(0, .pure), (1, .eff), (2, .pure), (3, .pure), (4, .pure), (5, .pure), (6, .eff), (7, .eff), (8, .pure), (9, .pure)]) rfl ?_
  refine Rg.pure rfl rfl rfl (Pv.move rfl) ?_
  refine Rg.callA rfl rfl rfl (run_callF rfl) (decode_spec (bs := leBytes 4 n) (Arg.own (Own.blk' (E := byteE) b20 4 4 (leBytes 4 n) [] rfl rfl (by decide)) (fun b' o hb => frz_sb (s := [(b20, cellsO [.int .u8 ((UInt8.ofNat n).toNat : Int), .int .u8 ((UInt8.ofNat (n / 256)).toNat : Int), .int .u8 ((UInt8.ofNat (n / 256 / 256)).toNat : Int), .int .u8 ((UInt8.ofNat (n / 256 / 256 / 256)).toNat : Int)] 5)]) b' o hb)) (by simp)) ?_
  rintro _ s23 ⟨u23, rfl, own23⟩
  simp only [hd] at own23 ⊢
  obtain ⟨q23, c23, rfl⟩ := own23.shape
  refine Rg.pure rfl rfl rfl (Pv.move rfl) ?_
  refine Rg.pure rfl rfl rfl (Pv.extract rfl rfl) ?_
  refine Rg.pure rfl rfl rfl (Pv.extract rfl rfl) ?_
  refine Rg.pure rfl rfl rfl (Pv.extract rfl rfl) ?_
  refine Rg.alloc rfl rfl rfl rfl (fun b5 => ?_)
  refine Rg.storeA rfl rfl rfl rfl rfl rfl rfl rfl ?_
  refine Rg.pure rfl rfl rfl (Pv.assign rfl) ?_
  refine Rg.pure rfl rfl rfl (Pv.assign rfl) ?_
  refine Rg.nil ?_
  refine Vc.seq ?_
  refine Vc.seq ?_
  refine Vc.text (List.range 2) (sd [(0, .pure), (1, .pure)]) rfl ?_
  refine Rg.pure rfl rfl rfl (Pv.move rfl) ?_
  refine Rg.pure rfl rfl rfl (Pv.gtr rfl rfl) ?_
  refine Rg.nil ?_
  refine Vc.cond rfl (fun h28 => ?_) (fun h28 => ?_)
  ·
    simp only [decide_eq_true_eq] at h28
    obtain ⟨_, rfl, rfl, rfl⟩ := hr.resolve_right (fun h => h.1 (by omega))
    refine Vc.seq ?_
    refine Vc.text (List.range 15) (sd [(0, .pure), (1, .pure), (2, .pure), (3, .pure), (4, .pure), (5, .pure), (6, .pure), (7, .pure), (8, .pure), (9, .pure), (10, .pure), (11, .read), (12, .pure), (13, .pure), (14, .pure)]) rfl ?_
    refine Rg.pure rfl rfl rfl (Pv.move rfl) ?_
    refine Rg.pure rfl rfl rfl (Pv.move rfl) ?_
    refine Rg.split (t := 30) rfl (fun h30 => ?_) (fun h30 => absurd h30 (by decide))
    refine Rg.pure rfl rfl rfl (Pv.move rfl) ?_
    refine Rg.pure rfl rfl rfl (Pv.eql rfl rfl) ?_
    refine Rg.pure rfl rfl rfl (Pv.pickT rfl rfl) ?_
    refine Rg.pure rfl rfl rfl (Pv.move rfl) ?_
    refine Rg.split (t := 34) rfl (fun h34 => ?_) (fun h34 => absurd h34 (by decide))
    refine Rg.pure rfl rfl rfl (Pv.move rfl) ?_
    refine Rg.pure rfl rfl rfl (Pv.eql rfl rfl) ?_
    refine Rg.pure rfl rfl rfl (Pv.pickT rfl rfl) ?_
    refine Rg.pure rfl rfl rfl (Pv.move rfl) ?_
    refine Rg.split (t := 38) rfl (fun h38 => ?_) (fun h38 => absurd h38 (by decide))
    refine Rg.pure rfl rfl rfl (Pv.fa rfl) ?_
    refine Rg.read rfl rfl rfl (Ev.ld rfl rfl) ?_
    refine Rg.pure rfl rfl rfl (Pv.eql rfl rfl) ?_
    refine Rg.pure rfl rfl rfl (Pv.pickT rfl rfl) ?_
    refine Rg.pure rfl rfl rfl (Pv.assign rfl) ?_
    refine Rg.nil ?_
    refine Vc.ret (Vc.rets rfl (.cons (.tmp rfl) (.nil)) ?_)
    rfl
  ·
    simp only [decide_eq_false_iff_not] at h28
    obtain ⟨_, rfl, rfl, rfl⟩ := hr.resolve_left (fun h => (by omega))
    refine Vc.skip ?_
    refine Vc.seq ?_
    refine Vc.text (List.range 19) (sd [(0, .pure), (1, .pure), (2, .pure), (3, .pure), (4, .pure), (5, .pure), (6, .pure), (7, .read), (8, .pure), (9, .pure), (10, .pure), (11, .pure), (12, .pure), (13, .pure), (14, .read), (15, .pure), (16, .pure), (17, .pure), (18, .pure)]) rfl ?_
    refine Rg.pure rfl rfl rfl (Pv.move rfl) ?_
    refine Rg.pure rfl rfl rfl (Pv.move rfl) ?_
    refine Rg.split (t := 44) rfl (fun h44 => ?_) (fun h44 => absurd h44 (by decide))
    refine Rg.pure rfl rfl rfl (Pv.move rfl) ?_
    refine Rg.pure rfl rfl rfl (Pv.eql rfl rfl) ?_
    refine Rg.pure rfl rfl rfl (Pv.pickT rfl rfl) ?_
    refine Rg.pure rfl rfl rfl (Pv.move rfl) ?_
    refine Rg.split (t := 48) rfl (fun h48 => ?_) (fun h48 => absurd h48 (by decide))
    refine Rg.pure rfl rfl rfl (Pv.fa rfl) ?_
    refine Rg.read rfl rfl rfl (Ev.ld rfl rfl) ?_
    refine Rg.pure rfl rfl rfl (Pv.move rfl) ?_
    refine Rg.pure rfl rfl rfl (Pv.asI N (Pv.convI rfl) (i64_wrap (by omega))) ?_
    refine Rg.pure rfl rfl rfl (Pv.eql rfl rfl) ?_
    refine Rg.pure rfl rfl rfl (Pv.pickT rfl rfl) ?_
    refine Rg.pure rfl rfl rfl (Pv.move rfl) ?_
    refine Rg.split (t := 55) rfl (fun h55 => ?_) (fun h55 => absurd h55 (by simp))
    refine Rg.pure rfl rfl rfl (Pv.fa rfl) ?_
    refine Rg.read rfl rfl rfl (Ev.ld rfl rfl) ?_
    refine Rg.pure rfl rfl rfl (Pv.lenS rfl) ?_
    refine Rg.pure rfl rfl rfl (Pv.eql rfl rfl) ?_
    refine Rg.pure rfl rfl rfl (Pv.pickT rfl rfl) ?_
    refine Rg.pure rfl rfl rfl (Pv.assign rfl) ?_
    refine Rg.nil ?_
    refine Vc.ret (Vc.rets rfl (.cons (.tmp rfl) (.nil)) ?_)
    rfl
end Go.Proofs.Ytjoldkfedmiciaa
