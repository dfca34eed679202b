/- Graphs: the document's Decode. -/
import Derived.Test.YtjoldkfedmiciaaEdE
namespace Go.Proofs.Ytjoldkfedmiciaa
set_option linter.unusedVariables false

theorem rdecode_spec {F : Fm} {va : Value} {bs : List UInt8} (ha : Arg byteE F va bs) (hN : bs.length < 1073741824) :
    Spec Try.prog 19 #[va] F [] fun v s => ∃ u, v = .tuple #[grV ((decG bs).1 : Int) u, .int .i64 ((decG bs).2.2.1 : Int), .int .i64 ((decG bs).2.2.2 : Int)] ∧ Own edgeE u (decG bs).2.1 s := by
  obtain ⟨p, c, rfl⟩ := ha.shape
  refine Spec.of (n := 93) (vs := [.slice p bs.length c]) Try.func19 rfl Try.ntmps19 rfl ?_
  refine Vc.seq ?_
  refine Vc.text (List.range 3) (sd [(0, .eff), (1, .pure), (2, .pure)]) rfl ?_
  refine Rg.alloc rfl rfl rfl rfl (fun b2 => ?_)
  refine Rg.pure rfl rfl rfl (Pv.assign rfl) ?_
  refine Rg.pure rfl rfl rfl (Pv.assign rfl) ?_
  refine Rg.nil ?_
  refine Vc.seq ?_
  refine Vc.seq ?_
  refine Vc.text (List.range 9) (sd [(0, .pure), (1, .pure), (2, .pure), (3, .pure), (4, .pure), (5, .pure), (6, .pure), (7, .pure), (8, .pure)]) rfl ?_
  refine Rg.pure rfl rfl rfl (Pv.move rfl) ?_
  refine Rg.pure rfl rfl rfl (Pv.lenS rfl) ?_
  refine Rg.pure rfl rfl rfl (Pv.lss rfl rfl) ?_
  refine Rg.pure rfl rfl rfl (Pv.move rfl) ?_
  refine Rg.split (t := 18) rfl (fun h18 => ?_) (fun h18 => ?_)
  ·
    simp only [decide_eq_true_eq] at h18
    have hm : ¬ bs.length % 12 = 4 := by omega
    have hd : decG bs = (0, [], bs.length, 2) := by simp [decG, hm]
    iterate 4 (first | refine Rg.skipP rfl rfl rfl ?_ | refine Rg.skipR rfl rfl rfl ?_ | refine Rg.skipE rfl rfl rfl ?_)
    refine Rg.pure rfl rfl rfl (Pv.pickT rfl rfl) ?_
    refine Rg.nil ?_
    refine Vc.condT rfl ?_
    refine Vc.seq ?_
    refine Vc.text (List.range 6) (sd [(0, .pure), (1, .pure), (2, .pure), (3, .eff), (4, .pure), (5, .pure)]) rfl ?_
    refine Rg.pure rfl rfl rfl (Pv.build rfl rfl) ?_
    refine Rg.pure rfl rfl rfl (Pv.move rfl) ?_
    refine Rg.pure rfl rfl rfl (Pv.lenS rfl) ?_
    refine Rg.storeA rfl rfl rfl rfl rfl rfl rfl rfl ?_
    refine Rg.pure rfl rfl rfl (Pv.assign rfl) ?_
    refine Rg.pure rfl rfl rfl (Pv.assign rfl) ?_
    refine Rg.nil ?_
    exact Vc.ret (Vc.retsH (hl' := []) rfl (.cons (.cellA rfl rfl) (.cons (.tmp rfl) (.cons (.tmp rfl) .nil))) (by rw [hd]; exact ⟨.slice none 0 0, rfl, Own.nil⟩) pulled)
  ·
    simp only [decide_eq_false_iff_not] at h18
    refine Rg.pure rfl rfl rfl (Pv.move rfl) ?_
    refine Rg.pure rfl rfl rfl (Pv.lenS rfl) ?_
    refine Rg.pure rfl rfl rfl (Pv.rem rfl rfl (by omega)) ?_
    refine Rg.pure rfl rfl rfl (Pv.neq rfl rfl) ?_
    refine Rg.pure rfl rfl rfl (Pv.pickF rfl rfl) ?_
    refine Rg.nil ?_
    refine Vc.cond rfl (fun h23 => ?_) (fun h23 => ?_)
    ·
      simp only [bne_iff_ne, ne_eq] at h23
      have hd : decG bs = (0, [], bs.length, 2) := by
        have : bs.length % 12 ≠ 4 := by omega
        simp [decG, this]
      refine Vc.seq ?_
      refine Vc.text (List.range 6) (sd [(0, .pure), (1, .pure), (2, .pure), (3, .eff), (4, .pure), (5, .pure)]) rfl ?_
      refine Rg.pure rfl rfl rfl (Pv.build rfl rfl) ?_
      refine Rg.pure rfl rfl rfl (Pv.move rfl) ?_
      refine Rg.pure rfl rfl rfl (Pv.lenS rfl) ?_
      refine Rg.storeA rfl rfl rfl rfl rfl rfl rfl rfl ?_
      refine Rg.pure rfl rfl rfl (Pv.assign rfl) ?_
      refine Rg.pure rfl rfl rfl (Pv.assign rfl) ?_
      refine Rg.nil ?_
      exact Vc.ret (Vc.retsH (hl' := []) rfl (.cons (.cellA rfl rfl) (.cons (.tmp rfl) (.cons (.tmp rfl) .nil))) (by rw [hd]; exact ⟨.slice none 0 0, rfl, Own.nil⟩) pulled)
    ·
      simp only [bne_eq_false_iff_eq] at h23
      have hm : bs.length % 12 = 4 := by omega
      have hlt := getB_lt bs 0
      generalize hn : getB bs 0 4 = n at hlt
      refine Vc.skip ?_
      refine Vc.seq ?_
      refine Vc.text (List.range 7) (sd [(0, .pure), (1, .eff), (2, .pure), (3, .pure), (4, .pure), (5, .pure), (6, .pure)]) rfl ?_
      refine Rg.pure rfl rfl rfl (Pv.move rfl) ?_
      refine Rg.callP rfl rfl rfl (run_callF rfl) (rget_spec (ha.mono fun b o h => Or.inr h) hN 0 4 (by decide) (by decide) (by omega)) ?_
      rintro _ rfl
      rw [hn]
      refine Rg.pure rfl rfl rfl (Pv.move rfl) ?_
      refine Rg.pure rfl rfl rfl (Pv.extract rfl rfl) ?_
      refine Rg.pure rfl rfl rfl (Pv.extract rfl rfl) ?_
      refine Rg.pure rfl rfl rfl (Pv.assign rfl) ?_
      refine Rg.pure rfl rfl rfl (Pv.assign rfl) ?_
      refine Rg.nil ?_
      refine Vc.seq ?_
      refine Vc.seq ?_
      refine Vc.text (List.range 2) (sd [(0, .pure), (1, .pure)]) rfl ?_
      refine Rg.pure rfl rfl rfl (Pv.move rfl) ?_
      refine Rg.pure rfl rfl rfl (Pv.gtr rfl rfl) ?_
      refine Rg.nil ?_
      refine Vc.cond rfl (fun h33 => ?_) (fun h33 => ?_)
      ·
        simp only [decide_eq_true_eq] at h33
        have hd : decG bs = (0, [], 0, 1) := by
          have : 1048576 < n := by omega
          simp [decG, hm, hn, this]
        refine Vc.seq ?_
        refine Vc.text (List.range 4) (sd [(0, .pure), (1, .eff), (2, .pure), (3, .pure)]) rfl ?_
        refine Rg.pure rfl rfl rfl (Pv.build rfl rfl) ?_
        refine Rg.storeA rfl rfl rfl rfl rfl rfl rfl rfl ?_
        refine Rg.pure rfl rfl rfl (Pv.assign rfl) ?_
        refine Rg.pure rfl rfl rfl (Pv.assign rfl) ?_
        refine Rg.nil ?_
        exact Vc.ret (Vc.retsH (hl' := []) rfl (.cons (.cellA rfl rfl) (.cons (.tmp rfl) (.cons (.tmp rfl) .nil))) (by rw [hd]; exact ⟨.slice none 0 0, rfl, Own.nil⟩) pulled)
      ·
        simp only [decide_eq_false_iff_not] at h33
        have hnb : ¬ 1048576 < n := by omega
        refine Vc.skip ?_
        refine Vc.seq ?_
        refine Vc.seq ?_
        refine Vc.text (List.range 4) (sd [(0, .pure), (1, .pure), (2, .pure), (3, .pure)]) rfl ?_
        refine Rg.pure rfl rfl rfl (Pv.move rfl) ?_
        refine Rg.pure rfl rfl rfl (Pv.lenS rfl) ?_
        refine Rg.pure rfl rfl rfl (Pv.asI (bs.length / 12) (Pv.quo rfl rfl (by omega)) (by omega)) ?_
        refine Rg.pure rfl rfl rfl (Pv.gtr rfl rfl) ?_
        refine Rg.nil ?_
        refine Vc.cond rfl (fun h38 => ?_) (fun h38 => ?_)
        ·
          simp only [decide_eq_true_eq] at h38
          have hd : decG bs = (0, [], 4, 1) := by
            have : 1048576 < bs.length / 12 := by omega
            simp [decG, hm, hn, this, hnb]
          refine Vc.seq ?_
          refine Vc.text (List.range 4) (sd [(0, .pure), (1, .eff), (2, .pure), (3, .pure)]) rfl ?_
          refine Rg.pure rfl rfl rfl (Pv.build rfl rfl) ?_
          refine Rg.storeA rfl rfl rfl rfl rfl rfl rfl rfl ?_
          refine Rg.pure rfl rfl rfl (Pv.assign rfl) ?_
          refine Rg.pure rfl rfl rfl (Pv.assign rfl) ?_
          refine Rg.nil ?_
          exact Vc.ret (Vc.retsH (hl' := []) rfl (.cons (.cellA rfl rfl) (.cons (.tmp rfl) (.cons (.tmp rfl) .nil))) (by rw [hd]; exact ⟨.slice none 0 0, rfl, Own.nil⟩) pulled)
        ·
          simp only [decide_eq_false_iff_not] at h38
          have hmb : ¬ 1048576 < bs.length / 12 := by omega
          have hlen12 : bs.length = 12 * (bs.length / 12) + 4 := by omega
          generalize hk : bs.length / 12 = many at hmb hlen12
          refine Vc.skip ?_
          refine Vc.seq ?_
          refine Vc.text (List.range 5) (sd [(0, .pure), (1, .pure), (2, .pure), (3, .eff), (4, .eff)]) rfl ?_
          refine Rg.pure rfl rfl rfl (Pv.move rfl) ?_
          refine Rg.pure rfl rfl rfl (Pv.asI n (Pv.convI rfl) (i64_wrap (by omega))) ?_
          refine Rg.pure rfl rfl rfl (Pv.build (c := #[.int .i64 (n : Int), .slice none 0 0]) rfl rfl) ?_
          refine Rg.alloc rfl rfl rfl rfl (fun b7 => ?_)
          refine Rg.storeA rfl rfl rfl rfl rfl rfl rfl rfl ?_
          refine Rg.nil ?_
          refine Vc.seq ?_
          refine Vc.seq ?_
          refine Vc.text (List.range 1) (sd [(0, .pure)]) rfl ?_
          refine Rg.pure rfl rfl rfl (Pv.assign rfl) ?_
          refine Rg.nil ?_
          refine Vc.block ?_
          refine Vc.loop3 (fun (i : Nat) (v : Value) (sg : Hl) => i ≤ many ∧ Own edgeE v ((List.range i).map (egAt bs)) sg ∧ scanE n bs 0 many = scanE n bs i (many - i)) (fun i v sg => [(0, .slice p bs.length c), (2, .pointer (some ⟨b2, 0, none⟩)), (5, .int .u64 (n : Int)), (7, .pointer (some ⟨b7, 0, none⟩)), (8, .int .i64 ((4 + 12 * i : Nat) : Int))]) (fun i v sg => (b7, cellsO [.int .i64 (n : Int), v] 24) :: (b2, cellsO [.int .i64 0, .slice none 0 0] 24) :: sg) (fun i v sg => many - i) 0 (.slice none 0 0) [] ⟨Nat.zero_le _, Own.nil, rfl⟩ (.cons rfl (.cons rfl (.cons rfl (.cons rfl (.cons rfl .nil))))) pulled ?_
          rintro i v sg ⟨h1, own, h4⟩
          refine Vc.seq ?_
          refine Vc.seq ?_
          refine Vc.text (List.range 4) (sd [(0, .pure), (1, .pure), (2, .pure), (3, .pure)]) rfl ?_
          refine Rg.pure rfl rfl rfl (Pv.move rfl) ?_
          refine Rg.pure rfl rfl rfl (Pv.move rfl) ?_
          refine Rg.pure rfl rfl rfl (Pv.lenS rfl) ?_
          refine Rg.pure rfl rfl rfl (Pv.lss rfl rfl) ?_
          refine Rg.nil ?_
          refine Vc.cond rfl (fun h46 => ?_) (fun h46 => ?_)
          ·
            simp only [decide_eq_true_eq] at h46
            rw [show many - i = (many - (i + 1)) + 1 by omega, scanE] at h4
            have hl1 := getB_lt bs (4 + 12 * i)
            have hl2 := getB_lt bs (4 + 12 * i + 4)
            have hl3 := getB_lt bs (4 + 12 * i + 8)
            refine Vc.skip ?_
            refine Vc.seq ?_
            refine Vc.block ?_
            refine Vc.seq ?_
            refine Vc.text (List.range 8) (sd [(0, .pure), (1, .pure), (2, .eff), (3, .pure), (4, .pure), (5, .pure), (6, .pure), (7, .pure)]) rfl ?_
            refine Rg.pure rfl rfl rfl (Pv.move rfl) ?_
            refine Rg.pure rfl rfl rfl (Pv.move rfl) ?_
            refine Rg.callP rfl rfl rfl (run_callF rfl) (rget_spec (ha.mono fun b o h => Or.inr h) hN (4 + 12 * i) 4 (by decide) (by decide) (by omega)) ?_
            rintro _ rfl
            refine Rg.pure rfl rfl rfl (Pv.move rfl) ?_
            refine Rg.pure rfl rfl rfl (Pv.extract rfl rfl) ?_
            refine Rg.pure rfl rfl rfl (Pv.extract rfl rfl) ?_
            refine Rg.pure rfl rfl rfl (Pv.assign rfl) ?_
            refine Rg.pure rfl rfl rfl (Pv.assign rfl) ?_
            refine Rg.nil ?_
            refine Vc.seq ?_
            refine Vc.text (List.range 9) (sd [(0, .pure), (1, .pure), (2, .pure), (3, .eff), (4, .pure), (5, .pure), (6, .pure), (7, .pure), (8, .pure)]) rfl ?_
            refine Rg.pure rfl rfl rfl (Pv.move rfl) ?_
            refine Rg.pure rfl rfl rfl (Pv.move rfl) ?_
            refine Rg.pure rfl rfl rfl (Pv.asI (4 + 12 * i + 4) (Pv.add rfl rfl (by omega)) (by omega)) ?_
            refine Rg.callP rfl rfl rfl (run_callF rfl) (rget_spec (ha.mono fun b o h => Or.inr h) hN (4 + 12 * i + 4) 4 (by decide) (by decide) (by omega)) ?_
            rintro _ rfl
            refine Rg.pure rfl rfl rfl (Pv.move rfl) ?_
            refine Rg.pure rfl rfl rfl (Pv.extract rfl rfl) ?_
            refine Rg.pure rfl rfl rfl (Pv.extract rfl rfl) ?_
            refine Rg.pure rfl rfl rfl (Pv.assign rfl) ?_
            refine Rg.pure rfl rfl rfl (Pv.assign rfl) ?_
            refine Rg.nil ?_
            refine Vc.seq ?_
            refine Vc.text (List.range 9) (sd [(0, .pure), (1, .pure), (2, .pure), (3, .eff), (4, .pure), (5, .pure), (6, .pure), (7, .pure), (8, .pure)]) rfl ?_
            refine Rg.pure rfl rfl rfl (Pv.move rfl) ?_
            refine Rg.pure rfl rfl rfl (Pv.move rfl) ?_
            refine Rg.pure rfl rfl rfl (Pv.asI (4 + 12 * i + 8) (Pv.add rfl rfl (by omega)) (by omega)) ?_
            refine Rg.callP rfl rfl rfl (run_callF rfl) (rget_spec (ha.mono fun b o h => Or.inr h) hN (4 + 12 * i + 8) 4 (by decide) (by decide) (by omega)) ?_
            rintro _ rfl
            refine Rg.pure rfl rfl rfl (Pv.move rfl) ?_
            refine Rg.pure rfl rfl rfl (Pv.extract rfl rfl) ?_
            refine Rg.pure rfl rfl rfl (Pv.extract rfl rfl) ?_
            refine Rg.pure rfl rfl rfl (Pv.assign rfl) ?_
            refine Rg.pure rfl rfl rfl (Pv.assign rfl) ?_
            refine Rg.nil ?_
            refine Vc.seq ?_
            refine Vc.seq ?_
            refine Vc.text (List.range 3) (sd [(0, .pure), (1, .pure), (2, .pure)]) rfl ?_
            refine Rg.pure rfl rfl rfl (Pv.move rfl) ?_
            refine Rg.pure rfl rfl rfl (Pv.move rfl) ?_
            refine Rg.pure rfl rfl rfl (Pv.geq rfl rfl) ?_
            refine Rg.nil ?_
            refine Vc.cond rfl (fun h71 => ?_) (fun h71 => ?_)
            ·
              simp only [decide_eq_true_eq] at h71
              rw [if_pos (show n ≤ (egAt bs i).f by show n ≤ getB bs (4 + 12 * i) 4; omega)] at h4
              have hd : decG bs = (0, [], 4 + 12 * i, 1) := by
                simp [decG, hm, hn, hnb, hk, hmb, h4]
              refine Vc.seq ?_
              refine Vc.text (List.range 5) (sd [(0, .pure), (1, .pure), (2, .eff), (3, .pure), (4, .pure)]) rfl ?_
              refine Rg.pure rfl rfl rfl (Pv.build rfl rfl) ?_
              refine Rg.pure rfl rfl rfl (Pv.move rfl) ?_
              refine Rg.storeA rfl rfl rfl rfl rfl rfl rfl rfl ?_
              refine Rg.pure rfl rfl rfl (Pv.assign rfl) ?_
              refine Rg.pure rfl rfl rfl (Pv.assign rfl) ?_
              refine Rg.nil ?_
              exact Vc.ret (Vc.retsH (hl' := []) rfl (.cons (.cellA rfl rfl) (.cons (.tmp rfl) (.cons (.tmp rfl) .nil))) (by rw [hd]; exact ⟨.slice none 0 0, rfl, Own.nil⟩) pulled)
            ·
              simp only [decide_eq_false_iff_not] at h71
              rw [if_neg (show ¬ n ≤ (egAt bs i).f by show ¬ n ≤ getB bs (4 + 12 * i) 4; omega)] at h4
              refine Vc.skip ?_
              refine Vc.seq ?_
              refine Vc.seq ?_
              refine Vc.text (List.range 3) (sd [(0, .pure), (1, .pure), (2, .pure)]) rfl ?_
              refine Rg.pure rfl rfl rfl (Pv.move rfl) ?_
              refine Rg.pure rfl rfl rfl (Pv.move rfl) ?_
              refine Rg.pure rfl rfl rfl (Pv.geq rfl rfl) ?_
              refine Rg.nil ?_
              refine Vc.cond rfl (fun h76 => ?_) (fun h76 => ?_)
              ·
                simp only [decide_eq_true_eq] at h76
                rw [if_pos (show n ≤ (egAt bs i).t by show n ≤ getB bs (4 + 12 * i + 4) 4; omega)] at h4
                have hd : decG bs = (0, [], 4 + 12 * i + 4, 1) := by
                  simp [decG, hm, hn, hnb, hk, hmb, h4]
                refine Vc.seq ?_
                refine Vc.text (List.range 6) (sd [(0, .pure), (1, .pure), (2, .pure), (3, .eff), (4, .pure), (5, .pure)]) rfl ?_
                refine Rg.pure rfl rfl rfl (Pv.build rfl rfl) ?_
                refine Rg.pure rfl rfl rfl (Pv.move rfl) ?_
                refine Rg.pure rfl rfl rfl (Pv.asI (4 + 12 * i + 4) (Pv.add rfl rfl (by omega)) (by omega)) ?_
                refine Rg.storeA rfl rfl rfl rfl rfl rfl rfl rfl ?_
                refine Rg.pure rfl rfl rfl (Pv.assign rfl) ?_
                refine Rg.pure rfl rfl rfl (Pv.assign rfl) ?_
                refine Rg.nil ?_
                exact Vc.ret (Vc.retsH (hl' := []) rfl (.cons (.cellA rfl rfl) (.cons (.tmp rfl) (.cons (.tmp rfl) .nil))) (by rw [hd]; exact ⟨.slice none 0 0, rfl, Own.nil⟩) pulled)
              ·
                simp only [decide_eq_false_iff_not] at h76
                rw [if_neg (show ¬ n ≤ (egAt bs i).t by show ¬ n ≤ getB bs (4 + 12 * i + 4) 4; omega)] at h4
                refine Vc.skip ?_
                refine Vc.text (List.range 13) (sd [(0, .pure), (1, .read), (2, .pure), (3, .pure), (4, .pure), (5, .pure), (6, .pure), (7, .pure), (8, .pure), (9, .eff), (10, .eff), (11, .pure), (12, .eff)]) rfl ?_
                refine Rg.pure rfl rfl rfl (Pv.fa rfl) ?_
                refine Rg.read rfl rfl rfl (Ev.ld rfl rfl) ?_
                refine Rg.pure rfl rfl rfl (Pv.move rfl) ?_
                refine Rg.pure rfl rfl rfl (Pv.asI (egAt bs i).f (Pv.convI rfl) (wrap_ult rfl (by show _ < 2 ^ 32; omega))) ?_
                refine Rg.pure rfl rfl rfl (Pv.move rfl) ?_
                refine Rg.pure rfl rfl rfl (Pv.asI (egAt bs i).t (Pv.convI rfl) (wrap_ult rfl (by show _ < 2 ^ 32; omega))) ?_
                refine Rg.pure rfl rfl rfl (Pv.move rfl) ?_
                refine Rg.pure rfl rfl rfl (Pv.asI (egAt bs i).w (Pv.convI rfl) (wrap_ult rfl (by show _ < 2 ^ 32; omega))) ?_
                refine Rg.pure rfl rfl rfl (Pv.build rfl rfl) ?_
                refine Rg.bslice1 rfl rfl rfl rfl rfl rfl rfl (fun b89 => ?_)
                refine Rg.append rfl rfl rfl rfl rfl own (Src.one (y := egAt bs i) rfl) (by simp <;> omega) (by simp [maxLen] <;> omega) rfl (fun v90 s90 own90 => ?_)
                refine Rg.pure rfl rfl rfl (Pv.fa rfl) ?_
                refine Rg.store rfl rfl rfl rfl rfl own90.one rfl rfl ?_
                refine Rg.nil ?_
                refine Vc.blk ?_
                refine Vc.text (List.range 3) (sd [(0, .pure), (1, .pure), (2, .pure)]) rfl ?_
                refine Rg.pure rfl rfl rfl (Pv.move rfl) ?_
                refine Rg.pure rfl rfl rfl (Pv.asI (4 + 12 * (i + 1)) (Pv.add rfl rfl (by omega)) (by omega)) ?_
                refine Rg.pure rfl rfl rfl (Pv.assign rfl) ?_
                refine Rg.nil ?_
                exact Vc.inv3 (i + 1) v90 s90 ⟨⟨by omega, by rw [List.range_succ, List.map_append]; exact own90, h4⟩, by omega⟩ (.cons rfl (.cons rfl (.cons rfl (.cons rfl (.cons rfl .nil))))) pulled
          ·
            simp only [decide_eq_false_iff_not] at h46
            obtain rfl : i = many := by omega
            rw [Nat.sub_self, scanE] at h4
            obtain ⟨qv, cv, rfl⟩ := own.shape
            have hd : decG bs = (n, (List.range i).map (egAt bs), 0, 0) := by
              simp [decG, hm, hn, hnb, hk, hmb, h4]
            refine Vc.exit rfl ?_
            refine Vc.seq ?_
            refine Vc.text (List.range 4) (sd [(0, .read), (1, .eff), (2, .pure), (3, .pure)]) rfl ?_
            refine Rg.read rfl rfl rfl (Ev.ldA rfl rfl) ?_
            refine Rg.storeA rfl rfl rfl rfl rfl rfl rfl rfl ?_
            refine Rg.pure rfl rfl rfl (Pv.assign rfl) ?_
            refine Rg.pure rfl rfl rfl (Pv.assign rfl) ?_
            refine Rg.nil ?_
            exact Vc.ret (Vc.retsH (hl' := sg) rfl (.cons (.cellA rfl rfl) (.cons (.tmp rfl) (.cons (.tmp rfl) .nil))) (by rw [hd]; exact ⟨_, rfl, own⟩) pulled)
end Go.Proofs.Ytjoldkfedmiciaa
