/- The statements' functions: EdgesParts, EdgesCut. -/
import Derived.Test.YtjoldkfedmiciaaEdL
import Derived.Test.YtjoldkfedmiciaaSlP
namespace Go.Proofs.Ytjoldkfedmiciaa
set_option linter.unusedVariables false

theorem decG_cut {bs : List UInt8} (h : bs.length % 12 ≠ 4) : decG bs = (0, [], bs.length, 2) := by simp [decG, h]
theorem parts_dec {M : Nat} {es fs : List Eg} (hE : ∀ e ∈ es, InE e) (hF : ∀ e ∈ fs, InE e) (h1 : rightG (M : Int) es = true) (h2 : rightG (M : Int) fs = true) (hl : es.length ≤ 40) (hm : fs.length ≤ 40) :
    decG ([] ++ encG M es ++ (encG M fs).drop 4) = (M, es ++ fs, 0, 0) := by
  obtain ⟨a1, a2, a3⟩ := rightG_all h1
  obtain ⟨b1, b2, b3⟩ := rightG_all h2
  have e : [] ++ encG M es ++ (encG M fs).drop 4 = encG M (es ++ fs) := by
    rw [encG_app, List.nil_append]
    congr 1
  rw [e]
  refine dec_enc (fun x hx => ?_) (rightG_mk a1 (by simp; omega) fun x hx => ?_)
  · rcases List.mem_append.1 hx with h | h
    · exact hE x h
    · exact hF x h
  · rcases List.mem_append.1 hx with h | h
    · exact a3 x h
    · exact b3 x h
theorem right_max {n m : Nat} {es : List Eg} (h : rightG (n : Int) es = true) (hm : m ≤ 1048576) : rightG ((max n m : Nat) : Int) es = true := by
  obtain ⟨a1, a2, a3⟩ := rightG_all h
  exact rightG_mk (by omega) a2 fun e he => by have := a3 e he; omega

set_option maxHeartbeats 1000000 in
theorem EdgesParts_spec (F : Fm) (N M : Int) (v0 v1 : Value) (es0 fs0 : List Eg) (ha : Arg edgeE F v0 es0) (hb : Arg edgeE F v1 fs0) (hE0 : ∀ e ∈ es0, InE e) (hF0 : ∀ e ∈ fs0, InE e) :
    Spec Try.prog 8 #[grV N v0, grV M v1] F [] fun v _ => v = .bool true := by
  obtain ⟨p0, c0, rfl⟩ := ha.shape
  obtain ⟨p1, c1, rfl⟩ := hb.shape
  have hle := take40_len es0
  have hlf := take40_len fs0
  have hE := take40_in hE0
  have hF := take40_in hF0
  refine Spec.of (n := 98) (vs := [grV N (.slice p0 es0.length c0), grV M (.slice p1 fs0.length c1)]) Try.func8 rfl Try.ntmps8 rfl ?_
  refine Vc.seq ?_
  refine Vc.text (List.range 3) (sd [(0, .eff), (1, .eff), (2, .pure)]) rfl ?_
  refine Rg.box rfl rfl rfl rfl rfl (fun b2 => ?_)
  refine Rg.box rfl rfl rfl rfl rfl (fun b3 => ?_)
  refine Rg.pure rfl rfl rfl (Pv.assign rfl) ?_
  refine Rg.nil ?_
  refine Vc.seq ?_
  refine Vc.text (List.range 2) (sd [(0, .eff), (1, .pure)]) rfl ?_
  refine Rg.callP rfl rfl rfl (run_callF rfl) (shown_spec _) ?_
  rintro _ rfl
  refine Rg.pure rfl rfl rfl (Pv.assign rfl) ?_
  refine Rg.nil ?_
  refine Vc.seq ?_
  refine Vc.text (List.range 3) (sd [(0, .read), (1, .eff), (2, .eff)]) rfl ?_
  refine Rg.read rfl rfl rfl (Ev.ldA rfl rfl) ?_
  refine Rg.callA rfl rfl rfl (run_callF rfl) (few_spec (ha.mono fun b o h => Or.inr h) N) ?_
  rintro _ s16 ⟨u, rfl, own⟩
  generalize es0.take 40 = es at own hle hE
  obtain ⟨q, c, rfl⟩ := own.shape
  refine Rg.storeA rfl rfl rfl rfl rfl rfl rfl rfl ?_
  refine Rg.nil ?_
  refine Vc.seq ?_
  refine Vc.text (List.range 3) (sd [(0, .read), (1, .eff), (2, .eff)]) rfl ?_
  refine Rg.read rfl rfl rfl (Ev.ldA rfl rfl) ?_
  refine Rg.callA rfl rfl rfl (run_callF rfl) (few_spec (hb.mono fun b o h => Or.inr h) M) ?_
  rintro _ s18 ⟨u2, rfl, own2⟩
  generalize fs0.take 40 = fs at own2 hlf hF
  obtain ⟨q2, c2, rfl⟩ := own2.shape
  refine Rg.storeA rfl rfl rfl rfl rfl rfl rfl rfl ?_
  refine Rg.nil ?_
  refine Vc.seq ?_
  refine Vc.seq ?_
  refine Vc.text (List.range 8) (sd [(0, .read), (1, .eff), (2, .pure), (3, .pure), (4, .read), (5, .eff), (6, .pure), (7, .pure)]) rfl ?_
  refine Rg.read rfl rfl rfl (Ev.ldA rfl rfl) ?_
  refine Rg.callP rfl rfl rfl (run_callF rfl) (right_spec (Arg.own own frz_sb) (by omega) hE N) ?_
  rintro _ rfl
  refine Rg.pure rfl rfl rfl (Pv.not rfl) ?_
  refine Rg.pure rfl rfl rfl (Pv.move rfl) ?_
  refine Rg.split (t := 22) rfl (fun h22 => ?_) (fun h22 => ?_)
  ·
    iterate 3 (first | refine Rg.skipP rfl rfl rfl ?_ | refine Rg.skipR rfl rfl rfl ?_ | refine Rg.skipE rfl rfl rfl ?_)
    refine Rg.pure rfl rfl rfl (Pv.pickT rfl rfl) ?_
    refine Rg.nil ?_
    refine Vc.condT rfl ?_
    refine Vc.seq ?_
    refine Vc.text (List.range 2) (sd [(0, .pure), (1, .pure)]) rfl ?_
    refine Rg.pure rfl rfl rfl (Pv.move rfl) ?_
    refine Rg.pure rfl rfl rfl (Pv.assign rfl) ?_
    refine Rg.nil ?_
    refine Vc.ret (Vc.rets rfl (.cons (.tmp rfl) (.nil)) ?_)
    rfl
  ·
    refine Rg.read rfl rfl rfl (Ev.ldA rfl rfl) ?_
    refine Rg.callP rfl rfl rfl (run_callF rfl) (right_spec (Arg.own own2 frz_sb) (by omega) hF M) ?_
    rintro _ rfl
    refine Rg.pure rfl rfl rfl (Pv.not rfl) ?_
    refine Rg.pure rfl rfl rfl (Pv.pickF rfl rfl) ?_
    refine Rg.nil ?_
    refine Vc.cond rfl (fun h26 => ?_) (fun h26 => ?_)
    ·
      refine Vc.seq ?_
      refine Vc.text (List.range 2) (sd [(0, .pure), (1, .pure)]) rfl ?_
      refine Rg.pure rfl rfl rfl (Pv.move rfl) ?_
      refine Rg.pure rfl rfl rfl (Pv.assign rfl) ?_
      refine Rg.nil ?_
      refine Vc.ret (Vc.rets rfl (.cons (.tmp rfl) (.nil)) ?_)
      rfl
    ·
      have hr : rightG N es = true := (by simpa using h22)
      have hr2 : rightG M fs = true := (by simpa using h26)
      obtain ⟨n, rfl, hn⟩ := rightG_nat hr
      obtain ⟨m, rfl, hm⟩ := rightG_nat hr2
      have hr3 := right_max hr hm
      have hr4 := right_max hr2 hn
      rw [Nat.max_comm m n] at hr4
      obtain ⟨k, hk⟩ : ∃ k, k = max n m := ⟨_, rfl⟩
      rw [← hk] at hr3 hr4
      refine Vc.skip ?_
      refine Vc.seq ?_
      refine Vc.text (List.range 6) (sd [(0, .pure), (1, .read), (2, .pure), (3, .read), (4, .pure), (5, .pure)]) rfl ?_
      refine Rg.pure rfl rfl rfl (Pv.fa rfl) ?_
      refine Rg.read rfl rfl rfl (Ev.ld rfl rfl) ?_
      refine Rg.pure rfl rfl rfl (Pv.fa rfl) ?_
      refine Rg.read rfl rfl rfl (Ev.ld rfl rfl) ?_
      refine Rg.pure rfl rfl rfl (Pv.asI (k) (Pv.max rfl rfl) (by omega)) ?_
      refine Rg.pure rfl rfl rfl (Pv.assign rfl) ?_
      refine Rg.nil ?_
      refine Vc.seq ?_
      refine Vc.text (List.range 10) (sd [(0, .pure), (1, .pure), (2, .read), (3, .pure), (4, .eff), (5, .pure), (6, .pure), (7, .pure), (8, .pure), (9, .pure)]) rfl ?_
      refine Rg.pure rfl rfl rfl (Pv.move rfl) ?_
      refine Rg.pure rfl rfl rfl (Pv.fa rfl) ?_
      refine Rg.read rfl rfl rfl (Ev.ld rfl rfl) ?_
      refine Rg.pure rfl rfl rfl (Pv.build rfl rfl) ?_
      refine Rg.callA rfl rfl rfl (run_callF rfl) (encode_spec (Arg.own own frz_sb) (by omega) hE (k : Int)) ?_
      rintro _ s38 (⟨_, u38, rfl, own38⟩ | ⟨h, _⟩)
      rotate_left
      · rw [hr3] at h; cases h
      rw [show (k : Int).toNat = k by simp] at own38
      have hl38 := encG_length k es
      refine Rg.pure rfl rfl rfl (Pv.move rfl) ?_
      refine Rg.pure rfl rfl rfl (Pv.extract rfl rfl) ?_
      refine Rg.pure rfl rfl rfl (Pv.extract rfl rfl) ?_
      refine Rg.pure rfl rfl rfl (Pv.assign rfl) ?_
      refine Rg.pure rfl rfl rfl (Pv.assign rfl) ?_
      refine Rg.nil ?_
      refine Vc.seq ?_
      refine Vc.text (List.range 10) (sd [(0, .pure), (1, .pure), (2, .read), (3, .pure), (4, .eff), (5, .pure), (6, .pure), (7, .pure), (8, .pure), (9, .pure)]) rfl ?_
      refine Rg.pure rfl rfl rfl (Pv.move rfl) ?_
      refine Rg.pure rfl rfl rfl (Pv.fa rfl) ?_
      refine Rg.read rfl rfl rfl (Ev.ld rfl rfl) ?_
      refine Rg.pure rfl rfl rfl (Pv.build rfl rfl) ?_
      refine Rg.callA rfl rfl rfl (run_callF rfl) (encode_spec (Arg.own own2 frz_sb) (by omega) hF (k : Int)) ?_
      rintro _ s46 (⟨_, u46, rfl, own46⟩ | ⟨h, _⟩)
      rotate_left
      · rw [hr4] at h; cases h
      rw [show (k : Int).toNat = k by simp] at own46
      have hl46 := encG_length k fs
      obtain ⟨b46, c46, sp46, rfl, rfl, hc46, _⟩ := own46.block (by omega)
      rw [show byteE.k = 1 from rfl] at hc46
      refine Rg.pure rfl rfl rfl (Pv.move rfl) ?_
      refine Rg.pure rfl rfl rfl (Pv.extract rfl rfl) ?_
      refine Rg.pure rfl rfl rfl (Pv.extract rfl rfl) ?_
      refine Rg.pure rfl rfl rfl (Pv.assign rfl) ?_
      refine Rg.pure rfl rfl rfl (Pv.assign rfl) ?_
      refine Rg.nil ?_
      refine Vc.seq ?_
      refine Vc.seq ?_
      refine Vc.text (List.range 11) (sd [(0, .pure), (1, .pure), (2, .pure), (3, .pure), (4, .pure), (5, .pure), (6, .pure), (7, .pure), (8, .pure), (9, .pure), (10, .pure)]) rfl ?_
      refine Rg.pure rfl rfl rfl (Pv.move rfl) ?_
      refine Rg.pure rfl rfl rfl (Pv.neq rfl rfl) ?_
      refine Rg.pure rfl rfl rfl (Pv.move rfl) ?_
      refine Rg.split (t := 51) rfl (fun h51 => absurd h51 (by decide)) (fun h51 => ?_)
      refine Rg.pure rfl rfl rfl (Pv.move rfl) ?_
      refine Rg.pure rfl rfl rfl (Pv.neq rfl rfl) ?_
      refine Rg.pure rfl rfl rfl (Pv.pickF rfl rfl) ?_
      refine Rg.pure rfl rfl rfl (Pv.move rfl) ?_
      refine Rg.split (t := 55) rfl (fun h55 => absurd h55 (by decide)) (fun h55 => ?_)
      refine Rg.pure rfl rfl rfl (Pv.move rfl) ?_
      refine Rg.pure rfl rfl rfl (Pv.lenS rfl) ?_
      refine Rg.pure rfl rfl rfl (Pv.lss rfl rfl) ?_
      refine Rg.pure rfl rfl rfl (Pv.pickF rfl rfl) ?_
      refine Rg.nil ?_
      refine Vc.cond rfl (fun h59 => absurd h59 (by simp only [decide_eq_true_eq]; omega)) (fun h59 => ?_)
      refine Vc.skip ?_
      refine Vc.seq ?_
      refine Vc.cut4 (fun (b11 : Nat) (q67 : Option Addr) (c67 : Nat) (s67 : Hl) => Own edgeE (.slice q67 (es ++ fs).length c67) (es ++ fs) s67) (fun b11 q67 c67 s67 => [(2, .pointer (some ⟨b2, 0, none⟩)), (3, .pointer (some ⟨b3, 0, none⟩)), (5, .bool true), (6, .int .i64 (k : Int)), (11, .pointer (some ⟨b11, 0, none⟩)), (12, .int .i64 0), (13, .int .i64 0)]) (fun b11 q67 c67 s67 => (b11, cellsO [.int .i64 (k : Int), .slice q67 (es ++ fs).length c67] 24) :: (b2, cellsO [.int .i64 (n : Int), .slice q es.length c] 24) :: (b3, cellsO [.int .i64 (m : Int), .slice q2 fs.length c2] 24) :: (s67 ++ (s16 ++ s18))) ?_ ?_
      ·
        refine Vc.draw [2, 5, 12] (.st 1 .pure (.st 3 .pure (.st 4 .pure (.two 0 (.two 2 (.two 5 (.two 6 (sd [(7, .pure), (8, .pure), (9, .pure), (10, .pure), (11, .eff), (12, .eff), (13, .pure), (14, .pure)]) 11 (sd [(6, .eff), (7, .pure), (8, .pure), (9, .pure), (10, .pure), (12, .eff), (13, .pure), (14, .pure)])) 11 (sd [(5, .eff), (6, .eff), (7, .pure), (8, .pure), (9, .pure), (10, .pure), (12, .eff), (13, .pure), (14, .pure)])) 11 (sd [(2, .eff), (5, .eff), (6, .eff), (7, .pure), (8, .pure), (9, .pure), (10, .pure), (12, .eff), (13, .pure), (14, .pure)])) 11 (sd [(0, .eff), (2, .eff), (5, .eff), (6, .eff), (7, .pure), (8, .pure), (9, .pure), (10, .pure), (12, .eff), (13, .pure), (14, .pure)]))))) mixed (by kernel_rfl) ?_
        refine Rg.pure rfl rfl rfl (Pv.move rfl) ?_
        refine Rg.pure rfl rfl rfl (Pv.move rfl) ?_
        refine Rg.pure rfl rfl rfl (Pv.slFrom (4) rfl rfl (by omega) (by omega)) ?_
        refine Rg.two ?_ ?_
        ·
          refine Rg.bslice0 (E := byteE) rfl rfl rfl (fun b61 own61 => ?_)
          refine Rg.two ?_ ?_
          ·
            refine Rg.append rfl rfl rfl rfl rfl own61 (Src.own (rest := []) own38 Sb.sub) (by simp <;> omega) (by simp [maxLen] <;> omega) rfl (fun v63 s63 own63 => ?_)
            refine Rg.two ?_ ?_
            ·
              refine Rg.append rfl rfl rfl rfl rfl own63 (Src.behind (k := 4) (by omega) (by omega)) (by simp <;> omega) (by simp [maxLen] <;> omega) rfl (fun v66 s66 own66 => ?_)
              have hd := parts_dec hE hF hr3 hr4 hle hlf
              have hl66 : ([] ++ encG k es ++ (encG k fs).drop 4).length ≤ 1000 := (by simp [hl38, hl46]; omega)
              generalize [] ++ encG k es ++ (encG k fs).drop 4 = zs at hd own66 hl66
              refine Rg.two ?_ ?_
              ·
                refine Rg.callA rfl rfl rfl (run_callF rfl) (decode_spec (Arg.own own66 frz_sb) (by omega)) ?_
                rintro _ s67 ⟨u67, rfl, own67⟩
                simp only [hd] at own67 ⊢
                obtain ⟨q67, c67, rfl⟩ := own67.shape
                refine Rg.pure rfl rfl rfl (Pv.move rfl) ?_
                refine Rg.pure rfl rfl rfl (Pv.extract rfl rfl) ?_
                refine Rg.pure rfl rfl rfl (Pv.extract rfl rfl) ?_
                refine Rg.pure rfl rfl rfl (Pv.extract rfl rfl) ?_
                refine Rg.alloc rfl rfl rfl rfl (fun b11 => ?_)
                refine Rg.storeA rfl rfl rfl rfl rfl rfl rfl rfl ?_
                refine Rg.pure rfl rfl rfl (Pv.assign rfl) ?_
                refine Rg.pure rfl rfl rfl (Pv.assign rfl) ?_
                refine Rg.nil ?_
                exact Vc.inv4 b11 _ _ s67 own67 (.cons rfl (.cons rfl (.cons rfl (.cons rfl (.cons rfl (.cons rfl (.cons rfl .nil))))))) pulled
              ·
                refine Rg.alloc rfl rfl rfl rfl (fun b11 => ?_)
                refine Rg.callA rfl rfl rfl (run_callF rfl) (decode_spec (Arg.own own66 frz_sb) (by omega)) ?_
                rintro _ s67 ⟨u67, rfl, own67⟩
                simp only [hd] at own67 ⊢
                obtain ⟨q67, c67, rfl⟩ := own67.shape
                refine Rg.pure rfl rfl rfl (Pv.move rfl) ?_
                refine Rg.pure rfl rfl rfl (Pv.extract rfl rfl) ?_
                refine Rg.pure rfl rfl rfl (Pv.extract rfl rfl) ?_
                refine Rg.pure rfl rfl rfl (Pv.extract rfl rfl) ?_
                refine Rg.storeA rfl rfl rfl rfl rfl rfl rfl rfl ?_
                refine Rg.pure rfl rfl rfl (Pv.assign rfl) ?_
                refine Rg.pure rfl rfl rfl (Pv.assign rfl) ?_
                refine Rg.nil ?_
                exact Vc.inv4 b11 _ _ s67 own67 (.cons rfl (.cons rfl (.cons rfl (.cons rfl (.cons rfl (.cons rfl (.cons rfl .nil))))))) pulled
            ·
              refine Rg.alloc rfl rfl rfl rfl (fun b11 => ?_)
              refine Rg.append rfl rfl rfl rfl rfl own63 (Src.behind (k := 4) (by omega) (by omega)) (by simp <;> omega) (by simp [maxLen] <;> omega) rfl (fun v66 s66 own66 => ?_)
              have hd := parts_dec hE hF hr3 hr4 hle hlf
              have hl66 : ([] ++ encG k es ++ (encG k fs).drop 4).length ≤ 1000 := (by simp [hl38, hl46]; omega)
              generalize [] ++ encG k es ++ (encG k fs).drop 4 = zs at hd own66 hl66
              refine Rg.callA rfl rfl rfl (run_callF rfl) (decode_spec (Arg.own own66 frz_sb) (by omega)) ?_
              rintro _ s67 ⟨u67, rfl, own67⟩
              simp only [hd] at own67 ⊢
              obtain ⟨q67, c67, rfl⟩ := own67.shape
              refine Rg.pure rfl rfl rfl (Pv.move rfl) ?_
              refine Rg.pure rfl rfl rfl (Pv.extract rfl rfl) ?_
              refine Rg.pure rfl rfl rfl (Pv.extract rfl rfl) ?_
              refine Rg.pure rfl rfl rfl (Pv.extract rfl rfl) ?_
              refine Rg.storeA rfl rfl rfl rfl rfl rfl rfl rfl ?_
              refine Rg.pure rfl rfl rfl (Pv.assign rfl) ?_
              refine Rg.pure rfl rfl rfl (Pv.assign rfl) ?_
              refine Rg.nil ?_
              exact Vc.inv4 b11 _ _ s67 own67 (.cons rfl (.cons rfl (.cons rfl (.cons rfl (.cons rfl (.cons rfl (.cons rfl .nil))))))) pulled
          ·
            refine Rg.alloc rfl rfl rfl rfl (fun b11 => ?_)
            refine Rg.append rfl rfl rfl rfl rfl own61 (Src.own (rest := []) own38 Sb.sub) (by simp <;> omega) (by simp [maxLen] <;> omega) rfl (fun v63 s63 own63 => ?_)
            refine Rg.append rfl rfl rfl rfl rfl own63 (Src.behind (k := 4) (by omega) (by omega)) (by simp <;> omega) (by simp [maxLen] <;> omega) rfl (fun v66 s66 own66 => ?_)
            have hd := parts_dec hE hF hr3 hr4 hle hlf
            have hl66 : ([] ++ encG k es ++ (encG k fs).drop 4).length ≤ 1000 := (by simp [hl38, hl46]; omega)
            generalize [] ++ encG k es ++ (encG k fs).drop 4 = zs at hd own66 hl66
            refine Rg.callA rfl rfl rfl (run_callF rfl) (decode_spec (Arg.own own66 frz_sb) (by omega)) ?_
            rintro _ s67 ⟨u67, rfl, own67⟩
            simp only [hd] at own67 ⊢
            obtain ⟨q67, c67, rfl⟩ := own67.shape
            refine Rg.pure rfl rfl rfl (Pv.move rfl) ?_
            refine Rg.pure rfl rfl rfl (Pv.extract rfl rfl) ?_
            refine Rg.pure rfl rfl rfl (Pv.extract rfl rfl) ?_
            refine Rg.pure rfl rfl rfl (Pv.extract rfl rfl) ?_
            refine Rg.storeA rfl rfl rfl rfl rfl rfl rfl rfl ?_
            refine Rg.pure rfl rfl rfl (Pv.assign rfl) ?_
            refine Rg.pure rfl rfl rfl (Pv.assign rfl) ?_
            refine Rg.nil ?_
            exact Vc.inv4 b11 _ _ s67 own67 (.cons rfl (.cons rfl (.cons rfl (.cons rfl (.cons rfl (.cons rfl (.cons rfl .nil))))))) pulled
        ·
          refine Rg.alloc rfl rfl rfl rfl (fun b11 => ?_)
          refine Rg.bslice0 (E := byteE) rfl rfl rfl (fun b61 own61 => ?_)
          refine Rg.append rfl rfl rfl rfl rfl own61 (Src.own (rest := []) own38 Sb.sub) (by simp <;> omega) (by simp [maxLen] <;> omega) rfl (fun v63 s63 own63 => ?_)
          refine Rg.append rfl rfl rfl rfl rfl own63 (Src.behind (k := 4) (by omega) (by omega)) (by simp <;> omega) (by simp [maxLen] <;> omega) rfl (fun v66 s66 own66 => ?_)
          have hd := parts_dec hE hF hr3 hr4 hle hlf
          have hl66 : ([] ++ encG k es ++ (encG k fs).drop 4).length ≤ 1000 := (by simp [hl38, hl46]; omega)
          generalize [] ++ encG k es ++ (encG k fs).drop 4 = zs at hd own66 hl66
          refine Rg.callA rfl rfl rfl (run_callF rfl) (decode_spec (Arg.own own66 frz_sb) (by omega)) ?_
          rintro _ s67 ⟨u67, rfl, own67⟩
          simp only [hd] at own67 ⊢
          obtain ⟨q67, c67, rfl⟩ := own67.shape
          refine Rg.pure rfl rfl rfl (Pv.move rfl) ?_
          refine Rg.pure rfl rfl rfl (Pv.extract rfl rfl) ?_
          refine Rg.pure rfl rfl rfl (Pv.extract rfl rfl) ?_
          refine Rg.pure rfl rfl rfl (Pv.extract rfl rfl) ?_
          refine Rg.storeA rfl rfl rfl rfl rfl rfl rfl rfl ?_
          refine Rg.pure rfl rfl rfl (Pv.assign rfl) ?_
          refine Rg.pure rfl rfl rfl (Pv.assign rfl) ?_
          refine Rg.nil ?_
          exact Vc.inv4 b11 _ _ s67 own67 (.cons rfl (.cons rfl (.cons rfl (.cons rfl (.cons rfl (.cons rfl (.cons rfl .nil))))))) pulled
      ·
        rintro b11 q67 c67 s67 own67
        refine Vc.seq ?_
        refine Vc.drawS [25] (sd [(0, .pure), (1, .pure), (2, .pure), (3, .pure), (4, .pure), (5, .pure), (6, .pure), (7, .pure), (8, .pure), (9, .pure), (10, .pure), (11, .read), (12, .pure), (13, .pure), (14, .pure), (15, .pure), (16, .pure), (17, .read), (19, .pure), (20, .read), (22, .pure), (23, .read), (18, .eff), (21, .eff), (24, .eff), (25, .eff), (26, .pure), (27, .pure)]) [(b11, cellsO [.int .i64 (k : Int), .slice q67 (es ++ fs).length c67] 24), (b2, cellsO [.int .i64 (n : Int), .slice q es.length c] 24), (b3, cellsO [.int .i64 (m : Int), .slice q2 fs.length c2] 24)] pulled mixed (by kernel_rfl) ?_
        refine Rg.pure rfl rfl rfl (Pv.move rfl) ?_
        refine Rg.pure rfl rfl rfl (Pv.move rfl) ?_
        refine Rg.split (t := 72) rfl (fun h72 => ?_) (fun h72 => absurd h72 (by decide))
        refine Rg.pure rfl rfl rfl (Pv.move rfl) ?_
        refine Rg.pure rfl rfl rfl (Pv.eql rfl rfl) ?_
        refine Rg.pure rfl rfl rfl (Pv.pickT rfl rfl) ?_
        refine Rg.pure rfl rfl rfl (Pv.move rfl) ?_
        refine Rg.split (t := 76) rfl (fun h76 => ?_) (fun h76 => absurd h76 (by decide))
        refine Rg.pure rfl rfl rfl (Pv.move rfl) ?_
        refine Rg.pure rfl rfl rfl (Pv.eql rfl rfl) ?_
        refine Rg.pure rfl rfl rfl (Pv.pickT rfl rfl) ?_
        refine Rg.pure rfl rfl rfl (Pv.move rfl) ?_
        refine Rg.split (t := 80) rfl (fun h80 => ?_) (fun h80 => absurd h80 (by decide))
        refine Rg.pure rfl rfl rfl (Pv.fa rfl) ?_
        refine Rg.read rfl rfl rfl (Ev.ld rfl rfl) ?_
        refine Rg.pure rfl rfl rfl (Pv.move rfl) ?_
        refine Rg.pure rfl rfl rfl (Pv.eql rfl rfl) ?_
        refine Rg.pure rfl rfl rfl (Pv.pickT rfl rfl) ?_
        refine Rg.pure rfl rfl rfl (Pv.move rfl) ?_
        refine Rg.split (t := 86) rfl (fun h86 => ?_) (fun h86 => absurd h86 (by simp))
        refine Rg.pure rfl rfl rfl (Pv.fa rfl) ?_
        refine Rg.read rfl rfl rfl (Ev.ld rfl rfl) ?_
        refine Rg.pure rfl rfl rfl (Pv.fa rfl) ?_
        refine Rg.read rfl rfl rfl (Ev.ld rfl rfl) ?_
        refine Rg.pure rfl rfl rfl (Pv.fa rfl) ?_
        refine Rg.read rfl rfl rfl (Ev.ld rfl rfl) ?_
        refine Rg.bslice0N (E := edgeE) rfl rfl rfl (fun b89 own89 => ?_)
        refine Rg.appendN rfl rfl rfl rfl rfl own89 (Src.own (rest := []) own Sb.sub) (by simp <;> omega) (by simp [maxLen] <;> omega) (fun v92 s92 own92 => ?_)
        refine Rg.appendN rfl rfl rfl rfl rfl own92 (Src.own (rest := []) own2 Sb.sub) (by simp <;> omega) (by simp [maxLen] <;> omega) (fun v95 s95 own95 => ?_)
        refine Rg.callAC rfl rfl rfl (run_callF rfl) (alike_spec (Arg.own own67 frz_sb) (Arg.own own95 frz_sb) (by simp; omega) (by simp; omega)) rfl ?_
        rintro _ s96 rfl
        refine Rg.pure rfl rfl rfl (Pv.pickT rfl rfl) ?_
        refine Rg.pure rfl rfl rfl (Pv.assign rfl) ?_
        refine Rg.nil ?_
        refine Vc.ret (Vc.rets rfl (.cons (.tmp rfl) (.nil)) ?_)
        exact congrArg Value.bool (by simp)

theorem cut_len {n m : Nat} (h1 : 1 ≤ m) (h2 : m ≤ 11) : (4 + 12 * n - m) % 12 ≠ 4 := by omega
theorem more_dec {M : Nat} {es : List Eg} (hE : ∀ e ∈ es, InE e) (h : rightG (M : Int) es = true) (more : List UInt8) :
    ∃ A B p er, decG ([] ++ encG M es ++ more.take (min more.length 11)) = (A, B, p, er) ∧ (more.length = 0 → er = 0) ∧ (more.length ≠ 0 → er = 2 ∧ p = ([] ++ encG M es ++ more.take (min more.length 11)).length) := by
  by_cases h0 : more.length = 0
  · obtain rfl : more = [] := List.length_eq_zero_iff.1 h0
    exact ⟨M, es, 0, 0, by simp [dec_enc hE h], fun _ => rfl, fun h1 => absurd h0 h1⟩
  · have hl := encG_length M es
    exact ⟨_, _, _, _, decG_cut (by simp [hl]; omega), fun h1 => absurd h1 h0, fun _ => ⟨rfl, rfl⟩⟩

set_option maxHeartbeats 1000000 in
theorem EdgesCut_spec (F : Fm) (N : Int) (v0 v2 : Value) (es0 : List Eg) (more : List UInt8) (cut : Int) (ha : Arg edgeE F v0 es0) (ha2 : Arg byteE F v2 more) (hE0 : ∀ e ∈ es0, InE e) :
    Spec Try.prog 9 #[grV N v0, .int .i64 cut, v2] F [] fun v _ => v = .bool true := by
  obtain ⟨p0, c0, rfl⟩ := ha.shape
  obtain ⟨p2, c2, rfl⟩ := ha2.shape
  have hcap := ha2.cap.2
  have hle := take40_len es0
  have hE := take40_in hE0
  obtain ⟨m, hm⟩ : ∃ m, m = 1 + andN cut 65535 % 11 := ⟨_, rfl⟩
  have hm1 : 1 ≤ m ∧ m ≤ 11 := by omega
  refine Spec.of (n := 103) (vs := [grV N (.slice p0 es0.length c0), .int .i64 cut, .slice p2 more.length c2]) Try.func9 rfl Try.ntmps9 rfl ?_
  refine Vc.seq ?_
  refine Vc.text (List.range 2) (sd [(0, .eff), (1, .pure)]) rfl ?_
  refine Rg.box rfl rfl rfl rfl rfl (fun b3 => ?_)
  refine Rg.pure rfl rfl rfl (Pv.assign rfl) ?_
  refine Rg.nil ?_
  refine Vc.seq ?_
  refine Vc.text (List.range 2) (sd [(0, .eff), (1, .pure)]) rfl ?_
  refine Rg.callP rfl rfl rfl (run_callF rfl) (shown_spec _) ?_
  rintro _ rfl
  refine Rg.pure rfl rfl rfl (Pv.assign rfl) ?_
  refine Rg.nil ?_
  refine Vc.seq ?_
  refine Vc.text (List.range 3) (sd [(0, .read), (1, .eff), (2, .eff)]) rfl ?_
  refine Rg.read rfl rfl rfl (Ev.ldA rfl rfl) ?_
  refine Rg.callA rfl rfl rfl (run_callF rfl) (few_spec (ha.mono fun b o h => Or.inr h) N) ?_
  rintro _ s20 ⟨u, rfl, own⟩
  generalize es0.take 40 = es at own hle hE
  obtain ⟨q, c, rfl⟩ := own.shape
  refine Rg.storeA rfl rfl rfl rfl rfl rfl rfl rfl ?_
  refine Rg.nil ?_
  refine Vc.seq ?_
  refine Vc.text (List.range 7) (sd [(0, .read), (1, .eff), (2, .pure), (3, .pure), (4, .pure), (5, .pure), (6, .pure)]) rfl ?_
  refine Rg.read rfl rfl rfl (Ev.ldA rfl rfl) ?_
  refine Rg.callA rfl rfl rfl (run_callF rfl) (encode_spec (Arg.own own frz_sb) (by omega) hE N) ?_
  intro v23 s23 h23
  obtain ⟨ub, er, rfl, hcase⟩ : ∃ ub er, v23 = .tuple #[ub, .int .i64 er] ∧ ((rightG N es = true ∧ er = 0 ∧ Own byteE ub (encG N.toNat es) s23) ∨ (rightG N es = false ∧ er = 1 ∧ ub = .slice none 0 0)) := by
    rcases h23 with ⟨h, ub, rfl, ho⟩ | ⟨h, rfl⟩
    · exact ⟨_, _, rfl, .inl ⟨h, rfl, ho⟩⟩
    · exact ⟨_, _, rfl, .inr ⟨h, rfl, rfl⟩⟩
  refine Rg.pure rfl rfl rfl (Pv.move rfl) ?_
  refine Rg.pure rfl rfl rfl (Pv.extract rfl rfl) ?_
  refine Rg.pure rfl rfl rfl (Pv.extract rfl rfl) ?_
  refine Rg.pure rfl rfl rfl (Pv.assign rfl) ?_
  refine Rg.pure rfl rfl rfl (Pv.assign rfl) ?_
  refine Rg.nil ?_
  refine Vc.seq ?_
  refine Vc.seq ?_
  refine Vc.text (List.range 2) (sd [(0, .pure), (1, .pure)]) rfl ?_
  refine Rg.pure rfl rfl rfl (Pv.move rfl) ?_
  refine Rg.pure rfl rfl rfl (Pv.neq rfl rfl) ?_
  refine Rg.nil ?_
  refine Vc.cond rfl (fun h27 => ?_) (fun h27 => ?_)
  ·
    refine Vc.seq ?_
    refine Vc.text (List.range 2) (sd [(0, .pure), (1, .pure)]) rfl ?_
    refine Rg.pure rfl rfl rfl (Pv.move rfl) ?_
    refine Rg.pure rfl rfl rfl (Pv.assign rfl) ?_
    refine Rg.nil ?_
    refine Vc.ret (Vc.rets rfl (.cons (.tmp rfl) (.nil)) ?_)
    rfl
  ·
    simp only [bne_eq_false_iff_eq] at h27
    obtain ⟨hr, _, ownb⟩ := hcase.resolve_right (fun h => by rw [h27] at h; cases h.2.1)
    obtain ⟨M, rfl, hM⟩ := rightG_nat hr
    rw [show (M : Int).toNat = M by simp] at ownb
    have hlb := encG_length M es
    obtain ⟨A, B, pl, e2, hd2, hz, hnz⟩ := more_dec hE hr more
    generalize encG M es = bs at ownb hlb hd2 hnz
    obtain ⟨qb, cb, sp, rfl, rfl, hcb, _⟩ := ownb.block (by omega)
    rw [show byteE.k = 1 from rfl] at hcb
    have htl : (bs.take (bs.length - m)).length = bs.length - m := (by simp)
    have hd1 := decG_cut (bs := bs.take (bs.length - m)) (by rw [htl, hlb]; exact cut_len hm1.1 hm1.2)
    rw [htl] at hd1
    refine Vc.skip ?_
    refine Vc.seq ?_
    refine Vc.seq ?_
    refine Vc.text (List.range 3) (sd [(0, .pure), (1, .pure), (2, .pure)]) rfl ?_
    refine Rg.pure rfl rfl rfl (Pv.move rfl) ?_
    refine Rg.pure rfl rfl rfl (Pv.lenS rfl) ?_
    refine Rg.pure rfl rfl rfl (Pv.lss rfl rfl) ?_
    refine Rg.nil ?_
    refine Vc.cond rfl (fun h31 => absurd h31 (by simp only [decide_eq_true_eq]; omega)) (fun h31 => ?_)
    refine Vc.skip ?_
    refine Vc.seq ?_
    refine Vc.text (List.range 5) (sd [(0, .pure), (1, .pure), (2, .pure), (3, .pure), (4, .pure)]) rfl ?_
    refine Rg.pure rfl rfl rfl (Pv.move rfl) ?_
    refine Rg.pure rfl rfl rfl (Pv.and rfl rfl (by omega)) ?_
    refine Rg.pure rfl rfl rfl (Pv.asI (andN cut 65535 % 11) (Pv.rem rfl rfl (by omega)) (by omega)) ?_
    refine Rg.pure rfl rfl rfl (Pv.asI (m) (Pv.add rfl rfl (by omega)) (by omega)) ?_
    refine Rg.pure rfl rfl rfl (Pv.assign rfl) ?_
    refine Rg.nil ?_
    refine Vc.seq ?_
    refine Vc.text (List.range 8) (sd [(0, .pure), (1, .pure), (2, .pure), (3, .pure), (4, .pure), (5, .pure), (6, .pure), (7, .pure)]) rfl ?_
    refine Rg.pure rfl rfl rfl (Pv.move rfl) ?_
    refine Rg.pure rfl rfl rfl (Pv.move rfl) ?_
    refine Rg.pure rfl rfl rfl (Pv.lenS rfl) ?_
    refine Rg.pure rfl rfl rfl (Pv.move rfl) ?_
    refine Rg.pure rfl rfl rfl (Pv.sub rfl rfl (by omega)) ?_
    refine Rg.pure rfl rfl rfl (Pv.asI (bs.length - m) (Pv.max rfl rfl) (by omega)) ?_
    refine Rg.pure rfl rfl rfl (Pv.slTo (bs.length - m) rfl rfl (by omega)) ?_
    refine Rg.pure rfl rfl rfl (Pv.assign rfl) ?_
    refine Rg.nil ?_
    refine Vc.seq ?_
    refine Vc.text (List.range 10) (sd [(0, .pure), (1, .eff), (2, .pure), (3, .pure), (4, .pure), (5, .pure), (6, .eff), (7, .eff), (8, .pure), (9, .pure)]) rfl ?_
    refine Rg.pure rfl rfl rfl (Pv.move rfl) ?_
    refine Rg.callA rfl rfl rfl (run_callF rfl) (decode_spec (Arg.take (Arg.own ownb frz_sb) (k := bs.length - m) (by omega)) (by rw [htl]; omega)) ?_
    rintro _ s45 ⟨u45, rfl, own45⟩
    simp only [hd1] at own45 ⊢
    obtain ⟨q45, c45, rfl⟩ := own45.shape
    refine Rg.pure rfl rfl rfl (Pv.move rfl) ?_
    refine Rg.pure rfl rfl rfl (Pv.extract rfl rfl) ?_
    refine Rg.pure rfl rfl rfl (Pv.extract rfl rfl) ?_
    refine Rg.pure rfl rfl rfl (Pv.extract rfl rfl) ?_
    refine Rg.alloc rfl rfl rfl rfl (fun b11 => ?_)
    refine Rg.storeA rfl rfl rfl rfl rfl rfl rfl rfl ?_
    refine Rg.pure rfl rfl rfl (Pv.assign rfl) ?_
    refine Rg.pure rfl rfl rfl (Pv.assign rfl) ?_
    refine Rg.nil ?_
    refine Vc.seq ?_
    refine Vc.draw [2, 8] (sd [(1, .pure), (3, .pure), (4, .pure), (5, .pure), (6, .pure), (7, .pure), (0, .eff), (2, .eff), (8, .eff), (9, .pure)]) mixed (by kernel_rfl) ?_
    refine Rg.pure rfl rfl rfl (Pv.move rfl) ?_
    refine Rg.pure rfl rfl rfl (Pv.move rfl) ?_
    refine Rg.pure rfl rfl rfl (Pv.move rfl) ?_
    refine Rg.pure rfl rfl rfl (Pv.lenS rfl) ?_
    refine Rg.pure rfl rfl rfl (Pv.asI (min more.length 11) (Pv.min rfl rfl) (by omega)) ?_
    refine Rg.pure rfl rfl rfl (Pv.slTo (min more.length 11) rfl rfl (by omega)) ?_
    refine Rg.bslice0 (E := byteE) rfl rfl rfl (fun b49 own49 => ?_)
    refine Rg.append rfl rfl rfl rfl rfl own49 (Src.own (rest := []) ownb Sb.sub) (by simp <;> omega) (by simp [maxLen] <;> omega) rfl (fun v51 s51 own51 => ?_)
    refine Rg.append rfl rfl rfl rfl rfl own51 (ha2.take (Nat.min_le_left _ _)).src (by simp <;> omega) (by simp [maxLen] <;> omega) rfl (fun v57 s57 own57 => ?_)
    have hl57 : ([] ++ bs ++ more.take (min more.length 11)).length ≤ 1000 := (by simp [hlb]; omega)
    generalize [] ++ bs ++ more.take (min more.length 11) = zs at own57 hl57 hd2 hnz
    obtain ⟨q57, c57, rfl⟩ := own57.shape
    refine Rg.pure rfl rfl rfl (Pv.assign rfl) ?_
    refine Rg.nil ?_
    refine Vc.seq ?_
    refine Vc.text (List.range 10) (sd [(0, .pure), (1, .eff), (2, .pure), (3, .pure), (4, .pure), (5, .pure), (6, .eff), (7, .eff), (8, .pure), (9, .pure)]) rfl ?_
    refine Rg.pure rfl rfl rfl (Pv.move rfl) ?_
    refine Rg.callA rfl rfl rfl (run_callF rfl) (decode_spec (Arg.own own57 frz_sb) (by omega)) ?_
    rintro _ s60 ⟨u60, rfl, own60⟩
    simp only [hd2] at own60 ⊢
    obtain ⟨q60, c60, rfl⟩ := own60.shape
    refine Rg.pure rfl rfl rfl (Pv.move rfl) ?_
    refine Rg.pure rfl rfl rfl (Pv.extract rfl rfl) ?_
    refine Rg.pure rfl rfl rfl (Pv.extract rfl rfl) ?_
    refine Rg.pure rfl rfl rfl (Pv.extract rfl rfl) ?_
    refine Rg.alloc rfl rfl rfl rfl (fun b15 => ?_)
    refine Rg.storeA rfl rfl rfl rfl rfl rfl rfl rfl ?_
    refine Rg.pure rfl rfl rfl (Pv.assign rfl) ?_
    refine Rg.pure rfl rfl rfl (Pv.assign rfl) ?_
    refine Rg.nil ?_
    refine Vc.seq ?_
    refine Vc.seq ?_
    refine Vc.text (List.range 3) (sd [(0, .pure), (1, .pure), (2, .pure)]) rfl ?_
    refine Rg.pure rfl rfl rfl (Pv.move rfl) ?_
    refine Rg.pure rfl rfl rfl (Pv.lenS rfl) ?_
    refine Rg.pure rfl rfl rfl (Pv.eql rfl rfl) ?_
    refine Rg.nil ?_
    refine Vc.cond rfl (fun h66 => ?_) (fun h66 => ?_)
    ·
      simp only [beq_iff_eq] at h66
      obtain rfl := hz (by omega)
      refine Vc.seq ?_
      refine Vc.text (List.range 16) (sd [(0, .pure), (1, .pure), (2, .pure), (3, .pure), (4, .pure), (5, .pure), (6, .pure), (7, .pure), (8, .pure), (9, .pure), (10, .pure), (11, .pure), (12, .pure), (13, .pure), (14, .pure), (15, .pure)]) rfl ?_
      refine Rg.pure rfl rfl rfl (Pv.move rfl) ?_
      refine Rg.pure rfl rfl rfl (Pv.move rfl) ?_
      refine Rg.split (t := 68) rfl (fun h68 => ?_) (fun h68 => absurd h68 (by decide))
      refine Rg.pure rfl rfl rfl (Pv.move rfl) ?_
      refine Rg.pure rfl rfl rfl (Pv.eql rfl rfl) ?_
      refine Rg.pure rfl rfl rfl (Pv.pickT rfl rfl) ?_
      refine Rg.pure rfl rfl rfl (Pv.move rfl) ?_
      refine Rg.split (t := 72) rfl (fun h72 => ?_) (fun h72 => absurd h72 (by decide))
      refine Rg.pure rfl rfl rfl (Pv.move rfl) ?_
      refine Rg.pure rfl rfl rfl (Pv.move rfl) ?_
      refine Rg.pure rfl rfl rfl (Pv.lenS rfl) ?_
      refine Rg.pure rfl rfl rfl (Pv.eql rfl rfl) ?_
      refine Rg.pure rfl rfl rfl (Pv.pickT rfl rfl) ?_
      refine Rg.pure rfl rfl rfl (Pv.move rfl) ?_
      refine Rg.split (t := 78) rfl (fun h78 => ?_) (fun h78 => absurd h78 (by simp))
      refine Rg.pure rfl rfl rfl (Pv.move rfl) ?_
      refine Rg.pure rfl rfl rfl (Pv.eql rfl rfl) ?_
      refine Rg.pure rfl rfl rfl (Pv.pickT rfl rfl) ?_
      refine Rg.pure rfl rfl rfl (Pv.assign rfl) ?_
      refine Rg.nil ?_
      refine Vc.ret (Vc.rets rfl (.cons (.tmp rfl) (.nil)) ?_)
      rfl
    ·
      simp only [beq_eq_false_iff_ne, ne_eq] at h66
      obtain ⟨rfl, rfl⟩ := hnz (by omega)
      refine Vc.skip ?_
      refine Vc.seq ?_
      refine Vc.text (List.range 22) (sd [(0, .pure), (1, .pure), (2, .pure), (3, .pure), (4, .pure), (5, .pure), (6, .pure), (7, .pure), (8, .pure), (9, .pure), (10, .pure), (11, .pure), (12, .pure), (13, .pure), (14, .pure), (15, .pure), (16, .pure), (17, .pure), (18, .pure), (19, .pure), (20, .pure), (21, .pure)]) rfl ?_
      refine Rg.pure rfl rfl rfl (Pv.move rfl) ?_
      refine Rg.pure rfl rfl rfl (Pv.move rfl) ?_
      refine Rg.split (t := 83) rfl (fun h83 => ?_) (fun h83 => absurd h83 (by decide))
      refine Rg.pure rfl rfl rfl (Pv.move rfl) ?_
      refine Rg.pure rfl rfl rfl (Pv.eql rfl rfl) ?_
      refine Rg.pure rfl rfl rfl (Pv.pickT rfl rfl) ?_
      refine Rg.pure rfl rfl rfl (Pv.move rfl) ?_
      refine Rg.split (t := 87) rfl (fun h87 => ?_) (fun h87 => absurd h87 (by decide))
      refine Rg.pure rfl rfl rfl (Pv.move rfl) ?_
      refine Rg.pure rfl rfl rfl (Pv.move rfl) ?_
      refine Rg.pure rfl rfl rfl (Pv.lenS rfl) ?_
      refine Rg.pure rfl rfl rfl (Pv.eql rfl rfl) ?_
      refine Rg.pure rfl rfl rfl (Pv.pickT rfl rfl) ?_
      refine Rg.pure rfl rfl rfl (Pv.move rfl) ?_
      refine Rg.split (t := 93) rfl (fun h93 => ?_) (fun h93 => absurd h93 (by simp))
      refine Rg.pure rfl rfl rfl (Pv.move rfl) ?_
      refine Rg.pure rfl rfl rfl (Pv.eql rfl rfl) ?_
      refine Rg.pure rfl rfl rfl (Pv.pickT rfl rfl) ?_
      refine Rg.pure rfl rfl rfl (Pv.move rfl) ?_
      refine Rg.split (t := 97) rfl (fun h97 => ?_) (fun h97 => absurd h97 (by decide))
      refine Rg.pure rfl rfl rfl (Pv.move rfl) ?_
      refine Rg.pure rfl rfl rfl (Pv.move rfl) ?_
      refine Rg.pure rfl rfl rfl (Pv.lenS rfl) ?_
      refine Rg.pure rfl rfl rfl (Pv.eql rfl rfl) ?_
      refine Rg.pure rfl rfl rfl (Pv.pickT rfl rfl) ?_
      refine Rg.pure rfl rfl rfl (Pv.assign rfl) ?_
      refine Rg.nil ?_
      refine Vc.ret (Vc.rets rfl (.cons (.tmp rfl) (.nil)) ?_)
      exact congrArg Value.bool (by simp)
end Go.Proofs.Ytjoldkfedmiciaa
