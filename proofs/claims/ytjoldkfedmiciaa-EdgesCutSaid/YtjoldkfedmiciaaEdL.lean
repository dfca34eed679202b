/- The statements' functions: EdgesTell, EdgesBack. -/
import Derived.Test.YtjoldkfedmiciaaEdK
namespace Go.Proofs.Ytjoldkfedmiciaa
set_option linter.unusedVariables false

theorem take40_len (es : List Eg) : (es.take 40).length ≤ 40 := by simp; omega
theorem take40_in {es : List Eg} (h : ∀ e ∈ es, InE e) : ∀ e ∈ es.take 40, InE e := fun e he => h e (List.mem_of_mem_take he)
theorem EdgesTell_spec (F : Fm) (N : Int) (v0 : Value) (es0 : List Eg) (ha : Arg edgeE F v0 es0) (hE0 : ∀ e ∈ es0, InE e) :
    Spec Try.prog 3 #[grV N v0] F [] fun v _ => v = .bool true := by
  obtain ⟨p0, c0, rfl⟩ := ha.shape
  have hl := take40_len es0
  have hE := take40_in hE0
  refine Spec.of (n := 57) (vs := [grV N (.slice p0 es0.length c0)]) Try.func3 rfl Try.ntmps3 rfl ?_
  refine Vc.seq ?_
  refine Vc.text (List.range 2) (sd [(0, .eff), (1, .pure)]) rfl ?_
  refine Rg.box rfl rfl rfl rfl rfl (fun b1 => ?_)
  refine Rg.pure rfl rfl rfl (Pv.assign rfl) ?_
  refine Rg.nil ?_
  refine Vc.seq ?_
  refine Vc.text (List.range 2) (sd [(0, .eff), (1, .pure)]) rfl ?_
  refine Rg.callP rfl rfl rfl (run_callF rfl) (shown_spec _) ?_
  rintro _ rfl
  refine Rg.pure rfl rfl rfl (Pv.assign rfl) ?_
  refine Rg.nil ?_
  refine Vc.seq ?_
  refine Vc.text (List.range 3) (sd [(0, .read), (1, .eff), (2, .eff)]) rfl ?_
  refine Rg.read rfl rfl rfl (Ev.ldA rfl rfl) ?_
  refine Rg.callA rfl rfl rfl (run_callF rfl) (few_spec (ha.mono fun b o h => Or.inr h) N) ?_
  rintro _ s10 ⟨u, rfl, own⟩
  generalize es0.take 40 = es at own hl hE
  obtain ⟨q, c, rfl⟩ := own.shape
  refine Rg.storeA rfl rfl rfl rfl rfl rfl rfl rfl ?_
  refine Rg.nil ?_
  refine Vc.seq ?_
  refine Vc.text (List.range 4) (sd [(0, .read), (1, .eff), (2, .eff), (3, .eff)]) rfl ?_
  refine Rg.read rfl rfl rfl (Ev.ldA rfl rfl) ?_
  refine Rg.callA rfl rfl rfl (run_callF rfl) (few_spec (Arg.own own frz_sb) N) ?_
  rintro _ s12 ⟨u2, rfl, own2⟩
  rw [List.take_of_length_le hl] at own2
  obtain ⟨q2, c2, rfl⟩ := own2.shape
  refine Rg.alloc rfl rfl rfl rfl (fun b4 => ?_)
  refine Rg.storeA rfl rfl rfl rfl rfl rfl rfl rfl ?_
  refine Rg.nil ?_
  refine Vc.seq ?_
  refine Vc.text (List.range 7) (sd [(0, .read), (1, .eff), (2, .pure), (3, .pure), (4, .pure), (5, .pure), (6, .pure)]) rfl ?_
  refine Rg.read rfl rfl rfl (Ev.ldA rfl rfl) ?_
  refine Rg.callA rfl rfl rfl (run_callF rfl) (encode_spec (Arg.own own frz_sb) (by omega) hE N) ?_
  intro v15 s15 h15
  obtain ⟨ub, er, rfl, hcase⟩ : ∃ ub er, v15 = .tuple #[ub, .int .i64 er] ∧ ((rightG N es = true ∧ er = 0 ∧ Own byteE ub (encG N.toNat es) s15) ∨ (rightG N es = false ∧ er = 1 ∧ ub = .slice none 0 0)) := by
    rcases h15 with ⟨h, ub, rfl, ho⟩ | ⟨h, rfl⟩
    · exact ⟨_, _, rfl, .inl ⟨h, rfl, ho⟩⟩
    · exact ⟨_, _, rfl, .inr ⟨h, rfl, rfl⟩⟩
  refine Rg.pure rfl rfl rfl (Pv.move rfl) ?_
  refine Rg.pure rfl rfl rfl (Pv.extract rfl rfl) ?_
  refine Rg.pure rfl rfl rfl (Pv.extract rfl rfl) ?_
  refine Rg.pure rfl rfl rfl (Pv.assign rfl) ?_
  refine Rg.pure rfl rfl rfl (Pv.assign rfl) ?_
  refine Rg.nil ?_
  refine Vc.seq ?_
  refine Vc.text (List.range 3) (sd [(0, .read), (1, .eff), (2, .pure)]) rfl ?_
  refine Rg.read rfl rfl rfl (Ev.ldA rfl rfl) ?_
  refine Rg.callP rfl rfl rfl (run_callF rfl) (rright_spec (Arg.own own frz_sb) (by omega) hE N) ?_
  rintro _ rfl
  refine Rg.pure rfl rfl rfl (Pv.assign rfl) ?_
  refine Rg.nil ?_
  refine Vc.seq ?_
  refine Vc.seq ?_
  refine Vc.text (List.range 12) (sd [(0, .read), (1, .eff), (2, .pure), (3, .pure), (4, .pure), (5, .pure), (6, .read), (7, .pure), (8, .read), (9, .eff), (10, .pure), (11, .pure)]) rfl ?_
  refine Rg.read rfl rfl rfl (Ev.ldA rfl rfl) ?_
  refine Rg.callP rfl rfl rfl (run_callF rfl) (right_spec (Arg.own own frz_sb) (by omega) hE N) ?_
  rintro _ rfl
  refine Rg.pure rfl rfl rfl (Pv.move rfl) ?_
  refine Rg.pure rfl rfl rfl (Pv.neqB rfl rfl) ?_
  refine Rg.pure rfl rfl rfl (Pv.move rfl) ?_
  refine Rg.split (t := 24) rfl (fun h24 => absurd h24 (by simp)) (fun h24 => ?_)
  refine Rg.pure rfl rfl rfl (Pv.fa rfl) ?_
  refine Rg.read rfl rfl rfl (Ev.ld rfl rfl) ?_
  refine Rg.pure rfl rfl rfl (Pv.fa rfl) ?_
  refine Rg.read rfl rfl rfl (Ev.ld rfl rfl) ?_
  refine Rg.callP rfl rfl rfl (run_callF rfl) (alike_spec (Arg.own own frz_sb) (Arg.own own2 frz_sb) (by omega) (by omega)) ?_
  rintro _ rfl
  refine Rg.pure rfl rfl rfl (Pv.not rfl) ?_
  refine Rg.pure rfl rfl rfl (Pv.pickF rfl rfl) ?_
  refine Rg.nil ?_
  refine Vc.cond rfl (fun h31 => absurd h31 (by simp)) (fun h31 => ?_)
  refine Vc.skip ?_
  refine Vc.seq ?_
  refine Vc.seq ?_
  refine Vc.text (List.range 2) (sd [(0, .pure), (1, .pure)]) rfl ?_
  refine Rg.pure rfl rfl rfl (Pv.move rfl) ?_
  refine Rg.pure rfl rfl rfl (Pv.not rfl) ?_
  refine Rg.nil ?_
  refine Vc.cond rfl (fun h33 => ?_) (fun h33 => ?_)
  ·
    have hr : rightG N es = false := (by simpa using h33)
    obtain ⟨_, rfl, rfl⟩ := hcase.resolve_left (fun h => by rw [hr] at h; cases h.1)
    refine Vc.seq ?_
    refine Vc.text (List.range 11) (sd [(0, .pure), (1, .pure), (2, .pure), (3, .pure), (4, .pure), (5, .pure), (6, .pure), (7, .pure), (8, .pure), (9, .pure), (10, .pure)]) rfl ?_
    refine Rg.pure rfl rfl rfl (Pv.move rfl) ?_
    refine Rg.pure rfl rfl rfl (Pv.move rfl) ?_
    refine Rg.split (t := 35) rfl (fun h35 => ?_) (fun h35 => absurd h35 (by simp))
    refine Rg.pure rfl rfl rfl (Pv.move rfl) ?_
    refine Rg.pure rfl rfl rfl (Pv.eql rfl rfl) ?_
    refine Rg.pure rfl rfl rfl (Pv.pickT rfl rfl) ?_
    refine Rg.pure rfl rfl rfl (Pv.move rfl) ?_
    refine Rg.split (t := 39) rfl (fun h39 => ?_) (fun h39 => absurd h39 (by decide))
    refine Rg.pure rfl rfl rfl (Pv.move rfl) ?_
    refine Rg.pure rfl rfl rfl (Pv.lenS rfl) ?_
    refine Rg.pure rfl rfl rfl (Pv.eql rfl rfl) ?_
    refine Rg.pure rfl rfl rfl (Pv.pickT rfl rfl) ?_
    refine Rg.pure rfl rfl rfl (Pv.assign rfl) ?_
    refine Rg.nil ?_
    refine Vc.ret (Vc.rets rfl (.cons (.tmp rfl) (.nil)) ?_)
    rfl
  ·
    have hr : rightG N es = true := (by simpa using h33)
    obtain ⟨_, rfl, ownb⟩ := hcase.resolve_right (fun h => by rw [hr] at h; cases h.1)
    obtain ⟨M, rfl, hM⟩ := rightG_nat hr
    refine Vc.skip ?_
    refine Vc.seq ?_
    refine Vc.draw [] (sd [(0, .pure), (1, .pure), (2, .pure), (3, .pure), (4, .pure), (5, .pure), (6, .pure), (7, .read), (8, .read), (9, .eff), (10, .read), (11, .pure), (12, .pure), (13, .pure)]) mixed (by kernel_rfl) ?_
    refine Rg.pure rfl rfl rfl (Pv.move rfl) ?_
    refine Rg.pure rfl rfl rfl (Pv.move rfl) ?_
    refine Rg.split (t := 45) rfl (fun h45 => ?_) (fun h45 => absurd h45 (by simp))
    refine Rg.pure rfl rfl rfl (Pv.move rfl) ?_
    refine Rg.pure rfl rfl rfl (Pv.eql rfl rfl) ?_
    refine Rg.pure rfl rfl rfl (Pv.pickT rfl rfl) ?_
    refine Rg.pure rfl rfl rfl (Pv.move rfl) ?_
    refine Rg.split (t := 49) rfl (fun h49 => ?_) (fun h49 => absurd h49 (by decide))
    refine Rg.pure rfl rfl rfl (Pv.move rfl) ?_
    refine Rg.read rfl rfl rfl (Ev.str (Src.own (rest := []) ownb Sb.sub) rfl) ?_
    refine Rg.read rfl rfl rfl (Ev.ldA rfl rfl) ?_
    refine Rg.callA rfl rfl rfl (run_callF rfl) (rencode_spec (Arg.own own frz_sb) (by omega) hE M hM) ?_
    rintro v53 s53 own53
    refine Rg.read rfl rfl rfl (Ev.str (Src.own (rest := []) own53 Sb.sub) rfl) ?_
    refine Rg.pure rfl rfl rfl (Pv.eqlS rfl rfl) ?_
    refine Rg.pure rfl rfl rfl (Pv.pickT rfl rfl) ?_
    refine Rg.pure rfl rfl rfl (Pv.assign rfl) ?_
    refine Rg.nil ?_
    refine Vc.ret (Vc.rets rfl (.cons (.tmp rfl) (.nil)) ?_)
    exact congrArg Value.bool (by simp)

theorem EdgesBack_spec (F : Fm) (N : Int) (v0 : Value) (es0 : List Eg) (ha : Arg edgeE F v0 es0) (hE0 : ∀ e ∈ es0, InE e) :
    Spec Try.prog 5 #[grV N v0] F [] fun v _ => v = .bool true := by
  obtain ⟨p0, c0, rfl⟩ := ha.shape
  have hl := take40_len es0
  have hE := take40_in hE0
  refine Spec.of (n := 87) (vs := [grV N (.slice p0 es0.length c0)]) Try.func5 rfl Try.ntmps5 rfl ?_
  refine Vc.seq ?_
  refine Vc.text (List.range 2) (sd [(0, .eff), (1, .pure)]) rfl ?_
  refine Rg.box rfl rfl rfl rfl rfl (fun b1 => ?_)
  refine Rg.pure rfl rfl rfl (Pv.assign rfl) ?_
  refine Rg.nil ?_
  refine Vc.seq ?_
  refine Vc.text (List.range 2) (sd [(0, .eff), (1, .pure)]) rfl ?_
  refine Rg.callP rfl rfl rfl (run_callF rfl) (shown_spec _) ?_
  rintro _ rfl
  refine Rg.pure rfl rfl rfl (Pv.assign rfl) ?_
  refine Rg.nil ?_
  refine Vc.seq ?_
  refine Vc.text (List.range 3) (sd [(0, .read), (1, .eff), (2, .eff)]) rfl ?_
  refine Rg.read rfl rfl rfl (Ev.ldA rfl rfl) ?_
  refine Rg.callA rfl rfl rfl (run_callF rfl) (few_spec (ha.mono fun b o h => Or.inr h) N) ?_
  rintro _ s13 ⟨u, rfl, own⟩
  generalize es0.take 40 = es at own hl hE
  obtain ⟨q, c, rfl⟩ := own.shape
  refine Rg.storeA rfl rfl rfl rfl rfl rfl rfl rfl ?_
  refine Rg.nil ?_
  refine Vc.seq ?_
  refine Vc.text (List.range 7) (sd [(0, .read), (1, .eff), (2, .pure), (3, .pure), (4, .pure), (5, .pure), (6, .pure)]) rfl ?_
  refine Rg.read rfl rfl rfl (Ev.ldA rfl rfl) ?_
  refine Rg.callA rfl rfl rfl (run_callF rfl) (encode_spec (Arg.own own frz_sb) (by omega) hE N) ?_
  intro v16 s16 h16
  obtain ⟨ub, er, rfl, hcase⟩ : ∃ ub er, v16 = .tuple #[ub, .int .i64 er] ∧ ((rightG N es = true ∧ er = 0 ∧ Own byteE ub (encG N.toNat es) s16) ∨ (rightG N es = false ∧ er = 1 ∧ ub = .slice none 0 0)) := by
    rcases h16 with ⟨h, ub, rfl, ho⟩ | ⟨h, rfl⟩
    · exact ⟨_, _, rfl, .inl ⟨h, rfl, ho⟩⟩
    · exact ⟨_, _, rfl, .inr ⟨h, rfl, rfl⟩⟩
  refine Rg.pure rfl rfl rfl (Pv.move rfl) ?_
  refine Rg.pure rfl rfl rfl (Pv.extract rfl rfl) ?_
  refine Rg.pure rfl rfl rfl (Pv.extract rfl rfl) ?_
  refine Rg.pure rfl rfl rfl (Pv.assign rfl) ?_
  refine Rg.pure rfl rfl rfl (Pv.assign rfl) ?_
  refine Rg.nil ?_
  refine Vc.seq ?_
  refine Vc.seq ?_
  refine Vc.text (List.range 2) (sd [(0, .pure), (1, .pure)]) rfl ?_
  refine Rg.pure rfl rfl rfl (Pv.move rfl) ?_
  refine Rg.pure rfl rfl rfl (Pv.neq rfl rfl) ?_
  refine Rg.nil ?_
  refine Vc.cond rfl (fun h20 => ?_) (fun h20 => ?_)
  ·
    simp only [bne_iff_ne, ne_eq] at h20
    obtain ⟨hr, rfl, rfl⟩ := hcase.resolve_left (fun h => h20 h.2.1)
    refine Vc.seq ?_
    refine Vc.text (List.range 12) (sd [(0, .pure), (1, .pure), (2, .read), (3, .eff), (4, .pure), (5, .pure), (6, .pure), (7, .pure), (8, .pure), (9, .pure), (10, .pure), (11, .pure)]) rfl ?_
    refine Rg.pure rfl rfl rfl (Pv.move rfl) ?_
    refine Rg.pure rfl rfl rfl (Pv.move rfl) ?_
    refine Rg.split (t := 22) rfl (fun h22 => ?_) (fun h22 => absurd h22 (by simp))
    refine Rg.read rfl rfl rfl (Ev.ldA rfl rfl) ?_
    refine Rg.callP rfl rfl rfl (run_callF rfl) (right_spec (Arg.own own frz_sb) (by omega) hE N) ?_
    rintro _ rfl
    refine Rg.pure rfl rfl rfl (Pv.not rfl) ?_
    refine Rg.pure rfl rfl rfl (Pv.pickT rfl rfl) ?_
    refine Rg.pure rfl rfl rfl (Pv.move rfl) ?_
    refine Rg.split (t := 27) rfl (fun h27 => ?_) (fun h27 => absurd h27 (by simp [hr]))
    refine Rg.pure rfl rfl rfl (Pv.move rfl) ?_
    refine Rg.pure rfl rfl rfl (Pv.lenS rfl) ?_
    refine Rg.pure rfl rfl rfl (Pv.eql rfl rfl) ?_
    refine Rg.pure rfl rfl rfl (Pv.pickT rfl rfl) ?_
    refine Rg.pure rfl rfl rfl (Pv.assign rfl) ?_
    refine Rg.nil ?_
    refine Vc.ret (Vc.rets rfl (.cons (.tmp rfl) (.nil)) ?_)
    rfl
  ·
    simp only [bne_eq_false_iff_eq] at h20
    obtain ⟨hr, _, ownb⟩ := hcase.resolve_right (fun h => by rw [h20] at h; cases h.2.1)
    subst h20
    obtain ⟨M, rfl, hM⟩ := rightG_nat hr
    rw [show (M : Int).toNat = M by simp] at ownb
    have hde := dec_enc hE hr
    have hlb := encG_length M es
    generalize hbs : encG M es = bs at ownb hde hlb
    obtain ⟨qb, cb, rfl⟩ := ownb.shape
    refine Vc.skip ?_
    refine Vc.seq ?_
    refine Vc.text (List.range 10) (sd [(0, .pure), (1, .eff), (2, .pure), (3, .pure), (4, .pure), (5, .pure), (6, .eff), (7, .eff), (8, .pure), (9, .pure)]) rfl ?_
    refine Rg.pure rfl rfl rfl (Pv.move rfl) ?_
    refine Rg.callA rfl rfl rfl (run_callF rfl) (decode_spec (Arg.own ownb frz_sb) (by omega)) ?_
    rintro _ s34 ⟨u34, rfl, own34⟩
    simp only [hde] at own34 ⊢
    obtain ⟨q34, c34, rfl⟩ := own34.shape
    refine Rg.pure rfl rfl rfl (Pv.move rfl) ?_
    refine Rg.pure rfl rfl rfl (Pv.extract rfl rfl) ?_
    refine Rg.pure rfl rfl rfl (Pv.extract rfl rfl) ?_
    refine Rg.pure rfl rfl rfl (Pv.extract rfl rfl) ?_
    refine Rg.alloc rfl rfl rfl rfl (fun b6 => ?_)
    refine Rg.storeA rfl rfl rfl rfl rfl rfl rfl rfl ?_
    refine Rg.pure rfl rfl rfl (Pv.assign rfl) ?_
    refine Rg.pure rfl rfl rfl (Pv.assign rfl) ?_
    refine Rg.nil ?_
    refine Vc.seq ?_
    refine Vc.text (List.range 7) (sd [(0, .read), (1, .eff), (2, .pure), (3, .pure), (4, .pure), (5, .pure), (6, .pure)]) rfl ?_
    refine Rg.read rfl rfl rfl (Ev.ldA rfl rfl) ?_
    refine Rg.callA rfl rfl rfl (run_callF rfl) (encode_spec (Arg.own own34 frz_sb) (by omega) hE M) ?_
    rintro _ s40 (⟨_, u40, rfl, own40⟩ | ⟨h, _⟩)
    rotate_left
    · rw [hr] at h; cases h
    rw [show (M : Int).toNat = M by simp, hbs] at own40
    refine Rg.pure rfl rfl rfl (Pv.move rfl) ?_
    refine Rg.pure rfl rfl rfl (Pv.extract rfl rfl) ?_
    refine Rg.pure rfl rfl rfl (Pv.extract rfl rfl) ?_
    refine Rg.pure rfl rfl rfl (Pv.assign rfl) ?_
    refine Rg.pure rfl rfl rfl (Pv.assign rfl) ?_
    refine Rg.nil ?_
    refine Vc.seq ?_
    refine Vc.text (List.range 45) (sd [(0, .pure), (1, .pure), (2, .pure), (3, .pure), (4, .pure), (5, .pure), (6, .pure), (7, .pure), (8, .pure), (9, .pure), (10, .pure), (11, .read), (12, .pure), (13, .read), (14, .pure), (15, .pure), (16, .pure), (17, .pure), (18, .read), (19, .pure), (20, .read), (21, .eff), (22, .pure), (23, .pure), (24, .pure), (25, .pure), (26, .pure), (27, .pure), (28, .pure), (29, .read), (30, .pure), (31, .read), (32, .pure), (33, .pure), (34, .pure), (35, .pure), (36, .pure), (37, .pure), (38, .read), (39, .pure), (40, .pure), (41, .pure), (42, .pure), (43, .pure), (44, .pure)]) rfl ?_
    refine Rg.pure rfl rfl rfl (Pv.move rfl) ?_
    refine Rg.pure rfl rfl rfl (Pv.move rfl) ?_
    refine Rg.split (t := 44) rfl (fun h44 => ?_) (fun h44 => absurd h44 (by simp))
    refine Rg.pure rfl rfl rfl (Pv.move rfl) ?_
    refine Rg.pure rfl rfl rfl (Pv.eql rfl rfl) ?_
    refine Rg.pure rfl rfl rfl (Pv.pickT rfl rfl) ?_
    refine Rg.pure rfl rfl rfl (Pv.move rfl) ?_
    refine Rg.split (t := 48) rfl (fun h48 => ?_) (fun h48 => absurd h48 (by decide))
    refine Rg.pure rfl rfl rfl (Pv.move rfl) ?_
    refine Rg.pure rfl rfl rfl (Pv.eql rfl rfl) ?_
    refine Rg.pure rfl rfl rfl (Pv.pickT rfl rfl) ?_
    refine Rg.pure rfl rfl rfl (Pv.move rfl) ?_
    refine Rg.split (t := 52) rfl (fun h52 => ?_) (fun h52 => absurd h52 (by decide))
    refine Rg.pure rfl rfl rfl (Pv.fa rfl) ?_
    refine Rg.read rfl rfl rfl (Ev.ld rfl rfl) ?_
    refine Rg.pure rfl rfl rfl (Pv.fa rfl) ?_
    refine Rg.read rfl rfl rfl (Ev.ld rfl rfl) ?_
    refine Rg.pure rfl rfl rfl (Pv.eql rfl rfl) ?_
    refine Rg.pure rfl rfl rfl (Pv.pickT rfl rfl) ?_
    refine Rg.pure rfl rfl rfl (Pv.move rfl) ?_
    refine Rg.split (t := 59) rfl (fun h59 => ?_) (fun h59 => absurd h59 (by simp))
    refine Rg.pure rfl rfl rfl (Pv.fa rfl) ?_
    refine Rg.read rfl rfl rfl (Ev.ld rfl rfl) ?_
    refine Rg.pure rfl rfl rfl (Pv.fa rfl) ?_
    refine Rg.read rfl rfl rfl (Ev.ld rfl rfl) ?_
    refine Rg.callP rfl rfl rfl (run_callF rfl) (alike_spec (Arg.own own frz_sb) (Arg.own own34 frz_sb) (by omega) (by omega)) ?_
    rintro _ rfl
    refine Rg.pure rfl rfl rfl (Pv.pickT rfl rfl) ?_
    refine Rg.pure rfl rfl rfl (Pv.move rfl) ?_
    refine Rg.split (t := 66) rfl (fun h66 => ?_) (fun h66 => absurd h66 (by simp))
    refine Rg.pure rfl rfl rfl (Pv.move rfl) ?_
    refine Rg.pure rfl rfl rfl (Pv.eql rfl rfl) ?_
    refine Rg.pure rfl rfl rfl (Pv.pickT rfl rfl) ?_
    refine Rg.pure rfl rfl rfl (Pv.move rfl) ?_
    refine Rg.split (t := 70) rfl (fun h70 => ?_) (fun h70 => absurd h70 (by decide))
    refine Rg.pure rfl rfl rfl (Pv.move rfl) ?_
    refine Rg.read rfl rfl rfl (Ev.str (Src.own (rest := []) own40 Sb.sub) rfl) ?_
    refine Rg.pure rfl rfl rfl (Pv.move rfl) ?_
    refine Rg.read rfl rfl rfl (Ev.str (Src.own (rest := []) ownb Sb.sub) rfl) ?_
    refine Rg.pure rfl rfl rfl (Pv.eqlS rfl rfl) ?_
    refine Rg.pure rfl rfl rfl (Pv.pickT rfl rfl) ?_
    refine Rg.pure rfl rfl rfl (Pv.move rfl) ?_
    refine Rg.split (t := 77) rfl (fun h77 => ?_) (fun h77 => absurd h77 (by simp))
    refine Rg.pure rfl rfl rfl (Pv.move rfl) ?_
    refine Rg.pure rfl rfl rfl (Pv.lenS rfl) ?_
    refine Rg.pure rfl rfl rfl (Pv.fa rfl) ?_
    refine Rg.read rfl rfl rfl (Ev.ld rfl rfl) ?_
    refine Rg.pure rfl rfl rfl (Pv.lenS rfl) ?_
    refine Rg.pure rfl rfl rfl (Pv.asI (12 * es.length) (Pv.mul rfl rfl (by omega)) (by omega)) ?_
    refine Rg.pure rfl rfl rfl (Pv.asI (4 + 12 * es.length) (Pv.add rfl rfl (by omega)) (by omega)) ?_
    refine Rg.pure rfl rfl rfl (Pv.eql rfl rfl) ?_
    refine Rg.pure rfl rfl rfl (Pv.pickT rfl rfl) ?_
    refine Rg.pure rfl rfl rfl (Pv.assign rfl) ?_
    refine Rg.nil ?_
    refine Vc.ret (Vc.rets rfl (.cons (.tmp rfl) (.nil)) ?_)
    exact congrArg Value.bool (by rw [hlb]; simp)
end Go.Proofs.Ytjoldkfedmiciaa
