/- The statements' functions: EdgesFirst. -/
import Derived.Test.YtjoldkfedmiciaaEdL
import Derived.Test.YtjoldkfedmiciaaSlP
namespace Go.Proofs.Ytjoldkfedmiciaa
set_option linter.unusedVariables false

theorem enc_byte (x : Eg) {k : Nat} (hk : k < 12) : (encE x).take (k + 1) = (encE x).take k ++ [UInt8.ofNat ((nums x)[k / 4]! / 2 ^ (8 * (k % 4)))] := by
  have : k = 0 ∨ k = 1 ∨ k = 2 ∨ k = 3 ∨ k = 4 ∨ k = 5 ∨ k = 6 ∨ k = 7 ∨ k = 8 ∨ k = 9 ∨ k = 10 ∨ k = 11 := by omega
  rcases this with h | h | h | h | h | h | h | h | h | h | h | h <;> subst h <;> simp [encE, nums, leBytes, Nat.div_div_eq_div_mul]
theorem app_get {α : Type} [Inhabited α] (A B : List α) {j : Nat} (h : j < A.length) : (A ++ B)[j]! = A[j]! := by
  rw [getElem!_pos (A ++ B) j (by simp; omega), getElem!_pos A j h, List.getElem_append_left h]
theorem app_mid {α : Type} [Inhabited α] (A B : List α) (x : α) : (A ++ x :: B)[A.length]! = x := by
  rw [getElem!_pos (A ++ x :: B) A.length (by simp), List.getElem_append_right (Nat.le_refl _)]
  simp
theorem first_dec {M pl : Nat} {es l : List Eg} {bad : Eg} (hE : ∀ e ∈ es, InE e) (hr : rightG (M : Int) es = true) (hL : ∀ e ∈ bad :: l, InE e) (hl : es.length ≤ 40) (hm : l.length ≤ 10)
    (hb : (M ≤ bad.f ∧ pl = (encG M es).length) ∨ (bad.f < M ∧ M ≤ bad.t ∧ pl = (encG M es).length + 4)) : decG (encG M es ++ (bad :: l).flatMap encE) = (0, [], pl, 1) := by
  obtain ⟨a1, a2, a3⟩ := rightG_all hr
  have hg := encG_length M es
  rw [← encG_app, dec_bad (m := es.length) (fun e he => (List.mem_append.1 he).elim (hE e) (hL e)) a1 (by simp; omega) (by simp) (fun j hj => by rw [app_get _ _ hj]; exact a3 _ (getE_mem hj)) (by rw [app_mid]; omega), app_mid]
  rcases hb with ⟨h1, h2⟩ | ⟨h1, h2, h3⟩
  · rw [if_pos h1, h2, hg]
  · rw [if_neg (by omega), h3, hg]

set_option maxHeartbeats 1000000 in
theorem EdgesFirst_spec (F : Fm) (N : Int) (v0 v3 : Value) (es0 more : List Eg) (bad : Eg) (to : Bool) (ha : Arg edgeE F v0 es0) (ha3 : Arg edgeE F v3 more) (hE0 : ∀ e ∈ es0, InE e) (hM0 : ∀ e ∈ more, InE e) (hbad : InE bad) :
    Spec Try.prog 7 #[grV N v0, egV bad, .bool to, v3] F [] fun v _ => v = .bool true := by
  obtain ⟨p0, c0, rfl⟩ := ha.shape
  obtain ⟨p3, c3, rfl⟩ := ha3.shape
  have hcap := ha3.cap.2
  have hle := take40_len es0
  have hE := take40_in hE0
  refine Spec.of (n := 140) (vs := [grV N (.slice p0 es0.length c0), egV bad, .bool to, .slice p3 more.length c3]) Try.func7 rfl Try.ntmps7 rfl ?_
  refine Vc.seq ?_
  refine Vc.text (List.range 3) (sd [(0, .eff), (1, .eff), (2, .pure)]) rfl ?_
  refine Rg.box rfl rfl rfl rfl rfl (fun b4 => ?_)
  refine Rg.box rfl rfl rfl rfl rfl (fun b5 => ?_)
  refine Rg.pure rfl rfl rfl (Pv.assign rfl) ?_
  refine Rg.nil ?_
  refine Vc.seq ?_
  refine Vc.text (List.range 2) (sd [(0, .eff), (1, .pure)]) rfl ?_
  refine Rg.callP rfl rfl rfl (run_callF rfl) (shown_spec _) ?_
  rintro _ rfl
  refine Rg.pure rfl rfl rfl (Pv.assign rfl) ?_
  refine Rg.nil ?_
  refine Vc.seq ?_
  refine Vc.text (List.range 3) (sd [(0, .read), (1, .eff), (2, .eff)]) rfl ?_
  refine Rg.read rfl rfl rfl (Ev.ldA rfl rfl) ?_
  refine Rg.callA rfl rfl rfl (run_callF rfl) (few_spec (ha.mono fun b o h => Or.inr h) N) ?_
  rintro _ s23 ⟨u, rfl, own⟩
  generalize es0.take 40 = es at own hle hE
  obtain ⟨q, c, rfl⟩ := own.shape
  refine Rg.storeA rfl rfl rfl rfl rfl rfl rfl rfl ?_
  refine Rg.nil ?_
  refine Vc.seq ?_
  refine Vc.text (List.range 7) (sd [(0, .read), (1, .eff), (2, .pure), (3, .pure), (4, .pure), (5, .pure), (6, .pure)]) rfl ?_
  refine Rg.read rfl rfl rfl (Ev.ldA rfl rfl) ?_
  refine Rg.callA rfl rfl rfl (run_callF rfl) (encode_spec (Arg.own own frz_sb) (by omega) hE N) ?_
  intro v26 s26 h26
  obtain ⟨ub, er, rfl, hcase⟩ : ∃ ub er, v26 = .tuple #[ub, .int .i64 er] ∧ ((rightG N es = true ∧ er = 0 ∧ Own byteE ub (encG N.toNat es) s26) ∨ (rightG N es = false ∧ er = 1 ∧ ub = .slice none 0 0)) := by
    rcases h26 with ⟨h, ub, rfl, ho⟩ | ⟨h, rfl⟩
    · exact ⟨_, _, rfl, .inl ⟨h, rfl, ho⟩⟩
    · exact ⟨_, _, rfl, .inr ⟨h, rfl, rfl⟩⟩
  refine Rg.pure rfl rfl rfl (Pv.move rfl) ?_
  refine Rg.pure rfl rfl rfl (Pv.extract rfl rfl) ?_
  refine Rg.pure rfl rfl rfl (Pv.extract rfl rfl) ?_
  refine Rg.pure rfl rfl rfl (Pv.assign rfl) ?_
  refine Rg.pure rfl rfl rfl (Pv.assign rfl) ?_
  refine Rg.nil ?_
  refine Vc.seq ?_
  refine Vc.seq ?_
  refine Vc.text (List.range 7) (sd [(0, .pure), (1, .pure), (2, .pure), (3, .pure), (4, .read), (5, .pure), (6, .pure)]) rfl ?_
  refine Rg.pure rfl rfl rfl (Pv.move rfl) ?_
  refine Rg.pure rfl rfl rfl (Pv.neq rfl rfl) ?_
  refine Rg.pure rfl rfl rfl (Pv.move rfl) ?_
  refine Rg.split (t := 31) rfl (fun h31 => ?_) (fun h31 => ?_)
  ·
    iterate 3 (first | refine Rg.skipP rfl rfl rfl ?_ | refine Rg.skipR rfl rfl rfl ?_ | refine Rg.skipE rfl rfl rfl ?_)
    refine Rg.pure rfl rfl rfl (Pv.pickT rfl rfl) ?_
    refine Rg.nil ?_
    refine Vc.condT rfl ?_
    refine Vc.seq ?_
    refine Vc.text (List.range 2) (sd [(0, .pure), (1, .pure)]) rfl ?_
    refine Rg.pure rfl rfl rfl (Pv.move rfl) ?_
    refine Rg.pure rfl rfl rfl (Pv.assign rfl) ?_
    refine Rg.nil ?_
    refine Vc.ret (Vc.rets rfl (.cons (.tmp rfl) (.nil)) ?_)
    rfl
  ·
    simp only [bne_eq_false_iff_eq] at h31
    obtain ⟨hr, _, ownb⟩ := hcase.resolve_right (fun h => by rw [h31] at h; cases h.2.1)
    obtain ⟨M, rfl, hM⟩ := rightG_nat hr
    rw [show (M : Int).toNat = M by simp] at ownb
    have hlb := encG_length M es
    have hdec := fun (bad : Eg) (l : List Eg) (pl : Nat) (h : ∀ e ∈ bad :: l, InE e) (hm : l.length ≤ 10) hb => first_dec (pl := pl) hE hr h hle hm hb
    generalize encG M es = bs at ownb hlb hdec
    obtain ⟨qb, cb, rfl⟩ := ownb.shape
    refine Rg.pure rfl rfl rfl (Pv.fa rfl) ?_
    refine Rg.read rfl rfl rfl (Ev.ld rfl rfl) ?_
    refine Rg.pure rfl rfl rfl (Pv.eql rfl rfl) ?_
    refine Rg.pure rfl rfl rfl (Pv.pickF rfl rfl) ?_
    refine Rg.nil ?_
    refine Vc.cond rfl (fun h35 => ?_) (fun h35 => ?_)
    ·
      refine Vc.seq ?_
      refine Vc.text (List.range 2) (sd [(0, .pure), (1, .pure)]) rfl ?_
      refine Rg.pure rfl rfl rfl (Pv.move rfl) ?_
      refine Rg.pure rfl rfl rfl (Pv.assign rfl) ?_
      refine Rg.nil ?_
      refine Vc.ret (Vc.rets rfl (.cons (.tmp rfl) (.nil)) ?_)
      rfl
    ·
      simp only [beq_eq_false_iff_ne, ne_eq] at h35
      have hM0' : 0 < M := by omega
      have hf := Nat.mod_lt bad.f hM0'
      have ht := Nat.mod_lt bad.t hM0'
      refine Vc.skip ?_
      refine Vc.seq ?_
      refine Vc.text (List.range 4) (sd [(0, .pure), (1, .read), (2, .pure), (3, .pure)]) rfl ?_
      refine Rg.pure rfl rfl rfl (Pv.fa rfl) ?_
      refine Rg.read rfl rfl rfl (Ev.ld rfl rfl) ?_
      refine Rg.pure rfl rfl rfl (Pv.asI M (Pv.convI rfl) (wrap_ult rfl (by show _ < 2 ^ 32; omega))) ?_
      refine Rg.pure rfl rfl rfl (Pv.assign rfl) ?_
      refine Rg.nil ?_
      refine Vc.seq ?_
      refine Vc.text (List.range 6) (sd [(0, .pure), (1, .read), (2, .pure), (3, .pure), (4, .pure), (5, .eff)]) rfl ?_
      refine Rg.pure rfl rfl rfl (Pv.fa rfl) ?_
      refine Rg.read rfl rfl rfl (Ev.ld rfl rfl) ?_
      refine Rg.pure rfl rfl rfl (Pv.move rfl) ?_
      refine Rg.pure rfl rfl rfl (Pv.remN bad.f M rfl rfl hM0') ?_
      refine Rg.pure rfl rfl rfl (Pv.fa rfl) ?_
      refine Rg.store rfl rfl rfl rfl rfl rfl rfl rfl ?_
      refine Rg.nil ?_
      refine Vc.seq ?_
      refine Vc.text (List.range 6) (sd [(0, .pure), (1, .read), (2, .pure), (3, .pure), (4, .pure), (5, .eff)]) rfl ?_
      refine Rg.pure rfl rfl rfl (Pv.fa rfl) ?_
      refine Rg.read rfl rfl rfl (Ev.ld rfl rfl) ?_
      refine Rg.pure rfl rfl rfl (Pv.move rfl) ?_
      refine Rg.pure rfl rfl rfl (Pv.remN bad.t M rfl rfl hM0') ?_
      refine Rg.pure rfl rfl rfl (Pv.fa rfl) ?_
      refine Rg.store rfl rfl rfl rfl rfl rfl rfl rfl ?_
      refine Rg.nil ?_
      refine Vc.seq ?_
      refine Vc.text (List.range 3) (sd [(0, .pure), (1, .pure), (2, .pure)]) rfl ?_
      refine Rg.pure rfl rfl rfl (Pv.move rfl) ?_
      refine Rg.pure rfl rfl rfl (Pv.lenS rfl) ?_
      refine Rg.pure rfl rfl rfl (Pv.assign rfl) ?_
      refine Rg.nil ?_
      refine Vc.seq ?_
      refine Vc.seq ?_
      refine Vc.text (List.range 1) (sd [(0, .pure)]) rfl ?_
      refine Rg.pure rfl rfl rfl (Pv.move rfl) ?_
      refine Rg.nil ?_
      refine Vc.cut2 (fun (bd : Eg) (pl : Nat) => InE bd ∧ pl ≤ 1000 ∧ ((M ≤ bd.f ∧ pl = bs.length) ∨ (bd.f < M ∧ M ≤ bd.t ∧ pl = bs.length + 4))) (fun bd pl => [(3, .slice p3 more.length c3), (5, .pointer (some ⟨b5, 0, none⟩)), (9, .bool true), (10, .slice qb bs.length cb), (13, .int .i64 (pl : Int))]) (fun bd pl => (b5, cellsO (egC bd) 39) :: s26) ?_ ?_
      ·
        refine Vc.cond rfl (fun h52 => ?_) (fun h52 => ?_)
        ·
          refine Vc.seq ?_
          refine Vc.text (List.range 6) (sd [(0, .pure), (1, .read), (2, .pure), (3, .pure), (4, .pure), (5, .eff)]) rfl ?_
          refine Rg.pure rfl rfl rfl (Pv.fa rfl) ?_
          refine Rg.read rfl rfl rfl (Ev.ld rfl rfl) ?_
          refine Rg.pure rfl rfl rfl (Pv.move rfl) ?_
          refine Rg.pure rfl rfl rfl (Pv.addN (k := .u32) (bad.t % M) M rfl rfl rfl (by show _ < 2 ^ 32; omega)) ?_
          refine Rg.pure rfl rfl rfl (Pv.fa rfl) ?_
          refine Rg.store rfl rfl rfl rfl rfl rfl rfl rfl ?_
          refine Rg.nil ?_
          refine Vc.text (List.range 3) (sd [(0, .pure), (1, .pure), (2, .pure)]) rfl ?_
          refine Rg.pure rfl rfl rfl (Pv.move rfl) ?_
          refine Rg.pure rfl rfl rfl (Pv.asI (bs.length + 4) (Pv.add rfl rfl (by omega)) (by omega)) ?_
          refine Rg.pure rfl rfl rfl (Pv.assign rfl) ?_
          refine Rg.nil ?_
          exact Vc.inv2 ⟨bad.f % M, bad.t % M + M, bad.w⟩ (bs.length + 4) ⟨⟨by show bad.f % M < 4294967296; omega, by show bad.t % M + M < 4294967296; omega, hbad.2.2⟩, by omega, .inr ⟨hf, by show M ≤ bad.t % M + M; omega, rfl⟩⟩ (.cons rfl (.cons rfl (.cons rfl (.cons rfl (.cons rfl .nil))))) pulled
        ·
          refine Vc.text (List.range 6) (sd [(0, .pure), (1, .read), (2, .pure), (3, .pure), (4, .pure), (5, .eff)]) rfl ?_
          refine Rg.pure rfl rfl rfl (Pv.fa rfl) ?_
          refine Rg.read rfl rfl rfl (Ev.ld rfl rfl) ?_
          refine Rg.pure rfl rfl rfl (Pv.move rfl) ?_
          refine Rg.pure rfl rfl rfl (Pv.addN (k := .u32) (bad.f % M) M rfl rfl rfl (by show _ < 2 ^ 32; omega)) ?_
          refine Rg.pure rfl rfl rfl (Pv.fa rfl) ?_
          refine Rg.store rfl rfl rfl rfl rfl rfl rfl rfl ?_
          refine Rg.nil ?_
          exact Vc.inv2 ⟨bad.f % M + M, bad.t % M, bad.w⟩ bs.length ⟨⟨by show bad.f % M + M < 4294967296; omega, by show bad.t % M < 4294967296; omega, hbad.2.2⟩, by omega, .inl ⟨by show M ≤ bad.f % M + M; omega, rfl⟩⟩ (.cons rfl (.cons rfl (.cons rfl (.cons rfl (.cons rfl .nil))))) pulled
      ·
        rintro bd pl ⟨hbd, hpl, hwhere⟩
        refine Vc.seq ?_
        refine Vc.draw [7] (sd [(0, .read), (2, .pure), (3, .pure), (4, .pure), (5, .pure), (6, .pure), (1, .eff), (7, .eff), (8, .pure)]) mixed (by kernel_rfl) ?_
        refine Rg.read rfl rfl rfl (Ev.ldA rfl rfl) ?_
        refine Rg.pure rfl rfl rfl (Pv.move rfl) ?_
        refine Rg.pure rfl rfl rfl (Pv.move rfl) ?_
        refine Rg.pure rfl rfl rfl (Pv.lenS rfl) ?_
        refine Rg.pure rfl rfl rfl (Pv.asI (min more.length 10) (Pv.min rfl rfl) (by omega)) ?_
        refine Rg.pure rfl rfl rfl (Pv.slTo (min more.length 10) rfl rfl (by omega)) ?_
        refine Rg.bslice1R (E := edgeE) bd rfl rfl rfl rfl rfl rfl rfl (by rfl) (fun b66 own66 => ?_)
        refine Rg.append rfl rfl rfl rfl rfl own66 (ha3.take (Nat.min_le_left _ _)).src (by simp <;> omega) (by simp [maxLen] <;> omega) rfl (fun v72 s72 own72 => ?_)
        have hL : ∀ e ∈ [bd] ++ more.take (min more.length 10), InE e := fun e he => (List.mem_append.1 he).elim (fun h => by rw [List.mem_singleton.1 h]; exact hbd) fun h => hM0 e (List.mem_of_mem_take h)
        have hd := hdec bd (more.take (min more.length 10)) pl hL (by simp; omega) hwhere
        have hll : ([bd] ++ more.take (min more.length 10)).length ≤ 11 := (by simp; omega)
        have hl0 : 0 < ([bd] ++ more.take (min more.length 10)).length := (by simp)
        change decG (bs ++ ([bd] ++ more.take (min more.length 10)).flatMap encE) = _ at hd
        generalize [bd] ++ more.take (min more.length 10) = l at own72 hL hd hll hl0
        obtain ⟨b72, c72, sp72, rfl, rfl, hc72, _⟩ := own72.block hl0
        refine Rg.pure rfl rfl rfl (Pv.assign rfl) ?_
        refine Rg.nil ?_
        refine Vc.seq ?_
        refine Vc.seq ?_
        refine Vc.text (List.range 1) (sd [(0, .pure)]) rfl ?_
        refine Rg.pure rfl rfl rfl (Pv.assign rfl) ?_
        refine Rg.nil ?_
        refine Vc.block ?_
        refine Vc.loop4 (fun (i : Nat) (ys : List UInt8) (v : Value) (sg : Hl) => i ≤ l.length ∧ ys = bs ++ (l.take i).flatMap encE ∧ ys.length = bs.length + 12 * i ∧ Own byteE v ys sg) (fun i ys v sg => [(9, .bool true), (10, v), (13, .int .i64 (pl : Int)), (14, .slice (some ⟨b72, 0, none⟩) l.length c72), (15, .int .i64 (i : Int))]) (fun i ys v sg => (b72, rowS edgeE l sp72) :: sg) (fun i ys v sg => l.length - i) 0 bs _ _ ⟨Nat.zero_le _, by simp, by simp, ownb⟩ (.cons rfl (.cons rfl (.cons rfl (.cons rfl (.cons rfl .nil))))) pulled ?_
        rintro i ys v sg ⟨hi, hys, hlen, own⟩
        refine Vc.seq ?_
        refine Vc.seq ?_
        refine Vc.text (List.range 4) (sd [(0, .pure), (1, .pure), (2, .pure), (3, .pure)]) rfl ?_
        refine Rg.pure rfl rfl rfl (Pv.move rfl) ?_
        refine Rg.pure rfl rfl rfl (Pv.move rfl) ?_
        refine Rg.pure rfl rfl rfl (Pv.lenS rfl) ?_
        refine Rg.pure rfl rfl rfl (Pv.lss rfl rfl) ?_
        refine Rg.nil ?_
        refine Vc.cond rfl (fun h76 => ?_) (fun h76 => ?_)
        ·
          simp only [decide_eq_true_eq] at h76
          have hi1 : i < l.length := by omega
          have htk := take_get l hi1
          have hxi : InE l[i]! := hL _ (getE_mem hi1)
          generalize hx : l[i]! = x at htk hxi
          refine Vc.skip ?_
          refine Vc.seq ?_
          refine Vc.block ?_
          refine Vc.seq ?_
          refine Vc.draw [] (sd [(0, .pure), (1, .pure), (2, .pure), (3, .pure), (4, .read), (5, .pure), (6, .pure), (7, .pure), (8, .pure), (9, .read), (10, .pure), (11, .pure), (12, .pure), (13, .pure), (14, .read), (15, .eff), (16, .pure)]) mixed (by kernel_rfl) ?_
          refine Rg.pure rfl rfl rfl (Pv.move rfl) ?_
          refine Rg.pure rfl rfl rfl (Pv.move rfl) ?_
          refine Rg.pure rfl rfl rfl (Pv.ixA (i) rfl rfl (by omega) (by omega)) ?_
          refine Rg.pure rfl rfl rfl (Pv.fa rfl) ?_
          refine Rg.read rfl rfl rfl (Ev.ldRf (E := edgeE) (u := .int .u32 (x.f : Int)) i 0 rfl (by rw [show edgeE.k = 3 from rfl]; omega) hi1 (by rw [hx]; rfl)) ?_
          refine Rg.pure rfl rfl rfl (Pv.move rfl) ?_
          refine Rg.pure rfl rfl rfl (Pv.move rfl) ?_
          refine Rg.pure rfl rfl rfl (Pv.ixA (i) rfl rfl (by omega) (by omega)) ?_
          refine Rg.pure rfl rfl rfl (Pv.fa rfl) ?_
          refine Rg.read rfl rfl rfl (Ev.ldRf (E := edgeE) (u := .int .u32 (x.t : Int)) i 1 rfl (by rw [show edgeE.k = 3 from rfl]; omega) hi1 (by rw [hx]; rfl)) ?_
          refine Rg.pure rfl rfl rfl (Pv.move rfl) ?_
          refine Rg.pure rfl rfl rfl (Pv.move rfl) ?_
          refine Rg.pure rfl rfl rfl (Pv.ixA (i) rfl rfl (by omega) (by omega)) ?_
          refine Rg.pure rfl rfl rfl (Pv.fa rfl) ?_
          refine Rg.read rfl rfl rfl (Ev.ldRf (E := edgeE) (u := .int .u32 (x.w : Int)) i 2 rfl (by rw [show edgeE.k = 3 from rfl]; omega) hi1 (by rw [hx]; rfl)) ?_
          refine Rg.bsliceN (cs := egC x) rfl rfl rfl rfl rfl rfl rfl (fun b94 => ?_)
          refine Rg.pure rfl rfl rfl (Pv.assign rfl) ?_
          refine Rg.nil ?_
          refine Vc.seq ?_
          refine Vc.text (List.range 1) (sd [(0, .pure)]) rfl ?_
          refine Rg.pure rfl rfl rfl (Pv.assign rfl) ?_
          refine Rg.nil ?_
          refine Vc.block ?_
          refine Vc.loop4 (fun (k : Nat) (zs : List UInt8) (v : Value) (sg : Hl) => k ≤ 12 ∧ zs = ys ++ (encE x).take k ∧ zs.length = bs.length + 12 * i + k ∧ Own byteE v zs sg) (fun k zs v sg => [(9, .bool true), (10, v), (13, .int .i64 (pl : Int)), (14, .slice (some ⟨b72, 0, none⟩) l.length c72), (15, .int .i64 (i : Int)), (16, .slice (some ⟨b94, 0, none⟩) 3 3), (17, .int .i64 (k : Int))]) (fun k zs v sg => (b94, cellsO (egC x) 37) :: (b72, rowS edgeE l sp72) :: sg) (fun k zs v sg => 12 - k) 0 ys _ _ ⟨Nat.zero_le _, by simp, by omega, own⟩ (.cons rfl (.cons rfl (.cons rfl (.cons rfl (.cons rfl (.cons rfl (.cons rfl .nil))))))) pulled ?_
          rintro k zs v sg ⟨hk, hzs, hzl, own⟩
          refine Vc.seq ?_
          refine Vc.seq ?_
          refine Vc.text (List.range 2) (sd [(0, .pure), (1, .pure)]) rfl ?_
          refine Rg.pure rfl rfl rfl (Pv.move rfl) ?_
          refine Rg.pure rfl rfl rfl (Pv.lss rfl rfl) ?_
          refine Rg.nil ?_
          refine Vc.cond rfl (fun h96 => ?_) (fun h96 => ?_)
          ·
            simp only [decide_eq_true_eq] at h96
            have hk1 : k < 12 := by omega
            have heb := enc_byte x hk1
            refine Vc.skip ?_
            refine Vc.seq ?_
            refine Vc.block ?_
            refine Vc.text (List.range 15) (sd [(0, .pure), (1, .pure), (2, .pure), (3, .pure), (4, .pure), (5, .read), (6, .pure), (7, .pure), (8, .pure), (9, .pure), (10, .pure), (11, .pure), (12, .eff), (13, .eff), (14, .pure)]) rfl ?_
            refine Rg.pure rfl rfl rfl (Pv.move rfl) ?_
            refine Rg.pure rfl rfl rfl (Pv.move rfl) ?_
            refine Rg.pure rfl rfl rfl (Pv.move rfl) ?_
            refine Rg.pure rfl rfl rfl (Pv.asI (k / 4) (Pv.quo rfl rfl (by omega)) (by omega)) ?_
            refine Rg.pure rfl rfl rfl (Pv.ixA (k / 4) rfl rfl (by omega) (by omega)) ?_
            refine Rg.read rfl rfl rfl (Ev.ld rfl (by rw [Nat.zero_add, Nat.mul_one, nth_eq]; exact nums_get x (by omega))) ?_
            refine Rg.pure rfl rfl rfl (Pv.move rfl) ?_
            refine Rg.pure rfl rfl rfl (Pv.asI (k % 4) (Pv.rem rfl rfl (by omega)) (by omega)) ?_
            refine Rg.pure rfl rfl rfl (Pv.asI (8 * (k % 4)) (Pv.mul rfl rfl (by omega)) (by omega)) ?_
            refine Rg.pure rfl rfl rfl (Pv.asI (8 * (k % 4)) (Pv.convI rfl) (wrap_ult rfl (by show _ < 2 ^ 64; omega))) ?_
            refine Rg.pure rfl rfl rfl (Pv.shrN ((nums x)[k / 4]!) (8 * (k % 4)) rfl rfl (by show _ ≤ 32; omega)) ?_
            refine Rg.pure rfl rfl rfl (Pv.as (.int .u8 ((UInt8.ofNat ((nums x)[k / 4]! / 2 ^ (8 * (k % 4)))).toNat : Int)) (Pv.convI rfl) (by rw [wrap_u8])) ?_
            refine Rg.bslice1 rfl rfl rfl rfl rfl rfl rfl (fun b111 => ?_)
            refine Rg.append rfl rfl rfl rfl rfl own (Src.one (y := UInt8.ofNat ((nums x)[k / 4]! / 2 ^ (8 * (k % 4)))) rfl) (by simp <;> omega) (by simp [maxLen] <;> omega) rfl (fun v112 s112 own112 => ?_)
            refine Rg.pure rfl rfl rfl (Pv.assign rfl) ?_
            refine Rg.nil ?_
            refine Vc.blk ?_
            refine Vc.text (List.range 3) (sd [(0, .pure), (1, .pure), (2, .pure)]) rfl ?_
            refine Rg.pure rfl rfl rfl (Pv.move rfl) ?_
            refine Rg.pure rfl rfl rfl (Pv.asI (k + 1) (Pv.add rfl rfl (by omega)) (by omega)) ?_
            refine Rg.pure rfl rfl rfl (Pv.assign rfl) ?_
            refine Rg.nil ?_
            exact Vc.inv4 (k + 1) _ v112 s112 ⟨⟨by omega, by rw [hzs, heb, List.append_assoc], by simp [hzl]; omega, own112⟩, by omega⟩ (.cons rfl (.cons rfl (.cons rfl (.cons rfl (.cons rfl (.cons rfl (.cons rfl .nil))))))) pulled
          ·
            simp only [decide_eq_false_iff_not] at h96
            obtain rfl : k = 12 := by omega
            rw [List.take_of_length_le (by simp)] at hzs
            refine Vc.exit rfl ?_
            refine Vc.blk ?_
            refine Vc.text (List.range 3) (sd [(0, .pure), (1, .pure), (2, .pure)]) rfl ?_
            refine Rg.pure rfl rfl rfl (Pv.move rfl) ?_
            refine Rg.pure rfl rfl rfl (Pv.asI (i + 1) (Pv.add rfl rfl (by omega)) (by omega)) ?_
            refine Rg.pure rfl rfl rfl (Pv.assign rfl) ?_
            refine Rg.nil ?_
            exact Vc.inv4 (i + 1) zs v sg ⟨⟨by omega, by rw [hzs, hys, htk]; simp, by omega, own⟩, by omega⟩ (.cons rfl (.cons rfl (.cons rfl (.cons rfl (.cons rfl .nil))))) pulled
        ·
          simp only [decide_eq_false_iff_not] at h76
          rw [List.take_of_length_le (by omega)] at hys
          obtain ⟨qy, cy, rfl⟩ := own.shape
          refine Vc.exit rfl ?_
          refine Vc.seq ?_
          refine Vc.text (List.range 10) (sd [(0, .pure), (1, .eff), (2, .pure), (3, .pure), (4, .pure), (5, .pure), (6, .eff), (7, .eff), (8, .pure), (9, .pure)]) rfl ?_
          refine Rg.pure rfl rfl rfl (Pv.move rfl) ?_
          refine Rg.callA rfl rfl rfl (run_callF rfl) (decode_spec (Arg.own own frz_sb) (by omega)) ?_
          rintro _ s115 ⟨u115, rfl, own115⟩
          simp only [hys, hd] at own115 ⊢
          obtain ⟨q115, c115, rfl⟩ := own115.shape
          refine Rg.pure rfl rfl rfl (Pv.move rfl) ?_
          refine Rg.pure rfl rfl rfl (Pv.extract rfl rfl) ?_
          refine Rg.pure rfl rfl rfl (Pv.extract rfl rfl) ?_
          refine Rg.pure rfl rfl rfl (Pv.extract rfl rfl) ?_
          refine Rg.alloc rfl rfl rfl rfl (fun b18 => ?_)
          refine Rg.storeA rfl rfl rfl rfl rfl rfl rfl rfl ?_
          refine Rg.pure rfl rfl rfl (Pv.assign rfl) ?_
          refine Rg.pure rfl rfl rfl (Pv.assign rfl) ?_
          refine Rg.nil ?_
          refine Vc.seq ?_
          refine Vc.text (List.range 22) (sd [(0, .pure), (1, .pure), (2, .pure), (3, .pure), (4, .pure), (5, .pure), (6, .pure), (7, .pure), (8, .pure), (9, .pure), (10, .pure), (11, .pure), (12, .read), (13, .pure), (14, .pure), (15, .pure), (16, .pure), (17, .read), (18, .pure), (19, .pure), (20, .pure), (21, .pure)]) rfl ?_
          refine Rg.pure rfl rfl rfl (Pv.move rfl) ?_
          refine Rg.pure rfl rfl rfl (Pv.move rfl) ?_
          refine Rg.split (t := 120) rfl (fun h120 => ?_) (fun h120 => absurd h120 (by decide))
          refine Rg.pure rfl rfl rfl (Pv.move rfl) ?_
          refine Rg.pure rfl rfl rfl (Pv.eql rfl rfl) ?_
          refine Rg.pure rfl rfl rfl (Pv.pickT rfl rfl) ?_
          refine Rg.pure rfl rfl rfl (Pv.move rfl) ?_
          refine Rg.split (t := 124) rfl (fun h124 => ?_) (fun h124 => absurd h124 (by decide))
          refine Rg.pure rfl rfl rfl (Pv.move rfl) ?_
          refine Rg.pure rfl rfl rfl (Pv.move rfl) ?_
          refine Rg.pure rfl rfl rfl (Pv.eql rfl rfl) ?_
          refine Rg.pure rfl rfl rfl (Pv.pickT rfl rfl) ?_
          refine Rg.pure rfl rfl rfl (Pv.move rfl) ?_
          refine Rg.split (t := 129) rfl (fun h129 => ?_) (fun h129 => absurd h129 (by simp))
          refine Rg.pure rfl rfl rfl (Pv.fa rfl) ?_
          refine Rg.read rfl rfl rfl (Ev.ld rfl rfl) ?_
          refine Rg.pure rfl rfl rfl (Pv.eql rfl rfl) ?_
          refine Rg.pure rfl rfl rfl (Pv.pickT rfl rfl) ?_
          refine Rg.pure rfl rfl rfl (Pv.move rfl) ?_
          refine Rg.split (t := 134) rfl (fun h134 => ?_) (fun h134 => absurd h134 (by decide))
          refine Rg.pure rfl rfl rfl (Pv.fa rfl) ?_
          refine Rg.read rfl rfl rfl (Ev.ld rfl rfl) ?_
          refine Rg.pure rfl rfl rfl (Pv.lenS rfl) ?_
          refine Rg.pure rfl rfl rfl (Pv.eql rfl rfl) ?_
          refine Rg.pure rfl rfl rfl (Pv.pickT rfl rfl) ?_
          refine Rg.pure rfl rfl rfl (Pv.assign rfl) ?_
          refine Rg.nil ?_
          refine Vc.ret (Vc.rets rfl (.cons (.tmp rfl) (.nil)) ?_)
          rfl
end Go.Proofs.Ytjoldkfedmiciaa
