/- Runs: the document's Cut, Merge. -/
import Derived.Test.YtkkbeljmloikkaaRuN
namespace Go.Proofs.Ytkkbeljmloikkaa
set_option linter.unusedVariables false

theorem chunk_take {n k : Nat} {xs l : List Rc} (h : l = xs.drop (k * n)) : l.take (min n l.length) = chunkL n xs k := by
  subst h; simp [chunkL]
theorem chunk_next {n k : Nat} {xs l : List Rc} (h : l = xs.drop (k * n)) : l.drop (min n l.length) = xs.drop ((k + 1) * n) := by
  subst h
  rw [List.drop_drop, Nat.add_mul, Nat.one_mul]
  by_cases e : n ≤ (xs.drop (k * n)).length
  · rw [Nat.min_eq_left e]
  · simp at e
    rw [List.drop_eq_nil_of_le (by simp; omega), List.drop_eq_nil_of_le (by omega)]
theorem rcut_spec {F : Fm} {va : Value} {xs : List Rc} (ha : Arg recE F va xs) (hN : xs.length < 1000000) (hR : NR xs) (n : Nat) (hn : 1 ≤ n) (hn2 : n ≤ 1000) (how : Int) :
    Spec Try.prog 18 #[va, .int .i64 (n : Int), .int .i64 how] F [] fun v s => OwnRR v (cutG n how xs) s := by
  obtain ⟨p, c, rfl⟩ := ha.shape
  refine Spec.of (n := 29) (vs := [.slice p xs.length c, .int .i64 (n : Int), .int .i64 how]) Try.func18 rfl Try.ntmps18 rfl ?_
  refine Vc.seq ?_
  refine Vc.text (List.range 1) (sd [(0, .pure)]) rfl ?_
  refine Rg.pure rfl rfl rfl (Pv.assign rfl) ?_
  refine Rg.nil ?_
  refine Vc.seq ?_
  refine Vc.text (List.range 2) (sd [(0, .eff), (1, .pure)]) rfl ?_
  refine Rg.bslice0 (E := slE) rfl rfl rfl (fun b9 own9 => ?_)
  refine Rg.pure rfl rfl rfl (Pv.assign rfl) ?_
  refine Rg.nil ?_
  refine Vc.seq ?_
  refine Vc.block ?_
  refine Vc.loop7 (fun (k : Nat) (l : List Rc) (vl v : Value) (vs : List Sv) (s0 s1 : Hl) => k ≤ nc n xs.length ∧ l = xs.drop (k * n) ∧ Arg recE F vl l ∧ Own slE v vs s0 ∧ OwnsR vs ((List.range k).map fun i => sortedG how (chunkL n xs i)) s1) (fun k l vl v vs s0 s1 => [(0, vl), (1, .int .i64 (n : Int)), (2, .int .i64 how), (7, v)]) (fun k l vl v vs s0 s1 => s0 ++ s1) (fun k l vl v vs s0 s1 => l.length) 0 xs (.slice p xs.length c) _ [] _ [] ⟨Nat.zero_le _, by simp, ha, own9, .nil⟩ (.cons rfl (.cons rfl (.cons rfl (.cons rfl .nil)))) pulled ?_
  rintro k l vl v vs s0 s1 ⟨hk, hl, hal, own, owns⟩
  obtain ⟨pl, cl, rfl⟩ := hal.shape
  have hll : l.length = xs.length - k * n := by rw [hl]; simp
  refine Vc.seq ?_
  refine Vc.seq ?_
  refine Vc.text (List.range 3) (sd [(0, .pure), (1, .pure), (2, .pure)]) rfl ?_
  refine Rg.pure rfl rfl rfl (Pv.move rfl) ?_
  refine Rg.pure rfl rfl rfl (Pv.lenS rfl) ?_
  refine Rg.pure rfl rfl rfl (Pv.gtr rfl rfl) ?_
  refine Rg.nil ?_
  refine Vc.cond rfl (fun h12 => ?_) (fun h12 => ?_)
  ·
    simp only [decide_eq_true_eq] at h12
    obtain ⟨b, off, c', e, hcap⟩ := hal.block (by omega)
    cases e
    have hk1 : k < nc n xs.length := (nc_lt hn).2 (by omega)
    have hkl := nc_le (n := n) (len := xs.length) hn
    have ht := hal.take (k := min n l.length) (Nat.min_le_right _ _)
    rw [chunk_take hl] at ht
    have hvl : vs.length < 1000000 := by rw [owns.len]; simp; omega
    have hs := hal.sub (min n l.length) l.length (Nat.min_le_right _ _) (Nat.le_refl _)
    rw [List.take_of_length_le (by simp), chunk_next hl] at hs
    refine Vc.skip ?_
    refine Vc.block ?_
    refine Vc.seq ?_
    refine Vc.text (List.range 5) (sd [(0, .pure), (1, .pure), (2, .pure), (3, .pure), (4, .pure)]) rfl ?_
    refine Rg.pure rfl rfl rfl (Pv.move rfl) ?_
    refine Rg.pure rfl rfl rfl (Pv.move rfl) ?_
    refine Rg.pure rfl rfl rfl (Pv.lenS rfl) ?_
    refine Rg.pure rfl rfl rfl (Pv.asI (min n l.length) (Pv.min rfl rfl) (by omega)) ?_
    refine Rg.pure rfl rfl rfl (Pv.assign rfl) ?_
    refine Rg.nil ?_
    refine Vc.seq ?_
    refine Vc.text (List.range 9) (sd [(0, .pure), (1, .pure), (2, .pure), (3, .pure), (4, .pure), (5, .eff), (6, .eff), (7, .eff), (8, .pure)]) rfl ?_
    refine Rg.pure rfl rfl rfl (Pv.move rfl) ?_
    refine Rg.pure rfl rfl rfl (Pv.move rfl) ?_
    refine Rg.pure rfl rfl rfl (Pv.move rfl) ?_
    refine Rg.pure rfl rfl rfl (Pv.slTo (min n l.length) rfl rfl (by omega)) ?_
    refine Rg.pure rfl rfl rfl (Pv.move rfl) ?_
    refine Rg.callA rfl rfl rfl (run_callF rfl) (rsorted_spec (ht.mono fun b o h => Or.inr h) (by rw [chunkL_length]; omega) (chunkL_nr hR) how) ?_
    rintro _ s22 own22
    obtain ⟨q22, c22, rfl⟩ := own22.shape
    refine Rg.bslice1 rfl rfl rfl rfl rfl rfl rfl (fun b23 => ?_)
    refine Rg.append rfl rfl rfl rfl rfl own (Src.one (y := (⟨q22, (sortedG how (chunkL n xs k)).length, c22⟩ : Sv)) rfl) (by simp <;> omega) (by simp [maxLen] <;> omega) rfl (fun v24 s24 own24 => ?_)
    refine Rg.pure rfl rfl rfl (Pv.assign rfl) ?_
    refine Rg.nil ?_
    refine Vc.text (List.range 4) (sd [(0, .pure), (1, .pure), (2, .pure), (3, .pure)]) rfl ?_
    refine Rg.pure rfl rfl rfl (Pv.move rfl) ?_
    refine Rg.pure rfl rfl rfl (Pv.move rfl) ?_
    refine Rg.pure rfl rfl rfl (Pv.slFrom (min n l.length) rfl rfl (by omega) (by omega)) ?_
    refine Rg.pure rfl rfl rfl (Pv.assign rfl) ?_
    refine Rg.nil ?_
    refine Vc.blk ?_
    exact Vc.inv7 (k + 1) _ _ _ _ s24 (s22 ++ s1) ⟨⟨hk1, rfl, hs, own24, by rw [List.range_succ, List.map_append]; exact owns.snoc (s := ⟨q22, _, c22⟩) own22⟩, by rw [List.length_drop, Nat.add_mul]; omega⟩ (.cons rfl (.cons rfl (.cons rfl (.cons rfl .nil)))) pulled
  ·
    simp only [decide_eq_false_iff_not] at h12
    have hkn : k = nc n xs.length := by
      have := mt (nc_lt (k := k) (len := xs.length) hn).1 (by omega)
      omega
    refine Vc.exit rfl ?_
    refine Vc.seq ?_
    refine Vc.text (List.range 2) (sd [(0, .pure), (1, .pure)]) rfl ?_
    refine Rg.pure rfl rfl rfl (Pv.move rfl) ?_
    refine Rg.pure rfl rfl rfl (Pv.assign rfl) ?_
    refine Rg.nil ?_
    exact Vc.ret (Vc.retsH rfl (.cons (.tmp rfl) (.nil)) (⟨vs, s0, s1, own, by rw [hkn] at owns; exact owns, rfl⟩) pulled)

theorem rmerge_spec {F : Fm} {va : Value} {ls : List Sv} {xss : List (List Rc)} (ha : ArgRR F va ls xss) (hn : xss.length < 100000) (hT : xss.flatten.length < 1000000) (hR : NR xss.flatten) (how : Int) :
    Spec Try.prog 19 #[va, .int .i64 how] F [] fun v s => Own recE v (sortedG how xss.flatten) s := by
  obtain ⟨p, c, rfl⟩ := ha.top.shape
  have hll := ha.len
  obtain ⟨n, hnn⟩ : ∃ n, n = xss.length := ⟨_, rfl⟩
  rw [← hnn] at hll hn
  rw [hll]
  have hra := ha.rows
  rw [← hnn] at hra
  have hatop := ha.top
  rw [hll] at hatop
  refine Spec.of (n := 23) (vs := [.slice p n c, .int .i64 how]) Try.func19 rfl Try.ntmps19 rfl ?_
  refine Vc.seq ?_
  refine Vc.text (List.range 1) (sd [(0, .pure)]) rfl ?_
  refine Rg.pure rfl rfl rfl (Pv.assign rfl) ?_
  refine Rg.nil ?_
  refine Vc.seq ?_
  refine Vc.text (List.range 2) (sd [(0, .eff), (1, .pure)]) rfl ?_
  refine Rg.bslice0 (E := recE) rfl rfl rfl (fun b7 own7 => ?_)
  refine Rg.pure rfl rfl rfl (Pv.assign rfl) ?_
  refine Rg.nil ?_
  refine Vc.seq ?_
  refine Vc.seq ?_
  refine Vc.text (List.range 1) (sd [(0, .pure)]) rfl ?_
  refine Rg.pure rfl rfl rfl (Pv.assign rfl) ?_
  refine Rg.nil ?_
  refine Vc.block ?_
  refine Vc.loop3 (fun (k : Nat) (v : Value) (sg : Hl) => k ≤ n ∧ Own recE v (xss.take k).flatten sg) (fun k v sg => [(0, .slice p n c), (1, .int .i64 how), (5, v), (6, .int .i64 (k : Int))]) (fun k v sg => sg) (fun k v sg => n - k) 0 _ _ ⟨Nat.zero_le _, own7⟩ (.cons rfl (.cons rfl (.cons rfl (.cons rfl .nil)))) pulled ?_
  rintro k v sg ⟨hk, own⟩
  refine Vc.seq ?_
  refine Vc.seq ?_
  refine Vc.text (List.range 4) (sd [(0, .pure), (1, .pure), (2, .pure), (3, .pure)]) rfl ?_
  refine Rg.pure rfl rfl rfl (Pv.move rfl) ?_
  refine Rg.pure rfl rfl rfl (Pv.move rfl) ?_
  refine Rg.pure rfl rfl rfl (Pv.lenS rfl) ?_
  refine Rg.pure rfl rfl rfl (Pv.lss rfl rfl) ?_
  refine Rg.nil ?_
  refine Vc.cond rfl (fun h11 => ?_) (fun h11 => ?_)
  ·
    simp only [decide_eq_true_eq] at h11
    have hk1 : k < n := by omega
    obtain ⟨bl, off, c', e, _⟩ := hatop.block (by omega)
    rw [hll] at e
    cases e
    have hxk := hra k hk1
    have htk : xss.take (k + 1) = xss.take k ++ [xss[k]!] := take_get xss (by omega)
    have hfl : (xss.take (k + 1)).flatten.length ≤ xss.flatten.length := by
      conv => rhs; rw [← List.take_append_drop (k + 1) xss]
      rw [List.flatten_append, List.length_append]; omega
    rw [htk, List.flatten_append, List.flatten_singleton, List.length_append] at hfl
    obtain ⟨sk, hsk⟩ : ∃ s, ls[k]! = s := ⟨_, rfl⟩
    obtain ⟨pk, mk, ck⟩ := sk
    rw [hsk] at hxk
    refine Vc.skip ?_
    refine Vc.seq ?_
    refine Vc.block ?_
    refine Vc.text (List.range 7) (sd [(0, .pure), (1, .pure), (2, .pure), (3, .pure), (4, .read), (5, .eff), (6, .pure)]) rfl ?_
    refine Rg.pure rfl rfl rfl (Pv.move rfl) ?_
    refine Rg.pure rfl rfl rfl (Pv.move rfl) ?_
    refine Rg.pure rfl rfl rfl (Pv.move rfl) ?_
    refine Rg.pure rfl rfl rfl (Pv.ixA (k) rfl rfl (by omega) (by omega)) ?_
    refine Rg.read rfl rfl rfl (Ev.as (.slice pk mk ck) (Ev.ldS (E := slE) k hatop.src rfl rfl rfl (by omega)) (congrArg slE.val hsk)) ?_
    refine Rg.append rfl rfl rfl rfl rfl own hxk.src (by omega) (by rw [show maxLen = 9223372036854775807 from rfl]; omega) rfl (fun v19 s19 own19 => ?_)
    refine Rg.pure rfl rfl rfl (Pv.assign rfl) ?_
    refine Rg.nil ?_
    refine Vc.blk ?_
    refine Vc.text (List.range 3) (sd [(0, .pure), (1, .pure), (2, .pure)]) rfl ?_
    refine Rg.pure rfl rfl rfl (Pv.move rfl) ?_
    refine Rg.pure rfl rfl rfl (Pv.asI (k + 1) (Pv.add rfl rfl (by omega)) (by omega)) ?_
    refine Rg.pure rfl rfl rfl (Pv.assign rfl) ?_
    refine Rg.nil ?_
    exact Vc.inv3 (k + 1) v19 s19 ⟨⟨by omega, by rw [htk, List.flatten_append, List.flatten_singleton]; exact own19⟩, by omega⟩ (.cons rfl (.cons rfl (.cons rfl (.cons rfl .nil)))) pulled
  ·
    simp only [decide_eq_false_iff_not] at h11
    rw [List.take_of_length_le (by omega)] at own
    obtain ⟨qo, co, rfl⟩ := own.shape
    refine Vc.exit rfl ?_
    refine Vc.seq ?_
    refine Vc.text (List.range 4) (sd [(0, .pure), (1, .pure), (2, .eff), (3, .pure)]) rfl ?_
    refine Rg.pure rfl rfl rfl (Pv.move rfl) ?_
    refine Rg.pure rfl rfl rfl (Pv.move rfl) ?_
    refine Rg.callA rfl rfl rfl (run_callF rfl) (rsorted_spec (Arg.own own frz_sb) hT hR how) ?_
    rintro v22 s22 own22
    refine Rg.pure rfl rfl rfl (Pv.assign rfl) ?_
    refine Rg.nil ?_
    exact Vc.ret (Vc.retsH rfl (.cons (.tmp rfl) (.nil)) (own22) pulled)
end Go.Proofs.Ytkkbeljmloikkaa
