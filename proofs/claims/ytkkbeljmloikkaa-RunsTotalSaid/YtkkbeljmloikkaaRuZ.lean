/- The statements' functions: RunsCuts, RunsTotal. -/
import Derived.Test.YtkkbeljmloikkaaRuY
namespace Go.Proofs.Ytkkbeljmloikkaa
set_option linter.unusedVariables false

theorem cutG_at {n i : Nat} {xs : List Rc} (hi : i < nc n xs.length) : (cutG n 0 xs)[i]!.length = min n (xs.length - i * n) := by
  rw [getElem!_pos _ i (by simpa [cutG] using hi)]
  simp [cutG, sortedG_zero, sortL_length, chunkL]
theorem chunk_full {n i len : Nat} (hn : 1 ≤ n) (h : i + 1 < nc n len) : n ≤ len - i * n := by
  have := (nc_lt hn).1 h
  rw [Nat.add_mul, Nat.one_mul] at this
  omega
theorem cut_sorted {n : Nat} (hn : 1 ≤ n) {xs : List Rc} (hR : NR xs) : sortL (cutG n 0 xs).flatten = sortL xs := by
  have := cut_merged hn hR 0
  rwa [sortedG_zero, sortedG_zero] at this

set_option maxHeartbeats 1000000 in
theorem RunsCuts_spec (F : Fm) (v0 : Value) (xs0 : List Rc) (budget : Int) (ha : Arg recE F v0 xs0) (hR0 : NR xs0) :
    Spec Try.prog 10 #[v0, .int .i64 budget] F [] fun v _ => v = .bool true := by
  obtain ⟨p0, c0, rfl⟩ := ha.shape
  have hl := take100_len xs0
  have hR := hR0.take 100
  obtain ⟨n, hn⟩ : ∃ n, n = 1 + andN budget 65535 % 50 := ⟨_, rfl⟩
  have hn1 : 1 ≤ n ∧ n ≤ 50 := by omega
  refine Spec.of (n := 88) (vs := [.slice p0 xs0.length c0, .int .i64 budget]) Try.func10 rfl Try.ntmps10 rfl ?_
  refine Vc.seq ?_
  refine Vc.text (List.range 1) (sd [(0, .pure)]) rfl ?_
  refine Rg.pure rfl rfl rfl (Pv.assign rfl) ?_
  refine Rg.nil ?_
  refine Vc.seq ?_
  refine Vc.text (List.range 2) (sd [(0, .eff), (1, .pure)]) rfl ?_
  refine Rg.callP rfl rfl rfl (run_callF rfl) (shown_spec _) ?_
  rintro _ rfl
  refine Rg.pure rfl rfl rfl (Pv.assign rfl) ?_
  refine Rg.nil ?_
  refine Vc.seq ?_
  refine Vc.text (List.range 3) (sd [(0, .pure), (1, .eff), (2, .pure)]) rfl ?_
  refine Rg.pure rfl rfl rfl (Pv.move rfl) ?_
  refine Rg.callA rfl rfl rfl (run_callF rfl) (few_spec (ha.mono fun b o h => Or.inr h)) ?_
  rintro _ s12 own12
  generalize xs0.take 100 = xs at own12 hl hR
  obtain ⟨q, c, rfl⟩ := own12.shape
  have hcl := cutG_len hn1.1 0 xs
  have hnc := nc_le (n := n) (len := xs.length) hn1.1
  refine Rg.pure rfl rfl rfl (Pv.assign rfl) ?_
  refine Rg.nil ?_
  refine Vc.seq ?_
  refine Vc.text (List.range 5) (sd [(0, .pure), (1, .pure), (2, .pure), (3, .pure), (4, .pure)]) rfl ?_
  refine Rg.pure rfl rfl rfl (Pv.move rfl) ?_
  refine Rg.pure rfl rfl rfl (Pv.and rfl rfl (by omega)) ?_
  refine Rg.pure rfl rfl rfl (Pv.asI (andN budget 65535 % 50) (Pv.rem rfl rfl (by omega)) (by omega)) ?_
  refine Rg.pure rfl rfl rfl (Pv.asI (n) (Pv.add rfl rfl (by omega)) (by omega)) ?_
  refine Rg.pure rfl rfl rfl (Pv.assign rfl) ?_
  refine Rg.nil ?_
  refine Vc.seq ?_
  refine Vc.text (List.range 8) (sd [(0, .pure), (1, .pure), (2, .eff), (3, .pure), (4, .pure), (5, .pure), (6, .pure), (7, .pure)]) rfl ?_
  refine Rg.pure rfl rfl rfl (Pv.move rfl) ?_
  refine Rg.pure rfl rfl rfl (Pv.move rfl) ?_
  refine Rg.callA rfl rfl rfl (run_callF rfl) (cut_ok (Arg.own own12 frz_sb) (by omega) hR n hn1.1 (by omega) (by decide)) ?_
  rintro _ _ ⟨u20, rfl, vs, s0, s1, own20, owns20, rfl⟩
  simp only [List.append_assoc]
  obtain ⟨q20, c20, rfl⟩ := own20.shape
  have hvl : vs.length = nc n xs.length := by rw [owns20.len]; exact hcl.1
  have hrows := owns20.arg (F := frz F s1) (fun b o hb => Or.inl hb)
  refine Rg.pure rfl rfl rfl (Pv.move rfl) ?_
  refine Rg.pure rfl rfl rfl (Pv.extract rfl rfl) ?_
  refine Rg.pure rfl rfl rfl (Pv.extract rfl rfl) ?_
  refine Rg.pure rfl rfl rfl (Pv.assign rfl) ?_
  refine Rg.pure rfl rfl rfl (Pv.assign rfl) ?_
  refine Rg.nil ?_
  refine Vc.seq ?_
  refine Vc.seq ?_
  refine Vc.text (List.range 14) (sd [(0, .pure), (1, .pure), (2, .pure), (3, .pure), (4, .pure), (5, .pure), (6, .pure), (7, .pure), (8, .pure), (9, .pure), (10, .pure), (11, .pure), (12, .pure), (13, .pure)]) rfl ?_
  refine Rg.pure rfl rfl rfl (Pv.move rfl) ?_
  refine Rg.pure rfl rfl rfl (Pv.neq rfl rfl) ?_
  refine Rg.pure rfl rfl rfl (Pv.move rfl) ?_
  refine Rg.split (t := 25) rfl (fun h25 => absurd h25 (by decide)) (fun h25 => ?_)
  refine Rg.pure rfl rfl rfl (Pv.move rfl) ?_
  refine Rg.pure rfl rfl rfl (Pv.lenS rfl) ?_
  refine Rg.pure rfl rfl rfl (Pv.move rfl) ?_
  refine Rg.pure rfl rfl rfl (Pv.lenS rfl) ?_
  refine Rg.pure rfl rfl rfl (Pv.move rfl) ?_
  refine Rg.pure rfl rfl rfl (Pv.asI (xs.length + n) (Pv.add rfl rfl (by omega)) (by omega)) ?_
  refine Rg.pure rfl rfl rfl (Pv.asI (xs.length + n - 1) (Pv.sub rfl rfl (by omega)) (by omega)) ?_
  refine Rg.pure rfl rfl rfl (Pv.move rfl) ?_
  refine Rg.pure rfl rfl rfl (Pv.asI ((xs.length + n - 1) / n) (Pv.quo rfl rfl (by omega)) (by omega)) ?_
  refine Rg.pure rfl rfl rfl (Pv.neq rfl rfl) ?_
  refine Rg.pure rfl rfl rfl (Pv.pickF rfl rfl) ?_
  refine Rg.nil ?_
  refine Vc.cond rfl (fun h36 => absurd h36 (by rw [hvl]; simp [nc])) (fun h36 => ?_)
  refine Vc.skip ?_
  refine Vc.seq ?_
  refine Vc.text (List.range 1) (sd [(0, .pure)]) rfl ?_
  refine Rg.pure rfl rfl rfl (Pv.assign rfl) ?_
  refine Rg.nil ?_
  refine Vc.seq ?_
  refine Vc.seq ?_
  refine Vc.text (List.range 1) (sd [(0, .pure)]) rfl ?_
  refine Rg.pure rfl rfl rfl (Pv.assign rfl) ?_
  refine Rg.nil ?_
  refine Vc.block ?_
  refine Vc.loop3 (fun (i : Nat) (v : Value) (sg : Hl) => i ≤ vs.length ∧ Own recE v ((cutG n 0 xs).take i).flatten sg) (fun i v sg => [(0, .slice q xs.length c), (1, .int .i64 (n : Int)), (5, .bool true), (6, .slice q20 vs.length c20), (8, v), (9, .int .i64 (i : Int))]) (fun i v sg => s0 ++ (s1 ++ (s12 ++ sg))) (fun i v sg => vs.length - i) 0 _ [] ⟨Nat.zero_le _, .nil⟩ (.cons rfl (.cons rfl (.cons rfl (.cons rfl (.cons rfl (.cons rfl .nil)))))) pulled ?_
  rintro i v sg ⟨hi, own⟩
  refine Vc.seq ?_
  refine Vc.seq ?_
  refine Vc.text (List.range 4) (sd [(0, .pure), (1, .pure), (2, .pure), (3, .pure)]) rfl ?_
  refine Rg.pure rfl rfl rfl (Pv.move rfl) ?_
  refine Rg.pure rfl rfl rfl (Pv.move rfl) ?_
  refine Rg.pure rfl rfl rfl (Pv.lenS rfl) ?_
  refine Rg.pure rfl rfl rfl (Pv.lss rfl rfl) ?_
  refine Rg.nil ?_
  refine Vc.cond rfl (fun h40 => ?_) (fun h40 => ?_)
  ·
    simp only [decide_eq_true_eq] at h40
    have hi1 : i < nc n xs.length := by omega
    obtain ⟨b20, c20', sp20, e, rfl, _, _⟩ := own20.block (by omega)
    cases e
    have hrow := hrows i (by omega)
    obtain ⟨⟨pk, mk, ck⟩, hsk⟩ : ∃ s, vs[i]! = s := ⟨_, rfl⟩
    rw [hsk] at hrow
    obtain rfl : mk = (cutG n 0 xs)[i]!.length := hrow.cap.1
    have hL := cutG_at (n := n) (xs := xs) hi1
    have hin := (nc_lt hn1.1).1 hi1
    have htk : (cutG n 0 xs).take (i + 1) = (cutG n 0 xs).take i ++ [(cutG n 0 xs)[i]!] := take_get _ (by omega)
    have hfl : ((cutG n 0 xs).take (i + 1)).flatten.length ≤ (cutG n 0 xs).flatten.length := by
      conv => rhs; rw [← List.take_append_drop (i + 1) (cutG n 0 xs)]
      rw [List.flatten_append, List.length_append]; omega
    rw [htk, List.flatten_append, List.flatten_singleton, List.length_append] at hfl
    generalize (cutG n 0 xs)[i]! = row at hrow hsk hL htk hfl
    refine Vc.skip ?_
    refine Vc.seq ?_
    refine Vc.block ?_
    refine Vc.seq ?_
    refine Vc.seq ?_
    refine Vc.text (List.range 31) (sd [(0, .pure), (1, .pure), (2, .pure), (3, .pure), (4, .pure), (5, .pure), (6, .pure), (7, .pure), (8, .pure), (9, .read), (10, .pure), (11, .pure), (12, .pure), (13, .pure), (14, .pure), (15, .pure), (16, .pure), (17, .pure), (18, .read), (19, .pure), (20, .pure), (21, .pure), (22, .pure), (23, .pure), (24, .pure), (25, .pure), (26, .read), (27, .pure), (28, .pure), (29, .pure), (30, .pure)]) rfl ?_
    refine Rg.pure rfl rfl rfl (Pv.move rfl) ?_
    refine Rg.pure rfl rfl rfl (Pv.asI (i + 1) (Pv.add rfl rfl (by omega)) (by omega)) ?_
    refine Rg.pure rfl rfl rfl (Pv.move rfl) ?_
    refine Rg.pure rfl rfl rfl (Pv.lenS rfl) ?_
    refine Rg.pure rfl rfl rfl (Pv.lss rfl rfl) ?_
    refine Rg.pure rfl rfl rfl (Pv.move rfl) ?_
    refine Rg.split (t := 48) rfl (fun h48 => ?_) (fun h48 => ?_)
    ·
      simp only [decide_eq_true_eq] at h48
      have hfull := chunk_full (n := n) (i := i) (len := xs.length) hn1.1 (by omega)
      refine Rg.pure rfl rfl rfl (Pv.move rfl) ?_
      refine Rg.pure rfl rfl rfl (Pv.move rfl) ?_
      refine Rg.pure rfl rfl rfl (Pv.ixA (i) rfl rfl (by omega) (by omega)) ?_
      refine Rg.read rfl rfl rfl (Ev.as (.slice pk row.length ck) (Ev.ldR (E := slE) i rfl (Nat.zero_add _) (by omega)) (congrArg slE.val hsk)) ?_
      refine Rg.pure rfl rfl rfl (Pv.lenS rfl) ?_
      refine Rg.pure rfl rfl rfl (Pv.move rfl) ?_
      refine Rg.pure rfl rfl rfl (Pv.neq rfl rfl) ?_
      refine Rg.pure rfl rfl rfl (Pv.pickT rfl rfl) ?_
      refine Rg.pure rfl rfl rfl (Pv.move rfl) ?_
      refine Rg.split (t := 57) rfl (fun h57 => absurd h57 (by simp only [bne_iff_ne, ne_eq]; omega)) (fun h57 => ?_)
      refine Rg.pure rfl rfl rfl (Pv.move rfl) ?_
      refine Rg.pure rfl rfl rfl (Pv.move rfl) ?_
      refine Rg.pure rfl rfl rfl (Pv.ixA (i) rfl rfl (by omega) (by omega)) ?_
      refine Rg.read rfl rfl rfl (Ev.as (.slice pk row.length ck) (Ev.ldR (E := slE) i rfl (Nat.zero_add _) (by omega)) (congrArg slE.val hsk)) ?_
      refine Rg.pure rfl rfl rfl (Pv.lenS rfl) ?_
      refine Rg.pure rfl rfl rfl (Pv.eql rfl rfl) ?_
      refine Rg.pure rfl rfl rfl (Pv.pickF rfl rfl) ?_
      refine Rg.pure rfl rfl rfl (Pv.move rfl) ?_
      refine Rg.split (t := 65) rfl (fun h65 => absurd h65 (by simp only [beq_iff_eq]; omega)) (fun h65 => ?_)
      refine Rg.pure rfl rfl rfl (Pv.move rfl) ?_
      refine Rg.pure rfl rfl rfl (Pv.move rfl) ?_
      refine Rg.pure rfl rfl rfl (Pv.ixA (i) rfl rfl (by omega) (by omega)) ?_
      refine Rg.read rfl rfl rfl (Ev.as (.slice pk row.length ck) (Ev.ldR (E := slE) i rfl (Nat.zero_add _) (by omega)) (congrArg slE.val hsk)) ?_
      refine Rg.pure rfl rfl rfl (Pv.lenS rfl) ?_
      refine Rg.pure rfl rfl rfl (Pv.move rfl) ?_
      refine Rg.pure rfl rfl rfl (Pv.gtr rfl rfl) ?_
      refine Rg.pure rfl rfl rfl (Pv.pickF rfl rfl) ?_
      refine Rg.nil ?_
      refine Vc.cond rfl (fun h73 => absurd h73 (by simp only [decide_eq_true_eq]; omega)) (fun h73 => ?_)
      refine Vc.skip ?_
      refine Vc.text (List.range 7) (sd [(0, .pure), (1, .pure), (2, .pure), (3, .pure), (4, .read), (5, .eff), (6, .pure)]) rfl ?_
      refine Rg.pure rfl rfl rfl (Pv.move rfl) ?_
      refine Rg.pure rfl rfl rfl (Pv.move rfl) ?_
      refine Rg.pure rfl rfl rfl (Pv.move rfl) ?_
      refine Rg.pure rfl rfl rfl (Pv.ixA (i) rfl rfl (by omega) (by omega)) ?_
      refine Rg.read rfl rfl rfl (Ev.as (.slice pk row.length ck) (Ev.ldR (E := slE) i rfl (Nat.zero_add _) (by omega)) (congrArg slE.val hsk)) ?_
      refine Rg.append rfl rfl rfl rfl rfl own hrow.srcF (by omega) (by rw [show maxLen = 9223372036854775807 from rfl]; omega) rfl (fun v79 s79 own79 => ?_)
      refine Rg.pure rfl rfl rfl (Pv.assign rfl) ?_
      refine Rg.nil ?_
      refine Vc.blk ?_
      refine Vc.text (List.range 3) (sd [(0, .pure), (1, .pure), (2, .pure)]) rfl ?_
      refine Rg.pure rfl rfl rfl (Pv.move rfl) ?_
      refine Rg.pure rfl rfl rfl (Pv.asI (i + 1) (Pv.add rfl rfl (by omega)) (by omega)) ?_
      refine Rg.pure rfl rfl rfl (Pv.assign rfl) ?_
      refine Rg.nil ?_
      exact Vc.inv3 (i + 1) v79 s79 ⟨⟨by omega, by rw [htk, List.flatten_append, List.flatten_singleton]; exact own79⟩, by omega⟩ (.cons rfl (.cons rfl (.cons rfl (.cons rfl (.cons rfl (.cons rfl .nil)))))) pulled
    ·
      iterate 7 (first | refine Rg.skipP rfl rfl rfl ?_ | refine Rg.skipR rfl rfl rfl ?_ | refine Rg.skipE rfl rfl rfl ?_)
      refine Rg.pure rfl rfl rfl (Pv.pickF rfl rfl) ?_
      refine Rg.pure rfl rfl rfl (Pv.move rfl) ?_
      refine Rg.pure rfl rfl rfl (Pv.move rfl) ?_
      refine Rg.pure rfl rfl rfl (Pv.move rfl) ?_
      refine Rg.pure rfl rfl rfl (Pv.ixA (i) rfl rfl (by omega) (by omega)) ?_
      refine Rg.read rfl rfl rfl (Ev.as (.slice pk row.length ck) (Ev.ldR (E := slE) i rfl (Nat.zero_add _) (by omega)) (congrArg slE.val hsk)) ?_
      refine Rg.pure rfl rfl rfl (Pv.lenS rfl) ?_
      refine Rg.pure rfl rfl rfl (Pv.eql rfl rfl) ?_
      refine Rg.pure rfl rfl rfl (Pv.pickF rfl rfl) ?_
      refine Rg.pure rfl rfl rfl (Pv.move rfl) ?_
      refine Rg.split (t := 65) rfl (fun h65 => absurd h65 (by simp only [beq_iff_eq]; omega)) (fun h65 => ?_)
      refine Rg.pure rfl rfl rfl (Pv.move rfl) ?_
      refine Rg.pure rfl rfl rfl (Pv.move rfl) ?_
      refine Rg.pure rfl rfl rfl (Pv.ixA (i) rfl rfl (by omega) (by omega)) ?_
      refine Rg.read rfl rfl rfl (Ev.as (.slice pk row.length ck) (Ev.ldR (E := slE) i rfl (Nat.zero_add _) (by omega)) (congrArg slE.val hsk)) ?_
      refine Rg.pure rfl rfl rfl (Pv.lenS rfl) ?_
      refine Rg.pure rfl rfl rfl (Pv.move rfl) ?_
      refine Rg.pure rfl rfl rfl (Pv.gtr rfl rfl) ?_
      refine Rg.pure rfl rfl rfl (Pv.pickF rfl rfl) ?_
      refine Rg.nil ?_
      refine Vc.cond rfl (fun h73 => absurd h73 (by simp only [decide_eq_true_eq]; omega)) (fun h73 => ?_)
      refine Vc.skip ?_
      refine Vc.text (List.range 7) (sd [(0, .pure), (1, .pure), (2, .pure), (3, .pure), (4, .read), (5, .eff), (6, .pure)]) rfl ?_
      refine Rg.pure rfl rfl rfl (Pv.move rfl) ?_
      refine Rg.pure rfl rfl rfl (Pv.move rfl) ?_
      refine Rg.pure rfl rfl rfl (Pv.move rfl) ?_
      refine Rg.pure rfl rfl rfl (Pv.ixA (i) rfl rfl (by omega) (by omega)) ?_
      refine Rg.read rfl rfl rfl (Ev.as (.slice pk row.length ck) (Ev.ldR (E := slE) i rfl (Nat.zero_add _) (by omega)) (congrArg slE.val hsk)) ?_
      refine Rg.append rfl rfl rfl rfl rfl own hrow.srcF (by omega) (by rw [show maxLen = 9223372036854775807 from rfl]; omega) rfl (fun v79 s79 own79 => ?_)
      refine Rg.pure rfl rfl rfl (Pv.assign rfl) ?_
      refine Rg.nil ?_
      refine Vc.blk ?_
      refine Vc.text (List.range 3) (sd [(0, .pure), (1, .pure), (2, .pure)]) rfl ?_
      refine Rg.pure rfl rfl rfl (Pv.move rfl) ?_
      refine Rg.pure rfl rfl rfl (Pv.asI (i + 1) (Pv.add rfl rfl (by omega)) (by omega)) ?_
      refine Rg.pure rfl rfl rfl (Pv.assign rfl) ?_
      refine Rg.nil ?_
      exact Vc.inv3 (i + 1) v79 s79 ⟨⟨by omega, by rw [htk, List.flatten_append, List.flatten_singleton]; exact own79⟩, by omega⟩ (.cons rfl (.cons rfl (.cons rfl (.cons rfl (.cons rfl (.cons rfl .nil)))))) pulled
  ·
    simp only [decide_eq_false_iff_not] at h40
    rw [List.take_of_length_le (by omega)] at own
    refine Vc.exit rfl ?_
    refine Vc.seq ?_
    refine Vc.text (List.range 9) (sd [(0, .pure), (1, .pure), (2, .pure), (3, .eff), (4, .pure), (5, .eff), (6, .eff), (7, .pure), (8, .pure)]) rfl ?_
    refine Rg.pure rfl rfl rfl (Pv.move rfl) ?_
    refine Rg.pure rfl rfl rfl (Pv.move rfl) ?_
    refine Rg.split (t := 81) rfl (fun h81 => ?_) (fun h81 => absurd h81 (by decide))
    refine Rg.pure rfl rfl rfl (Pv.move rfl) ?_
    refine Rg.callA rfl rfl rfl (run_callF rfl) (sort_spec _ _ _ (Arg.own own frz_sb) (by omega)) ?_
    rintro _ s83 own83
    rw [cut_sorted hn1.1 hR] at own83
    refine Rg.pure rfl rfl rfl (Pv.move rfl) ?_
    refine Rg.callA rfl rfl rfl (run_callF rfl) (sort_spec _ _ _ (Arg.own own12 frz_sb) (by omega)) ?_
    rintro _ s85 own85
    refine Rg.callP rfl rfl rfl (run_callF rfl) (rsameR_spec (Arg.own own83 frz_sb) (Arg.own own85 frz_sb) (by rw [sortL_length]; omega) (by rw [sortL_length]; omega)) ?_
    rintro _ rfl
    refine Rg.pure rfl rfl rfl (Pv.pickT rfl rfl) ?_
    refine Rg.pure rfl rfl rfl (Pv.assign rfl) ?_
    refine Rg.nil ?_
    refine Vc.ret (Vc.rets rfl (.cons (.tmp rfl) (.nil)) ?_)
    exact congrArg Value.bool (by simp)

/-! ### Sums and least values -/
def mask (r : Rc) : Rc := ⟨r.key, ((r.val.toNat % 4294967296 : Nat) : Int)⟩
theorem mask_step (xs : List Rc) {i : Nat} (hi : i < xs.length) : ((xs.take i).map mask ++ xs.drop i).set i (mask xs[i]!) = (xs.take (i + 1)).map mask ++ xs.drop (i + 1) := by
  have hl : ((xs.take i).map mask).length = i := by simp; omega
  rw [List.drop_eq_getElem_cons hi, List.set_append_right _ _ (by omega), hl, Nat.sub_self, List.set_cons_zero, take_get xs hi]
  simp
theorem mask_at (xs : List Rc) {i : Nat} (hi : i < xs.length) : ((xs.take i).map mask ++ xs.drop i)[i]! = xs[i]! := by
  have hl : ((xs.take i).map mask).length = i := by simp; omega
  rw [getElem!_pos _ i (by simp; omega), List.getElem_append_right (by omega), getElem!_pos xs i hi, List.getElem_drop]
  congr 1
  omega
theorem foldC_keys {a b : Int} (ha : a ≠ 0) (hb : b ≠ 0) (l : List Rc) : (foldC a l).map Rc.key = (foldC b l).map Rc.key := by
  induction l using snocRec with
  | nil => rfl
  | snoc l r ih =>
    rw [foldC_snoc, foldC_snoc]
    rcases eq_nil_or_snoc (foldC a l) with h1 | ⟨m, x, h1⟩
    · rw [h1] at ih ⊢
      have h2 : foldC b l = [] := by simpa using ih.symm
      rw [h2, stepC_nil, stepC_nil]
    · rcases eq_nil_or_snoc (foldC b l) with h2 | ⟨k, y, h2⟩
      · rw [h1, h2] at ih; simp at ih
      · rw [h1, h2] at ih ⊢
        rw [List.map_append, List.map_append] at ih
        obtain ⟨e1, e2⟩ := List.append_inj' ih rfl
        have e3 : x.key = y.key := by simpa using e2
        rw [stepC_snoc, stepC_snoc, e3]
        by_cases h : y.key = r.key
        · rw [if_pos ⟨ha, h⟩, if_pos ⟨hb, h⟩]; simp [e1]
        · rw [if_neg (fun hh => h hh.2), if_neg (fun hh => h hh.2)]; simp [e1, e3]
theorem tot_at {how : Int} {a : List Rc} (h : KeysUp a) (hn : NN a) {i : Nat} (hi : i < a.length) : tot how a[i]!.key a = some a[i]!.val := by
  have hd : a = a.take i ++ a[i] :: a.drop (i + 1) := by rw [← List.drop_eq_getElem_cons hi, List.take_append_drop]
  rw [getElem!_pos a i hi]
  have hp := List.pairwise_iff_getElem.1 h
  have n1 : tot how a[i].key (a.take i) = none := tot_none fun y hy => by
    obtain ⟨j, hj, e⟩ := List.getElem_of_mem hy
    rw [List.getElem_take] at e
    have hj' : j < i := by simp at hj; omega
    have := hp j i (by omega) hi hj'
    rw [← e]; omega
  have n2 : tot how a[i].key (a.drop (i + 1)) = none := tot_none fun y hy => by
    obtain ⟨j, hj, e⟩ := List.getElem_of_mem hy
    rw [List.getElem_drop] at e
    have := hp i (i + 1 + j) hi (by simp at hj; omega) (by omega)
    rw [← e]; omega
  have hn1 : NN (a.take i) := fun y hy => hn y (List.mem_of_mem_take hy)
  have hn2 : NN (a[i] :: a.drop (i + 1)) := fun y hy => by
    rcases List.mem_cons.1 hy with rfl | hy
    · exact hn _ (List.getElem_mem _)
    · exact hn y (List.mem_of_mem_drop hy)
  generalize a[i] = x at hd n1 n2 hn2 ⊢
  have e := congrArg (tot how x.key) hd
  rw [e, tot_append hn1 hn2, n1, tot_cons hn2, n2, if_pos rfl]
  rfl
def sumK (k : Int) (l : List Rc) : Int := l.foldl (fun s r => if r.key = k then s + r.val else s) 0
def minK (k : Int) (l : List Rc) : Int := l.foldl (fun s r => if r.key = k then min s r.val else s) 18446744073709551615
theorem sumK_snoc (k : Int) (l : List Rc) (r : Rc) : sumK k (l ++ [r]) = if r.key = k then sumK k l + r.val else sumK k l := by simp [sumK]
theorem minK_snoc (k : Int) (l : List Rc) (r : Rc) : minK k (l ++ [r]) = if r.key = k then min (minK k l) r.val else minK k l := by simp [minK]
def Sm (l : List Rc) : Prop := ∀ r ∈ l, 0 ≤ r.val ∧ r.val < 4294967296
theorem sumK_le (k : Int) (l : List Rc) : Sm l → 0 ≤ sumK k l ∧ sumK k l ≤ l.length * 4294967296 := by
  induction l using snocRec with
  | nil => intro _; simp [sumK]
  | snoc l r ih =>
    intro h
    have h1 := ih fun x hx => h x (List.mem_append_left _ hx)
    have h2 := h r (by simp)
    rw [sumK_snoc, List.length_append, List.length_singleton]
    split <;> omega
theorem minK_le (k : Int) (l : List Rc) : Sm l → 0 ≤ minK k l ∧ minK k l ≤ 18446744073709551615 := by
  induction l using snocRec with
  | nil => intro _; simp [minK]
  | snoc l r ih =>
    intro h
    have h1 := ih fun x hx => h x (List.mem_append_left _ hx)
    have h2 := h r (by simp)
    rw [minK_snoc]
    split <;> omega
theorem tot_sum (k : Int) (l : List Rc) : Sm l → l.length ≤ 100 → ∀ v, tot 1 k l = some v → v = sumK k l := by
  suffices h : Sm l → l.length ≤ 100 → (tot 1 k l = none ∧ sumK k l = 0) ∨ tot 1 k l = some (sumK k l) by
    intro h1 h2 v hv
    rcases h h1 h2 with ⟨e, _⟩ | e <;> rw [e] at hv <;> cases hv
    rfl
  induction l using snocRec with
  | nil => intro _ _; exact .inl ⟨rfl, rfl⟩
  | snoc l r ih =>
    intro h hl
    simp at hl
    have hs : Sm l := fun x hx => h x (List.mem_append_left _ hx)
    have h1 := ih hs (by omega)
    have h2 := h r (by simp)
    have h3 := sumK_le k l hs
    rw [tot_snoc, sumK_snoc]
    by_cases e : r.key = k
    · rw [if_pos e, if_pos e]
      right
      rcases h1 with ⟨e1, e2⟩ | e1
      · rw [e1, e2]; simp [addO]
      · rw [e1]; simp only [addO, comb, if_true]; rw [if_pos (by omega)]
    · rw [if_neg e, if_neg e]; exact h1
theorem tot_min (k : Int) (l : List Rc) : Sm l → ∀ v, tot 2 k l = some v → v = minK k l := by
  suffices h : Sm l → (tot 2 k l = none ∧ minK k l = 18446744073709551615) ∨ tot 2 k l = some (minK k l) by
    intro h1 v hv
    rcases h h1 with ⟨e, _⟩ | e <;> rw [e] at hv <;> cases hv
    rfl
  induction l using snocRec with
  | nil => intro _; exact .inl ⟨rfl, rfl⟩
  | snoc l r ih =>
    intro h
    have hs : Sm l := fun x hx => h x (List.mem_append_left _ hx)
    have h1 := ih hs
    have h2 := h r (by simp)
    rw [tot_snoc, minK_snoc]
    by_cases e : r.key = k
    · rw [if_pos e, if_pos e]
      right
      rcases h1 with ⟨e1, e2⟩ | e1
      · rw [e1, e2]; simp only [addO]; congr 1; omega
      · rw [e1]; simp only [addO, comb]; rw [if_neg (by decide)]
    · rw [if_neg e, if_neg e]; exact h1
theorem and_mask (v : Nat) : v &&& 4294967295 = v % 4294967296 := Nat.and_two_pow_sub_one_eq_mod v 32

set_option maxHeartbeats 1000000 in
theorem RunsTotal_spec (F : Fm) (v0 : Value) (xs0 : List Rc) (ha : Arg recE F v0 xs0) (hR0 : NR xs0) :
    Spec Try.prog 8 #[v0] F [] fun v _ => v = .bool true := by
  obtain ⟨p0, c0, rfl⟩ := ha.shape
  have hl := take100_len xs0
  have hR := hR0.take 100
  refine Spec.of (n := 122) (vs := [.slice p0 xs0.length c0]) Try.func8 rfl Try.ntmps8 rfl ?_
  refine Vc.seq ?_
  refine Vc.text (List.range 1) (sd [(0, .pure)]) rfl ?_
  refine Rg.pure rfl rfl rfl (Pv.assign rfl) ?_
  refine Rg.nil ?_
  refine Vc.seq ?_
  refine Vc.text (List.range 2) (sd [(0, .eff), (1, .pure)]) rfl ?_
  refine Rg.callP rfl rfl rfl (run_callF rfl) (shown_spec _) ?_
  rintro _ rfl
  refine Rg.pure rfl rfl rfl (Pv.assign rfl) ?_
  refine Rg.nil ?_
  refine Vc.seq ?_
  refine Vc.text (List.range 3) (sd [(0, .pure), (1, .eff), (2, .pure)]) rfl ?_
  refine Rg.pure rfl rfl rfl (Pv.move rfl) ?_
  refine Rg.callA rfl rfl rfl (run_callF rfl) (few_spec (ha.mono fun b o h => Or.inr h)) ?_
  rintro _ s15 own
  generalize xs0.take 100 = xs at own hl hR
  obtain ⟨q, c, rfl⟩ := own.shape
  refine Rg.pure rfl rfl rfl (Pv.assign rfl) ?_
  refine Rg.nil ?_
  refine Vc.seq ?_
  refine Vc.seq ?_
  refine Vc.text (List.range 1) (sd [(0, .pure)]) rfl ?_
  refine Rg.pure rfl rfl rfl (Pv.assign rfl) ?_
  refine Rg.nil ?_
  refine Vc.block ?_
  refine Vc.loop2 (fun (i : Nat) (sg : Hl) => i ≤ xs.length ∧ Own recE (.slice q xs.length c) ((xs.take i).map mask ++ xs.drop i) sg) (fun i sg => [(0, .slice q xs.length c), (3, .bool true), (4, .int .i64 (i : Int))]) (fun i sg => sg) (fun i sg => xs.length - i) 0 s15 ⟨Nat.zero_le _, by simpa using own⟩ (.cons rfl (.cons rfl (.cons rfl .nil))) pulled ?_
  clear own
  rintro i sg ⟨hi, own⟩
  refine Vc.seq ?_
  refine Vc.seq ?_
  refine Vc.text (List.range 4) (sd [(0, .pure), (1, .pure), (2, .pure), (3, .pure)]) rfl ?_
  refine Rg.pure rfl rfl rfl (Pv.move rfl) ?_
  refine Rg.pure rfl rfl rfl (Pv.move rfl) ?_
  refine Rg.pure rfl rfl rfl (Pv.lenS rfl) ?_
  refine Rg.pure rfl rfl rfl (Pv.lss rfl rfl) ?_
  refine Rg.nil ?_
  refine Vc.cond rfl (fun h19 => ?_) (fun h19 => ?_)
  ·
    simp only [decide_eq_true_eq] at h19
    have hi1 : i < xs.length := by omega
    have hyl : ((xs.take i).map mask ++ xs.drop i).length = xs.length := by simp; omega
    obtain ⟨b, cc, sp, e, rfl, hc, hm⟩ := own.block (by omega)
    rw [hyl] at e hc
    cases e
    have hat := mask_at xs hi1
    have hst := mask_step xs hi1
    have hxr := hR.get hi1
    generalize xs[i]! = x at hat hst hxr
    refine Vc.skip ?_
    refine Vc.seq ?_
    refine Vc.block ?_
    refine Vc.text (List.range 11) (sd [(0, .pure), (1, .pure), (2, .pure), (3, .pure), (4, .pure), (5, .pure), (6, .read), (7, .pure), (8, .pure), (9, .pure), (10, .eff)]) rfl ?_
    refine Rg.pure rfl rfl rfl (Pv.move rfl) ?_
    refine Rg.pure rfl rfl rfl (Pv.move rfl) ?_
    refine Rg.pure rfl rfl rfl (Pv.move rfl) ?_
    refine Rg.pure rfl rfl rfl (Pv.move rfl) ?_
    refine Rg.pure rfl rfl rfl (Pv.ixA (i) rfl rfl (by omega) (by omega)) ?_
    refine Rg.pure rfl rfl rfl (Pv.fa rfl) ?_
    refine Rg.read rfl rfl rfl (Ev.ldRf (E := recE) (u := .int .u64 ((x.val.toNat : Nat) : Int)) i 1 rfl (by rw [show recE.k = 2 from rfl]; omega) (by omega) (by rw [hat, Int.toNat_of_nonneg hxr.1]; rfl)) ?_
    refine Rg.pure rfl rfl rfl (Pv.as (.int .u64 (mask x).val) (Pv.andN' (k := .u64) x.val.toNat 4294967295 rfl rfl rfl (by show _ < 2 ^ 64; omega) (by decide)) (by rw [and_mask]; rfl)) ?_
    refine Rg.pure rfl rfl rfl (Pv.ixA (i) rfl rfl (by omega) (by omega)) ?_
    refine Rg.pure rfl rfl rfl (Pv.fa rfl) ?_
    refine Rg.storeRf (E := recE) (z := mask x) i 1 rfl rfl rfl rfl rfl rfl (by rw [hat]; rfl) (by decide) (by rw [show recE.k = 2 from rfl]; omega) (by omega) rfl ?_
    rw [hst]
    refine Rg.nil ?_
    refine Vc.blk ?_
    refine Vc.text (List.range 3) (sd [(0, .pure), (1, .pure), (2, .pure)]) rfl ?_
    refine Rg.pure rfl rfl rfl (Pv.move rfl) ?_
    refine Rg.pure rfl rfl rfl (Pv.asI (i + 1) (Pv.add rfl rfl (by omega)) (by omega)) ?_
    refine Rg.pure rfl rfl rfl (Pv.assign rfl) ?_
    refine Rg.nil ?_
    exact Vc.inv2 (i + 1) _ ⟨⟨by omega, Own.blk' b c xs.length _ sp (by simp; omega) hc hm⟩, by omega⟩ (.cons rfl (.cons rfl (.cons rfl .nil))) pulled
  ·
    simp only [decide_eq_false_iff_not] at h19
    obtain rfl : xs.length = i := by omega
    rw [List.take_length, List.drop_length, List.append_nil] at own
    have hzl : (xs.map mask).length = xs.length := by simp
    have hzs : Sm (xs.map mask) := fun r hr => by obtain ⟨y, _, rfl⟩ := List.mem_map.1 hr; simp only [mask]; omega
    have hzr : NR (xs.map mask) := fun r hr => by have := hzs r hr; omega
    rw [← hzl] at own hl ⊢
    generalize xs.map mask = zs at own hl hzs hzr
    have hk12 := foldC_keys (a := 1) (b := 2) (by decide) (by decide) (sortL zs)
    obtain ⟨a1, a2, a3, _⟩ := sortedG_spec (how := 1) (by decide) hzr.nn
    obtain ⟨b1, b2, b3, _⟩ := sortedG_spec (how := 2) (by decide) hzr.nn
    have hal := sortedG_length 1 zs
    have hbl := sortedG_length 2 zs
    change (sortedG 1 zs).map Rc.key = (sortedG 2 zs).map Rc.key at hk12
    refine Vc.exit rfl ?_
    refine Vc.seq ?_
    refine Vc.text (List.range 7) (sd [(0, .pure), (1, .eff), (2, .pure), (3, .pure), (4, .pure), (5, .pure), (6, .pure)]) rfl ?_
    refine Rg.pure rfl rfl rfl (Pv.move rfl) ?_
    refine Rg.callA rfl rfl rfl (run_callF rfl) (sorted_ok (how := 1) (Arg.own own frz_sb) (by omega) hzr (by decide)) ?_
    rintro _ s34 ⟨u34, rfl, own34⟩
    generalize sortedG 1 zs = A at own34 hk12 a1 a2 a3 hal
    obtain ⟨q34, c34, rfl⟩ := own34.shape
    refine Rg.pure rfl rfl rfl (Pv.move rfl) ?_
    refine Rg.pure rfl rfl rfl (Pv.extract rfl rfl) ?_
    refine Rg.pure rfl rfl rfl (Pv.extract rfl rfl) ?_
    refine Rg.pure rfl rfl rfl (Pv.assign rfl) ?_
    refine Rg.pure rfl rfl rfl (Pv.assign rfl) ?_
    refine Rg.nil ?_
    refine Vc.seq ?_
    refine Vc.text (List.range 7) (sd [(0, .pure), (1, .eff), (2, .pure), (3, .pure), (4, .pure), (5, .pure), (6, .pure)]) rfl ?_
    refine Rg.pure rfl rfl rfl (Pv.move rfl) ?_
    refine Rg.callA rfl rfl rfl (run_callF rfl) (sorted_ok (how := 2) (Arg.own own frz_sb) (by omega) hzr (by decide)) ?_
    rintro _ s39 ⟨u39, rfl, own39⟩
    generalize sortedG 2 zs = B at own39 hk12 b1 b2 b3 hbl
    obtain ⟨q39, c39, rfl⟩ := own39.shape
    have hAB : A.length = B.length := by have := congrArg List.length hk12; simpa using this
    refine Rg.pure rfl rfl rfl (Pv.move rfl) ?_
    refine Rg.pure rfl rfl rfl (Pv.extract rfl rfl) ?_
    refine Rg.pure rfl rfl rfl (Pv.extract rfl rfl) ?_
    refine Rg.pure rfl rfl rfl (Pv.assign rfl) ?_
    refine Rg.pure rfl rfl rfl (Pv.assign rfl) ?_
    refine Rg.nil ?_
    refine Vc.seq ?_
    refine Vc.seq ?_
    refine Vc.text (List.range 13) (sd [(0, .pure), (1, .pure), (2, .pure), (3, .pure), (4, .pure), (5, .pure), (6, .pure), (7, .pure), (8, .pure), (9, .pure), (10, .pure), (11, .pure), (12, .pure)]) rfl ?_
    refine Rg.pure rfl rfl rfl (Pv.move rfl) ?_
    refine Rg.pure rfl rfl rfl (Pv.neq rfl rfl) ?_
    refine Rg.pure rfl rfl rfl (Pv.move rfl) ?_
    refine Rg.split (t := 44) rfl (fun h44 => absurd h44 (by decide)) (fun h44 => ?_)
    refine Rg.pure rfl rfl rfl (Pv.move rfl) ?_
    refine Rg.pure rfl rfl rfl (Pv.neq rfl rfl) ?_
    refine Rg.pure rfl rfl rfl (Pv.pickF rfl rfl) ?_
    refine Rg.pure rfl rfl rfl (Pv.move rfl) ?_
    refine Rg.split (t := 48) rfl (fun h48 => absurd h48 (by decide)) (fun h48 => ?_)
    refine Rg.pure rfl rfl rfl (Pv.move rfl) ?_
    refine Rg.pure rfl rfl rfl (Pv.lenS rfl) ?_
    refine Rg.pure rfl rfl rfl (Pv.move rfl) ?_
    refine Rg.pure rfl rfl rfl (Pv.lenS rfl) ?_
    refine Rg.pure rfl rfl rfl (Pv.neq rfl rfl) ?_
    refine Rg.pure rfl rfl rfl (Pv.pickF rfl rfl) ?_
    refine Rg.nil ?_
    refine Vc.cond rfl (fun h54 => absurd h54 (by rw [hAB]; simp)) (fun h54 => ?_)
    refine Vc.skip ?_
    refine Vc.seq ?_
    refine Vc.seq ?_
    refine Vc.text (List.range 1) (sd [(0, .pure)]) rfl ?_
    refine Rg.pure rfl rfl rfl (Pv.assign rfl) ?_
    refine Rg.nil ?_
    refine Vc.block ?_
    refine Vc.loop1 (fun (i : Nat) => i ≤ A.length) (fun i => [(0, .slice q zs.length c), (3, .bool true), (5, .slice q34 A.length c34), (7, .slice q39 B.length c39), (9, .int .i64 (i : Int))]) (fun i => sg ++ (s34 ++ s39)) (fun i => A.length - i) 0 (Nat.zero_le _) (.cons rfl (.cons rfl (.cons rfl (.cons rfl (.cons rfl .nil))))) pulled ?_
    rintro i hi
    refine Vc.seq ?_
    refine Vc.seq ?_
    refine Vc.text (List.range 4) (sd [(0, .pure), (1, .pure), (2, .pure), (3, .pure)]) rfl ?_
    refine Rg.pure rfl rfl rfl (Pv.move rfl) ?_
    refine Rg.pure rfl rfl rfl (Pv.move rfl) ?_
    refine Rg.pure rfl rfl rfl (Pv.lenS rfl) ?_
    refine Rg.pure rfl rfl rfl (Pv.lss rfl rfl) ?_
    refine Rg.nil ?_
    refine Vc.cond rfl (fun h58 => ?_) (fun h58 => ?_)
    ·
      simp only [decide_eq_true_eq] at h58
      have hi1 : i < A.length := by omega
      obtain ⟨bA, cA, spA, e, rfl, _, _⟩ := own34.block (by omega)
      cases e
      obtain ⟨bB, cB, spB, e, rfl, _, _⟩ := own39.block (by omega)
      cases e
      obtain ⟨x, hx⟩ : ∃ x, A[i]! = x := ⟨_, rfl⟩
      obtain ⟨y, hy⟩ : ∃ y, B[i]! = y := ⟨_, rfl⟩
      have hkey : y.key = x.key := by
        have h1 := congrArg (fun l : List Int => l[i]?) hk12
        simp only [List.getElem?_map, List.getElem?_eq_getElem hi1, List.getElem?_eq_getElem (show i < B.length by omega)] at h1
        rw [← hx, ← hy, getElem!_pos A i hi1, getElem!_pos B i (by omega)]
        simpa using h1.symm
      have hsA := tot_sum x.key zs hzs hl x.val (by rw [← a2, ← hx]; exact tot_at a1 a3 hi1)
      have hsB := tot_min y.key zs hzs y.val (by rw [← b2, ← hy]; exact tot_at b1 b3 (by omega))
      rw [hkey] at hsB
      refine Vc.skip ?_
      refine Vc.seq ?_
      refine Vc.block ?_
      refine Vc.seq ?_
      refine Vc.text (List.range 1) (sd [(0, .pure)]) rfl ?_
      refine Rg.pure rfl rfl rfl (Pv.assign rfl) ?_
      refine Rg.nil ?_
      refine Vc.seq ?_
      refine Vc.text (List.range 1) (sd [(0, .pure)]) rfl ?_
      refine Rg.pure rfl rfl rfl (Pv.assign rfl) ?_
      refine Rg.nil ?_
      refine Vc.seq ?_
      refine Vc.seq ?_
      refine Vc.text (List.range 1) (sd [(0, .pure)]) rfl ?_
      refine Rg.pure rfl rfl rfl (Pv.assign rfl) ?_
      refine Rg.nil ?_
      refine Vc.block ?_
      refine Vc.loop1 (fun (k : Nat) => k ≤ zs.length) (fun k => [(0, .slice q zs.length c), (3, .bool true), (5, .slice (some ⟨bA, 0, none⟩) A.length c34), (7, .slice (some ⟨bB, 0, none⟩) B.length c39), (9, .int .i64 (i : Int)), (10, .int .u64 (sumK x.key (zs.take k))), (11, .int .u64 (minK x.key (zs.take k))), (12, .int .i64 (k : Int))]) (fun k => sg ++ [(bA, rowS recE A spA), (bB, rowS recE B spB)]) (fun k => zs.length - k) 0 (Nat.zero_le _) (.cons rfl (.cons rfl (.cons rfl (.cons rfl (.cons rfl (.cons rfl (.cons rfl (.cons rfl .nil)))))))) pulled ?_
      rintro k hk
      refine Vc.seq ?_
      refine Vc.seq ?_
      refine Vc.text (List.range 4) (sd [(0, .pure), (1, .pure), (2, .pure), (3, .pure)]) rfl ?_
      refine Rg.pure rfl rfl rfl (Pv.move rfl) ?_
      refine Rg.pure rfl rfl rfl (Pv.move rfl) ?_
      refine Rg.pure rfl rfl rfl (Pv.lenS rfl) ?_
      refine Rg.pure rfl rfl rfl (Pv.lss rfl rfl) ?_
      refine Rg.nil ?_
      refine Vc.cond rfl (fun h64 => ?_) (fun h64 => ?_)
      ·
        simp only [decide_eq_true_eq] at h64
        have hk1 : k < zs.length := by omega
        obtain ⟨bz, cz, spz, e, rfl, _, _⟩ := own.block (by omega)
        cases e
        have htk := take_get zs hk1
        have hzk := hzs zs[k]! (by rw [getElem!_pos zs k hk1]; exact List.getElem_mem _)
        obtain ⟨z, hz⟩ : ∃ z, zs[k]! = z := ⟨_, rfl⟩
        rw [hz] at htk hzk
        have hsl := sumK_le x.key (zs.take k) fun r hr => hzs r (List.mem_of_mem_take hr)
        have htl : (zs.take k).length ≤ 100 := by simp; omega
        refine Vc.skip ?_
        refine Vc.seq ?_
        refine Vc.block ?_
        refine Vc.seq ?_
        refine Vc.draw [] (sd [(0, .pure), (1, .pure), (2, .pure), (3, .pure), (4, .read), (5, .pure), (6, .pure), (7, .pure), (8, .pure), (9, .read), (10, .pure)]) mixed (by kernel_rfl) ?_
        refine Rg.pure rfl rfl rfl (Pv.move rfl) ?_
        refine Rg.pure rfl rfl rfl (Pv.move rfl) ?_
        refine Rg.pure rfl rfl rfl (Pv.ixA (k) rfl rfl (by omega) (by omega)) ?_
        refine Rg.pure rfl rfl rfl (Pv.fa rfl) ?_
        refine Rg.read rfl rfl rfl (Ev.ldRf (E := recE) (u := .int .u64 z.key) k 0 rfl (by rw [show recE.k = 2 from rfl]; omega) (by omega) (by rw [hz]; rfl)) ?_
        refine Rg.pure rfl rfl rfl (Pv.move rfl) ?_
        refine Rg.pure rfl rfl rfl (Pv.move rfl) ?_
        refine Rg.pure rfl rfl rfl (Pv.ixA (i) rfl rfl (by omega) (by omega)) ?_
        refine Rg.pure rfl rfl rfl (Pv.fa rfl) ?_
        refine Rg.read rfl rfl rfl (Ev.ldRf (E := recE) (u := .int .u64 x.key) i 0 rfl (by rw [show recE.k = 2 from rfl]; omega) (by omega) (by rw [hx]; rfl)) ?_
        refine Rg.pure rfl rfl rfl (Pv.eql rfl rfl) ?_
        refine Rg.nil ?_
        refine Vc.cond rfl (fun h77 => ?_) (fun h77 => ?_)
        ·
          simp only [beq_iff_eq] at h77
          refine Vc.seq ?_
          refine Vc.text (List.range 8) (sd [(0, .pure), (1, .pure), (2, .pure), (3, .pure), (4, .pure), (5, .read), (6, .pure), (7, .pure)]) rfl ?_
          refine Rg.pure rfl rfl rfl (Pv.move rfl) ?_
          refine Rg.pure rfl rfl rfl (Pv.move rfl) ?_
          refine Rg.pure rfl rfl rfl (Pv.move rfl) ?_
          refine Rg.pure rfl rfl rfl (Pv.ixA (k) rfl rfl (by omega) (by omega)) ?_
          refine Rg.pure rfl rfl rfl (Pv.fa rfl) ?_
          refine Rg.read rfl rfl rfl (Ev.ldRf (E := recE) (u := .int .u64 z.val) k 1 rfl (by rw [show recE.k = 2 from rfl]; omega) (by omega) (by rw [hz]; rfl)) ?_
          refine Rg.pure rfl rfl rfl (Pv.as (.int .u64 (sumK x.key (zs.take k) + z.val)) (Pv.addW rfl rfl) (by rw [wrap_u64i (by omega), Int.emod_eq_of_lt (by omega) (by omega)])) ?_
          refine Rg.pure rfl rfl rfl (Pv.assign rfl) ?_
          refine Rg.nil ?_
          refine Vc.text (List.range 8) (sd [(0, .pure), (1, .pure), (2, .pure), (3, .pure), (4, .pure), (5, .read), (6, .pure), (7, .pure)]) rfl ?_
          refine Rg.pure rfl rfl rfl (Pv.move rfl) ?_
          refine Rg.pure rfl rfl rfl (Pv.move rfl) ?_
          refine Rg.pure rfl rfl rfl (Pv.move rfl) ?_
          refine Rg.pure rfl rfl rfl (Pv.ixA (k) rfl rfl (by omega) (by omega)) ?_
          refine Rg.pure rfl rfl rfl (Pv.fa rfl) ?_
          refine Rg.read rfl rfl rfl (Ev.ldRf (E := recE) (u := .int .u64 z.val) k 1 rfl (by rw [show recE.k = 2 from rfl]; omega) (by omega) (by rw [hz]; rfl)) ?_
          refine Rg.pure rfl rfl rfl (Pv.min rfl rfl) ?_
          refine Rg.pure rfl rfl rfl (Pv.assign rfl) ?_
          refine Rg.nil ?_
          refine Vc.blk ?_
          refine Vc.text (List.range 3) (sd [(0, .pure), (1, .pure), (2, .pure)]) rfl ?_
          refine Rg.pure rfl rfl rfl (Pv.move rfl) ?_
          refine Rg.pure rfl rfl rfl (Pv.asI (k + 1) (Pv.add rfl rfl (by omega)) (by omega)) ?_
          refine Rg.pure rfl rfl rfl (Pv.assign rfl) ?_
          refine Rg.nil ?_
          exact Vc.inv1 (k + 1) ⟨by omega, by omega⟩ (.cons rfl (.cons rfl (.cons rfl (.cons rfl (.cons rfl (.cons (by rw [htk, sumK_snoc, if_pos h77]; rfl) (.cons (by rw [htk, minK_snoc, if_pos h77]; rfl) (.cons rfl .nil)))))))) pulled
        ·
          simp only [beq_eq_false_iff_ne, ne_eq] at h77
          refine Vc.skip ?_
          refine Vc.blk ?_
          refine Vc.text (List.range 3) (sd [(0, .pure), (1, .pure), (2, .pure)]) rfl ?_
          refine Rg.pure rfl rfl rfl (Pv.move rfl) ?_
          refine Rg.pure rfl rfl rfl (Pv.asI (k + 1) (Pv.add rfl rfl (by omega)) (by omega)) ?_
          refine Rg.pure rfl rfl rfl (Pv.assign rfl) ?_
          refine Rg.nil ?_
          exact Vc.inv1 (k + 1) ⟨by omega, by omega⟩ (.cons rfl (.cons rfl (.cons rfl (.cons rfl (.cons rfl (.cons (by rw [htk, sumK_snoc, if_neg h77]; rfl) (.cons (by rw [htk, minK_snoc, if_neg h77]; rfl) (.cons rfl .nil)))))))) pulled
      ·
        simp only [decide_eq_false_iff_not] at h64
        obtain rfl : zs.length = k := by omega
        rw [List.take_length]
        refine Vc.exit rfl ?_
        refine Vc.seq ?_
        refine Vc.draw [] (sd [(0, .pure), (1, .pure), (2, .pure), (3, .pure), (4, .read), (5, .pure), (6, .pure), (7, .pure), (8, .pure), (9, .pure), (10, .pure), (11, .pure), (12, .read), (13, .pure), (14, .pure), (15, .pure), (16, .pure), (17, .pure), (18, .pure), (19, .pure), (20, .pure), (21, .read), (22, .pure), (23, .pure), (24, .pure), (25, .pure), (26, .read), (27, .pure), (28, .pure)]) mixed (by kernel_rfl) ?_
        refine Rg.pure rfl rfl rfl (Pv.move rfl) ?_
        refine Rg.pure rfl rfl rfl (Pv.move rfl) ?_
        refine Rg.pure rfl rfl rfl (Pv.ixA (i) rfl rfl (by omega) (by omega)) ?_
        refine Rg.pure rfl rfl rfl (Pv.fa rfl) ?_
        refine Rg.read rfl rfl rfl (Ev.ldRf (E := recE) (u := .int .u64 x.val) i 1 rfl (by rw [show recE.k = 2 from rfl]; omega) (by omega) (by rw [hx]; rfl)) ?_
        refine Rg.pure rfl rfl rfl (Pv.move rfl) ?_
        refine Rg.pure rfl rfl rfl (Pv.neq rfl rfl) ?_
        refine Rg.pure rfl rfl rfl (Pv.move rfl) ?_
        refine Rg.split (t := 99) rfl (fun h99 => absurd h99 (by rw [hsA]; simp)) (fun h99 => ?_)
        refine Rg.pure rfl rfl rfl (Pv.move rfl) ?_
        refine Rg.pure rfl rfl rfl (Pv.move rfl) ?_
        refine Rg.pure rfl rfl rfl (Pv.ixA (i) rfl rfl (by omega) (by omega)) ?_
        refine Rg.pure rfl rfl rfl (Pv.fa rfl) ?_
        refine Rg.read rfl rfl rfl (Ev.ldRf (E := recE) (u := .int .u64 y.val) i 1 rfl (by rw [show recE.k = 2 from rfl]; omega) (by omega) (by rw [hy]; rfl)) ?_
        refine Rg.pure rfl rfl rfl (Pv.move rfl) ?_
        refine Rg.pure rfl rfl rfl (Pv.neq rfl rfl) ?_
        refine Rg.pure rfl rfl rfl (Pv.pickF rfl rfl) ?_
        refine Rg.pure rfl rfl rfl (Pv.move rfl) ?_
        refine Rg.split (t := 108) rfl (fun h108 => absurd h108 (by rw [hsB]; simp)) (fun h108 => ?_)
        refine Rg.pure rfl rfl rfl (Pv.move rfl) ?_
        refine Rg.pure rfl rfl rfl (Pv.move rfl) ?_
        refine Rg.pure rfl rfl rfl (Pv.ixA (i) rfl rfl (by omega) (by omega)) ?_
        refine Rg.pure rfl rfl rfl (Pv.fa rfl) ?_
        refine Rg.read rfl rfl rfl (Ev.ldRf (E := recE) (u := .int .u64 y.key) i 0 rfl (by rw [show recE.k = 2 from rfl]; omega) (by omega) (by rw [hy]; rfl)) ?_
        refine Rg.pure rfl rfl rfl (Pv.move rfl) ?_
        refine Rg.pure rfl rfl rfl (Pv.move rfl) ?_
        refine Rg.pure rfl rfl rfl (Pv.ixA (i) rfl rfl (by omega) (by omega)) ?_
        refine Rg.pure rfl rfl rfl (Pv.fa rfl) ?_
        refine Rg.read rfl rfl rfl (Ev.ldRf (E := recE) (u := .int .u64 x.key) i 0 rfl (by rw [show recE.k = 2 from rfl]; omega) (by omega) (by rw [hx]; rfl)) ?_
        refine Rg.pure rfl rfl rfl (Pv.neq rfl rfl) ?_
        refine Rg.pure rfl rfl rfl (Pv.pickF rfl rfl) ?_
        refine Rg.nil ?_
        refine Vc.cond rfl (fun h120 => absurd h120 (by rw [hkey]; simp)) (fun h120 => ?_)
        refine Vc.skip ?_
        refine Vc.blk ?_
        refine Vc.text (List.range 3) (sd [(0, .pure), (1, .pure), (2, .pure)]) rfl ?_
        refine Rg.pure rfl rfl rfl (Pv.move rfl) ?_
        refine Rg.pure rfl rfl rfl (Pv.asI (i + 1) (Pv.add rfl rfl (by omega)) (by omega)) ?_
        refine Rg.pure rfl rfl rfl (Pv.assign rfl) ?_
        refine Rg.nil ?_
        exact Vc.inv1 (i + 1) ⟨by omega, by omega⟩ (.cons rfl (.cons rfl (.cons rfl (.cons rfl (.cons rfl .nil))))) pulled
    ·
      refine Vc.exit rfl ?_
      refine Vc.seq ?_
      refine Vc.text (List.range 2) (sd [(0, .pure), (1, .pure)]) rfl ?_
      refine Rg.pure rfl rfl rfl (Pv.move rfl) ?_
      refine Rg.pure rfl rfl rfl (Pv.assign rfl) ?_
      refine Rg.nil ?_
      refine Vc.ret (Vc.rets rfl (.cons (.tmp rfl) (.nil)) ?_)
      rfl
end Go.Proofs.Ytkkbeljmloikkaa
