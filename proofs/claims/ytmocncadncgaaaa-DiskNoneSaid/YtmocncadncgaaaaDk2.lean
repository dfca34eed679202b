/- The statements' functions: DiskTorn. -/
import Derived.Test.YtmocncadncgaaaaDk1
namespace Go.Proofs.Ytmocncadncgaaaa
set_option linter.unusedVariables false

/-- of a file that was never synced -/
theorem put_behind {st pc : List UInt8} {a to : Nat} (h1 : st.length ≤ a) (h2 : a ≤ to) (h3 : pc.length = to - a) : putAt (padTo st to) a pc = padTo st a ++ pc := by
  unfold putAt padTo
  have e1 : (st ++ List.replicate (to - st.length) (0 : UInt8)).drop (a + pc.length) = [] := List.drop_eq_nil_of_le (by simp; omega)
  have e2 : (st ++ List.replicate (to - st.length) (0 : UInt8)).take a = st ++ List.replicate (a - st.length) 0 := by
    rw [List.take_append, List.take_of_length_le h1, List.take_replicate]
    congr 2
    omega
  rw [e1, e2, List.append_nil]
theorem torn_ks {b : List UInt8} {ks : List Bool} : ∀ {i : Nat}, 16 * i < b.length + 16 → (tornG b [] ks i).2 = ks.drop i ∧ (tornG b [] ks i).1.length ≤ 16 * i ∧ (tornG b [] ks i).1.length ≤ b.length
  | 0, _ => ⟨by simp [tornG], by simp [tornG], by simp [tornG]⟩
  | i + 1, h => by
    obtain ⟨h1, h2, h3⟩ := torn_ks (b := b) (ks := ks) (i := i) (by omega)
    have hs : sameSec b [] i = false := by
      unfold sameSec secTo
      rw [List.length_nil, decide_eq_false (show ¬ min (16 * i + 16) b.length ≤ 0 by omega)]
      rfl
    have ht : 16 * i ≤ secTo b i ∧ secTo b i ≤ 16 * i + 16 ∧ secTo b i ≤ b.length := by unfold secTo; omega
    have hp : (piece b (16 * i) (secTo b i)).length = secTo b i - 16 * i := by simp [piece]; omega
    rw [tornG_succ, tornStep, if_neg (by rw [hs]; decide)]
    split
    · rw [put_behind h2 ht.1 hp]
      refine ⟨by rw [h1, List.drop_drop, Nat.add_comm], ?_, ?_⟩
      · simp [padTo, hp]; omega
      · simp [padTo, hp]; omega
    · refine ⟨by rw [h1, List.drop_drop, Nat.add_comm], ?_, h3⟩
      show (tornG b [] ks i).1.length ≤ _
      omega
theorem torn_next {b : List UInt8} {ks : List Bool} {i : Nat} (h : 16 * i < b.length) : (tornG b [] ks (i + 1)).1 = if (ks.drop i).headD false = true then padTo (tornG b [] ks i).1 (16 * i) ++ piece b (16 * i) (secTo b i) else (tornG b [] ks i).1 := by
  obtain ⟨h1, h2, h3⟩ := torn_ks (b := b) (ks := ks) (i := i) (by omega)
  have hs : sameSec b [] i = false := by
    unfold sameSec secTo
    rw [List.length_nil, decide_eq_false (show ¬ min (16 * i + 16) b.length ≤ 0 by omega)]
    rfl
  have ht : 16 * i ≤ secTo b i ∧ secTo b i ≤ b.length := by unfold secTo; omega
  have hp : (piece b (16 * i) (secTo b i)).length = secTo b i - 16 * i := by simp [piece]; omega
  rw [tornG_succ, tornStep, if_neg (by rw [hs]; decide), hdB, h1]
  split
  · rw [put_behind h2 ht.1 hp]
  · rfl
theorem headD_drop {ks : List Bool} {i : Nat} : (ks.drop i).headD false = if i < ks.length then ks[i]! else false := by
  by_cases h : i < ks.length
  · rw [if_pos h, List.drop_eq_getElem_cons h, getElem!_pos ks i h]
    rfl
  · rw [if_neg h, List.drop_eq_nil_of_le (by omega)]
    rfl
theorem pad_snoc {st : List UInt8} {j : Nat} : (st ++ List.replicate j 0) ++ [(0 : UInt8)] = st ++ List.replicate (j + 1) 0 := by
  rw [List.append_assoc, ← List.replicate_succ']

theorem DiskTorn_spec (F : Fm) (v0 v1 : Value) (xs : List UInt8) (l1 : List Bool) (ha : Arg byteE F v0 xs) (h1 : Arg boolE F v1 l1) :
    Spec Try.prog 5 #[v0, v1] F [] fun v _ => v = .bool true := by
  obtain ⟨p0, c0, rfl⟩ := ha.shape
  obtain ⟨p1, c1, rfl⟩ := h1.shape
  obtain ⟨b, hbl, _, hbc, hb⟩ := ha.upTo 200
  obtain ⟨k1, hk1, _, hkc1, hka1⟩ := h1.upTo 60
  rw [← hbl] at hb hbc
  rw [← hk1] at hka1 hkc1
  refine Spec.of (n := 117) (vs := [.slice p0 xs.length c0, .slice p1 l1.length c1]) Try.func5 rfl Try.ntmps5 rfl ?_
  refine Vc.seq ?_
  refine Vc.text (List.range 1) (sd [(0, .pure)]) rfl ?_
  refine Rg.pure rfl rfl rfl (Pv.assign rfl) ?_
  refine Rg.nil ?_
  refine Vc.seq ?_
  refine Vc.text (List.range 2) (sd [(0, .eff), (1, .pure)]) rfl ?_
  refine Rg.callP rfl rfl rfl (run_callF rfl) (shown_spec _) ?_
  rintro _ rfl
  refine Rg.pure rfl rfl rfl (Pv.assign rfl) ?_
  refine Rg.nil ?_
  refine Vc.seq ?_
  refine Vc.text (List.range 6) (sd [(0, .pure), (1, .pure), (2, .pure), (3, .pure), (4, .pure), (5, .pure)]) rfl ?_
  refine Rg.pure rfl rfl rfl (Pv.move rfl) ?_
  refine Rg.pure rfl rfl rfl (Pv.move rfl) ?_
  refine Rg.pure rfl rfl rfl (Pv.lenS rfl) ?_
  refine Rg.pure rfl rfl rfl (Pv.asI (b.length) (Pv.min rfl rfl) (by omega)) ?_
  refine Rg.pure rfl rfl rfl (Pv.slTo (b.length) rfl rfl (by omega)) ?_
  refine Rg.pure rfl rfl rfl (Pv.assign rfl) ?_
  refine Rg.nil ?_
  refine Vc.seq ?_
  refine Vc.text (List.range 6) (sd [(0, .pure), (1, .pure), (2, .pure), (3, .pure), (4, .pure), (5, .pure)]) rfl ?_
  refine Rg.pure rfl rfl rfl (Pv.move rfl) ?_
  refine Rg.pure rfl rfl rfl (Pv.move rfl) ?_
  refine Rg.pure rfl rfl rfl (Pv.lenS rfl) ?_
  refine Rg.pure rfl rfl rfl (Pv.asI (k1.length) (Pv.min rfl rfl) (by omega)) ?_
  refine Rg.pure rfl rfl rfl (Pv.slTo (k1.length) rfl rfl (by omega)) ?_
  refine Rg.pure rfl rfl rfl (Pv.assign rfl) ?_
  refine Rg.nil ?_
  refine Vc.seq ?_
  refine Vc.text (List.range 2) (sd [(0, .eff), (1, .pure)]) rfl ?_
  refine Rg.callA rfl rfl rfl (run_callF rfl) (new_w _ 100 100 (by decide)) ?_
  rintro _ s25 ⟨db, rfl, hD, hw⟩
  refine Rg.pure rfl rfl rfl (Pv.assign rfl) ?_
  refine Rg.nil ?_
  refine Vc.seq ?_
  refine Vc.seq ?_
  refine Vc.text (List.range 13) (sd [(0, .pure), (1, .pure), (2, .pure), (3, .pure), (4, .eff), (5, .pure), (6, .pure), (7, .pure), (8, .pure), (9, .pure), (10, .eff), (11, .pure), (12, .pure)]) rfl ?_
  refine Rg.pure rfl rfl rfl (Pv.move rfl) ?_
  refine Rg.pure rfl rfl rfl (Pv.eqlNil rfl rfl) ?_
  refine Rg.pure rfl rfl rfl (Pv.move rfl) ?_
  refine Rg.split (t := 28) rfl (fun h28 => absurd h28 (by (cases h28))) (fun h28 => ?_)
  refine Rg.pure rfl rfl rfl (Pv.move rfl) ?_
  refine Rg.callH rfl rfl rfl (run_callF rfl) (fun F' hF' => create_w (F := F') hD hw (by omega) (by omega) [102] (create1 (by decide))) rfl ?_
  rintro _ s30 ⟨rfl, hD30, hw30⟩
  refine Rg.pure rfl rfl rfl (Pv.neq rfl rfl) ?_
  refine Rg.pure rfl rfl rfl (Pv.pickF rfl rfl) ?_
  refine Rg.pure rfl rfl rfl (Pv.move rfl) ?_
  refine Rg.split (t := 33) rfl (fun h33 => absurd h33 (by decide)) (fun h33 => ?_)
  refine Rg.pure rfl rfl rfl (Pv.move rfl) ?_
  refine Rg.pure rfl rfl rfl (Pv.move rfl) ?_
  refine Rg.callH rfl rfl rfl (run_callF rfl) (fun F' hF' => append_w (F := F') hD30 hw30 (by omega) (by omega) [102] (hb.mono fun b o h => hF' b o (.inr h)) (by omega) (app1 b (by simp [secs]; omega))) rfl ?_
  rintro _ s36 ⟨rfl, hD36, hw36⟩
  rw [List.nil_append] at hD36 hw36
  refine Rg.pure rfl rfl rfl (Pv.neq rfl rfl) ?_
  refine Rg.pure rfl rfl rfl (Pv.pickF rfl rfl) ?_
  refine Rg.nil ?_
  refine Vc.cond rfl (fun h38 => absurd h38 (by decide)) (fun h38 => ?_)
  refine Vc.skip ?_
  refine Vc.seq ?_
  refine Vc.text (List.range 3) (sd [(0, .pure), (1, .pure), (2, .eff)]) rfl ?_
  refine Rg.pure rfl rfl rfl (Pv.move rfl) ?_
  refine Rg.pure rfl rfl rfl (Pv.move rfl) ?_
  refine Rg.callH rfl rfl rfl (run_callF rfl) (fun F' hF' => crash_w (F := F') hD36 hw36 (by omega) (by omega) (hka1.mono fun b o h => hF' b o (.inr h)) (crash1 k1)) rfl ?_
  rintro v41 s41 ⟨hD41, hw41⟩
  refine Rg.nil ?_
  refine Vc.seq ?_
  refine Vc.text (List.range 2) (sd [(0, .pure), (1, .eff)]) rfl ?_
  refine Rg.pure rfl rfl rfl (Pv.move rfl) ?_
  refine Rg.callH rfl rfl rfl (run_callF rfl) (fun F' hF' => restart_w (F := F') hD41 hw41) rfl ?_
  rintro v43 s43 ⟨hD43, hw43⟩
  refine Rg.nil ?_
  refine Vc.seq ?_
  refine Vc.text (List.range 2) (sd [(0, .eff), (1, .pure)]) rfl ?_
  refine Rg.bslice0 (E := byteE) rfl rfl rfl (fun b44 own44 => ?_)
  refine Rg.pure rfl rfl rfl (Pv.assign rfl) ?_
  refine Rg.nil ?_
  refine Vc.seq ?_
  refine Vc.seq ?_
  refine Vc.text (List.range 1) (sd [(0, .pure)]) rfl ?_
  refine Rg.pure rfl rfl rfl (Pv.assign rfl) ?_
  refine Rg.nil ?_
  refine Vc.block ?_
  refine Vc.loop3 (fun (i : Nat) (v : Value) (sg : Hl) => 16 * i < b.length + 16 ∧ Own byteE v (tornG b [] k1 i).1 sg) (fun i v sg => [(0, .slice p0 b.length c0), (1, .slice p1 k1.length c1), (5, .bool true), (6, .pointer (some ⟨db, 0, none⟩)), (7, v), (8, .int .i64 (i : Int))]) (fun i v sg => sg ++ s43) (fun i v sg => b.length + 16 - 16 * i) 0 _ _ ⟨by omega, own44⟩ (.cons rfl (.cons rfl (.cons rfl (.cons rfl (.cons rfl (.cons rfl .nil)))))) pulled ?_
  rintro i v sg ⟨hi, own⟩
  obtain ⟨hks, hl1, hl2⟩ := torn_ks (b := b) (ks := k1) hi
  obtain ⟨pv, cv, rfl⟩ := own.shape
  refine Vc.seq ?_
  refine Vc.seq ?_
  refine Vc.text (List.range 5) (sd [(0, .pure), (1, .pure), (2, .pure), (3, .pure), (4, .pure)]) rfl ?_
  refine Rg.pure rfl rfl rfl (Pv.move rfl) ?_
  refine Rg.pure rfl rfl rfl (Pv.asI (16 * i) (Pv.mul rfl rfl (by omega)) (by omega)) ?_
  refine Rg.pure rfl rfl rfl (Pv.move rfl) ?_
  refine Rg.pure rfl rfl rfl (Pv.lenS rfl) ?_
  refine Rg.pure rfl rfl rfl (Pv.lss rfl rfl) ?_
  refine Rg.nil ?_
  refine Vc.cond rfl (fun h49 => ?_) (fun h49 => ?_)
  ·
    simp only [decide_eq_true_eq] at h49
    have hi16 : 16 * i < b.length := by omega
    have hto : secTo b i ≤ b.length ∧ 16 * i ≤ secTo b i := by unfold secTo; omega
    have hpl : (piece b (16 * i) (secTo b i)).length = secTo b i - 16 * i := by simp [piece]; omega
    have hnx := torn_next (ks := k1) hi16
    rw [headD_drop] at hnx
    refine Vc.skip ?_
    refine Vc.seq ?_
    refine Vc.block ?_
    refine Vc.seq ?_
    refine Vc.text (List.range 7) (sd [(0, .pure), (1, .pure), (2, .pure), (3, .pure), (4, .pure), (5, .pure), (6, .pure)]) rfl ?_
    refine Rg.pure rfl rfl rfl (Pv.move rfl) ?_
    refine Rg.pure rfl rfl rfl (Pv.asI (16 * i) (Pv.mul rfl rfl (by omega)) (by omega)) ?_
    refine Rg.pure rfl rfl rfl (Pv.asI (16 * i + 16) (Pv.add rfl rfl (by omega)) (by omega)) ?_
    refine Rg.pure rfl rfl rfl (Pv.move rfl) ?_
    refine Rg.pure rfl rfl rfl (Pv.lenS rfl) ?_
    refine Rg.pure rfl rfl rfl (Pv.asI (secTo b i) (Pv.min rfl rfl) (by unfold secTo; omega)) ?_
    refine Rg.pure rfl rfl rfl (Pv.assign rfl) ?_
    refine Rg.nil ?_
    refine Vc.seq ?_
    refine Vc.cut1 (fun (bb : Bool) => (tornG b [] k1 (i + 1)).1 = if bb = true then padTo (tornG b [] k1 i).1 (16 * i) ++ piece b (16 * i) (secTo b i) else (tornG b [] k1 i).1) (fun bb => [(67, .bool bb), (0, .slice p0 b.length c0), (1, .slice p1 k1.length c1), (5, .bool true), (6, .pointer (some ⟨db, 0, none⟩)), (7, .slice pv (tornG b [] k1 i).1.length cv), (8, .int .i64 (i : Int)), (9, .int .i64 ((secTo b i : Nat) : Int))]) (fun bb => sg ++ s43) ?_ ?_
    ·
      refine Vc.text (List.range 10) (sd [(0, .pure), (1, .pure), (2, .pure), (3, .pure), (4, .pure), (5, .pure), (6, .pure), (7, .pure), (8, .read), (9, .pure)]) rfl ?_
      refine Rg.pure rfl rfl rfl (Pv.move rfl) ?_
      refine Rg.pure rfl rfl rfl (Pv.move rfl) ?_
      refine Rg.pure rfl rfl rfl (Pv.lenS rfl) ?_
      refine Rg.pure rfl rfl rfl (Pv.lss rfl rfl) ?_
      refine Rg.pure rfl rfl rfl (Pv.move rfl) ?_
      refine Rg.split (t := 62) rfl (fun h62 => ?_) (fun h62 => ?_)
      ·
        simp only [decide_eq_true_eq] at h62
        have hik : i < k1.length := by omega
        obtain ⟨b1, off1, c1', e, _⟩ := hka1.block (by omega)
        cases e
        rw [if_pos hik] at hnx
        refine Rg.pure rfl rfl rfl (Pv.move rfl) ?_
        refine Rg.pure rfl rfl rfl (Pv.move rfl) ?_
        refine Rg.pure rfl rfl rfl (Pv.ixA (i) rfl rfl (by omega) (by omega)) ?_
        refine Rg.read rfl rfl rfl (Ev.ldS (i) (hka1.src) rfl rfl rfl (by omega)) ?_
        refine Rg.pure rfl rfl rfl (Pv.pickT rfl rfl) ?_
        refine Rg.nil ?_
        exact Vc.inv1 _ hnx (.cons rfl (.cons rfl (.cons rfl (.cons rfl (.cons rfl (.cons rfl (.cons rfl (.cons rfl .nil)))))))) pulled
      ·
        simp only [decide_eq_false_iff_not] at h62
        rw [if_neg (show ¬ i < k1.length by omega)] at hnx
        iterate 4 (first | refine Rg.skipP rfl rfl rfl ?_ | refine Rg.skipR rfl rfl rfl ?_ | refine Rg.skipE rfl rfl rfl ?_)
        refine Rg.pure rfl rfl rfl (Pv.pickF rfl rfl) ?_
        refine Rg.nil ?_
        exact Vc.inv1 false hnx (.cons rfl (.cons rfl (.cons rfl (.cons rfl (.cons rfl (.cons rfl (.cons rfl (.cons rfl .nil)))))))) pulled
    ·
      rintro bb hbb
      refine Vc.cond rfl (fun h67 => ?_) (fun h67 => ?_)
      ·
        rw [if_pos h67] at hbb
        refine Vc.seq ?_
        refine Vc.block ?_
        refine Vc.loop3 (fun (j : Nat) (v : Value) (sg : Hl) => j ≤ 16 * i - (tornG b [] k1 i).1.length ∧ Own byteE v ((tornG b [] k1 i).1 ++ List.replicate j 0) sg) (fun j v sg => [(0, .slice p0 b.length c0), (1, .slice p1 k1.length c1), (5, .bool true), (6, .pointer (some ⟨db, 0, none⟩)), (7, v), (8, .int .i64 (i : Int)), (9, .int .i64 ((secTo b i : Nat) : Int))]) (fun j v sg => sg ++ s43) (fun j v sg => 16 * i - (tornG b [] k1 i).1.length - j) 0 _ sg ⟨Nat.zero_le _, by simpa using own⟩ (.cons rfl (.cons rfl (.cons rfl (.cons rfl (.cons rfl (.cons rfl (.cons rfl .nil))))))) pulled ?_
        rintro j v2 sg2 ⟨hj, own2⟩
        have hl3 : ((tornG b [] k1 i).1 ++ List.replicate j (0 : UInt8)).length = (tornG b [] k1 i).1.length + j := by simp
        obtain ⟨pw, cw, rfl⟩ := own2.shape
        refine Vc.seq ?_
        refine Vc.seq ?_
        refine Vc.text (List.range 5) (sd [(0, .pure), (1, .pure), (2, .pure), (3, .pure), (4, .pure)]) rfl ?_
        refine Rg.pure rfl rfl rfl (Pv.move rfl) ?_
        refine Rg.pure rfl rfl rfl (Pv.lenS rfl) ?_
        refine Rg.pure rfl rfl rfl (Pv.move rfl) ?_
        refine Rg.pure rfl rfl rfl (Pv.asI (16 * i) (Pv.mul rfl rfl (by omega)) (by omega)) ?_
        refine Rg.pure rfl rfl rfl (Pv.lss rfl rfl) ?_
        refine Rg.nil ?_
        refine Vc.cond rfl (fun h72 => ?_) (fun h72 => ?_)
        ·
          simp only [decide_eq_true_eq] at h72
          refine Vc.skip ?_
          refine Vc.block ?_
          refine Vc.text (List.range 4) (sd [(0, .pure), (1, .eff), (2, .eff), (3, .pure)]) rfl ?_
          refine Rg.pure rfl rfl rfl (Pv.move rfl) ?_
          refine Rg.bslice1 rfl rfl rfl rfl rfl rfl rfl (fun b74 => ?_)
          refine Rg.append rfl rfl rfl rfl rfl own2 (Src.one (y := (0 : UInt8)) rfl) (by simp <;> omega) (by simp [maxLen] <;> omega) rfl (fun v75 s75 own75 => ?_)
          rw [pad_snoc] at own75
          refine Rg.pure rfl rfl rfl (Pv.assign rfl) ?_
          refine Rg.nil ?_
          refine Vc.blk ?_
          exact Vc.inv3 (j + 1) v75 s75 ⟨⟨by omega, own75⟩, by omega⟩ (.cons rfl (.cons rfl (.cons rfl (.cons rfl (.cons rfl (.cons rfl (.cons rfl .nil))))))) pulled
        ·
          simp only [decide_eq_false_iff_not] at h72
          have hjj : j = 16 * i - (tornG b [] k1 i).1.length := by omega
          refine Vc.exit rfl ?_
          refine Vc.text (List.range 8) (sd [(0, .pure), (1, .pure), (2, .pure), (3, .pure), (4, .pure), (5, .pure), (6, .eff), (7, .pure)]) rfl ?_
          refine Rg.pure rfl rfl rfl (Pv.move rfl) ?_
          refine Rg.pure rfl rfl rfl (Pv.move rfl) ?_
          refine Rg.pure rfl rfl rfl (Pv.move rfl) ?_
          refine Rg.pure rfl rfl rfl (Pv.asI (16 * i) (Pv.mul rfl rfl (by omega)) (by omega)) ?_
          refine Rg.pure rfl rfl rfl (Pv.move rfl) ?_
          refine Rg.pure rfl rfl rfl (Pv.sl (lv := some (.int .i64 ((16 * i : Nat) : Int))) (hv := some (.int .i64 ((secTo b i : Nat) : Int))) (16 * i) (secTo b i) rfl rfl rfl (by omega) (by omega) (by simp)) ?_
          refine Rg.append rfl rfl rfl rfl rfl own2 (((hb.from (i := 16 * i) (by omega)).take (k := secTo b i - 16 * i) (by simp; omega)).src (ys := piece b (16 * i) (secTo b i))) (by simp <;> omega) (by simp [maxLen] <;> omega) rfl (fun v82 s82 own82 => ?_)
          have hfin : ((tornG b [] k1 i).1 ++ List.replicate j (0 : UInt8)) ++ piece b (16 * i) (secTo b i) = (tornG b [] k1 (i + 1)).1 := by rw [hbb, padTo, hjj]
          rw [hfin] at own82
          refine Rg.pure rfl rfl rfl (Pv.assign rfl) ?_
          refine Rg.nil ?_
          refine Vc.blk ?_
          refine Vc.text (List.range 3) (sd [(0, .pure), (1, .pure), (2, .pure)]) rfl ?_
          refine Rg.pure rfl rfl rfl (Pv.move rfl) ?_
          refine Rg.pure rfl rfl rfl (Pv.asI (i + 1) (Pv.add rfl rfl (by omega)) (by omega)) ?_
          refine Rg.pure rfl rfl rfl (Pv.assign rfl) ?_
          refine Rg.nil ?_
          exact Vc.inv3 (i + 1) v82 s82 ⟨⟨by omega, own82⟩, by omega⟩ (.cons rfl (.cons rfl (.cons rfl (.cons rfl (.cons rfl (.cons rfl .nil)))))) pulled
      ·
        rw [if_neg (by simpa using h67)] at hbb
        refine Vc.skip ?_
        refine Vc.blk ?_
        refine Vc.text (List.range 3) (sd [(0, .pure), (1, .pure), (2, .pure)]) rfl ?_
        refine Rg.pure rfl rfl rfl (Pv.move rfl) ?_
        refine Rg.pure rfl rfl rfl (Pv.asI (i + 1) (Pv.add rfl rfl (by omega)) (by omega)) ?_
        refine Rg.pure rfl rfl rfl (Pv.assign rfl) ?_
        refine Rg.nil ?_
        exact Vc.inv3 (i + 1) _ sg ⟨⟨by omega, by rw [hbb]; exact own⟩, by omega⟩ (.cons rfl (.cons rfl (.cons rfl (.cons rfl (.cons rfl (.cons rfl .nil)))))) pulled
  ·
    simp only [decide_eq_false_iff_not] at h49
    obtain rfl : i = secs b.length := by unfold secs; omega
    refine Vc.exit rfl ?_
    refine Vc.seq ?_
    refine Vc.text (List.range 7) (sd [(0, .pure), (1, .eff), (2, .pure), (3, .pure), (4, .pure), (5, .pure), (6, .pure)]) rfl ?_
    refine Rg.pure rfl rfl rfl (Pv.move rfl) ?_
    refine Rg.callH rfl rfl rfl (run_callF rfl) (fun F' hF' => size_w (F := F') hD43 hw43 (by omega) (by omega) [102] size1 (congrArg Prod.snd begins1)) rfl ?_
    rintro _ s85 ⟨rfl, hD85, hw85⟩
    refine Rg.pure rfl rfl rfl (Pv.move rfl) ?_
    refine Rg.pure rfl rfl rfl (Pv.extract rfl rfl) ?_
    refine Rg.pure rfl rfl rfl (Pv.extract rfl rfl) ?_
    refine Rg.pure rfl rfl rfl (Pv.assign rfl) ?_
    refine Rg.pure rfl rfl rfl (Pv.assign rfl) ?_
    refine Rg.nil ?_
    refine Vc.seq ?_
    refine Vc.text (List.range 9) (sd [(0, .pure), (1, .pure), (2, .pure), (3, .eff), (4, .pure), (5, .pure), (6, .pure), (7, .pure), (8, .pure)]) rfl ?_
    refine Rg.pure rfl rfl rfl (Pv.move rfl) ?_
    refine Rg.pure rfl rfl rfl (Pv.move rfl) ?_
    refine Rg.pure rfl rfl rfl (Pv.lenS rfl) ?_
    refine Rg.callH rfl rfl rfl (run_callF rfl) (fun F' hF' => readAt_w (F := F') hD85 hw85 (by omega) (by omega) [102] 0 ((tornG b [] k1 (secs b.length)).1.length : Nat) read1all (congrArg Prod.snd begins1)) rfl ?_
    rintro _ _ ⟨u92, q92, s92, rfl, own92, hD92, hw92, rfl⟩
    rw [List.append_assoc]
    refine Rg.pure rfl rfl rfl (Pv.move rfl) ?_
    refine Rg.pure rfl rfl rfl (Pv.extract rfl rfl) ?_
    refine Rg.pure rfl rfl rfl (Pv.extract rfl rfl) ?_
    refine Rg.pure rfl rfl rfl (Pv.assign rfl) ?_
    refine Rg.pure rfl rfl rfl (Pv.assign rfl) ?_
    refine Rg.nil ?_
    refine Vc.seq ?_
    refine Vc.text (List.range 23) (sd [(0, .pure), (1, .pure), (2, .pure), (3, .pure), (4, .pure), (5, .pure), (6, .pure), (7, .pure), (8, .pure), (9, .pure), (10, .pure), (11, .pure), (12, .pure), (13, .pure), (14, .pure), (15, .pure), (16, .pure), (17, .read), (18, .pure), (19, .read), (20, .pure), (21, .pure), (22, .pure)]) rfl ?_
    refine Rg.pure rfl rfl rfl (Pv.move rfl) ?_
    refine Rg.pure rfl rfl rfl (Pv.move rfl) ?_
    refine Rg.split (t := 96) rfl (fun h96 => ?_) (fun h96 => absurd h96 (by decide))
    refine Rg.pure rfl rfl rfl (Pv.move rfl) ?_
    refine Rg.pure rfl rfl rfl (Pv.eql rfl rfl) ?_
    refine Rg.pure rfl rfl rfl (Pv.pickT rfl rfl) ?_
    refine Rg.pure rfl rfl rfl (Pv.move rfl) ?_
    refine Rg.split (t := 100) rfl (fun h100 => ?_) (fun h100 => absurd h100 (by decide))
    refine Rg.pure rfl rfl rfl (Pv.move rfl) ?_
    refine Rg.pure rfl rfl rfl (Pv.move rfl) ?_
    refine Rg.pure rfl rfl rfl (Pv.lenS rfl) ?_
    refine Rg.pure rfl rfl rfl (Pv.eql rfl rfl) ?_
    refine Rg.pure rfl rfl rfl (Pv.pickT rfl rfl) ?_
    refine Rg.pure rfl rfl rfl (Pv.move rfl) ?_
    refine Rg.split (t := 106) rfl (fun h106 => ?_) (fun h106 => absurd h106 (by simp))
    refine Rg.pure rfl rfl rfl (Pv.move rfl) ?_
    refine Rg.pure rfl rfl rfl (Pv.eql rfl rfl) ?_
    refine Rg.pure rfl rfl rfl (Pv.pickT rfl rfl) ?_
    refine Rg.pure rfl rfl rfl (Pv.move rfl) ?_
    refine Rg.split (t := 110) rfl (fun h110 => ?_) (fun h110 => absurd h110 (by decide))
    refine Rg.pure rfl rfl rfl (Pv.move rfl) ?_
    refine Rg.read rfl rfl rfl (Ev.str ((Arg.own (F := frz F q92) own92 fun b o hb => Or.inl hb).srcF) rfl) ?_
    refine Rg.pure rfl rfl rfl (Pv.move rfl) ?_
    refine Rg.read rfl rfl rfl (Ev.str ((Arg.own (F := frz F sg) own fun b o hb => Or.inl hb).srcF) rfl) ?_
    refine Rg.pure rfl rfl rfl (Pv.eqlS rfl rfl) ?_
    refine Rg.pure rfl rfl rfl (Pv.pickT rfl rfl) ?_
    refine Rg.pure rfl rfl rfl (Pv.assign rfl) ?_
    refine Rg.nil ?_
    refine Vc.ret (Vc.rets rfl (.cons (.tmp rfl) (.nil)) ?_)
    exact congrArg Value.bool (by simp)
end Go.Proofs.Ytmocncadncgaaaa
