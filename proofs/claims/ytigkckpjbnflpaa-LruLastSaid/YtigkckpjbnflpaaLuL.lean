/- The statements' functions: LruLast. -/
import Derived.Test.YtigkckpjbnflpaaLuQ
import Derived.Test.YtigkckpjbnflpaaLuT
namespace Go.Proofs.Ytigkckpjbnflpaa
set_option linter.unusedVariables false

theorem lastL_le (fr : Nat) (xs : List Int) : (lastL fr xs).length ≤ fr := by simp [lastL]; omega
def restR (xs : List Int) (n i : Nat) : List Int := ((xs.take n).drop i).reverse
theorem restR_step {xs : List Int} {n i : Nat} (h0 : 0 < i) (hi : i ≤ n) (hn : n ≤ xs.length) : restR xs n (i - 1) = restR xs n i ++ [xs[i - 1]!] := by
  have hl : i - 1 < (xs.take n).length := by simp; omega
  rw [restR, List.drop_eq_getElem_cons hl, List.reverse_cons, show i - 1 + 1 = i by omega, List.getElem_take, getElem!_pos xs (i - 1) (by omega)]
  rfl
theorem restR_all {xs : List Int} {n i : Nat} : (xs.take n).reverse = restR xs n i ++ ((xs.take n).take i).reverse := by
  rw [restR, ← List.reverse_append, List.take_append_drop]
theorem want_all {xs W : List Int} {n i m : Nat} (hW : W = dd (restR xs n i)) (hl : W.length ≤ m) (h : i = 0 ∨ W.length = m) : (dd (xs.take n).reverse).take m = W := by
  have hp : W <+: dd (xs.take n).reverse := by rw [hW, restR_all (i := i)]; exact dd_prefix _ _
  rcases h with h | h
  · subst h
    have e : W = dd (xs.take n).reverse := by rw [hW, restR, List.drop_zero]
    rw [← e, List.take_of_length_le hl]
  · obtain ⟨t, ht⟩ := hp
    rw [← ht, ← h, List.take_left']
    rfl
theorem keys_last {xs W : List Int} {n m : Nat} (h : (dd (xs.take n).reverse).take m = W) : (lastL m (xs.take n)).map (fun p : KTi × Nat => p.1) = (W.reverse : List KTi) := by
  rw [lastL, h, List.map_map]
  exact List.map_id _

theorem LruLast_spec (F : Fm) (q : Int) (v1 : Value) (xs : List Int) (hb : Arg keyEi F v1 xs) :
    Spec Try.prog 5 #[.int .i64 q, v1] F [] fun v _ => v = .bool true := by
  obtain ⟨p1, c1, rfl⟩ := hb.shape
  obtain ⟨m, hm⟩ : ∃ m, m = 1 + andN q 65535 % 10 := ⟨_, rfl⟩
  obtain ⟨n, hn⟩ : ∃ n, n = min xs.length 100 := ⟨_, rfl⟩
  have hmf : (max (m : Int) 1).toNat = m := by omega
  refine Spec.of (n := 105) (vs := [.int .i64 q, .slice p1 xs.length c1]) Try.func5 rfl Try.ntmps5 rfl ?_
  refine Vc.seq ?_
  refine Vc.text (List.range 1) (sd [(0, .pure)]) rfl ?_
  refine Rg.pure rfl rfl rfl (Pv.assign rfl) ?_
  refine Rg.nil ?_
  refine Vc.seq ?_
  refine Vc.text (List.range 2) (sd [(0, .eff), (1, .pure)]) rfl ?_
  refine Rg.callP rfl rfl rfl (run_callF rfl) (shown_spec _) ?_
  rintro _ rfl
  refine Rg.pure rfl rfl rfl (Pv.assign rfl) ?_
  refine Rg.nil ?_
  refine Vc.seq ?_
  refine Vc.text (List.range 5) (sd [(0, .pure), (1, .pure), (2, .pure), (3, .pure), (4, .pure)]) rfl ?_
  refine Rg.pure rfl rfl rfl (Pv.move rfl) ?_
  refine Rg.pure rfl rfl rfl (Pv.and rfl rfl (by omega)) ?_
  refine Rg.pure rfl rfl rfl (Pv.rem rfl rfl (by omega)) ?_
  refine Rg.pure rfl rfl rfl (Pv.asI (m) (Pv.add rfl rfl (by omega)) (by omega)) ?_
  refine Rg.pure rfl rfl rfl (Pv.assign rfl) ?_
  refine Rg.nil ?_
  refine Vc.seq ?_
  refine Vc.text (List.range 3) (sd [(0, .pure), (1, .eff), (2, .pure)]) rfl ?_
  refine Rg.pure rfl rfl rfl (Pv.move rfl) ?_
  refine Rg.callH rfl rfl rfl (run_callF rfl) (fun F' hF' => new_speci F' (m : Int) (by omega)) rfl ?_
  rintro _ s1 ⟨cb, rfl, h1⟩
  rw [hmf] at h1
  refine Rg.pure rfl rfl rfl (Pv.assign rfl) ?_
  refine Rg.nil ?_
  refine Vc.seq ?_
  refine Vc.seq ?_
  refine Vc.text (List.range 2) (sd [(0, .pure), (1, .pure)]) rfl ?_
  refine Rg.pure rfl rfl rfl (Pv.move rfl) ?_
  refine Rg.pure rfl rfl rfl (Pv.eqlNil rfl rfl) ?_
  refine Rg.nil ?_
  refine Vc.cond rfl (fun h23 => absurd h23 (by simp)) (fun h23 => ?_)
  refine Vc.skip ?_
  refine Vc.seq ?_
  refine Vc.text (List.range 4) (sd [(0, .pure), (1, .pure), (2, .pure), (3, .pure)]) rfl ?_
  refine Rg.pure rfl rfl rfl (Pv.move rfl) ?_
  refine Rg.pure rfl rfl rfl (Pv.lenS rfl) ?_
  refine Rg.pure rfl rfl rfl (Pv.asI (n) (Pv.min rfl rfl) (by omega)) ?_
  refine Rg.pure rfl rfl rfl (Pv.assign rfl) ?_
  refine Rg.nil ?_
  refine Vc.seq ?_
  refine Vc.seq ?_
  refine Vc.text (List.range 1) (sd [(0, .pure)]) rfl ?_
  refine Rg.pure rfl rfl rfl (Pv.assign rfl) ?_
  refine Rg.nil ?_
  refine Vc.block ?_
  refine Vc.loop2 (fun (i : Nat) (s : Hl) => i ≤ n ∧ Cachei cb m i (lastL m (xs.take i)) s) (fun i s => [(0, .int .i64 (m : Int)), (1, .slice p1 xs.length c1), (5, .bool true), (6, .pointer (some ⟨cb, 0, none⟩)), (7, .int .i64 (n : Int)), (8, .int .i64 (i : Int))]) (fun i s => s) (fun i s => n - i) 0 s1 ⟨Nat.zero_le _, by simpa [lastL, dd] using h1⟩ (.cons rfl (.cons rfl (.cons rfl (.cons rfl (.cons rfl (.cons rfl .nil)))))) pulled ?_
  rintro i s ⟨hi, hc⟩
  have hle := lastL_le m (xs.take i)
  refine Vc.seq ?_
  refine Vc.seq ?_
  refine Vc.text (List.range 3) (sd [(0, .pure), (1, .pure), (2, .pure)]) rfl ?_
  refine Rg.pure rfl rfl rfl (Pv.move rfl) ?_
  refine Rg.pure rfl rfl rfl (Pv.move rfl) ?_
  refine Rg.pure rfl rfl rfl (Pv.lss rfl rfl) ?_
  refine Rg.nil ?_
  refine Vc.cond rfl (fun h29 => ?_) (fun h29 => ?_)
  ·
    simp only [decide_eq_true_eq] at h29
    obtain ⟨b0, o0, cc0, e0, _⟩ := hb.block (by omega)
    cases e0
    obtain ⟨M, g, is, hu, hM⟩ := last_step (fr := m) (by omega) (xs.take i) xs[i]!
    refine Vc.skip ?_
    refine Vc.seq ?_
    refine Vc.block ?_
    refine Vc.text (List.range 6) (sd [(0, .pure), (1, .pure), (2, .pure), (3, .pure), (4, .read), (5, .eff)]) rfl ?_
    refine Rg.pure rfl rfl rfl (Pv.move rfl) ?_
    refine Rg.pure rfl rfl rfl (Pv.move rfl) ?_
    refine Rg.pure rfl rfl rfl (Pv.move rfl) ?_
    refine Rg.pure rfl rfl rfl (Pv.ixA (i) rfl rfl (by omega) (by omega)) ?_
    refine Rg.read rfl rfl rfl (Ev.ldS (i) (hb.src) rfl rfl rfl (by omega)) ?_
    refine Rg.callH rfl rfl rfl (run_callF rfl) (fun F' hF' => use_somei F' hc xs[i]! (by omega) (by omega) hu) rfl ?_
    rintro _ s2 ⟨rfl, hc2⟩
    rw [hM, getElem!_pos xs i (by omega), ← List.take_succ_eq_append_getElem (by omega)] at hc2
    refine Rg.nil ?_
    refine Vc.blk ?_
    refine Vc.text (List.range 3) (sd [(0, .pure), (1, .pure), (2, .pure)]) rfl ?_
    refine Rg.pure rfl rfl rfl (Pv.move rfl) ?_
    refine Rg.pure rfl rfl rfl (Pv.asI (i + 1) (Pv.add rfl rfl (by omega)) (by omega)) ?_
    refine Rg.pure rfl rfl rfl (Pv.assign rfl) ?_
    refine Rg.nil ?_
    exact Vc.inv2 (i + 1) s2 ⟨⟨by omega, hc2⟩, by omega⟩ (.cons rfl (.cons rfl (.cons rfl (.cons rfl (.cons rfl (.cons rfl .nil)))))) pulled
  ·
    simp only [decide_eq_false_iff_not] at h29
    have him : i = n := (by omega)
    subst him
    refine Vc.exit rfl ?_
    refine Vc.seq ?_
    refine Vc.text (List.range 1) (sd [(0, .pure)]) rfl ?_
    refine Rg.pure rfl rfl rfl (Pv.assign rfl) ?_
    refine Rg.nil ?_
    refine Vc.seq ?_
    refine Vc.seq ?_
    refine Vc.text (List.range 2) (sd [(0, .pure), (1, .pure)]) rfl ?_
    refine Rg.pure rfl rfl rfl (Pv.move rfl) ?_
    refine Rg.pure rfl rfl rfl (Pv.assign rfl) ?_
    refine Rg.nil ?_
    refine Vc.block ?_
    refine Vc.loop4 (fun (j : Nat) (W : List Int) (v : Value) (s9 : Hl) => j ≤ i ∧ W = dd (restR xs i j) ∧ W.length ≤ m ∧ Own keyEi v W s9) (fun j W v s9 => [(0, .int .i64 (m : Int)), (1, .slice p1 xs.length c1), (5, .bool true), (6, .pointer (some ⟨cb, 0, none⟩)), (9, v), (10, .int .i64 (j : Int))]) (fun j W v s9 => s9 ++ s) (fun j W v s9 => j) i [] _ [] ⟨Nat.le_refl _, by simp [restR, dd], by simp, .nil⟩ (.cons rfl (.cons rfl (.cons rfl (.cons rfl (.cons rfl (.cons rfl .nil)))))) pulled ?_
    rintro j W v s9 ⟨hj, hW, hWl, own9⟩
    obtain ⟨q9, c9, rfl⟩ := own9.shape
    refine Vc.seq ?_
    refine Vc.seq ?_
    refine Vc.cut1 (fun (b : Bool) => (b = true → 0 < j ∧ W.length < m) ∧ (b = false → j = 0 ∨ W.length = m)) (fun b => (46, .bool b) :: [(0, .int .i64 (m : Int)), (1, .slice p1 xs.length c1), (5, .bool true), (6, .pointer (some ⟨cb, 0, none⟩)), (9, .slice q9 W.length c9), (10, .int .i64 (j : Int))]) (fun b => s9 ++ s) ?_ ?_
    ·
      refine Vc.text (List.range 8) (sd [(0, .pure), (1, .pure), (2, .pure), (3, .pure), (4, .pure), (5, .pure), (6, .pure), (7, .pure)]) rfl ?_
      refine Rg.pure rfl rfl rfl (Pv.move rfl) ?_
      refine Rg.pure rfl rfl rfl (Pv.gtr rfl rfl) ?_
      refine Rg.pure rfl rfl rfl (Pv.move rfl) ?_
      refine Rg.split (t := 41) rfl (fun h41 => ?_) (fun h41 => ?_)
      ·
        simp only [decide_eq_true_eq] at h41
        refine Rg.pure rfl rfl rfl (Pv.move rfl) ?_
        refine Rg.pure rfl rfl rfl (Pv.lenS rfl) ?_
        refine Rg.pure rfl rfl rfl (Pv.move rfl) ?_
        refine Rg.pure rfl rfl rfl (Pv.lss rfl rfl) ?_
        refine Rg.pure rfl rfl rfl (Pv.pickT rfl rfl) ?_
        refine Rg.nil ?_
        exact Vc.inv1 _ ⟨fun hb => (by first | (simp only [decide_eq_true_eq] at hb; omega) | cases hb), fun hb => (by first | (simp only [decide_eq_false_iff_not] at hb; omega) | omega)⟩ (.cons rfl (.cons rfl (.cons rfl (.cons rfl (.cons rfl (.cons rfl (.cons rfl .nil))))))) pulled
      ·
        simp only [decide_eq_false_iff_not] at h41
        iterate 4 (first | refine Rg.skipP rfl rfl rfl ?_ | refine Rg.skipR rfl rfl rfl ?_ | refine Rg.skipE rfl rfl rfl ?_)
        refine Rg.pure rfl rfl rfl (Pv.pickF rfl rfl) ?_
        refine Rg.nil ?_
        exact Vc.inv1 _ ⟨fun hb => (by first | (simp only [decide_eq_true_eq] at hb; omega) | cases hb), fun hb => (by first | (simp only [decide_eq_false_iff_not] at hb; omega) | omega)⟩ (.cons rfl (.cons rfl (.cons rfl (.cons rfl (.cons rfl (.cons rfl (.cons rfl .nil))))))) pulled
    ·
      rintro bb ⟨hb1, hb2⟩
      refine Vc.cond rfl (fun h46 => ?_) (fun h46 => ?_)
      ·
        obtain ⟨h3, h4⟩ := hb1 h46
        obtain ⟨b0, o0, cc0, e0, _⟩ := hb.block (by omega)
        cases e0
        refine Vc.skip ?_
        refine Vc.seq ?_
        refine Vc.block ?_
        refine Vc.seq ?_
        refine Vc.text (List.range 1) (sd [(0, .pure)]) rfl ?_
        refine Rg.pure rfl rfl rfl (Pv.assign rfl) ?_
        refine Rg.nil ?_
        refine Vc.seq ?_
        refine Vc.seq ?_
        refine Vc.text (List.range 1) (sd [(0, .pure)]) rfl ?_
        refine Rg.pure rfl rfl rfl (Pv.assign rfl) ?_
        refine Rg.nil ?_
        refine Vc.block ?_
        refine Vc.loop2 (fun (k : Nat) (b : Bool) => k ≤ W.length ∧ (b = true ↔ ∃ t, t < k ∧ W[t]! = xs[j - 1]!)) (fun k b => [(0, .int .i64 (m : Int)), (1, .slice (some ⟨b0, o0, none⟩) xs.length c1), (5, .bool true), (6, .pointer (some ⟨cb, 0, none⟩)), (9, .slice q9 W.length c9), (10, .int .i64 (j : Int)), (11, .bool b), (12, .int .i64 (k : Int))]) (fun k b => s9 ++ s) (fun k b => W.length - k) 0 false ⟨Nat.zero_le _, by simp⟩ (.cons rfl (.cons rfl (.cons rfl (.cons rfl (.cons rfl (.cons rfl (.cons rfl (.cons rfl .nil)))))))) pulled ?_
        rintro k b ⟨hk, hbk⟩
        refine Vc.seq ?_
        refine Vc.seq ?_
        refine Vc.text (List.range 4) (sd [(0, .pure), (1, .pure), (2, .pure), (3, .pure)]) rfl ?_
        refine Rg.pure rfl rfl rfl (Pv.move rfl) ?_
        refine Rg.pure rfl rfl rfl (Pv.move rfl) ?_
        refine Rg.pure rfl rfl rfl (Pv.lenS rfl) ?_
        refine Rg.pure rfl rfl rfl (Pv.lss rfl rfl) ?_
        refine Rg.nil ?_
        refine Vc.cond rfl (fun h52 => ?_) (fun h52 => ?_)
        ·
          simp only [decide_eq_true_eq] at h52
          obtain ⟨bw, cw, sw, ew, rfl, _, _⟩ := own9.block (by omega)
          cases ew
          refine Vc.skip ?_
          refine Vc.seq ?_
          refine Vc.block ?_
          refine Vc.draw [] (sd [(0, .pure), (1, .pure), (2, .pure), (3, .pure), (4, .pure), (5, .read), (6, .pure), (7, .pure), (8, .pure), (9, .pure), (10, .read), (11, .pure), (12, .pure), (13, .pure)]) mixed (by kernel_rfl) ?_
          refine Rg.pure rfl rfl rfl (Pv.move rfl) ?_
          refine Rg.pure rfl rfl rfl (Pv.move rfl) ?_
          refine Rg.split (t := 56) rfl (fun h56 => ?_) (fun h56 => ?_)
          ·
            iterate 10 (first | refine Rg.skipP rfl rfl rfl ?_ | refine Rg.skipR rfl rfl rfl ?_ | refine Rg.skipE rfl rfl rfl ?_)
            refine Rg.pure rfl rfl rfl (Pv.pickT rfl rfl) ?_
            refine Rg.pure rfl rfl rfl (Pv.assign rfl) ?_
            refine Rg.nil ?_
            refine Vc.blk ?_
            refine Vc.text (List.range 3) (sd [(0, .pure), (1, .pure), (2, .pure)]) rfl ?_
            refine Rg.pure rfl rfl rfl (Pv.move rfl) ?_
            refine Rg.pure rfl rfl rfl (Pv.asI (k + 1) (Pv.add rfl rfl (by omega)) (by omega)) ?_
            refine Rg.pure rfl rfl rfl (Pv.assign rfl) ?_
            refine Rg.nil ?_
            exact Vc.inv2 (k + 1) true ⟨⟨by omega, by simp only [true_iff]; obtain ⟨t, ht, e⟩ := hbk.1 h56; exact ⟨t, by omega, e⟩⟩, by omega⟩ (.cons rfl (.cons rfl (.cons rfl (.cons rfl (.cons rfl (.cons rfl (.cons rfl (.cons rfl .nil)))))))) pulled
          ·
            refine Rg.pure rfl rfl rfl (Pv.move rfl) ?_
            refine Rg.pure rfl rfl rfl (Pv.move rfl) ?_
            refine Rg.pure rfl rfl rfl (Pv.ixA (k) rfl rfl (by omega) (by omega)) ?_
            refine Rg.read rfl rfl rfl (Ev.ldR (k) rfl (Nat.zero_add _) (by omega)) ?_
            refine Rg.pure rfl rfl rfl (Pv.move rfl) ?_
            refine Rg.pure rfl rfl rfl (Pv.move rfl) ?_
            refine Rg.pure rfl rfl rfl (Pv.asI (j - 1) (Pv.sub rfl rfl (by omega)) (by omega)) ?_
            refine Rg.pure rfl rfl rfl (Pv.ixA (j - 1) rfl rfl (by omega) (by omega)) ?_
            refine Rg.read rfl rfl rfl (Ev.ldS (j - 1) (hb.src) rfl rfl rfl (by omega)) ?_
            refine Rg.pure rfl rfl rfl (Pv.eql rfl rfl) ?_
            refine Rg.pure rfl rfl rfl (Pv.pickF rfl rfl) ?_
            refine Rg.pure rfl rfl rfl (Pv.assign rfl) ?_
            refine Rg.nil ?_
            refine Vc.blk ?_
            refine Vc.text (List.range 3) (sd [(0, .pure), (1, .pure), (2, .pure)]) rfl ?_
            refine Rg.pure rfl rfl rfl (Pv.move rfl) ?_
            refine Rg.pure rfl rfl rfl (Pv.asI (k + 1) (Pv.add rfl rfl (by omega)) (by omega)) ?_
            refine Rg.pure rfl rfl rfl (Pv.assign rfl) ?_
            refine Rg.nil ?_
            have hkk : (W[k]! == xs[j - 1]!) = true ↔ ∃ t, t < k + 1 ∧ W[t]! = xs[j - 1]! := by
              rw [beq_iff_eq]
              constructor
              · exact fun e => ⟨k, by omega, e⟩
              · rintro ⟨t, ht, e⟩
                by_cases h : t = k
                · rw [← h]; exact e
                · exact absurd (hbk.2 ⟨t, by omega, e⟩) (by rw [h56]; simp)
            exact Vc.inv2 (k + 1) (W[k]! == xs[j - 1]!) ⟨⟨by omega, hkk⟩, by omega⟩ (.cons rfl (.cons rfl (.cons rfl (.cons rfl (.cons rfl (.cons rfl (.cons rfl (.cons rfl .nil)))))))) pulled
        ·
          simp only [decide_eq_false_iff_not] at h52
          have hkW : k = W.length := (by omega)
          have hin : b = true ↔ xs[j - 1]! ∈ W := by rw [hbk, hkW]; exact ⟨fun ⟨t, ht, e⟩ => by rw [← e, getElem!_pos W t ht]; exact List.getElem_mem _, fun h => by obtain ⟨t, ht, e⟩ := List.getElem_of_mem h; exact ⟨t, ht, by rw [getElem!_pos W t ht]; exact e⟩⟩
          refine Vc.exit rfl ?_
          refine Vc.seq ?_
          refine Vc.text (List.range 2) (sd [(0, .pure), (1, .pure)]) rfl ?_
          refine Rg.pure rfl rfl rfl (Pv.move rfl) ?_
          refine Rg.pure rfl rfl rfl (Pv.not rfl) ?_
          refine Rg.nil ?_
          refine Vc.cond rfl (fun h69 => ?_) (fun h69 => ?_)
          ·
            have hno : ¬ xs[j - 1]! ∈ W := fun h => by rw [hin.2 h] at h69; cases h69
            refine Vc.text (List.range 9) (sd [(0, .pure), (1, .pure), (2, .pure), (3, .pure), (4, .pure), (5, .read), (6, .eff), (7, .eff), (8, .pure)]) rfl ?_
            refine Rg.pure rfl rfl rfl (Pv.move rfl) ?_
            refine Rg.pure rfl rfl rfl (Pv.move rfl) ?_
            refine Rg.pure rfl rfl rfl (Pv.move rfl) ?_
            refine Rg.pure rfl rfl rfl (Pv.asI (j - 1) (Pv.sub rfl rfl (by omega)) (by omega)) ?_
            refine Rg.pure rfl rfl rfl (Pv.ixA (j - 1) rfl rfl (by omega) (by omega)) ?_
            refine Rg.read rfl rfl rfl (Ev.ldS (j - 1) (hb.src) rfl rfl rfl (by omega)) ?_
            refine Rg.bslice1 rfl rfl rfl rfl rfl rfl rfl (fun b76 => ?_)
            refine Rg.append rfl rfl rfl rfl rfl own9 (Src.one (y := xs[j - 1]!) rfl) (by simp; omega) (by simp [maxLen]; omega) rfl (fun v77 s77 own77 => ?_)
            refine Rg.pure rfl rfl rfl (Pv.assign rfl) ?_
            refine Rg.nil ?_
            refine Vc.blk ?_
            refine Vc.text (List.range 3) (sd [(0, .pure), (1, .pure), (2, .pure)]) rfl ?_
            refine Rg.pure rfl rfl rfl (Pv.move rfl) ?_
            refine Rg.pure rfl rfl rfl (Pv.asI (j - 1) (Pv.sub rfl rfl (by omega)) (by omega)) ?_
            refine Rg.pure rfl rfl rfl (Pv.assign rfl) ?_
            refine Rg.nil ?_
            exact Vc.inv4 (j - 1) (W ++ [xs[j - 1]!]) v77 s77 ⟨⟨by omega, by rw [restR_step (by omega) hj (by omega), dd_snoc, if_neg (fun h => hno (by rw [hW]; exact dd_mem.2 h)), ← hW], by simp; omega, own77⟩, by omega⟩ (.cons rfl (.cons rfl (.cons rfl (.cons rfl (.cons rfl (.cons rfl .nil)))))) pulled
          ·
            have hyes : xs[j - 1]! ∈ W := hin.1 (by simpa using h69)
            refine Vc.skip ?_
            refine Vc.blk ?_
            refine Vc.text (List.range 3) (sd [(0, .pure), (1, .pure), (2, .pure)]) rfl ?_
            refine Rg.pure rfl rfl rfl (Pv.move rfl) ?_
            refine Rg.pure rfl rfl rfl (Pv.asI (j - 1) (Pv.sub rfl rfl (by omega)) (by omega)) ?_
            refine Rg.pure rfl rfl rfl (Pv.assign rfl) ?_
            refine Rg.nil ?_
            exact Vc.inv4 (j - 1) W _ s9 ⟨⟨by omega, by rw [restR_step (by omega) hj (by omega), dd_snoc, if_pos (by rw [hW] at hyes; exact dd_mem.1 hyes), ← hW], hWl, own9⟩, by omega⟩ (.cons rfl (.cons rfl (.cons rfl (.cons rfl (.cons rfl (.cons rfl .nil)))))) pulled
      ·
        have hall := want_all hW hWl (hb2 h46)
        refine Vc.exit rfl ?_
        refine Vc.seq ?_
        refine Vc.text (List.range 3) (sd [(0, .pure), (1, .eff), (2, .pure)]) rfl ?_
        refine Rg.pure rfl rfl rfl (Pv.move rfl) ?_
        refine Rg.callH rfl rfl rfl (run_callF rfl) (fun F' hF' => keys_speci (F := F') hc (fun b o h => hF' b o (.inl (Sb.sub (seg := s) _ h))) (by omega) (by omega)) rfl ?_
        rintro v79 s79 own79
        have own79 : Own keyEi v79 ((lastL m (xs.take i)).map fun p : KTi × Nat => p.1) s79 := own79
        rw [keys_last hall] at own79
        have hkl : (W.reverse : List KTi).length = W.length := List.length_reverse
        have hkg : ∀ k, k < W.length → (W.reverse : List KTi)[W.length - 1 - k]! = W[k]! := fun k hk => by rw [getElem!_pos W.reverse (W.length - 1 - k) (by rw [List.length_reverse]; omega), getElem!_pos W k hk, List.getElem_reverse]; congr 1; omega
        generalize (W.reverse : List KTi) = ks at own79 hkl hkg
        obtain ⟨q79, c79, rfl⟩ := own79.shape
        refine Rg.pure rfl rfl rfl (Pv.assign rfl) ?_
        refine Rg.nil ?_
        refine Vc.seq ?_
        refine Vc.seq ?_
        refine Vc.text (List.range 5) (sd [(0, .pure), (1, .pure), (2, .pure), (3, .pure), (4, .pure)]) rfl ?_
        refine Rg.pure rfl rfl rfl (Pv.move rfl) ?_
        refine Rg.pure rfl rfl rfl (Pv.lenS rfl) ?_
        refine Rg.pure rfl rfl rfl (Pv.move rfl) ?_
        refine Rg.pure rfl rfl rfl (Pv.lenS rfl) ?_
        refine Rg.pure rfl rfl rfl (Pv.neq rfl rfl) ?_
        refine Rg.nil ?_
        refine Vc.cond rfl (fun h84 => absurd h84 (by rw [hkl]; simp)) (fun h84 => ?_)
        refine Vc.skip ?_
        refine Vc.seq ?_
        refine Vc.seq ?_
        refine Vc.text (List.range 1) (sd [(0, .pure)]) rfl ?_
        refine Rg.pure rfl rfl rfl (Pv.assign rfl) ?_
        refine Rg.nil ?_
        refine Vc.block ?_
        refine Vc.loop1 (fun (k : Nat) => k ≤ W.length) (fun k => [(5, .bool true), (9, .slice q9 W.length c9), (13, .slice q79 ks.length c79), (14, .int .i64 (k : Int))]) (fun k => s79 ++ s9) (fun k => W.length - k) 0 (Nat.zero_le _) (.cons rfl (.cons rfl (.cons rfl (.cons rfl .nil)))) pulled ?_
        rintro k hk
        refine Vc.seq ?_
        refine Vc.seq ?_
        refine Vc.text (List.range 4) (sd [(0, .pure), (1, .pure), (2, .pure), (3, .pure)]) rfl ?_
        refine Rg.pure rfl rfl rfl (Pv.move rfl) ?_
        refine Rg.pure rfl rfl rfl (Pv.move rfl) ?_
        refine Rg.pure rfl rfl rfl (Pv.lenS rfl) ?_
        refine Rg.pure rfl rfl rfl (Pv.lss rfl rfl) ?_
        refine Rg.nil ?_
        refine Vc.cond rfl (fun h88 => ?_) (fun h88 => ?_)
        ·
          simp only [decide_eq_true_eq] at h88
          obtain ⟨ba, ca, spa, ea, rfl, _, _⟩ := own79.block (by omega)
          obtain ⟨bw, cw, sw, ew, rfl, _, _⟩ := own9.block (by omega)
          cases ea
          cases ew
          refine Vc.skip ?_
          refine Vc.seq ?_
          refine Vc.block ?_
          refine Vc.seq ?_
          refine Vc.draw [] (sd [(0, .pure), (1, .pure), (2, .pure), (3, .pure), (4, .pure), (5, .pure), (6, .pure), (7, .read), (8, .pure), (9, .pure), (10, .pure), (11, .read), (12, .pure)]) mixed (by kernel_rfl) ?_
          refine Rg.pure rfl rfl rfl (Pv.move rfl) ?_
          refine Rg.pure rfl rfl rfl (Pv.move rfl) ?_
          refine Rg.pure rfl rfl rfl (Pv.lenS rfl) ?_
          refine Rg.pure rfl rfl rfl (Pv.asI (W.length - 1) (Pv.sub rfl rfl (by omega)) (by omega)) ?_
          refine Rg.pure rfl rfl rfl (Pv.move rfl) ?_
          refine Rg.pure rfl rfl rfl (Pv.asI (W.length - 1 - k) (Pv.sub rfl rfl (by omega)) (by omega)) ?_
          refine Rg.pure rfl rfl rfl (Pv.ixA (W.length - 1 - k) rfl rfl (by omega) (by omega)) ?_
          refine Rg.read rfl rfl rfl (Ev.ldR (W.length - 1 - k) rfl (Nat.zero_add _) (by omega)) ?_
          refine Rg.pure rfl rfl rfl (Pv.move rfl) ?_
          refine Rg.pure rfl rfl rfl (Pv.move rfl) ?_
          refine Rg.pure rfl rfl rfl (Pv.ixA (k) rfl rfl (by omega) (by omega)) ?_
          refine Rg.read rfl rfl rfl (Ev.ldR (k) rfl (Nat.zero_add _) (by omega)) ?_
          refine Rg.pure rfl rfl rfl (Pv.neq rfl rfl) ?_
          refine Rg.nil ?_
          refine Vc.cond rfl (fun h103 => absurd h103 (by rw [hkg k (by omega)]; simp)) (fun h103 => ?_)
          refine Vc.skip ?_
          refine Vc.blk ?_
          refine Vc.text (List.range 3) (sd [(0, .pure), (1, .pure), (2, .pure)]) rfl ?_
          refine Rg.pure rfl rfl rfl (Pv.move rfl) ?_
          refine Rg.pure rfl rfl rfl (Pv.asI (k + 1) (Pv.add rfl rfl (by omega)) (by omega)) ?_
          refine Rg.pure rfl rfl rfl (Pv.assign rfl) ?_
          refine Rg.nil ?_
          exact Vc.inv1 (k + 1) ⟨by omega, by omega⟩ (.cons rfl (.cons rfl (.cons rfl (.cons rfl .nil)))) pulled
        ·
          refine Vc.exit rfl ?_
          refine Vc.seq ?_
          refine Vc.text (List.range 2) (sd [(0, .pure), (1, .pure)]) rfl ?_
          refine Rg.pure rfl rfl rfl (Pv.move rfl) ?_
          refine Rg.pure rfl rfl rfl (Pv.assign rfl) ?_
          refine Rg.nil ?_
          refine Vc.ret (Vc.rets rfl (.cons (.tmp rfl) (.nil)) ?_)
          rfl
end Go.Proofs.Ytigkckpjbnflpaa
