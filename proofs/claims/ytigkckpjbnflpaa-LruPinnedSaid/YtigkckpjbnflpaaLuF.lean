/- The statements' functions: LruFull. -/
import Derived.Test.YtigkckpjbnflpaaLuT
namespace Go.Proofs.Ytigkckpjbnflpaa
set_option linter.unusedVariables false

/-- The keys from 0 on, each pinned as often. -/
def rowL (q i : Nat) : List (KTi × Nat) := (List.range i).map fun j : Nat => ((j : Int), q)
theorem rowL_succ (q i : Nat) : rowL q (i + 1) = rowL q i ++ [((i : Int), q)] := by simp [rowL, List.range_succ]
theorem rowL_length (q i : Nat) : (rowL q i).length = i := by simp [rowL]
theorem mem_rowL {q i : Nat} {p : KTi × Nat} (h : p ∈ rowL q i) : (∃ j : Nat, j < i ∧ @Eq Int p.1 (j : Int)) ∧ p.2 = q := by
  obtain ⟨j, hj, rfl⟩ := List.mem_map.1 h
  exact ⟨⟨j, by simpa using hj, rfl⟩, rfl⟩
theorem hasK_row {q i : Nat} {k : Int} (h : (i : Int) ≤ k) : hasK (rowL q i) k = false := by
  rw [Bool.eq_false_iff]
  intro e
  obtain ⟨p, hp, he⟩ := List.any_eq_true.1 e
  obtain ⟨⟨j, hj, hj2⟩, _⟩ := mem_rowL hp
  have h2 : @Eq Int p.1 k := of_decide_eq_true he
  omega
theorem use_row {q i m : Nat} (h : i < m) : useK zi m (rowL q i) (i : Int) = some (rowL q i, 0, zi, false) := by
  simp only [useK, hasK_row (Int.le_refl _), Bool.false_eq_true, if_false, rowL_length]
  rw [if_neg (by omega)]
theorem use_row_none {m : Nat} {k : Int} (h : (m : Int) ≤ k) : useK zi m (rowL 1 m) k = none := by
  have e : (rowL 1 m).find? (fun p => decide (p.2 = 0)) = none := by
    rw [List.find?_eq_none]
    intro p hp
    simp [(mem_rowL hp).2]
  simp only [useK, hasK_row h, Bool.false_eq_true, if_false, rowL_length, Nat.le_refl, if_true, e]
theorem pin_row (F : Fm) {cb fr ck i : Nat} {s : Hl} (hh : Cachei cb fr ck (rowL 1 i ++ [((i : Int), 0)]) s) :
    Spec Try.prog 27 #[.pointer (some ⟨cb, 0, none⟩), kvi (i : Int)] F s fun v s' => v = .int .i64 0 ∧ Cachei cb fr ck (rowL 1 (i + 1)) s' :=
  (pin_speci F hh (i : Int) (fun p hp => by
    rcases List.mem_append.1 hp with hp | hp
    · rw [(mem_rowL hp).2]; omega
    · rw [List.mem_singleton.1 hp]; show 0 < _; omega)).mono fun v s' h => by
    have e1 : hasK (rowL 1 i ++ [((i : Int), 0)]) (i : Int) = true := by simp [hasK]
    have e0 : (rowL 1 i).find? (fun p => decide (p.1 = (i : Int))) = none := by
      rw [List.find?_eq_none]
      intro p hp
      obtain ⟨⟨j, hj, hj2⟩, _⟩ := mem_rowL hp
      simp only [decide_eq_true_eq]
      intro h
      have h2 : @Eq Int p.1 (i : Int) := h
      omega
    have e2 : pinsK (rowL 1 i ++ [((i : Int), 0)]) (i : Int) = 0 := by simp [pinsK, List.find?_append, e0]
    have e3 : setK (rowL 1 i ++ [((i : Int), 0)]) (i : Int) (0 + 1) = rowL 1 (i + 1) := by
      rw [rowL_succ, setK, List.map_append]
      congr 1
      · conv => rhs; rw [← List.map_id (rowL 1 i)]
        apply List.map_congr_left
        intro p hp
        obtain ⟨⟨j, hj, hj2⟩, _⟩ := mem_rowL hp
        rw [if_neg (fun h => by have h2 : @Eq Int p.1 (i : Int) := h; omega)]; rfl
      · simp
    simp only [e1, if_true, e2, e3] at h
    exact h

theorem LruFull_spec (F : Fm) (q : Int) (v1 : Value) (xs : List Int) (hb : Arg keyEi F v1 xs) :
    Spec Try.prog 7 #[.int .i64 q, v1] F [] fun v _ => v = .bool true := by
  obtain ⟨p1, c1, rfl⟩ := hb.shape
  obtain ⟨m, hm⟩ : ∃ m, m = 1 + andN q 65535 % 10 := ⟨_, rfl⟩
  have hmf : (max (m : Int) 1).toNat = m := by omega
  refine Spec.of (n := 91) (vs := [.int .i64 q, .slice p1 xs.length c1]) Try.func7 rfl Try.ntmps7 rfl ?_
  refine Vc.seq ?_
  refine Vc.text (List.range 1) (sd [(0, .pure)]) rfl ?_
  refine Rg.pure rfl rfl rfl (Pv.assign rfl) ?_
  refine Rg.nil ?_
  refine Vc.seq ?_
  refine Vc.text (List.range 2) (sd [(0, .eff), (1, .pure)]) rfl ?_
  refine Rg.callP rfl rfl rfl (run_callF rfl) (shown_spec _) ?_
  rintro _ rfl
  refine Rg.pure rfl rfl rfl (Pv.assign rfl) ?_
  refine Rg.nil ?_
  refine Vc.seq ?_
  refine Vc.text (List.range 5) (sd [(0, .pure), (1, .pure), (2, .pure), (3, .pure), (4, .pure)]) rfl ?_
  refine Rg.pure rfl rfl rfl (Pv.move rfl) ?_
  refine Rg.pure rfl rfl rfl (Pv.and rfl rfl (by omega)) ?_
  refine Rg.pure rfl rfl rfl (Pv.rem rfl rfl (by omega)) ?_
  refine Rg.pure rfl rfl rfl (Pv.asI (m) (Pv.add rfl rfl (by omega)) (by omega)) ?_
  refine Rg.pure rfl rfl rfl (Pv.assign rfl) ?_
  refine Rg.nil ?_
  refine Vc.seq ?_
  refine Vc.text (List.range 3) (sd [(0, .pure), (1, .eff), (2, .pure)]) rfl ?_
  refine Rg.pure rfl rfl rfl (Pv.move rfl) ?_
  refine Rg.callH rfl rfl rfl (run_callF rfl) (fun F' hF' => new_speci F' (m : Int) (by omega)) rfl ?_
  rintro _ s1 ⟨cb, rfl, h1⟩
  rw [hmf] at h1
  refine Rg.pure rfl rfl rfl (Pv.assign rfl) ?_
  refine Rg.nil ?_
  refine Vc.seq ?_
  refine Vc.seq ?_
  refine Vc.text (List.range 2) (sd [(0, .pure), (1, .pure)]) rfl ?_
  refine Rg.pure rfl rfl rfl (Pv.move rfl) ?_
  refine Rg.pure rfl rfl rfl (Pv.eqlNil rfl rfl) ?_
  refine Rg.nil ?_
  refine Vc.cond rfl (fun h23 => absurd h23 (by simp)) (fun h23 => ?_)
  refine Vc.skip ?_
  refine Vc.seq ?_
  refine Vc.seq ?_
  refine Vc.text (List.range 1) (sd [(0, .pure)]) rfl ?_
  refine Rg.pure rfl rfl rfl (Pv.assign rfl) ?_
  refine Rg.nil ?_
  refine Vc.block ?_
  refine Vc.loop2 (fun (i : Nat) (s : Hl) => i ≤ m ∧ Cachei cb m i (rowL 1 i) s) (fun i s => [(0, .int .i64 (m : Int)), (1, .slice p1 xs.length c1), (5, .bool true), (6, .pointer (some ⟨cb, 0, none⟩)), (7, .int .i64 (i : Int))]) (fun i s => s) (fun i s => m - i) 0 s1 ⟨Nat.zero_le _, h1⟩ (.cons rfl (.cons rfl (.cons rfl (.cons rfl (.cons rfl .nil))))) pulled ?_
  rintro i s ⟨hi, hc⟩
  have hrl := rowL_length 1 i
  refine Vc.seq ?_
  refine Vc.seq ?_
  refine Vc.text (List.range 3) (sd [(0, .pure), (1, .pure), (2, .pure)]) rfl ?_
  refine Rg.pure rfl rfl rfl (Pv.move rfl) ?_
  refine Rg.pure rfl rfl rfl (Pv.move rfl) ?_
  refine Rg.pure rfl rfl rfl (Pv.lss rfl rfl) ?_
  refine Rg.nil ?_
  refine Vc.cond rfl (fun h26 => ?_) (fun h26 => ?_)
  ·
    simp only [decide_eq_true_eq] at h26
    refine Vc.skip ?_
    refine Vc.seq ?_
    refine Vc.block ?_
    refine Vc.seq ?_
    refine Vc.text (List.range 3) (sd [(0, .pure), (1, .pure), (2, .eff)]) rfl ?_
    refine Rg.pure rfl rfl rfl (Pv.move rfl) ?_
    refine Rg.pure rfl rfl rfl (Pv.move rfl) ?_
    refine Rg.callH rfl rfl rfl (run_callF rfl) (fun F' hF' => use_somei F' hc (i : Int) (by omega) (by omega) (use_row (by omega))) rfl ?_
    rintro _ s2 ⟨rfl, hc2⟩
    refine Rg.nil ?_
    refine Vc.text (List.range 3) (sd [(0, .pure), (1, .pure), (2, .eff)]) rfl ?_
    refine Rg.pure rfl rfl rfl (Pv.move rfl) ?_
    refine Rg.pure rfl rfl rfl (Pv.move rfl) ?_
    refine Rg.callH rfl rfl rfl (run_callF rfl) (fun F' hF' => pin_row F' hc2) rfl ?_
    rintro _ s3 ⟨rfl, hc3⟩
    refine Rg.nil ?_
    refine Vc.blk ?_
    refine Vc.text (List.range 3) (sd [(0, .pure), (1, .pure), (2, .pure)]) rfl ?_
    refine Rg.pure rfl rfl rfl (Pv.move rfl) ?_
    refine Rg.pure rfl rfl rfl (Pv.asI (i + 1) (Pv.add rfl rfl (by omega)) (by omega)) ?_
    refine Rg.pure rfl rfl rfl (Pv.assign rfl) ?_
    refine Rg.nil ?_
    exact Vc.inv2 (i + 1) s3 ⟨⟨by omega, hc3⟩, by omega⟩ (.cons rfl (.cons rfl (.cons rfl (.cons rfl (.cons rfl .nil))))) pulled
  ·
    simp only [decide_eq_false_iff_not] at h26
    have him : i = m := (by omega)
    subst him
    refine Vc.exit rfl ?_
    refine Vc.seq ?_
    refine Vc.seq ?_
    refine Vc.text (List.range 1) (sd [(0, .pure)]) rfl ?_
    refine Rg.pure rfl rfl rfl (Pv.assign rfl) ?_
    refine Rg.nil ?_
    refine Vc.block ?_
    refine Vc.loop2 (fun (j : Nat) (s : Hl) => j ≤ 60 ∧ Cachei cb i i (rowL 1 i) s) (fun j s => [(0, .int .i64 (i : Int)), (1, .slice p1 xs.length c1), (5, .bool true), (6, .pointer (some ⟨cb, 0, none⟩)), (8, .int .i64 (j : Int))]) (fun j s => s) (fun j s => 60 - j) 0 s ⟨by omega, hc⟩ (.cons rfl (.cons rfl (.cons rfl (.cons rfl (.cons rfl .nil))))) pulled ?_
    rintro j s ⟨hj, hc⟩
    refine Vc.seq ?_
    refine Vc.seq ?_
    refine Vc.cut1 (fun (b : Bool) => b = true → j < xs.length ∧ j < 60) (fun b => (42, .bool b) :: [(0, .int .i64 (i : Int)), (1, .slice p1 xs.length c1), (5, .bool true), (6, .pointer (some ⟨cb, 0, none⟩)), (8, .int .i64 (j : Int))]) (fun b => s) ?_ ?_
    ·
      refine Vc.text (List.range 8) (sd [(0, .pure), (1, .pure), (2, .pure), (3, .pure), (4, .pure), (5, .pure), (6, .pure), (7, .pure)]) rfl ?_
      refine Rg.pure rfl rfl rfl (Pv.move rfl) ?_
      refine Rg.pure rfl rfl rfl (Pv.move rfl) ?_
      refine Rg.pure rfl rfl rfl (Pv.lenS rfl) ?_
      refine Rg.pure rfl rfl rfl (Pv.lss rfl rfl) ?_
      refine Rg.pure rfl rfl rfl (Pv.move rfl) ?_
      refine Rg.split (t := 39) rfl (fun h39 => ?_) (fun h39 => ?_)
      ·
        simp only [decide_eq_true_eq] at h39
        refine Rg.pure rfl rfl rfl (Pv.move rfl) ?_
        refine Rg.pure rfl rfl rfl (Pv.lss rfl rfl) ?_
        refine Rg.pure rfl rfl rfl (Pv.pickT rfl rfl) ?_
        refine Rg.nil ?_
        exact Vc.inv1 _ (fun hb => by first | (simp only [decide_eq_true_eq] at hb; omega) | cases hb) (.cons rfl (.cons rfl (.cons rfl (.cons rfl (.cons rfl (.cons rfl .nil)))))) pulled
      ·
        iterate 2 (first | refine Rg.skipP rfl rfl rfl ?_ | refine Rg.skipR rfl rfl rfl ?_ | refine Rg.skipE rfl rfl rfl ?_)
        refine Rg.pure rfl rfl rfl (Pv.pickF rfl rfl) ?_
        refine Rg.nil ?_
        exact Vc.inv1 _ (fun hb => by first | (simp only [decide_eq_true_eq] at hb; omega) | cases hb) (.cons rfl (.cons rfl (.cons rfl (.cons rfl (.cons rfl (.cons rfl .nil)))))) pulled
    ·
      rintro bb hbb
      refine Vc.cond rfl (fun h42 => ?_) (fun h42 => ?_)
      ·
        obtain ⟨h3, h4⟩ := hbb h42
        obtain ⟨b0, o0, cc0, e0, _⟩ := hb.block (by omega)
        cases e0
        have hand := andN_le (p := xs[j]!) (q := 65535) (by omega)
        have hge : (i : Int) ≤ ((i + andN xs[j]! 65535 : Nat) : Int) := (by omega)
        refine Vc.skip ?_
        refine Vc.seq ?_
        refine Vc.block ?_
        refine Vc.seq ?_
        refine Vc.text (List.range 8) (sd [(0, .pure), (1, .pure), (2, .pure), (3, .pure), (4, .read), (5, .pure), (6, .pure), (7, .pure)]) rfl ?_
        refine Rg.pure rfl rfl rfl (Pv.move rfl) ?_
        refine Rg.pure rfl rfl rfl (Pv.move rfl) ?_
        refine Rg.pure rfl rfl rfl (Pv.move rfl) ?_
        refine Rg.pure rfl rfl rfl (Pv.ixA (j) rfl rfl (by omega) (by omega)) ?_
        refine Rg.read rfl rfl rfl (Ev.ldS (j) (hb.src) rfl rfl rfl (by omega)) ?_
        refine Rg.pure rfl rfl rfl (Pv.and rfl rfl (by omega)) ?_
        refine Rg.pure rfl rfl rfl (Pv.asI (i + andN xs[j]! 65535) (Pv.add rfl rfl (by omega)) (by omega)) ?_
        refine Rg.pure rfl rfl rfl (Pv.assign rfl) ?_
        refine Rg.nil ?_
        refine Vc.seq ?_
        refine Vc.text (List.range 10) (sd [(0, .pure), (1, .pure), (2, .eff), (3, .pure), (4, .pure), (5, .pure), (6, .pure), (7, .pure), (8, .pure), (9, .pure)]) rfl ?_
        refine Rg.pure rfl rfl rfl (Pv.move rfl) ?_
        refine Rg.pure rfl rfl rfl (Pv.move rfl) ?_
        refine Rg.callH rfl rfl rfl (run_callF rfl) (fun F' hF' => use_nonei F' hc ((i + andN xs[j]! 65535 : Nat) : Int) (by omega) (by omega) (use_row_none hge)) rfl ?_
        rintro _ s2 ⟨rfl, hc2⟩
        refine Rg.pure rfl rfl rfl (Pv.move rfl) ?_
        refine Rg.pure rfl rfl rfl (Pv.extract rfl rfl) ?_
        refine Rg.pure rfl rfl rfl (Pv.extract rfl rfl) ?_
        refine Rg.pure rfl rfl rfl (Pv.extract rfl rfl) ?_
        refine Rg.pure rfl rfl rfl (Pv.assign rfl) ?_
        refine Rg.pure rfl rfl rfl (Pv.assign rfl) ?_
        refine Rg.pure rfl rfl rfl (Pv.assign rfl) ?_
        refine Rg.nil ?_
        refine Vc.seq ?_
        refine Vc.text (List.range 14) (sd [(0, .pure), (1, .pure), (2, .pure), (3, .pure), (4, .pure), (5, .pure), (6, .pure), (7, .pure), (8, .pure), (9, .pure), (10, .pure), (11, .pure), (12, .eff), (13, .pure)]) rfl ?_
        refine Rg.pure rfl rfl rfl (Pv.move rfl) ?_
        refine Rg.pure rfl rfl rfl (Pv.neq rfl rfl) ?_
        refine Rg.pure rfl rfl rfl (Pv.move rfl) ?_
        refine Rg.split (t := 61) rfl (fun h61 => absurd h61 (by simp)) (fun h61 => ?_)
        refine Rg.pure rfl rfl rfl (Pv.move rfl) ?_
        refine Rg.pure rfl rfl rfl (Pv.pickF rfl rfl) ?_
        refine Rg.pure rfl rfl rfl (Pv.move rfl) ?_
        refine Rg.split (t := 64) rfl (fun h64 => absurd h64 (by simp)) (fun h64 => ?_)
        refine Rg.pure rfl rfl rfl (Pv.move rfl) ?_
        refine Rg.pure rfl rfl rfl (Pv.neq rfl rfl) ?_
        refine Rg.pure rfl rfl rfl (Pv.pickF rfl rfl) ?_
        refine Rg.pure rfl rfl rfl (Pv.move rfl) ?_
        refine Rg.split (t := 68) rfl (fun h68 => absurd h68 (by simp)) (fun h68 => ?_)
        refine Rg.pure rfl rfl rfl (Pv.move rfl) ?_
        refine Rg.pure rfl rfl rfl (Pv.move rfl) ?_
        refine Rg.callP rfl rfl rfl (run_callF rfl) (has_speci hc2 frz_sb ((i + andN xs[j]! 65535 : Nat) : Int)) ?_
        rintro _ rfl
        refine Rg.pure rfl rfl rfl (Pv.pickF rfl rfl) ?_
        refine Rg.nil ?_
        refine Vc.cond rfl (fun h72 => absurd h72 (by rw [hasK_row hge]; simp)) (fun h72 => ?_)
        refine Vc.skip ?_
        refine Vc.blk ?_
        refine Vc.text (List.range 3) (sd [(0, .pure), (1, .pure), (2, .pure)]) rfl ?_
        refine Rg.pure rfl rfl rfl (Pv.move rfl) ?_
        refine Rg.pure rfl rfl rfl (Pv.asI (j + 1) (Pv.add rfl rfl (by omega)) (by omega)) ?_
        refine Rg.pure rfl rfl rfl (Pv.assign rfl) ?_
        refine Rg.nil ?_
        exact Vc.inv2 (j + 1) s2 ⟨⟨by omega, hc2⟩, by omega⟩ (.cons rfl (.cons rfl (.cons rfl (.cons rfl (.cons rfl .nil))))) pulled
      ·
        refine Vc.exit rfl ?_
        refine Vc.seq ?_
        refine Vc.text (List.range 3) (sd [(0, .pure), (1, .eff), (2, .pure)]) rfl ?_
        refine Rg.pure rfl rfl rfl (Pv.move rfl) ?_
        refine Rg.callH rfl rfl rfl (run_callF rfl) (fun F' hF' => keys_speci (F := F') hc (fun b o h => hF' b o (.inl (Sb.sub (seg := s) _ h))) (by omega) (by omega)) rfl ?_
        rintro v74 s74 own74
        have hkl : ((rowL 1 i).map (·.1)).length = i := by simp [rowL]
        have hkg : ∀ k, k < i → ((rowL 1 i).map (·.1))[k]! = (k : Int) := fun k hk => by rw [getElem!_pos ((rowL 1 i).map (·.1)) k (by rw [hkl]; exact hk)]; simp [rowL]
        generalize (rowL 1 i).map (·.1) = ks at own74 hkl hkg
        obtain ⟨q74, c74, rfl⟩ := own74.shape
        refine Rg.pure rfl rfl rfl (Pv.assign rfl) ?_
        refine Rg.nil ?_
        refine Vc.seq ?_
        refine Vc.seq ?_
        refine Vc.text (List.range 4) (sd [(0, .pure), (1, .pure), (2, .pure), (3, .pure)]) rfl ?_
        refine Rg.pure rfl rfl rfl (Pv.move rfl) ?_
        refine Rg.pure rfl rfl rfl (Pv.lenS rfl) ?_
        refine Rg.pure rfl rfl rfl (Pv.move rfl) ?_
        refine Rg.pure rfl rfl rfl (Pv.neq rfl rfl) ?_
        refine Rg.nil ?_
        refine Vc.cond rfl (fun h78 => absurd h78 (by rw [hkl]; simp)) (fun h78 => ?_)
        refine Vc.skip ?_
        refine Vc.seq ?_
        refine Vc.seq ?_
        refine Vc.text (List.range 1) (sd [(0, .pure)]) rfl ?_
        refine Rg.pure rfl rfl rfl (Pv.assign rfl) ?_
        refine Rg.nil ?_
        refine Vc.block ?_
        refine Vc.loop1 (fun (k : Nat) => k ≤ i) (fun k => [(0, .int .i64 (i : Int)), (5, .bool true), (13, .slice q74 ks.length c74), (14, .int .i64 (k : Int))]) (fun k => s74) (fun k => i - k) 0 (Nat.zero_le _) (.cons rfl (.cons rfl (.cons rfl (.cons rfl .nil)))) pulled ?_
        rintro k hk
        refine Vc.seq ?_
        refine Vc.seq ?_
        refine Vc.text (List.range 3) (sd [(0, .pure), (1, .pure), (2, .pure)]) rfl ?_
        refine Rg.pure rfl rfl rfl (Pv.move rfl) ?_
        refine Rg.pure rfl rfl rfl (Pv.move rfl) ?_
        refine Rg.pure rfl rfl rfl (Pv.lss rfl rfl) ?_
        refine Rg.nil ?_
        refine Vc.cond rfl (fun h81 => ?_) (fun h81 => ?_)
        ·
          simp only [decide_eq_true_eq] at h81
          obtain ⟨ba, ca, spa, ea, rfl, _, _⟩ := own74.block (by omega)
          cases ea
          refine Vc.skip ?_
          refine Vc.seq ?_
          refine Vc.block ?_
          refine Vc.seq ?_
          refine Vc.text (List.range 6) (sd [(0, .pure), (1, .pure), (2, .pure), (3, .read), (4, .pure), (5, .pure)]) rfl ?_
          refine Rg.pure rfl rfl rfl (Pv.move rfl) ?_
          refine Rg.pure rfl rfl rfl (Pv.move rfl) ?_
          refine Rg.pure rfl rfl rfl (Pv.ixA (k) rfl rfl (by omega) (by omega)) ?_
          refine Rg.read rfl rfl rfl (Ev.ldR (k) rfl (Nat.zero_add _) (by omega)) ?_
          refine Rg.pure rfl rfl rfl (Pv.move rfl) ?_
          refine Rg.pure rfl rfl rfl (Pv.neq rfl rfl) ?_
          refine Rg.nil ?_
          refine Vc.cond rfl (fun h89 => absurd h89 (by rw [hkg k (by omega)]; simp)) (fun h89 => ?_)
          refine Vc.skip ?_
          refine Vc.blk ?_
          refine Vc.text (List.range 3) (sd [(0, .pure), (1, .pure), (2, .pure)]) rfl ?_
          refine Rg.pure rfl rfl rfl (Pv.move rfl) ?_
          refine Rg.pure rfl rfl rfl (Pv.asI (k + 1) (Pv.add rfl rfl (by omega)) (by omega)) ?_
          refine Rg.pure rfl rfl rfl (Pv.assign rfl) ?_
          refine Rg.nil ?_
          exact Vc.inv1 (k + 1) ⟨by omega, by omega⟩ (.cons rfl (.cons rfl (.cons rfl (.cons rfl .nil)))) pulled
        ·
          refine Vc.exit rfl ?_
          refine Vc.seq ?_
          refine Vc.text (List.range 2) (sd [(0, .pure), (1, .pure)]) rfl ?_
          refine Rg.pure rfl rfl rfl (Pv.move rfl) ?_
          refine Rg.pure rfl rfl rfl (Pv.assign rfl) ?_
          refine Rg.nil ?_
          refine Vc.ret (Vc.rets rfl (.cons (.tmp rfl) (.nil)) ?_)
          rfl
end Go.Proofs.Ytigkckpjbnflpaa
