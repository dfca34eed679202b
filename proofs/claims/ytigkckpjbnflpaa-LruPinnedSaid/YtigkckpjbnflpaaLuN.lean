/- The statements' functions: LruPinned. -/
import Derived.Test.YtigkckpjbnflpaaLuF
namespace Go.Proofs.Ytigkckpjbnflpaa
set_option linter.unusedVariables false

theorem Pv.neg {P : Program} {n : Nat} {l : Env} {d : Option Tmp} {ty : TypeId} {pos : String} {af : Array Edge} {g : Option (Nat × Bool)} {t : TypeId} {x : Operand} {p : Int} (hx : ev l x = some (.int .i64 p)) (h : -9223372036854775808 ≤ -p ∧ -p ≤ 9223372036854775807) : Pv P n l ⟨d, .unOp .neg t x, ty, pos, af, g⟩ (.int .i64 (-p)) := fun a w hf => by
  have e : IntKind.i64.wrap (0 - p) = -p := by rw [Int.zero_sub]; exact i64_wrap h
  simp only [execOp, hf.ev hx, Op.unary, Op.intArith, Sem.run_bind, Sem.run_pure, Result.andThen_ok, e]

/-- The keys from -1 down, each pinned once. -/
def rowN (c : Nat) : List (KTi × Nat) := (List.range c).map fun j : Nat => (-((j : Int) + 1), 1)
theorem rowN_succ (c : Nat) : rowN (c + 1) = rowN c ++ [(-((c : Int) + 1), 1)] := by simp [rowN, List.range_succ]
theorem rowN_length (c : Nat) : (rowN c).length = c := by simp [rowN]
theorem mem_rowN {c : Nat} {p : KTi × Nat} (h : p ∈ rowN c) : (∃ j : Nat, j < c ∧ @Eq Int p.1 (-((j : Int) + 1))) ∧ p.2 = 1 := by
  obtain ⟨j, hj, rfl⟩ := List.mem_map.1 h
  exact ⟨⟨j, by simpa using hj, rfl⟩, rfl⟩
theorem hasK_rowN {c : Nat} {k : Int} (h : 0 ≤ k ∨ k < -(c : Int)) : hasK (rowN c) k = false := by
  rw [Bool.eq_false_iff]
  intro e
  obtain ⟨p, hp, he⟩ := List.any_eq_true.1 e
  obtain ⟨⟨j, hj, hj2⟩, _⟩ := mem_rowN hp
  have h2 : @Eq Int p.1 k := of_decide_eq_true he
  omega
theorem hasK_app {κ : Type} [DecidableEq κ] (A B : List (κ × Nat)) (k : κ) : hasK (A ++ B) k = (hasK A k || hasK B k) := by simp [hasK]
theorem hasK_rowN_in {c k : Nat} (h1 : 1 ≤ k) (h2 : k ≤ c) : hasK (rowN c) (-(k : Int)) = true := by
  rw [hasK, List.any_eq_true]
  refine ⟨(-(((k - 1 : Nat) : Int) + 1), 1), List.mem_map.2 ⟨k - 1, by simp; omega, rfl⟩, decide_eq_true ?_⟩
  show @Eq Int _ _
  omega
theorem find_rowN (c : Nat) : (rowN c).find? (fun p => decide (p.2 = 0)) = none := by
  rw [List.find?_eq_none]
  intro p hp
  simp [(mem_rowN hp).2]
theorem drop_rowN {c : Nat} {k : Int} (h : 0 ≤ k) : dropK (rowN c ++ [(k, 0)]) k = rowN c := by
  rw [dropK, List.filter_append]
  have e : (rowN c).filter (fun p => !decide (p.1 = k)) = rowN c := by
    rw [List.filter_eq_self]
    intro p hp
    obtain ⟨⟨j, hj, hj2⟩, _⟩ := mem_rowN hp
    have : ¬ p.1 = k := fun h2 => by have h3 : @Eq Int p.1 k := h2; omega
    simp [this]
  rw [e]
  simp
def optL : Option Int → List (KTi × Nat)
  | none => []
  | some x => [(x, 0)]
theorem use_rowN {m : Nat} {o : Option Int} {n : Int} (hm : 2 ≤ m) (ho : ∀ x, o = some x → 0 ≤ x) (hn : 0 ≤ n) : ∃ g is, useK zi m (rowN (m - 1) ++ optL o) n = some (rowN (m - 1), 0, g, is) := by
  cases o with
  | none =>
    refine ⟨zi, false, ?_⟩
    simp only [optL, List.append_nil, useK, hasK_rowN (.inl hn), Bool.false_eq_true, if_false, rowN_length]
    rw [if_neg (by omega)]
  | some x =>
    have hx := ho x rfl
    by_cases e : x = n
    · subst e
      refine ⟨zi, false, ?_⟩
      have e1 : hasK (rowN (m - 1) ++ [((x : KTi), 0)]) x = true := by simp [hasK]
      have e0 : (rowN (m - 1)).find? (fun p => decide (p.1 = x)) = none := by
        rw [List.find?_eq_none]
        intro p hp
        obtain ⟨⟨j, hj, hj2⟩, _⟩ := mem_rowN hp
        simp only [decide_eq_true_eq]
        intro h
        have h2 : @Eq Int p.1 x := h
        omega
      have e2 : pinsK (rowN (m - 1) ++ [((x : KTi), 0)]) x = 0 := by simp [pinsK, List.find?_append, e0]
      simp only [optL, useK, e1, if_true, e2, drop_rowN hx]
    · refine ⟨x, true, ?_⟩
      have e1 : hasK (rowN (m - 1) ++ [((x : KTi), 0)]) n = false := by rw [hasK_app, hasK_rowN (.inl hn)]; simp [hasK, e]
      have e2 : (rowN (m - 1) ++ [((x : KTi), 0)]).find? (fun p => decide (p.2 = 0)) = some (x, 0) := by simp [List.find?_append, find_rowN]
      simp only [optL, useK, e1, Bool.false_eq_true, if_false, e2, drop_rowN hx, List.length_append, rowN_length, List.length_cons, List.length_nil]
      rw [if_pos (by omega)]
theorem use_first {i m : Nat} (h : i < m) : useK zi m (rowN i) (-((i : Int) + 1)) = some (rowN i, 0, zi, false) := by
  simp only [useK, hasK_rowN (c := i) (k := -((i : Int) + 1)) (.inr (by omega)), Bool.false_eq_true, if_false, rowN_length]
  rw [if_neg (by omega)]
theorem pin_rowN (F : Fm) {cb fr ck i : Nat} {s : Hl} (hh : Cachei cb fr ck (rowN i ++ [(-((i : Int) + 1), 0)]) s) :
    Spec Try.prog 27 #[.pointer (some ⟨cb, 0, none⟩), kvi (-((i : Int) + 1))] F s fun v s' => v = .int .i64 0 ∧ Cachei cb fr ck (rowN (i + 1)) s' :=
  (pin_speci F hh (-((i : Int) + 1)) (fun p hp => by
    rcases List.mem_append.1 hp with hp | hp
    · rw [(mem_rowN hp).2]; omega
    · rw [List.mem_singleton.1 hp]; show 0 < _; omega)).mono fun v s' h => by
    have e1 : hasK (rowN i ++ [((-((i : Int) + 1) : KTi), 0)]) (-((i : Int) + 1)) = true := by simp [hasK]
    have e0 : (rowN i).find? (fun p => decide (p.1 = (-((i : Int) + 1)))) = none := by
      rw [List.find?_eq_none]
      intro p hp
      obtain ⟨⟨j, hj, hj2⟩, _⟩ := mem_rowN hp
      simp only [decide_eq_true_eq]
      intro h
      have h2 : @Eq Int p.1 (-((i : Int) + 1)) := h
      omega
    have e2 : pinsK (rowN i ++ [((-((i : Int) + 1) : KTi), 0)]) (-((i : Int) + 1)) = 0 := by simp [pinsK, List.find?_append, e0]
    have e3 : setK (rowN i ++ [((-((i : Int) + 1) : KTi), 0)]) (-((i : Int) + 1)) (0 + 1) = rowN (i + 1) := by
      rw [rowN_succ, setK, List.map_append]
      congr 1
      · conv => rhs; rw [← List.map_id (rowN i)]
        apply List.map_congr_left
        intro p hp
        obtain ⟨⟨j, hj, hj2⟩, _⟩ := mem_rowN hp
        rw [if_neg (fun h => by have h2 : @Eq Int p.1 (-((i : Int) + 1)) := h; omega)]; rfl
      · simp
    simp only [e1, if_true, e2, e3] at h
    exact h

theorem LruPinned_spec (F : Fm) (q : Int) (v1 : Value) (xs : List Int) (hb : Arg keyEi F v1 xs) :
    Spec Try.prog 4 #[.int .i64 q, v1] F [] fun v _ => v = .bool true := by
  obtain ⟨p1, c1, rfl⟩ := hb.shape
  obtain ⟨m, hm⟩ : ∃ m, m = 2 + andN q 65535 % 9 := ⟨_, rfl⟩
  have hmf : (max (m : Int) 1).toNat = m := by omega
  refine Spec.of (n := 85) (vs := [.int .i64 q, .slice p1 xs.length c1]) Try.func4 rfl Try.ntmps4 rfl ?_
  refine Vc.seq ?_
  refine Vc.text (List.range 1) (sd [(0, .pure)]) rfl ?_
  refine Rg.pure rfl rfl rfl (Pv.assign rfl) ?_
  refine Rg.nil ?_
  refine Vc.seq ?_
  refine Vc.text (List.range 2) (sd [(0, .eff), (1, .pure)]) rfl ?_
  refine Rg.callP rfl rfl rfl (run_callF rfl) (shown_spec _) ?_
  rintro _ rfl
  refine Rg.pure rfl rfl rfl (Pv.assign rfl) ?_
  refine Rg.nil ?_
  refine Vc.seq ?_
  refine Vc.text (List.range 5) (sd [(0, .pure), (1, .pure), (2, .pure), (3, .pure), (4, .pure)]) rfl ?_
  refine Rg.pure rfl rfl rfl (Pv.move rfl) ?_
  refine Rg.pure rfl rfl rfl (Pv.and rfl rfl (by omega)) ?_
  refine Rg.pure rfl rfl rfl (Pv.rem rfl rfl (by omega)) ?_
  refine Rg.pure rfl rfl rfl (Pv.asI (m) (Pv.add rfl rfl (by omega)) (by omega)) ?_
  refine Rg.pure rfl rfl rfl (Pv.assign rfl) ?_
  refine Rg.nil ?_
  refine Vc.seq ?_
  refine Vc.text (List.range 3) (sd [(0, .pure), (1, .eff), (2, .pure)]) rfl ?_
  refine Rg.pure rfl rfl rfl (Pv.move rfl) ?_
  refine Rg.callH rfl rfl rfl (run_callF rfl) (fun F' hF' => new_speci F' (m : Int) (by omega)) rfl ?_
  rintro _ s1 ⟨cb, rfl, h1⟩
  rw [hmf] at h1
  refine Rg.pure rfl rfl rfl (Pv.assign rfl) ?_
  refine Rg.nil ?_
  refine Vc.seq ?_
  refine Vc.seq ?_
  refine Vc.text (List.range 2) (sd [(0, .pure), (1, .pure)]) rfl ?_
  refine Rg.pure rfl rfl rfl (Pv.move rfl) ?_
  refine Rg.pure rfl rfl rfl (Pv.eqlNil rfl rfl) ?_
  refine Rg.nil ?_
  refine Vc.cond rfl (fun h22 => absurd h22 (by simp)) (fun h22 => ?_)
  refine Vc.skip ?_
  refine Vc.seq ?_
  refine Vc.seq ?_
  refine Vc.text (List.range 1) (sd [(0, .pure)]) rfl ?_
  refine Rg.pure rfl rfl rfl (Pv.assign rfl) ?_
  refine Rg.nil ?_
  refine Vc.block ?_
  refine Vc.loop2 (fun (i : Nat) (s : Hl) => i + 1 ≤ m ∧ Cachei cb m i (rowN i) s) (fun i s => [(0, .int .i64 (m : Int)), (1, .slice p1 xs.length c1), (5, .bool true), (6, .pointer (some ⟨cb, 0, none⟩)), (7, .int .i64 ((i + 1 : Nat) : Int))]) (fun i s => s) (fun i s => m - i) 0 s1 ⟨by omega, h1⟩ (.cons rfl (.cons rfl (.cons rfl (.cons rfl (.cons rfl .nil))))) pulled ?_
  rintro i s ⟨hi, hc⟩
  have hrl := rowN_length i
  have hne : -((i + 1 : Nat) : Int) = -((i : Int) + 1) := (by omega)
  refine Vc.seq ?_
  refine Vc.seq ?_
  refine Vc.text (List.range 3) (sd [(0, .pure), (1, .pure), (2, .pure)]) rfl ?_
  refine Rg.pure rfl rfl rfl (Pv.move rfl) ?_
  refine Rg.pure rfl rfl rfl (Pv.move rfl) ?_
  refine Rg.pure rfl rfl rfl (Pv.lss rfl rfl) ?_
  refine Rg.nil ?_
  refine Vc.cond rfl (fun h25 => ?_) (fun h25 => ?_)
  ·
    simp only [decide_eq_true_eq] at h25
    refine Vc.skip ?_
    refine Vc.seq ?_
    refine Vc.block ?_
    refine Vc.seq ?_
    refine Vc.text (List.range 4) (sd [(0, .pure), (1, .pure), (2, .pure), (3, .eff)]) rfl ?_
    refine Rg.pure rfl rfl rfl (Pv.move rfl) ?_
    refine Rg.pure rfl rfl rfl (Pv.move rfl) ?_
    refine Rg.pure rfl rfl rfl (Pv.as (.int .i64 (-((i : Int) + 1))) (Pv.neg rfl (by omega)) (congrArg (Value.int .i64) hne)) ?_
    refine Rg.callH rfl rfl rfl (run_callF rfl) (fun F' hF' => use_somei F' hc (-((i : Int) + 1)) (by omega) (by omega) (use_first (by omega))) rfl ?_
    rintro _ s2 ⟨rfl, hc2⟩
    refine Rg.nil ?_
    refine Vc.seq ?_
    refine Vc.text (List.range 5) (sd [(0, .pure), (1, .pure), (2, .pure), (3, .eff), (4, .pure)]) rfl ?_
    refine Rg.pure rfl rfl rfl (Pv.move rfl) ?_
    refine Rg.pure rfl rfl rfl (Pv.move rfl) ?_
    refine Rg.pure rfl rfl rfl (Pv.as (.int .i64 (-((i : Int) + 1))) (Pv.neg rfl (by omega)) (congrArg (Value.int .i64) hne)) ?_
    refine Rg.callH rfl rfl rfl (run_callF rfl) (fun F' hF' => pin_rowN F' hc2) rfl ?_
    rintro _ s3 ⟨rfl, hc3⟩
    refine Rg.pure rfl rfl rfl (Pv.neq rfl rfl) ?_
    refine Rg.nil ?_
    refine Vc.cond rfl (fun h36 => absurd h36 (by simp)) (fun h36 => ?_)
    refine Vc.skip ?_
    refine Vc.blk ?_
    refine Vc.text (List.range 3) (sd [(0, .pure), (1, .pure), (2, .pure)]) rfl ?_
    refine Rg.pure rfl rfl rfl (Pv.move rfl) ?_
    refine Rg.pure rfl rfl rfl (Pv.asI (i + 1 + 1) (Pv.add rfl rfl (by omega)) (by omega)) ?_
    refine Rg.pure rfl rfl rfl (Pv.assign rfl) ?_
    refine Rg.nil ?_
    exact Vc.inv2 (i + 1) s3 ⟨⟨by omega, hc3⟩, by omega⟩ (.cons rfl (.cons rfl (.cons rfl (.cons rfl (.cons rfl .nil))))) pulled
  ·
    simp only [decide_eq_false_iff_not] at h25
    have him : i = m - 1 := (by omega)
    rw [him] at hc
    refine Vc.exit rfl ?_
    refine Vc.seq ?_
    refine Vc.seq ?_
    refine Vc.text (List.range 1) (sd [(0, .pure)]) rfl ?_
    refine Rg.pure rfl rfl rfl (Pv.assign rfl) ?_
    refine Rg.nil ?_
    refine Vc.block ?_
    refine Vc.loop3 (fun (j : Nat) (o : Option Int) (s : Hl) => j ≤ 100 ∧ (∀ x, o = some x → 0 ≤ x) ∧ ∃ ck, ck ≤ m + j ∧ Cachei cb m ck (rowN (m - 1) ++ optL o) s) (fun j o s => [(0, .int .i64 (m : Int)), (1, .slice p1 xs.length c1), (5, .bool true), (6, .pointer (some ⟨cb, 0, none⟩)), (8, .int .i64 (j : Int))]) (fun j o s => s) (fun j o s => 100 - j) 0 none s ⟨by omega, (fun x h => by cases h), m - 1, by omega, by simpa [optL] using hc⟩ (.cons rfl (.cons rfl (.cons rfl (.cons rfl (.cons rfl .nil))))) pulled ?_
    rintro j o s ⟨hj, ho, ck, hck, hc⟩
    refine Vc.seq ?_
    refine Vc.seq ?_
    refine Vc.cut1 (fun (b : Bool) => b = true → j < xs.length ∧ j < 100) (fun b => (44, .bool b) :: [(0, .int .i64 (m : Int)), (1, .slice p1 xs.length c1), (5, .bool true), (6, .pointer (some ⟨cb, 0, none⟩)), (8, .int .i64 (j : Int))]) (fun b => s) ?_ ?_
    ·
      refine Vc.text (List.range 8) (sd [(0, .pure), (1, .pure), (2, .pure), (3, .pure), (4, .pure), (5, .pure), (6, .pure), (7, .pure)]) rfl ?_
      refine Rg.pure rfl rfl rfl (Pv.move rfl) ?_
      refine Rg.pure rfl rfl rfl (Pv.move rfl) ?_
      refine Rg.pure rfl rfl rfl (Pv.lenS rfl) ?_
      refine Rg.pure rfl rfl rfl (Pv.lss rfl rfl) ?_
      refine Rg.pure rfl rfl rfl (Pv.move rfl) ?_
      refine Rg.split (t := 41) rfl (fun h41 => ?_) (fun h41 => ?_)
      ·
        simp only [decide_eq_true_eq] at h41
        refine Rg.pure rfl rfl rfl (Pv.move rfl) ?_
        refine Rg.pure rfl rfl rfl (Pv.lss rfl rfl) ?_
        refine Rg.pure rfl rfl rfl (Pv.pickT rfl rfl) ?_
        refine Rg.nil ?_
        exact Vc.inv1 _ (fun hb => by first | (simp only [decide_eq_true_eq] at hb; omega) | cases hb) (.cons rfl (.cons rfl (.cons rfl (.cons rfl (.cons rfl (.cons rfl .nil)))))) pulled
      ·
        iterate 2 (first | refine Rg.skipP rfl rfl rfl ?_ | refine Rg.skipR rfl rfl rfl ?_ | refine Rg.skipE rfl rfl rfl ?_)
        refine Rg.pure rfl rfl rfl (Pv.pickF rfl rfl) ?_
        refine Rg.nil ?_
        exact Vc.inv1 _ (fun hb => by first | (simp only [decide_eq_true_eq] at hb; omega) | cases hb) (.cons rfl (.cons rfl (.cons rfl (.cons rfl (.cons rfl (.cons rfl .nil)))))) pulled
    ·
      rintro bb hbb
      refine Vc.cond rfl (fun h44 => ?_) (fun h44 => ?_)
      ·
        obtain ⟨h3, h4⟩ := hbb h44
        obtain ⟨b0, o0, cc0, e0, _⟩ := hb.block (by omega)
        cases e0
        have hn : (0 : Int) ≤ ((andN xs[j]! 65535 : Nat) : Int) := (by omega)
        obtain ⟨g, is, hu⟩ := use_rowN (m := m) (by omega) ho hn
        have hol : (optL o).length ≤ 1 := (by cases o <;> simp [optL])
        have hrl := rowN_length (m - 1)
        refine Vc.skip ?_
        refine Vc.seq ?_
        refine Vc.block ?_
        refine Vc.seq ?_
        refine Vc.text (List.range 6) (sd [(0, .pure), (1, .pure), (2, .pure), (3, .read), (4, .pure), (5, .pure)]) rfl ?_
        refine Rg.pure rfl rfl rfl (Pv.move rfl) ?_
        refine Rg.pure rfl rfl rfl (Pv.move rfl) ?_
        refine Rg.pure rfl rfl rfl (Pv.ixA (j) rfl rfl (by omega) (by omega)) ?_
        refine Rg.read rfl rfl rfl (Ev.ldS (j) (hb.src) rfl rfl rfl (by omega)) ?_
        refine Rg.pure rfl rfl rfl (Pv.and rfl rfl (by omega)) ?_
        refine Rg.pure rfl rfl rfl (Pv.assign rfl) ?_
        refine Rg.nil ?_
        refine Vc.seq ?_
        refine Vc.text (List.range 10) (sd [(0, .pure), (1, .pure), (2, .eff), (3, .pure), (4, .pure), (5, .pure), (6, .pure), (7, .pure), (8, .pure), (9, .pure)]) rfl ?_
        refine Rg.pure rfl rfl rfl (Pv.move rfl) ?_
        refine Rg.pure rfl rfl rfl (Pv.move rfl) ?_
        refine Rg.callH rfl rfl rfl (run_callF rfl) (fun F' hF' => use_somei F' hc ((andN xs[j]! 65535 : Nat) : Int) (by omega) (by rw [List.length_append]; omega) hu) rfl ?_
        rintro _ s2 ⟨rfl, hc2⟩
        refine Rg.pure rfl rfl rfl (Pv.move rfl) ?_
        refine Rg.pure rfl rfl rfl (Pv.extract rfl rfl) ?_
        refine Rg.pure rfl rfl rfl (Pv.extract rfl rfl) ?_
        refine Rg.pure rfl rfl rfl (Pv.extract rfl rfl) ?_
        refine Rg.pure rfl rfl rfl (Pv.assign rfl) ?_
        refine Rg.pure rfl rfl rfl (Pv.assign rfl) ?_
        refine Rg.pure rfl rfl rfl (Pv.assign rfl) ?_
        refine Rg.nil ?_
        refine Vc.seq ?_
        refine Vc.seq ?_
        refine Vc.text (List.range 15) (sd [(0, .pure), (1, .pure), (2, .pure), (3, .pure), (4, .pure), (5, .eff), (6, .pure), (7, .pure), (8, .pure), (9, .pure), (10, .eff), (11, .pure), (12, .pure), (13, .pure), (14, .pure)]) rfl ?_
        refine Rg.pure rfl rfl rfl (Pv.move rfl) ?_
        refine Rg.pure rfl rfl rfl (Pv.neq rfl rfl) ?_
        refine Rg.pure rfl rfl rfl (Pv.move rfl) ?_
        refine Rg.split (t := 61) rfl (fun h61 => absurd h61 (by simp)) (fun h61 => ?_)
        refine Rg.pure rfl rfl rfl (Pv.move rfl) ?_
        refine Rg.pure rfl rfl rfl (Pv.move rfl) ?_
        refine Rg.callP rfl rfl rfl (run_callF rfl) (has_speci hc2 frz_sb ((andN xs[j]! 65535 : Nat) : Int)) ?_
        rintro _ rfl
        refine Rg.pure rfl rfl rfl (Pv.not rfl) ?_
        refine Rg.pure rfl rfl rfl (Pv.pickF rfl rfl) ?_
        refine Rg.pure rfl rfl rfl (Pv.move rfl) ?_
        refine Rg.split (t := 67) rfl (fun h67 => absurd h67 (by rw [hasK_app]; simp [hasK])) (fun h67 => ?_)
        refine Rg.pure rfl rfl rfl (Pv.move rfl) ?_
        refine Rg.callH rfl rfl rfl (run_callF rfl) (fun F' hF' => keys_speci (F := F') hc2 (fun b o h => hF' b o (.inl (Sb.sub (seg := s2) _ h))) (by omega) (by simp; omega)) rfl ?_
        rintro v69 s69 own69
        have hkl : ((rowN (m - 1) ++ [((((andN xs[j]! 65535 : Nat) : Int) : KTi), 0)]).map fun p : KTi × Nat => p.1).length = m := by simp [rowN_length]; omega
        have own69 : Own keyEi v69 ((rowN (m - 1) ++ [((((andN xs[j]! 65535 : Nat) : Int) : KTi), 0)]).map fun p : KTi × Nat => p.1) s69 := own69
        generalize ((rowN (m - 1) ++ [((((andN xs[j]! 65535 : Nat) : Int) : KTi), 0)]).map fun p : KTi × Nat => p.1) = kl at own69 hkl
        obtain ⟨q69, c69, rfl⟩ := own69.shape
        refine Rg.pure rfl rfl rfl (Pv.lenS rfl) ?_
        refine Rg.pure rfl rfl rfl (Pv.move rfl) ?_
        refine Rg.pure rfl rfl rfl (Pv.gtr rfl rfl) ?_
        refine Rg.pure rfl rfl rfl (Pv.pickF rfl rfl) ?_
        refine Rg.nil ?_
        refine Vc.cond rfl (fun h73 => absurd h73 (by rw [hkl]; simp)) (fun h73 => ?_)
        refine Vc.skip ?_
        refine Vc.seq ?_
        refine Vc.text (List.range 1) (sd [(0, .pure)]) rfl ?_
        refine Rg.pure rfl rfl rfl (Pv.assign rfl) ?_
        refine Rg.nil ?_
        refine Vc.block ?_
        refine Vc.loop2 (fun (k : Nat) (s : Hl) => k + 1 ≤ m ∧ Cachei cb m (ck + 1) (rowN (m - 1) ++ [((((andN xs[j]! 65535 : Nat) : Int) : KTi), 0)]) s) (fun k s => [(0, .int .i64 (m : Int)), (1, .slice (some ⟨b0, o0, none⟩) xs.length c1), (5, .bool true), (6, .pointer (some ⟨cb, 0, none⟩)), (8, .int .i64 (j : Int)), (13, .int .i64 ((k + 1 : Nat) : Int))]) (fun k s => s) (fun k s => m - k) 0 s2 ⟨by omega, hc2⟩ (.cons rfl (.cons rfl (.cons rfl (.cons rfl (.cons rfl (.cons rfl .nil)))))) pulled ?_
        rintro k s ⟨hk, hc⟩
        refine Vc.seq ?_
        refine Vc.seq ?_
        refine Vc.text (List.range 3) (sd [(0, .pure), (1, .pure), (2, .pure)]) rfl ?_
        refine Rg.pure rfl rfl rfl (Pv.move rfl) ?_
        refine Rg.pure rfl rfl rfl (Pv.move rfl) ?_
        refine Rg.pure rfl rfl rfl (Pv.lss rfl rfl) ?_
        refine Rg.nil ?_
        refine Vc.cond rfl (fun h76 => ?_) (fun h76 => ?_)
        ·
          simp only [decide_eq_true_eq] at h76
          refine Vc.skip ?_
          refine Vc.seq ?_
          refine Vc.block ?_
          refine Vc.seq ?_
          refine Vc.text (List.range 5) (sd [(0, .pure), (1, .pure), (2, .pure), (3, .eff), (4, .pure)]) rfl ?_
          refine Rg.pure rfl rfl rfl (Pv.move rfl) ?_
          refine Rg.pure rfl rfl rfl (Pv.move rfl) ?_
          refine Rg.pure rfl rfl rfl (Pv.neg rfl (by omega)) ?_
          refine Rg.callP rfl rfl rfl (run_callF rfl) (has_speci hc frz_sb (-((k + 1 : Nat) : Int))) ?_
          rintro _ rfl
          refine Rg.pure rfl rfl rfl (Pv.not rfl) ?_
          refine Rg.nil ?_
          refine Vc.cond rfl (fun h83 => absurd h83 (by rw [hasK_app, hasK_rowN_in (by omega) (by omega)]; simp)) (fun h83 => ?_)
          refine Vc.skip ?_
          refine Vc.blk ?_
          refine Vc.text (List.range 3) (sd [(0, .pure), (1, .pure), (2, .pure)]) rfl ?_
          refine Rg.pure rfl rfl rfl (Pv.move rfl) ?_
          refine Rg.pure rfl rfl rfl (Pv.asI (k + 1 + 1) (Pv.add rfl rfl (by omega)) (by omega)) ?_
          refine Rg.pure rfl rfl rfl (Pv.assign rfl) ?_
          refine Rg.nil ?_
          exact Vc.inv2 (k + 1) s ⟨⟨by omega, hc⟩, by omega⟩ (.cons rfl (.cons rfl (.cons rfl (.cons rfl (.cons rfl (.cons rfl .nil)))))) pulled
        ·
          refine Vc.exit rfl ?_
          refine Vc.blk ?_
          refine Vc.text (List.range 3) (sd [(0, .pure), (1, .pure), (2, .pure)]) rfl ?_
          refine Rg.pure rfl rfl rfl (Pv.move rfl) ?_
          refine Rg.pure rfl rfl rfl (Pv.asI (j + 1) (Pv.add rfl rfl (by omega)) (by omega)) ?_
          refine Rg.pure rfl rfl rfl (Pv.assign rfl) ?_
          refine Rg.nil ?_
          exact Vc.inv3 (j + 1) (some ((andN xs[j]! 65535 : Nat) : Int)) s ⟨⟨by omega, (fun x h => by cases h; exact hn), ck + 1, by omega, hc⟩, by omega⟩ (.cons rfl (.cons rfl (.cons rfl (.cons rfl (.cons rfl .nil))))) pulled
      ·
        refine Vc.exit rfl ?_
        refine Vc.seq ?_
        refine Vc.text (List.range 2) (sd [(0, .pure), (1, .pure)]) rfl ?_
        refine Rg.pure rfl rfl rfl (Pv.move rfl) ?_
        refine Rg.pure rfl rfl rfl (Pv.assign rfl) ?_
        refine Rg.nil ?_
        refine Vc.ret (Vc.rets rfl (.cons (.tmp rfl) (.nil)) ?_)
        rfl
end Go.Proofs.Ytigkckpjbnflpaa
