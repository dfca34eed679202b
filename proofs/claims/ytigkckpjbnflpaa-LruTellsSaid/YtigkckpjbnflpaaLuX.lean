/- The statements' functions: LruCounts. -/
import Derived.Test.YtigkckpjbnflpaaLuW
namespace Go.Proofs.Ytigkckpjbnflpaa
set_option linter.unusedVariables false

def boolE : Enc Bool where
  k := 1
  tid := 4
  cells := fun b => [.bool b]
  val := fun b => .bool b
  pos := by decide
  len := fun _ => rfl
  one := fun x v hv => by simp at hv; subst hv; rfl
  vc := fun _ => rfl
instance : RowTy Try.prog boolE 4 := ⟨Try.sizeOf4, .inr ⟨Try.isAgg4, rfl, fun _ => rfl⟩⟩
abbrev kk : KTs := ⟨#[107]⟩
abbrev ko : KTs := ⟨#[111, 116, 104, 101, 114]⟩
theorem hasK_one (n : Nat) : hasK [(kk, n)] kk = true := by simp [hasK]
theorem pinsK_one (n : Nat) : pinsK [(kk, n)] kk = n := by simp [pinsK]
theorem setK_one (n m : Nat) : setK [(kk, n)] kk m = [(kk, m)] := by simp [setK]
theorem pin_one (F : Fm) {cb fr ck n : Nat} {s : Hl} (hh : Caches cb fr ck [(kk, n)] s) (hn : n < 4611686018427387904) :
    Spec Try.prog 15 #[.pointer (some ⟨cb, 0, none⟩), kvs kk] F s fun v s' => v = .int .i64 0 ∧ Caches cb fr ck [(kk, n + 1)] s' :=
  (pin_specs F hh kk (by simpa using hn)).mono fun v s' h => by
    rw [hasK_one, pinsK_one, setK_one] at h
    exact h
theorem unpin_one (F : Fm) {cb fr ck n : Nat} {s : Hl} (hh : Caches cb fr ck [(kk, n)] s) (hn : n < 4611686018427387904) :
    Spec Try.prog 17 #[.pointer (some ⟨cb, 0, none⟩), kvs kk] F s fun v s' => v = .int .i64 (if n = 0 then 9 else 0) ∧ Caches cb fr ck [(kk, n - 1)] s' :=
  (unpin_specs F hh kk (by simpa using hn)).mono fun v s' h => by
    rw [hasK_one, pinsK_one, setK_one] at h
    exact h
theorem drop_one (F : Fm) {cb fr ck n : Nat} {s : Hl} (hh : Caches cb fr ck [(kk, n)] s) (hn : 0 < n) :
    Spec Try.prog 19 #[.pointer (some ⟨cb, 0, none⟩), kvs kk] F s fun v s' => v = .int .i64 9 ∧ Caches cb fr ck [(kk, n)] s' :=
  (drop_specs F hh kk).mono fun v s' h => by
    rw [hasK_one, pinsK_one] at h
    simp only [if_true, if_pos hn] at h
    exact h
theorem use_other (F : Fm) {cb n : Nat} {s : Hl} (hh : Caches cb 1 1 [(kk, n)] s) :
    Spec Try.prog 13 #[.pointer (some ⟨cb, 0, none⟩), kvs ko] F s fun v s' => ∃ M g is e ck, v = .tuple #[kvs g, .bool is, .int .i64 e] ∧ Caches cb 1 ck M s' ∧ ck ≤ 2 ∧ (0 < n → is = false ∧ e = 8 ∧ M = [(kk, n)]) ∧ (n = 0 → is = true ∧ e = 0 ∧ M = [(ko, 0)]) := by
  by_cases h : 0 < n
  · have hu : useK zs 1 [(kk, n)] ko = none := by
      have e1 : hasK [(kk, n)] ko = false := by simp [hasK]
      have e2 : ([(kk, n)] : List (KTs × Nat)).find? (fun p => decide (p.2 = 0)) = none := by simp; omega
      simp only [useK, e1, Bool.false_eq_true, if_false, e2]
      simp
    exact (use_nones F hh ko (by omega) (by simp) hu).mono fun v s' hv => ⟨_, _, _, _, _, hv.1, hv.2, by omega, fun _ => ⟨rfl, rfl, rfl⟩, fun e => by omega⟩
  · have e0 : n = 0 := by omega
    subst e0
    exact (use_somes F hh ko (by omega) (by simp) (show useK zs 1 [(kk, 0)] ko = some ([], 0, kk, true) by decide)).mono fun v s' hv => ⟨_, _, _, _, _, hv.1, hv.2, by omega, fun e => by omega, fun _ => ⟨rfl, rfl, rfl⟩⟩

theorem LruCounts_spec (F : Fm) (v0 : Value) (bs : List Bool) (ha : Arg boolE F v0 bs) :
    Spec Try.prog 6 #[v0] F [] fun v _ => v = .bool true := by
  obtain ⟨p0, c0, rfl⟩ := ha.shape
  refine Spec.of (n := 117) (vs := [.slice p0 bs.length c0]) Try.func6 rfl Try.ntmps6 rfl ?_
  refine Vc.seq ?_
  refine Vc.text (List.range 1) (sd [(0, .pure)]) rfl ?_
  refine Rg.pure rfl rfl rfl (Pv.assign rfl) ?_
  refine Rg.nil ?_
  refine Vc.seq ?_
  refine Vc.text (List.range 2) (sd [(0, .eff), (1, .pure)]) rfl ?_
  refine Rg.callP rfl rfl rfl (run_callF rfl) (shown_spec _) ?_
  rintro _ rfl
  refine Rg.pure rfl rfl rfl (Pv.assign rfl) ?_
  refine Rg.nil ?_
  refine Vc.seq ?_
  refine Vc.text (List.range 2) (sd [(0, .eff), (1, .pure)]) rfl ?_
  refine Rg.callH rfl rfl rfl (run_callF rfl) (fun F' hF' => new_specs F' 1 (by omega)) rfl ?_
  rintro _ s1 ⟨cb, rfl, h1⟩
  rw [show (max (1 : Int) 1).toNat = 1 by decide] at h1
  refine Rg.pure rfl rfl rfl (Pv.assign rfl) ?_
  refine Rg.nil ?_
  refine Vc.seq ?_
  refine Vc.seq ?_
  refine Vc.text (List.range 2) (sd [(0, .pure), (1, .pure)]) rfl ?_
  refine Rg.pure rfl rfl rfl (Pv.move rfl) ?_
  refine Rg.pure rfl rfl rfl (Pv.eqlNil rfl rfl) ?_
  refine Rg.nil ?_
  refine Vc.cond rfl (fun h18 => absurd h18 (by simp)) (fun h18 => ?_)
  refine Vc.skip ?_
  refine Vc.seq ?_
  refine Vc.text (List.range 2) (sd [(0, .pure), (1, .eff)]) rfl ?_
  refine Rg.pure rfl rfl rfl (Pv.move rfl) ?_
  refine Rg.callH rfl rfl rfl (run_callF rfl) (fun F' hF' => use_somes F' h1 kk (by omega) (by simp) (show useK zs 1 [] kk = some ([], 0, zs, false) by decide)) rfl ?_
  rintro _ s2 ⟨rfl, h2⟩
  refine Rg.nil ?_
  refine Vc.seq ?_
  refine Vc.text (List.range 1) (sd [(0, .pure)]) rfl ?_
  refine Rg.pure rfl rfl rfl (Pv.assign rfl) ?_
  refine Rg.nil ?_
  refine Vc.seq ?_
  refine Vc.seq ?_
  refine Vc.text (List.range 1) (sd [(0, .pure)]) rfl ?_
  refine Rg.pure rfl rfl rfl (Pv.assign rfl) ?_
  refine Rg.nil ?_
  refine Vc.block ?_
  refine Vc.loop3 (fun (i n : Nat) (s : Hl) => i ≤ 60 ∧ n ≤ i ∧ Caches cb 1 1 [(kk, n)] s) (fun i n s => [(0, .slice p0 bs.length c0), (3, .bool true), (4, .pointer (some ⟨cb, 0, none⟩)), (5, .int .i64 (n : Int)), (6, .int .i64 (i : Int))]) (fun i n s => s) (fun i n s => 60 - i) 0 0 s2 ⟨by omega, by omega, h2⟩ (.cons rfl (.cons rfl (.cons rfl (.cons rfl (.cons rfl .nil))))) pulled ?_
  rintro i n s ⟨hi, hni, hc⟩
  refine Vc.seq ?_
  refine Vc.seq ?_
  refine Vc.cut1 (fun (b : Bool) => b = true → i < bs.length ∧ i < 60) (fun b => (28, .bool b) :: [(0, .slice p0 bs.length c0), (3, .bool true), (4, .pointer (some ⟨cb, 0, none⟩)), (5, .int .i64 (n : Int)), (6, .int .i64 (i : Int))]) (fun b => s) ?_ ?_
  ·
    refine Vc.text (List.range 8) (sd [(0, .pure), (1, .pure), (2, .pure), (3, .pure), (4, .pure), (5, .pure), (6, .pure), (7, .pure)]) rfl ?_
    refine Rg.pure rfl rfl rfl (Pv.move rfl) ?_
    refine Rg.pure rfl rfl rfl (Pv.move rfl) ?_
    refine Rg.pure rfl rfl rfl (Pv.lenS rfl) ?_
    refine Rg.pure rfl rfl rfl (Pv.lss rfl rfl) ?_
    refine Rg.pure rfl rfl rfl (Pv.move rfl) ?_
    refine Rg.split (t := 25) rfl (fun h25 => ?_) (fun h25 => ?_)
    ·
      simp only [decide_eq_true_eq] at h25
      refine Rg.pure rfl rfl rfl (Pv.move rfl) ?_
      refine Rg.pure rfl rfl rfl (Pv.lss rfl rfl) ?_
      refine Rg.pure rfl rfl rfl (Pv.pickT rfl rfl) ?_
      refine Rg.nil ?_
      exact Vc.inv1 _ (fun hb => by first | (simp only [decide_eq_true_eq] at hb; omega) | cases hb) (.cons rfl (.cons rfl (.cons rfl (.cons rfl (.cons rfl (.cons rfl .nil)))))) pulled
    ·
      iterate 2 (first | refine Rg.skipP rfl rfl rfl ?_ | refine Rg.skipR rfl rfl rfl ?_ | refine Rg.skipE rfl rfl rfl ?_)
      refine Rg.pure rfl rfl rfl (Pv.pickF rfl rfl) ?_
      refine Rg.nil ?_
      exact Vc.inv1 _ (fun hb => by first | (simp only [decide_eq_true_eq] at hb; omega) | cases hb) (.cons rfl (.cons rfl (.cons rfl (.cons rfl (.cons rfl (.cons rfl .nil)))))) pulled
  ·
    rintro bb hbb
    refine Vc.cond rfl (fun h28 => ?_) (fun h28 => ?_)
    ·
      obtain ⟨h3, h4⟩ := hbb h28
      obtain ⟨b0, o0, cc0, e0, _⟩ := ha.block (by omega)
      cases e0
      refine Vc.skip ?_
      refine Vc.seq ?_
      refine Vc.block ?_
      refine Vc.seq ?_
      refine Vc.seq ?_
      refine Vc.text (List.range 4) (sd [(0, .pure), (1, .pure), (2, .pure), (3, .read)]) rfl ?_
      refine Rg.pure rfl rfl rfl (Pv.move rfl) ?_
      refine Rg.pure rfl rfl rfl (Pv.move rfl) ?_
      refine Rg.pure rfl rfl rfl (Pv.ixA (i) rfl rfl (by omega) (by omega)) ?_
      refine Rg.read rfl rfl rfl (Ev.ldS (i) (ha.src) rfl rfl rfl (by omega)) ?_
      refine Rg.nil ?_
      refine Vc.cond rfl (fun h34 => ?_) (fun h34 => ?_)
      ·
        refine Vc.seq ?_
        refine Vc.seq ?_
        refine Vc.text (List.range 3) (sd [(0, .pure), (1, .eff), (2, .pure)]) rfl ?_
        refine Rg.pure rfl rfl rfl (Pv.move rfl) ?_
        refine Rg.callH rfl rfl rfl (run_callF rfl) (fun F' hF' => pin_one F' hc (by omega)) rfl ?_
        rintro _ s3 ⟨rfl, h3⟩
        refine Rg.pure rfl rfl rfl (Pv.neq rfl rfl) ?_
        refine Rg.nil ?_
        refine Vc.cond rfl (fun h37 => absurd h37 (by simp)) (fun h37 => ?_)
        refine Vc.skip ?_
        refine Vc.seq ?_
        refine Vc.text (List.range 3) (sd [(0, .pure), (1, .pure), (2, .pure)]) rfl ?_
        refine Rg.pure rfl rfl rfl (Pv.move rfl) ?_
        refine Rg.pure rfl rfl rfl (Pv.asI (n + 1) (Pv.add rfl rfl (by omega)) (by omega)) ?_
        refine Rg.pure rfl rfl rfl (Pv.assign rfl) ?_
        refine Rg.nil ?_
        refine Vc.exit rfl ?_
        refine Vc.text (List.range 3) (sd [(0, .pure), (1, .pure), (2, .pure)]) rfl ?_
        refine Rg.pure rfl rfl rfl (Pv.move rfl) ?_
        refine Rg.pure rfl rfl rfl (Pv.asI (i + 1) (Pv.add rfl rfl (by omega)) (by omega)) ?_
        refine Rg.pure rfl rfl rfl (Pv.assign rfl) ?_
        refine Rg.nil ?_
        exact Vc.inv3 (i + 1) (n + 1) s3 ⟨⟨by omega, by omega, h3⟩, by omega⟩ (.cons rfl (.cons rfl (.cons rfl (.cons rfl (.cons rfl .nil))))) pulled
      ·
        refine Vc.skip ?_
        refine Vc.seq ?_
        refine Vc.text (List.range 3) (sd [(0, .pure), (1, .eff), (2, .pure)]) rfl ?_
        refine Rg.pure rfl rfl rfl (Pv.move rfl) ?_
        refine Rg.callH rfl rfl rfl (run_callF rfl) (fun F' hF' => unpin_one F' hc (by omega)) rfl ?_
        rintro _ s3 ⟨rfl, h3⟩
        refine Rg.pure rfl rfl rfl (Pv.assign rfl) ?_
        refine Rg.nil ?_
        refine Vc.seq ?_
        refine Vc.seq ?_
        refine Vc.text (List.range 14) (sd [(0, .pure), (1, .pure), (2, .pure), (3, .pure), (4, .pure), (5, .pure), (6, .pure), (7, .pure), (8, .pure), (9, .pure), (10, .pure), (11, .pure), (12, .pure), (13, .pure)]) rfl ?_
        refine Rg.pure rfl rfl rfl (Pv.move rfl) ?_
        refine Rg.pure rfl rfl rfl (Pv.eql rfl rfl) ?_
        refine Rg.pure rfl rfl rfl (Pv.move rfl) ?_
        refine Rg.split (t := 44) rfl (fun h44 => ?_) (fun h44 => ?_)
        ·
          simp only [beq_iff_eq] at h44
          have n0 : n = 0 := (by omega)
          refine Rg.pure rfl rfl rfl (Pv.move rfl) ?_
          refine Rg.pure rfl rfl rfl (Pv.neq rfl rfl) ?_
          refine Rg.pure rfl rfl rfl (Pv.pickT rfl rfl) ?_
          refine Rg.pure rfl rfl rfl (Pv.move rfl) ?_
          refine Rg.split (t := 48) rfl (fun h48 => absurd h48 (by simp [n0])) (fun h48 => ?_)
          refine Rg.pure rfl rfl rfl (Pv.move rfl) ?_
          refine Rg.pure rfl rfl rfl (Pv.gtr rfl rfl) ?_
          refine Rg.pure rfl rfl rfl (Pv.move rfl) ?_
          refine Rg.split (t := 51) rfl (fun h51 => absurd h51 (by simp [n0])) (fun h51 => ?_)
          iterate 2 (first | refine Rg.skipP rfl rfl rfl ?_ | refine Rg.skipR rfl rfl rfl ?_ | refine Rg.skipE rfl rfl rfl ?_)
          refine Rg.pure rfl rfl rfl (Pv.pickF rfl rfl) ?_
          refine Rg.pure rfl rfl rfl (Pv.pickF rfl rfl) ?_
          refine Rg.nil ?_
          refine Vc.condF rfl ?_
          refine Vc.skip ?_
          refine Vc.text (List.range 4) (sd [(0, .pure), (1, .pure), (2, .pure), (3, .pure)]) rfl ?_
          refine Rg.pure rfl rfl rfl (Pv.move rfl) ?_
          refine Rg.pure rfl rfl rfl (Pv.sub rfl rfl (by omega)) ?_
          refine Rg.pure rfl rfl rfl (Pv.asI (n - 1) (Pv.max rfl rfl) (by omega)) ?_
          refine Rg.pure rfl rfl rfl (Pv.assign rfl) ?_
          refine Rg.nil ?_
          refine Vc.blk ?_
          refine Vc.text (List.range 3) (sd [(0, .pure), (1, .pure), (2, .pure)]) rfl ?_
          refine Rg.pure rfl rfl rfl (Pv.move rfl) ?_
          refine Rg.pure rfl rfl rfl (Pv.asI (i + 1) (Pv.add rfl rfl (by omega)) (by omega)) ?_
          refine Rg.pure rfl rfl rfl (Pv.assign rfl) ?_
          refine Rg.nil ?_
          exact Vc.inv3 (i + 1) (n - 1) s3 ⟨⟨by omega, by omega, h3⟩, by omega⟩ (.cons rfl (.cons rfl (.cons rfl (.cons rfl (.cons rfl .nil))))) pulled
        ·
          simp only [beq_eq_false_iff_ne, ne_eq] at h44
          have n0 : ¬ n = 0 := (by omega)
          iterate 2 (first | refine Rg.skipP rfl rfl rfl ?_ | refine Rg.skipR rfl rfl rfl ?_ | refine Rg.skipE rfl rfl rfl ?_)
          refine Rg.pure rfl rfl rfl (Pv.pickF rfl rfl) ?_
          refine Rg.pure rfl rfl rfl (Pv.move rfl) ?_
          refine Rg.pure rfl rfl rfl (Pv.move rfl) ?_
          refine Rg.pure rfl rfl rfl (Pv.gtr rfl rfl) ?_
          refine Rg.pure rfl rfl rfl (Pv.move rfl) ?_
          refine Rg.split (t := 51) rfl (fun h51 => ?_) (fun h51 => absurd h51 (by simp; omega))
          refine Rg.pure rfl rfl rfl (Pv.move rfl) ?_
          refine Rg.pure rfl rfl rfl (Pv.neq rfl rfl) ?_
          refine Rg.pure rfl rfl rfl (Pv.pickT rfl rfl) ?_
          refine Rg.pure rfl rfl rfl (Pv.pickF rfl rfl) ?_
          refine Rg.nil ?_
          refine Vc.cond rfl (fun h55 => absurd h55 (by simp [n0])) (fun h55 => ?_)
          refine Vc.skip ?_
          refine Vc.text (List.range 4) (sd [(0, .pure), (1, .pure), (2, .pure), (3, .pure)]) rfl ?_
          refine Rg.pure rfl rfl rfl (Pv.move rfl) ?_
          refine Rg.pure rfl rfl rfl (Pv.sub rfl rfl (by omega)) ?_
          refine Rg.pure rfl rfl rfl (Pv.asI (n - 1) (Pv.max rfl rfl) (by omega)) ?_
          refine Rg.pure rfl rfl rfl (Pv.assign rfl) ?_
          refine Rg.nil ?_
          refine Vc.blk ?_
          refine Vc.text (List.range 3) (sd [(0, .pure), (1, .pure), (2, .pure)]) rfl ?_
          refine Rg.pure rfl rfl rfl (Pv.move rfl) ?_
          refine Rg.pure rfl rfl rfl (Pv.asI (i + 1) (Pv.add rfl rfl (by omega)) (by omega)) ?_
          refine Rg.pure rfl rfl rfl (Pv.assign rfl) ?_
          refine Rg.nil ?_
          exact Vc.inv3 (i + 1) (n - 1) s3 ⟨⟨by omega, by omega, h3⟩, by omega⟩ (.cons rfl (.cons rfl (.cons rfl (.cons rfl (.cons rfl .nil))))) pulled
    ·
      refine Vc.exit rfl ?_
      refine Vc.seq ?_
      refine Vc.text (List.range 9) (sd [(0, .pure), (1, .eff), (2, .pure), (3, .pure), (4, .pure), (5, .pure), (6, .pure), (7, .pure), (8, .pure)]) rfl ?_
      refine Rg.pure rfl rfl rfl (Pv.move rfl) ?_
      refine Rg.callH rfl rfl rfl (run_callF rfl) (fun F' hF' => use_other F' hc) rfl ?_
      rintro _ s5 ⟨M, g, is, e, ck, rfl, h5, hck, hpos, hzero⟩
      refine Rg.pure rfl rfl rfl (Pv.move rfl) ?_
      refine Rg.pure rfl rfl rfl (Pv.extract rfl rfl) ?_
      refine Rg.pure rfl rfl rfl (Pv.extract rfl rfl) ?_
      refine Rg.pure rfl rfl rfl (Pv.extract rfl rfl) ?_
      refine Rg.pure rfl rfl rfl (Pv.assign rfl) ?_
      refine Rg.pure rfl rfl rfl (Pv.assign rfl) ?_
      refine Rg.pure rfl rfl rfl (Pv.assign rfl) ?_
      refine Rg.nil ?_
      refine Vc.seq ?_
      refine Vc.seq ?_
      refine Vc.text (List.range 2) (sd [(0, .pure), (1, .pure)]) rfl ?_
      refine Rg.pure rfl rfl rfl (Pv.move rfl) ?_
      refine Rg.pure rfl rfl rfl (Pv.gtr rfl rfl) ?_
      refine Rg.nil ?_
      refine Vc.cond rfl (fun h66 => ?_) (fun h66 => ?_)
      ·
        simp only [decide_eq_true_eq] at h66
        obtain ⟨rfl, rfl, rfl⟩ := hpos (by omega)
        refine Vc.seq ?_
        refine Vc.text (List.range 3) (sd [(0, .pure), (1, .eff), (2, .pure)]) rfl ?_
        refine Rg.pure rfl rfl rfl (Pv.move rfl) ?_
        refine Rg.callH rfl rfl rfl (run_callF rfl) (fun F' hF' => drop_one F' h5 (by omega)) rfl ?_
        rintro _ s6 ⟨rfl, h6⟩
        refine Rg.pure rfl rfl rfl (Pv.assign rfl) ?_
        refine Rg.nil ?_
        refine Vc.seq ?_
        refine Vc.text (List.range 18) (sd [(0, .pure), (1, .pure), (2, .pure), (3, .pure), (4, .pure), (5, .pure), (6, .pure), (7, .pure), (8, .pure), (9, .pure), (10, .pure), (11, .eff), (12, .pure), (13, .pure), (14, .pure), (15, .pure), (16, .pure), (17, .pure)]) rfl ?_
        refine Rg.pure rfl rfl rfl (Pv.move rfl) ?_
        refine Rg.pure rfl rfl rfl (Pv.move rfl) ?_
        refine Rg.split (t := 70) rfl (fun h70 => ?_) (fun h70 => absurd h70 (by simp))
        refine Rg.pure rfl rfl rfl (Pv.move rfl) ?_
        refine Rg.pure rfl rfl rfl (Pv.not rfl) ?_
        refine Rg.pure rfl rfl rfl (Pv.pickT rfl rfl) ?_
        refine Rg.pure rfl rfl rfl (Pv.move rfl) ?_
        refine Rg.split (t := 74) rfl (fun h74 => ?_) (fun h74 => absurd h74 (by simp))
        refine Rg.pure rfl rfl rfl (Pv.move rfl) ?_
        refine Rg.pure rfl rfl rfl (Pv.eql rfl rfl) ?_
        refine Rg.pure rfl rfl rfl (Pv.pickT rfl rfl) ?_
        refine Rg.pure rfl rfl rfl (Pv.move rfl) ?_
        refine Rg.split (t := 78) rfl (fun h78 => ?_) (fun h78 => absurd h78 (by simp))
        refine Rg.pure rfl rfl rfl (Pv.move rfl) ?_
        refine Rg.callP rfl rfl rfl (run_callF rfl) (has_specs h6 frz_sb kk) ?_
        rintro _ rfl
        refine Rg.pure rfl rfl rfl (Pv.pickT rfl rfl) ?_
        refine Rg.pure rfl rfl rfl (Pv.move rfl) ?_
        refine Rg.split (t := 82) rfl (fun h82 => ?_) (fun h82 => absurd h82 (by rw [hasK_one]; simp))
        refine Rg.pure rfl rfl rfl (Pv.move rfl) ?_
        refine Rg.pure rfl rfl rfl (Pv.eql rfl rfl) ?_
        refine Rg.pure rfl rfl rfl (Pv.pickT rfl rfl) ?_
        refine Rg.pure rfl rfl rfl (Pv.assign rfl) ?_
        refine Rg.nil ?_
        refine Vc.ret (Vc.rets rfl (.cons (.tmp rfl) (.nil)) ?_)
        rfl
      ·
        simp only [decide_eq_false_iff_not] at h66
        obtain ⟨rfl, rfl, rfl⟩ := hzero (by omega)
        refine Vc.skip ?_
        refine Vc.seq ?_
        refine Vc.text (List.range 3) (sd [(0, .pure), (1, .eff), (2, .pure)]) rfl ?_
        refine Rg.pure rfl rfl rfl (Pv.move rfl) ?_
        refine Rg.callH rfl rfl rfl (run_callF rfl) (fun F' hF' => pin_specs F' h5 kk (by simp)) rfl ?_
        rintro _ s6 ⟨rfl, h6⟩
        rw [show (if hasK [(ko, 0)] kk = true then setK [(ko, 0)] kk (pinsK [(ko, 0)] kk + 1) else [(ko, 0)]) = [(ko, 0)] by decide] at h6
        refine Rg.pure rfl rfl rfl (Pv.assign rfl) ?_
        refine Rg.nil ?_
        refine Vc.seq ?_
        refine Vc.text (List.range 3) (sd [(0, .pure), (1, .eff), (2, .pure)]) rfl ?_
        refine Rg.pure rfl rfl rfl (Pv.move rfl) ?_
        refine Rg.callH rfl rfl rfl (run_callF rfl) (fun F' hF' => unpin_specs F' h6 kk (by simp)) rfl ?_
        rintro _ s7 ⟨rfl, h7⟩
        rw [show (if hasK [(ko, 0)] kk = true then setK [(ko, 0)] kk (pinsK [(ko, 0)] kk - 1) else [(ko, 0)]) = [(ko, 0)] by decide] at h7
        refine Rg.pure rfl rfl rfl (Pv.assign rfl) ?_
        refine Rg.nil ?_
        refine Vc.seq ?_
        refine Vc.text (List.range 3) (sd [(0, .pure), (1, .eff), (2, .pure)]) rfl ?_
        refine Rg.pure rfl rfl rfl (Pv.move rfl) ?_
        refine Rg.callH rfl rfl rfl (run_callF rfl) (fun F' hF' => drop_specs F' h7 kk) rfl ?_
        rintro _ s8 ⟨rfl, h8⟩
        rw [show (if hasK [(ko, 0)] kk = true then if 0 < pinsK [(ko, 0)] kk then [(ko, 0)] else dropK [(ko, 0)] kk else [(ko, 0)]) = [(ko, 0)] by decide] at h8
        refine Rg.pure rfl rfl rfl (Pv.assign rfl) ?_
        refine Rg.nil ?_
        refine Vc.seq ?_
        refine Vc.text (List.range 26) (sd [(0, .pure), (1, .pure), (2, .pure), (3, .pure), (4, .pure), (5, .pure), (6, .pure), (7, .pure), (8, .pure), (9, .pure), (10, .eff), (11, .pure), (12, .pure), (13, .pure), (14, .pure), (15, .pure), (16, .pure), (17, .pure), (18, .pure), (19, .pure), (20, .pure), (21, .pure), (22, .pure), (23, .pure), (24, .pure), (25, .pure)]) rfl ?_
        refine Rg.pure rfl rfl rfl (Pv.move rfl) ?_
        refine Rg.pure rfl rfl rfl (Pv.move rfl) ?_
        refine Rg.split (t := 93) rfl (fun h93 => ?_) (fun h93 => absurd h93 (by simp))
        refine Rg.pure rfl rfl rfl (Pv.move rfl) ?_
        refine Rg.pure rfl rfl rfl (Pv.pickT rfl rfl) ?_
        refine Rg.pure rfl rfl rfl (Pv.move rfl) ?_
        refine Rg.split (t := 96) rfl (fun h96 => ?_) (fun h96 => absurd h96 (by simp))
        refine Rg.pure rfl rfl rfl (Pv.move rfl) ?_
        refine Rg.pure rfl rfl rfl (Pv.eql rfl rfl) ?_
        refine Rg.pure rfl rfl rfl (Pv.pickT rfl rfl) ?_
        refine Rg.pure rfl rfl rfl (Pv.move rfl) ?_
        refine Rg.split (t := 100) rfl (fun h100 => ?_) (fun h100 => absurd h100 (by simp))
        refine Rg.pure rfl rfl rfl (Pv.move rfl) ?_
        refine Rg.callP rfl rfl rfl (run_callF rfl) (has_specs h8 frz_sb kk) ?_
        rintro _ rfl
        refine Rg.pure rfl rfl rfl (Pv.not rfl) ?_
        refine Rg.pure rfl rfl rfl (Pv.pickT rfl rfl) ?_
        refine Rg.pure rfl rfl rfl (Pv.move rfl) ?_
        refine Rg.split (t := 105) rfl (fun h105 => ?_) (fun h105 => absurd h105 (by decide))
        refine Rg.pure rfl rfl rfl (Pv.move rfl) ?_
        refine Rg.pure rfl rfl rfl (Pv.eql rfl rfl) ?_
        refine Rg.pure rfl rfl rfl (Pv.pickT rfl rfl) ?_
        refine Rg.pure rfl rfl rfl (Pv.move rfl) ?_
        refine Rg.split (t := 109) rfl (fun h109 => ?_) (fun h109 => absurd h109 (by decide))
        refine Rg.pure rfl rfl rfl (Pv.move rfl) ?_
        refine Rg.pure rfl rfl rfl (Pv.eql rfl rfl) ?_
        refine Rg.pure rfl rfl rfl (Pv.pickT rfl rfl) ?_
        refine Rg.pure rfl rfl rfl (Pv.move rfl) ?_
        refine Rg.split (t := 113) rfl (fun h113 => ?_) (fun h113 => absurd h113 (by decide))
        refine Rg.pure rfl rfl rfl (Pv.move rfl) ?_
        refine Rg.pure rfl rfl rfl (Pv.eql rfl rfl) ?_
        refine Rg.pure rfl rfl rfl (Pv.pickT rfl rfl) ?_
        refine Rg.pure rfl rfl rfl (Pv.assign rfl) ?_
        refine Rg.nil ?_
        refine Vc.ret (Vc.rets rfl (.cons (.tmp rfl) (.nil)) ?_)
        exact congrArg Value.bool (by decide)
end Go.Proofs.Ytigkckpjbnflpaa
