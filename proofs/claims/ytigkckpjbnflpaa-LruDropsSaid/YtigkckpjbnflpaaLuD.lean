/- The statements' functions: LruDrops. -/
import Derived.Test.YtigkckpjbnflpaaLuF
namespace Go.Proofs.Ytigkckpjbnflpaa
set_option linter.unusedVariables false

/-- What goes when one more key comes. -/
def wantK (m w : Nat) : Int := if m = 1 then 100 else if w = 0 then 1 else 0
def dropD (m w : Nat) : List (KTi × Nat) := dropK (rowL 0 m) (w : Int)
def dropE (m w : Nat) : List (KTi × Nat) := dropK (dropD m w ++ [((100 : Int), 0)]) (wantK m w) ++ [((101 : Int), 0)]
def allD (m w : Nat) : Bool :=
  hasK (rowL 0 m) (w : Int) && pinsK (rowL 0 m) (w : Int) == 0 && decide (useK zi m (dropD m w) 100 = some (dropD m w, 0, zi, false)) &&
  decide (useK zi m (dropD m w ++ [((100 : Int), 0)]) 101 = some (dropK (dropD m w ++ [((100 : Int), 0)]) (wantK m w), 0, wantK m w, true)) && (dropE m w).length == m && !hasK (dropE m w) (w : Int) &&
  decide ((dropD m w).length ≤ 10) && decide ((dropD m w ++ [((100 : Int), 0)]).length ≤ 11)
theorem allD_true : ∀ m : Fin 11, ∀ w : Fin 11, w.1 < m.1 → allD m.1 w.1 = true := by decide +kernel

theorem LruDrops_spec (F : Fm) (q r : Int) :
    Spec Try.prog 8 #[.int .i64 q, .int .i64 r] F [] fun v _ => v = .bool true := by
  obtain ⟨m, hm⟩ : ∃ m, m = 1 + andN q 65535 % 10 := ⟨_, rfl⟩
  obtain ⟨w, hw⟩ : ∃ w, w = andN r 65535 % m := ⟨_, rfl⟩
  have hwm : w < m := by rw [hw]; exact Nat.mod_lt _ (by omega)
  have hm10 : m < 11 := by omega
  have hall := allD_true ⟨m, hm10⟩ ⟨w, by omega⟩ hwm
  simp only [allD, Bool.and_eq_true, decide_eq_true_eq, beq_iff_eq, Bool.not_eq_true'] at hall
  obtain ⟨⟨⟨⟨⟨⟨⟨hA1, hA2⟩, hA3⟩, hA4⟩, hA5⟩, hA6⟩, hA7⟩, hA8⟩ := hall
  have hmf : (max (m : Int) 1).toNat = m := by omega
  refine Spec.of (n := 94) (vs := [.int .i64 q, .int .i64 r]) Try.func8 rfl Try.ntmps8 rfl ?_
  refine Vc.seq ?_
  refine Vc.text (List.range 1) (sd [(0, .pure)]) rfl ?_
  refine Rg.pure rfl rfl rfl (Pv.assign rfl) ?_
  refine Rg.nil ?_
  refine Vc.seq ?_
  refine Vc.text (List.range 2) (sd [(0, .eff), (1, .pure)]) rfl ?_
  refine Rg.callP rfl rfl rfl (run_callF rfl) (shown_spec _) ?_
  rintro _ rfl
  refine Rg.pure rfl rfl rfl (Pv.assign rfl) ?_
  refine Rg.nil ?_
  refine Vc.seq ?_
  refine Vc.text (List.range 5) (sd [(0, .pure), (1, .pure), (2, .pure), (3, .pure), (4, .pure)]) rfl ?_
  refine Rg.pure rfl rfl rfl (Pv.move rfl) ?_
  refine Rg.pure rfl rfl rfl (Pv.and rfl rfl (by omega)) ?_
  refine Rg.pure rfl rfl rfl (Pv.rem rfl rfl (by omega)) ?_
  refine Rg.pure rfl rfl rfl (Pv.asI (m) (Pv.add rfl rfl (by omega)) (by omega)) ?_
  refine Rg.pure rfl rfl rfl (Pv.assign rfl) ?_
  refine Rg.nil ?_
  refine Vc.seq ?_
  refine Vc.text (List.range 5) (sd [(0, .pure), (1, .pure), (2, .pure), (3, .pure), (4, .pure)]) rfl ?_
  refine Rg.pure rfl rfl rfl (Pv.move rfl) ?_
  refine Rg.pure rfl rfl rfl (Pv.and rfl rfl (by omega)) ?_
  refine Rg.pure rfl rfl rfl (Pv.move rfl) ?_
  refine Rg.pure rfl rfl rfl (Pv.asI w (Pv.rem rfl rfl (by omega)) (by rw [hw]; simp)) ?_
  refine Rg.pure rfl rfl rfl (Pv.assign rfl) ?_
  refine Rg.nil ?_
  refine Vc.seq ?_
  refine Vc.text (List.range 3) (sd [(0, .pure), (1, .eff), (2, .pure)]) rfl ?_
  refine Rg.pure rfl rfl rfl (Pv.move rfl) ?_
  refine Rg.callH rfl rfl rfl (run_callF rfl) (fun F' hF' => new_speci F' (m : Int) (by omega)) rfl ?_
  rintro _ s1 ⟨cb, rfl, h1⟩
  rw [hmf] at h1
  refine Rg.pure rfl rfl rfl (Pv.assign rfl) ?_
  refine Rg.nil ?_
  refine Vc.seq ?_
  refine Vc.seq ?_
  refine Vc.text (List.range 2) (sd [(0, .pure), (1, .pure)]) rfl ?_
  refine Rg.pure rfl rfl rfl (Pv.move rfl) ?_
  refine Rg.pure rfl rfl rfl (Pv.eqlNil rfl rfl) ?_
  refine Rg.nil ?_
  refine Vc.cond rfl (fun h28 => absurd h28 (by simp)) (fun h28 => ?_)
  refine Vc.skip ?_
  refine Vc.seq ?_
  refine Vc.seq ?_
  refine Vc.text (List.range 1) (sd [(0, .pure)]) rfl ?_
  refine Rg.pure rfl rfl rfl (Pv.assign rfl) ?_
  refine Rg.nil ?_
  refine Vc.block ?_
  refine Vc.loop2 (fun (i : Nat) (s : Hl) => i ≤ m ∧ Cachei cb m i (rowL 0 i) s) (fun i s => [(0, .int .i64 (m : Int)), (1, .int .i64 (w : Int)), (5, .bool true), (6, .pointer (some ⟨cb, 0, none⟩)), (7, .int .i64 (i : Int))]) (fun i s => s) (fun i s => m - i) 0 s1 ⟨Nat.zero_le _, h1⟩ (.cons rfl (.cons rfl (.cons rfl (.cons rfl (.cons rfl .nil))))) pulled ?_
  rintro i s ⟨hi, hc⟩
  have hrl := rowL_length 0 i
  refine Vc.seq ?_
  refine Vc.seq ?_
  refine Vc.text (List.range 3) (sd [(0, .pure), (1, .pure), (2, .pure)]) rfl ?_
  refine Rg.pure rfl rfl rfl (Pv.move rfl) ?_
  refine Rg.pure rfl rfl rfl (Pv.move rfl) ?_
  refine Rg.pure rfl rfl rfl (Pv.lss rfl rfl) ?_
  refine Rg.nil ?_
  refine Vc.cond rfl (fun h31 => ?_) (fun h31 => ?_)
  ·
    simp only [decide_eq_true_eq] at h31
    refine Vc.skip ?_
    refine Vc.seq ?_
    refine Vc.block ?_
    refine Vc.text (List.range 3) (sd [(0, .pure), (1, .pure), (2, .eff)]) rfl ?_
    refine Rg.pure rfl rfl rfl (Pv.move rfl) ?_
    refine Rg.pure rfl rfl rfl (Pv.move rfl) ?_
    refine Rg.callH rfl rfl rfl (run_callF rfl) (fun F' hF' => use_somei F' hc (i : Int) (by omega) (by omega) (use_row (by omega))) rfl ?_
    rintro _ s2 ⟨rfl, hc2⟩
    rw [← rowL_succ] at hc2
    refine Rg.nil ?_
    refine Vc.blk ?_
    refine Vc.text (List.range 3) (sd [(0, .pure), (1, .pure), (2, .pure)]) rfl ?_
    refine Rg.pure rfl rfl rfl (Pv.move rfl) ?_
    refine Rg.pure rfl rfl rfl (Pv.asI (i + 1) (Pv.add rfl rfl (by omega)) (by omega)) ?_
    refine Rg.pure rfl rfl rfl (Pv.assign rfl) ?_
    refine Rg.nil ?_
    exact Vc.inv2 (i + 1) s2 ⟨⟨by omega, hc2⟩, by omega⟩ (.cons rfl (.cons rfl (.cons rfl (.cons rfl (.cons rfl .nil))))) pulled
  ·
    simp only [decide_eq_false_iff_not] at h31
    have him : i = m := (by omega)
    rw [him] at hc
    refine Vc.exit rfl ?_
    refine Vc.seq ?_
    refine Vc.text (List.range 4) (sd [(0, .pure), (1, .pure), (2, .eff), (3, .pure)]) rfl ?_
    refine Rg.pure rfl rfl rfl (Pv.move rfl) ?_
    refine Rg.pure rfl rfl rfl (Pv.move rfl) ?_
    refine Rg.callH rfl rfl rfl (run_callF rfl) (fun F' hF' => drop_speci F' hc (w : Int)) rfl ?_
    rintro v39 s2 ⟨e39, hc2⟩
    simp only [hA1, hA2, if_true, Nat.lt_irrefl, if_false] at e39 hc2
    subst e39
    refine Rg.pure rfl rfl rfl (Pv.assign rfl) ?_
    refine Rg.nil ?_
    refine Vc.seq ?_
    refine Vc.text (List.range 9) (sd [(0, .pure), (1, .eff), (2, .pure), (3, .pure), (4, .pure), (5, .pure), (6, .pure), (7, .pure), (8, .pure)]) rfl ?_
    refine Rg.pure rfl rfl rfl (Pv.move rfl) ?_
    refine Rg.callH rfl rfl rfl (run_callF rfl) (fun F' hF' => use_somei F' hc2 100 (by omega) (Nat.lt_of_le_of_lt hA7 (by omega)) hA3) rfl ?_
    rintro _ s3 ⟨rfl, hc3⟩
    refine Rg.pure rfl rfl rfl (Pv.move rfl) ?_
    refine Rg.pure rfl rfl rfl (Pv.extract rfl rfl) ?_
    refine Rg.pure rfl rfl rfl (Pv.extract rfl rfl) ?_
    refine Rg.pure rfl rfl rfl (Pv.extract rfl rfl) ?_
    refine Rg.pure rfl rfl rfl (Pv.assign rfl) ?_
    refine Rg.pure rfl rfl rfl (Pv.assign rfl) ?_
    refine Rg.pure rfl rfl rfl (Pv.assign rfl) ?_
    refine Rg.nil ?_
    refine Vc.seq ?_
    refine Vc.text (List.range 9) (sd [(0, .pure), (1, .eff), (2, .pure), (3, .pure), (4, .pure), (5, .pure), (6, .pure), (7, .pure), (8, .pure)]) rfl ?_
    refine Rg.pure rfl rfl rfl (Pv.move rfl) ?_
    refine Rg.callH rfl rfl rfl (run_callF rfl) (fun F' hF' => use_somei F' hc3 101 (by omega) (Nat.lt_of_le_of_lt hA8 (by omega)) hA4) rfl ?_
    rintro _ s4 ⟨rfl, hc4⟩
    refine Rg.pure rfl rfl rfl (Pv.move rfl) ?_
    refine Rg.pure rfl rfl rfl (Pv.extract rfl rfl) ?_
    refine Rg.pure rfl rfl rfl (Pv.extract rfl rfl) ?_
    refine Rg.pure rfl rfl rfl (Pv.extract rfl rfl) ?_
    refine Rg.pure rfl rfl rfl (Pv.assign rfl) ?_
    refine Rg.pure rfl rfl rfl (Pv.assign rfl) ?_
    refine Rg.pure rfl rfl rfl (Pv.assign rfl) ?_
    refine Rg.nil ?_
    refine Vc.seq ?_
    refine Vc.text (List.range 1) (sd [(0, .pure)]) rfl ?_
    refine Rg.pure rfl rfl rfl (Pv.assign rfl) ?_
    refine Rg.nil ?_
    refine Vc.seq ?_
    refine Vc.seq ?_
    refine Vc.text (List.range 2) (sd [(0, .pure), (1, .pure)]) rfl ?_
    refine Rg.pure rfl rfl rfl (Pv.move rfl) ?_
    refine Rg.pure rfl rfl rfl (Pv.eql rfl rfl) ?_
    refine Rg.nil ?_
    refine Vc.cond rfl (fun h53 => ?_) (fun h53 => ?_)
    ·
      simp only [beq_iff_eq] at h53
      refine Vc.text (List.range 1) (sd [(0, .pure)]) rfl ?_
      refine Rg.pure rfl rfl rfl (Pv.assign rfl) ?_
      refine Rg.nil ?_
      refine Vc.seq ?_
      refine Vc.seq ?_
      refine Vc.text (List.range 2) (sd [(0, .pure), (1, .pure)]) rfl ?_
      refine Rg.pure rfl rfl rfl (Pv.move rfl) ?_
      refine Rg.pure rfl rfl rfl (Pv.eql rfl rfl) ?_
      refine Rg.nil ?_
      refine Vc.cond rfl (fun h55 => ?_) (fun h55 => ?_)
      ·
        simp only [beq_iff_eq] at h55
        have hwk : wantK m w = 100 := by unfold wantK; rw [if_pos (by omega)]
        refine Vc.text (List.range 1) (sd [(0, .pure)]) rfl ?_
        refine Rg.pure rfl rfl rfl (Pv.assign rfl) ?_
        refine Rg.nil ?_
        refine Vc.seq ?_
        refine Vc.text (List.range 39) (sd [(0, .pure), (1, .pure), (2, .pure), (3, .pure), (4, .pure), (5, .pure), (6, .pure), (7, .pure), (8, .pure), (9, .pure), (10, .pure), (11, .pure), (12, .pure), (13, .pure), (14, .pure), (15, .pure), (16, .pure), (17, .pure), (18, .pure), (19, .pure), (20, .pure), (21, .pure), (22, .pure), (23, .pure), (24, .pure), (25, .pure), (26, .pure), (27, .eff), (28, .pure), (29, .pure), (30, .pure), (31, .pure), (32, .pure), (33, .pure), (34, .pure), (35, .eff), (36, .pure), (37, .pure), (38, .pure)]) rfl ?_
        refine Rg.pure rfl rfl rfl (Pv.move rfl) ?_
        refine Rg.pure rfl rfl rfl (Pv.move rfl) ?_
        refine Rg.split (t := 57) rfl (fun h57 => ?_) (fun h57 => absurd h57 (by simp))
        refine Rg.pure rfl rfl rfl (Pv.move rfl) ?_
        refine Rg.pure rfl rfl rfl (Pv.eql rfl rfl) ?_
        refine Rg.pure rfl rfl rfl (Pv.pickT rfl rfl) ?_
        refine Rg.pure rfl rfl rfl (Pv.move rfl) ?_
        refine Rg.split (t := 61) rfl (fun h61 => ?_) (fun h61 => absurd h61 (by simp))
        refine Rg.pure rfl rfl rfl (Pv.move rfl) ?_
        refine Rg.pure rfl rfl rfl (Pv.not rfl) ?_
        refine Rg.pure rfl rfl rfl (Pv.pickT rfl rfl) ?_
        refine Rg.pure rfl rfl rfl (Pv.move rfl) ?_
        refine Rg.split (t := 65) rfl (fun h65 => ?_) (fun h65 => absurd h65 (by simp))
        refine Rg.pure rfl rfl rfl (Pv.move rfl) ?_
        refine Rg.pure rfl rfl rfl (Pv.eql rfl rfl) ?_
        refine Rg.pure rfl rfl rfl (Pv.pickT rfl rfl) ?_
        refine Rg.pure rfl rfl rfl (Pv.move rfl) ?_
        refine Rg.split (t := 69) rfl (fun h69 => ?_) (fun h69 => absurd h69 (by simp))
        refine Rg.pure rfl rfl rfl (Pv.move rfl) ?_
        refine Rg.pure rfl rfl rfl (Pv.pickT rfl rfl) ?_
        refine Rg.pure rfl rfl rfl (Pv.move rfl) ?_
        refine Rg.split (t := 72) rfl (fun h72 => ?_) (fun h72 => absurd h72 (by simp))
        refine Rg.pure rfl rfl rfl (Pv.move rfl) ?_
        refine Rg.pure rfl rfl rfl (Pv.eql rfl rfl) ?_
        refine Rg.pure rfl rfl rfl (Pv.pickT rfl rfl) ?_
        refine Rg.pure rfl rfl rfl (Pv.move rfl) ?_
        refine Rg.split (t := 76) rfl (fun h76 => ?_) (fun h76 => absurd h76 (by simp))
        refine Rg.pure rfl rfl rfl (Pv.move rfl) ?_
        refine Rg.pure rfl rfl rfl (Pv.move rfl) ?_
        refine Rg.pure rfl rfl rfl (Pv.eql rfl rfl) ?_
        refine Rg.pure rfl rfl rfl (Pv.pickT rfl rfl) ?_
        refine Rg.pure rfl rfl rfl (Pv.move rfl) ?_
        refine Rg.split (t := 81) rfl (fun h81 => ?_) (fun h81 => absurd h81 (by rw [hwk]; simp))
        refine Rg.pure rfl rfl rfl (Pv.move rfl) ?_
        refine Rg.callH rfl rfl rfl (run_callF rfl) (fun F' hF' => keys_speci (F := F') hc4 (fun b o h => hF' b o (.inl (Sb.sub (seg := s4) _ h))) (by omega) (by show (dropE m w).length < _; omega)) rfl ?_
        rintro v83 s83 own83
        have hkl : ((dropE m w).map (·.1)).length = m := by rw [List.length_map]; exact hA5
        have own83 : Own keyEi v83 ((dropE m w).map (·.1)) s83 := own83
        generalize (dropE m w).map (·.1) = ks at own83 hkl
        obtain ⟨q83, c83, rfl⟩ := own83.shape
        refine Rg.pure rfl rfl rfl (Pv.lenS rfl) ?_
        refine Rg.pure rfl rfl rfl (Pv.move rfl) ?_
        refine Rg.pure rfl rfl rfl (Pv.eql rfl rfl) ?_
        refine Rg.pure rfl rfl rfl (Pv.pickT rfl rfl) ?_
        refine Rg.pure rfl rfl rfl (Pv.move rfl) ?_
        refine Rg.split (t := 88) rfl (fun h88 => ?_) (fun h88 => absurd h88 (by rw [hkl]; simp))
        refine Rg.pure rfl rfl rfl (Pv.move rfl) ?_
        refine Rg.pure rfl rfl rfl (Pv.move rfl) ?_
        refine Rg.callP rfl rfl rfl (run_callF rfl) (has_speci hc4 frz_sb (w : Int)) ?_
        rintro _ rfl
        refine Rg.pure rfl rfl rfl (Pv.not rfl) ?_
        refine Rg.pure rfl rfl rfl (Pv.pickT rfl rfl) ?_
        refine Rg.pure rfl rfl rfl (Pv.assign rfl) ?_
        refine Rg.nil ?_
        refine Vc.ret (Vc.rets rfl (.cons (.tmp rfl) (.nil)) ?_)
        exact congrArg Value.bool (by rw [show hasK (dropK (dropD m w ++ [((100 : Int), 0)]) (wantK m w) ++ [((101 : Int), 0)]) (w : Int) = false from hA6]; rfl)
      ·
        simp only [beq_eq_false_iff_ne, ne_eq] at h55
        have hwk : wantK m w = 1 := by unfold wantK; rw [if_neg (by omega), if_pos (by omega)]
        refine Vc.skip ?_
        refine Vc.seq ?_
        refine Vc.text (List.range 39) (sd [(0, .pure), (1, .pure), (2, .pure), (3, .pure), (4, .pure), (5, .pure), (6, .pure), (7, .pure), (8, .pure), (9, .pure), (10, .pure), (11, .pure), (12, .pure), (13, .pure), (14, .pure), (15, .pure), (16, .pure), (17, .pure), (18, .pure), (19, .pure), (20, .pure), (21, .pure), (22, .pure), (23, .pure), (24, .pure), (25, .pure), (26, .pure), (27, .eff), (28, .pure), (29, .pure), (30, .pure), (31, .pure), (32, .pure), (33, .pure), (34, .pure), (35, .eff), (36, .pure), (37, .pure), (38, .pure)]) rfl ?_
        refine Rg.pure rfl rfl rfl (Pv.move rfl) ?_
        refine Rg.pure rfl rfl rfl (Pv.move rfl) ?_
        refine Rg.split (t := 57) rfl (fun h57 => ?_) (fun h57 => absurd h57 (by simp))
        refine Rg.pure rfl rfl rfl (Pv.move rfl) ?_
        refine Rg.pure rfl rfl rfl (Pv.eql rfl rfl) ?_
        refine Rg.pure rfl rfl rfl (Pv.pickT rfl rfl) ?_
        refine Rg.pure rfl rfl rfl (Pv.move rfl) ?_
        refine Rg.split (t := 61) rfl (fun h61 => ?_) (fun h61 => absurd h61 (by simp))
        refine Rg.pure rfl rfl rfl (Pv.move rfl) ?_
        refine Rg.pure rfl rfl rfl (Pv.not rfl) ?_
        refine Rg.pure rfl rfl rfl (Pv.pickT rfl rfl) ?_
        refine Rg.pure rfl rfl rfl (Pv.move rfl) ?_
        refine Rg.split (t := 65) rfl (fun h65 => ?_) (fun h65 => absurd h65 (by simp))
        refine Rg.pure rfl rfl rfl (Pv.move rfl) ?_
        refine Rg.pure rfl rfl rfl (Pv.eql rfl rfl) ?_
        refine Rg.pure rfl rfl rfl (Pv.pickT rfl rfl) ?_
        refine Rg.pure rfl rfl rfl (Pv.move rfl) ?_
        refine Rg.split (t := 69) rfl (fun h69 => ?_) (fun h69 => absurd h69 (by simp))
        refine Rg.pure rfl rfl rfl (Pv.move rfl) ?_
        refine Rg.pure rfl rfl rfl (Pv.pickT rfl rfl) ?_
        refine Rg.pure rfl rfl rfl (Pv.move rfl) ?_
        refine Rg.split (t := 72) rfl (fun h72 => ?_) (fun h72 => absurd h72 (by simp))
        refine Rg.pure rfl rfl rfl (Pv.move rfl) ?_
        refine Rg.pure rfl rfl rfl (Pv.eql rfl rfl) ?_
        refine Rg.pure rfl rfl rfl (Pv.pickT rfl rfl) ?_
        refine Rg.pure rfl rfl rfl (Pv.move rfl) ?_
        refine Rg.split (t := 76) rfl (fun h76 => ?_) (fun h76 => absurd h76 (by simp))
        refine Rg.pure rfl rfl rfl (Pv.move rfl) ?_
        refine Rg.pure rfl rfl rfl (Pv.move rfl) ?_
        refine Rg.pure rfl rfl rfl (Pv.eql rfl rfl) ?_
        refine Rg.pure rfl rfl rfl (Pv.pickT rfl rfl) ?_
        refine Rg.pure rfl rfl rfl (Pv.move rfl) ?_
        refine Rg.split (t := 81) rfl (fun h81 => ?_) (fun h81 => absurd h81 (by rw [hwk]; simp))
        refine Rg.pure rfl rfl rfl (Pv.move rfl) ?_
        refine Rg.callH rfl rfl rfl (run_callF rfl) (fun F' hF' => keys_speci (F := F') hc4 (fun b o h => hF' b o (.inl (Sb.sub (seg := s4) _ h))) (by omega) (by show (dropE m w).length < _; omega)) rfl ?_
        rintro v83 s83 own83
        have hkl : ((dropE m w).map (·.1)).length = m := by rw [List.length_map]; exact hA5
        have own83 : Own keyEi v83 ((dropE m w).map (·.1)) s83 := own83
        generalize (dropE m w).map (·.1) = ks at own83 hkl
        obtain ⟨q83, c83, rfl⟩ := own83.shape
        refine Rg.pure rfl rfl rfl (Pv.lenS rfl) ?_
        refine Rg.pure rfl rfl rfl (Pv.move rfl) ?_
        refine Rg.pure rfl rfl rfl (Pv.eql rfl rfl) ?_
        refine Rg.pure rfl rfl rfl (Pv.pickT rfl rfl) ?_
        refine Rg.pure rfl rfl rfl (Pv.move rfl) ?_
        refine Rg.split (t := 88) rfl (fun h88 => ?_) (fun h88 => absurd h88 (by rw [hkl]; simp))
        refine Rg.pure rfl rfl rfl (Pv.move rfl) ?_
        refine Rg.pure rfl rfl rfl (Pv.move rfl) ?_
        refine Rg.callP rfl rfl rfl (run_callF rfl) (has_speci hc4 frz_sb (w : Int)) ?_
        rintro _ rfl
        refine Rg.pure rfl rfl rfl (Pv.not rfl) ?_
        refine Rg.pure rfl rfl rfl (Pv.pickT rfl rfl) ?_
        refine Rg.pure rfl rfl rfl (Pv.assign rfl) ?_
        refine Rg.nil ?_
        refine Vc.ret (Vc.rets rfl (.cons (.tmp rfl) (.nil)) ?_)
        exact congrArg Value.bool (by rw [show hasK (dropK (dropD m w ++ [((100 : Int), 0)]) (wantK m w) ++ [((101 : Int), 0)]) (w : Int) = false from hA6]; rfl)
    ·
      simp only [beq_eq_false_iff_ne, ne_eq] at h53
      refine Vc.skip ?_
      refine Vc.seq ?_
      refine Vc.seq ?_
      refine Vc.text (List.range 2) (sd [(0, .pure), (1, .pure)]) rfl ?_
      refine Rg.pure rfl rfl rfl (Pv.move rfl) ?_
      refine Rg.pure rfl rfl rfl (Pv.eql rfl rfl) ?_
      refine Rg.nil ?_
      refine Vc.cond rfl (fun h55 => ?_) (fun h55 => ?_)
      ·
        simp only [beq_iff_eq] at h55
        have hwk : wantK m w = 100 := by unfold wantK; rw [if_pos (by omega)]
        refine Vc.text (List.range 1) (sd [(0, .pure)]) rfl ?_
        refine Rg.pure rfl rfl rfl (Pv.assign rfl) ?_
        refine Rg.nil ?_
        refine Vc.seq ?_
        refine Vc.text (List.range 39) (sd [(0, .pure), (1, .pure), (2, .pure), (3, .pure), (4, .pure), (5, .pure), (6, .pure), (7, .pure), (8, .pure), (9, .pure), (10, .pure), (11, .pure), (12, .pure), (13, .pure), (14, .pure), (15, .pure), (16, .pure), (17, .pure), (18, .pure), (19, .pure), (20, .pure), (21, .pure), (22, .pure), (23, .pure), (24, .pure), (25, .pure), (26, .pure), (27, .eff), (28, .pure), (29, .pure), (30, .pure), (31, .pure), (32, .pure), (33, .pure), (34, .pure), (35, .eff), (36, .pure), (37, .pure), (38, .pure)]) rfl ?_
        refine Rg.pure rfl rfl rfl (Pv.move rfl) ?_
        refine Rg.pure rfl rfl rfl (Pv.move rfl) ?_
        refine Rg.split (t := 57) rfl (fun h57 => ?_) (fun h57 => absurd h57 (by simp))
        refine Rg.pure rfl rfl rfl (Pv.move rfl) ?_
        refine Rg.pure rfl rfl rfl (Pv.eql rfl rfl) ?_
        refine Rg.pure rfl rfl rfl (Pv.pickT rfl rfl) ?_
        refine Rg.pure rfl rfl rfl (Pv.move rfl) ?_
        refine Rg.split (t := 61) rfl (fun h61 => ?_) (fun h61 => absurd h61 (by simp))
        refine Rg.pure rfl rfl rfl (Pv.move rfl) ?_
        refine Rg.pure rfl rfl rfl (Pv.not rfl) ?_
        refine Rg.pure rfl rfl rfl (Pv.pickT rfl rfl) ?_
        refine Rg.pure rfl rfl rfl (Pv.move rfl) ?_
        refine Rg.split (t := 65) rfl (fun h65 => ?_) (fun h65 => absurd h65 (by simp))
        refine Rg.pure rfl rfl rfl (Pv.move rfl) ?_
        refine Rg.pure rfl rfl rfl (Pv.eql rfl rfl) ?_
        refine Rg.pure rfl rfl rfl (Pv.pickT rfl rfl) ?_
        refine Rg.pure rfl rfl rfl (Pv.move rfl) ?_
        refine Rg.split (t := 69) rfl (fun h69 => ?_) (fun h69 => absurd h69 (by simp))
        refine Rg.pure rfl rfl rfl (Pv.move rfl) ?_
        refine Rg.pure rfl rfl rfl (Pv.pickT rfl rfl) ?_
        refine Rg.pure rfl rfl rfl (Pv.move rfl) ?_
        refine Rg.split (t := 72) rfl (fun h72 => ?_) (fun h72 => absurd h72 (by simp))
        refine Rg.pure rfl rfl rfl (Pv.move rfl) ?_
        refine Rg.pure rfl rfl rfl (Pv.eql rfl rfl) ?_
        refine Rg.pure rfl rfl rfl (Pv.pickT rfl rfl) ?_
        refine Rg.pure rfl rfl rfl (Pv.move rfl) ?_
        refine Rg.split (t := 76) rfl (fun h76 => ?_) (fun h76 => absurd h76 (by simp))
        refine Rg.pure rfl rfl rfl (Pv.move rfl) ?_
        refine Rg.pure rfl rfl rfl (Pv.move rfl) ?_
        refine Rg.pure rfl rfl rfl (Pv.eql rfl rfl) ?_
        refine Rg.pure rfl rfl rfl (Pv.pickT rfl rfl) ?_
        refine Rg.pure rfl rfl rfl (Pv.move rfl) ?_
        refine Rg.split (t := 81) rfl (fun h81 => ?_) (fun h81 => absurd h81 (by rw [hwk]; simp))
        refine Rg.pure rfl rfl rfl (Pv.move rfl) ?_
        refine Rg.callH rfl rfl rfl (run_callF rfl) (fun F' hF' => keys_speci (F := F') hc4 (fun b o h => hF' b o (.inl (Sb.sub (seg := s4) _ h))) (by omega) (by show (dropE m w).length < _; omega)) rfl ?_
        rintro v83 s83 own83
        have hkl : ((dropE m w).map (·.1)).length = m := by rw [List.length_map]; exact hA5
        have own83 : Own keyEi v83 ((dropE m w).map (·.1)) s83 := own83
        generalize (dropE m w).map (·.1) = ks at own83 hkl
        obtain ⟨q83, c83, rfl⟩ := own83.shape
        refine Rg.pure rfl rfl rfl (Pv.lenS rfl) ?_
        refine Rg.pure rfl rfl rfl (Pv.move rfl) ?_
        refine Rg.pure rfl rfl rfl (Pv.eql rfl rfl) ?_
        refine Rg.pure rfl rfl rfl (Pv.pickT rfl rfl) ?_
        refine Rg.pure rfl rfl rfl (Pv.move rfl) ?_
        refine Rg.split (t := 88) rfl (fun h88 => ?_) (fun h88 => absurd h88 (by rw [hkl]; simp))
        refine Rg.pure rfl rfl rfl (Pv.move rfl) ?_
        refine Rg.pure rfl rfl rfl (Pv.move rfl) ?_
        refine Rg.callP rfl rfl rfl (run_callF rfl) (has_speci hc4 frz_sb (w : Int)) ?_
        rintro _ rfl
        refine Rg.pure rfl rfl rfl (Pv.not rfl) ?_
        refine Rg.pure rfl rfl rfl (Pv.pickT rfl rfl) ?_
        refine Rg.pure rfl rfl rfl (Pv.assign rfl) ?_
        refine Rg.nil ?_
        refine Vc.ret (Vc.rets rfl (.cons (.tmp rfl) (.nil)) ?_)
        exact congrArg Value.bool (by rw [show hasK (dropK (dropD m w ++ [((100 : Int), 0)]) (wantK m w) ++ [((101 : Int), 0)]) (w : Int) = false from hA6]; rfl)
      ·
        simp only [beq_eq_false_iff_ne, ne_eq] at h55
        have hwk : wantK m w = 0 := by unfold wantK; rw [if_neg (by omega), if_neg (by omega)]
        refine Vc.skip ?_
        refine Vc.seq ?_
        refine Vc.text (List.range 39) (sd [(0, .pure), (1, .pure), (2, .pure), (3, .pure), (4, .pure), (5, .pure), (6, .pure), (7, .pure), (8, .pure), (9, .pure), (10, .pure), (11, .pure), (12, .pure), (13, .pure), (14, .pure), (15, .pure), (16, .pure), (17, .pure), (18, .pure), (19, .pure), (20, .pure), (21, .pure), (22, .pure), (23, .pure), (24, .pure), (25, .pure), (26, .pure), (27, .eff), (28, .pure), (29, .pure), (30, .pure), (31, .pure), (32, .pure), (33, .pure), (34, .pure), (35, .eff), (36, .pure), (37, .pure), (38, .pure)]) rfl ?_
        refine Rg.pure rfl rfl rfl (Pv.move rfl) ?_
        refine Rg.pure rfl rfl rfl (Pv.move rfl) ?_
        refine Rg.split (t := 57) rfl (fun h57 => ?_) (fun h57 => absurd h57 (by simp))
        refine Rg.pure rfl rfl rfl (Pv.move rfl) ?_
        refine Rg.pure rfl rfl rfl (Pv.eql rfl rfl) ?_
        refine Rg.pure rfl rfl rfl (Pv.pickT rfl rfl) ?_
        refine Rg.pure rfl rfl rfl (Pv.move rfl) ?_
        refine Rg.split (t := 61) rfl (fun h61 => ?_) (fun h61 => absurd h61 (by simp))
        refine Rg.pure rfl rfl rfl (Pv.move rfl) ?_
        refine Rg.pure rfl rfl rfl (Pv.not rfl) ?_
        refine Rg.pure rfl rfl rfl (Pv.pickT rfl rfl) ?_
        refine Rg.pure rfl rfl rfl (Pv.move rfl) ?_
        refine Rg.split (t := 65) rfl (fun h65 => ?_) (fun h65 => absurd h65 (by simp))
        refine Rg.pure rfl rfl rfl (Pv.move rfl) ?_
        refine Rg.pure rfl rfl rfl (Pv.eql rfl rfl) ?_
        refine Rg.pure rfl rfl rfl (Pv.pickT rfl rfl) ?_
        refine Rg.pure rfl rfl rfl (Pv.move rfl) ?_
        refine Rg.split (t := 69) rfl (fun h69 => ?_) (fun h69 => absurd h69 (by simp))
        refine Rg.pure rfl rfl rfl (Pv.move rfl) ?_
        refine Rg.pure rfl rfl rfl (Pv.pickT rfl rfl) ?_
        refine Rg.pure rfl rfl rfl (Pv.move rfl) ?_
        refine Rg.split (t := 72) rfl (fun h72 => ?_) (fun h72 => absurd h72 (by simp))
        refine Rg.pure rfl rfl rfl (Pv.move rfl) ?_
        refine Rg.pure rfl rfl rfl (Pv.eql rfl rfl) ?_
        refine Rg.pure rfl rfl rfl (Pv.pickT rfl rfl) ?_
        refine Rg.pure rfl rfl rfl (Pv.move rfl) ?_
        refine Rg.split (t := 76) rfl (fun h76 => ?_) (fun h76 => absurd h76 (by simp))
        refine Rg.pure rfl rfl rfl (Pv.move rfl) ?_
        refine Rg.pure rfl rfl rfl (Pv.move rfl) ?_
        refine Rg.pure rfl rfl rfl (Pv.eql rfl rfl) ?_
        refine Rg.pure rfl rfl rfl (Pv.pickT rfl rfl) ?_
        refine Rg.pure rfl rfl rfl (Pv.move rfl) ?_
        refine Rg.split (t := 81) rfl (fun h81 => ?_) (fun h81 => absurd h81 (by rw [hwk]; simp))
        refine Rg.pure rfl rfl rfl (Pv.move rfl) ?_
        refine Rg.callH rfl rfl rfl (run_callF rfl) (fun F' hF' => keys_speci (F := F') hc4 (fun b o h => hF' b o (.inl (Sb.sub (seg := s4) _ h))) (by omega) (by show (dropE m w).length < _; omega)) rfl ?_
        rintro v83 s83 own83
        have hkl : ((dropE m w).map (·.1)).length = m := by rw [List.length_map]; exact hA5
        have own83 : Own keyEi v83 ((dropE m w).map (·.1)) s83 := own83
        generalize (dropE m w).map (·.1) = ks at own83 hkl
        obtain ⟨q83, c83, rfl⟩ := own83.shape
        refine Rg.pure rfl rfl rfl (Pv.lenS rfl) ?_
        refine Rg.pure rfl rfl rfl (Pv.move rfl) ?_
        refine Rg.pure rfl rfl rfl (Pv.eql rfl rfl) ?_
        refine Rg.pure rfl rfl rfl (Pv.pickT rfl rfl) ?_
        refine Rg.pure rfl rfl rfl (Pv.move rfl) ?_
        refine Rg.split (t := 88) rfl (fun h88 => ?_) (fun h88 => absurd h88 (by rw [hkl]; simp))
        refine Rg.pure rfl rfl rfl (Pv.move rfl) ?_
        refine Rg.pure rfl rfl rfl (Pv.move rfl) ?_
        refine Rg.callP rfl rfl rfl (run_callF rfl) (has_speci hc4 frz_sb (w : Int)) ?_
        rintro _ rfl
        refine Rg.pure rfl rfl rfl (Pv.not rfl) ?_
        refine Rg.pure rfl rfl rfl (Pv.pickT rfl rfl) ?_
        refine Rg.pure rfl rfl rfl (Pv.assign rfl) ?_
        refine Rg.nil ?_
        refine Vc.ret (Vc.rets rfl (.cons (.tmp rfl) (.nil)) ?_)
        exact congrArg Value.bool (by rw [show hasK (dropK (dropD m w ++ [((100 : Int), 0)]) (wantK m w) ++ [((101 : Int), 0)]) (w : Int) = false from hA6]; rfl)
end Go.Proofs.Ytigkckpjbnflpaa
