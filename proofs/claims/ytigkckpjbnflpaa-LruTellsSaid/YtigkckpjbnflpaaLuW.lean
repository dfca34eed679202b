/- What the statements show first. -/
import Derived.Test.YtigkckpjbnflpaaLuVs
namespace Go.Proofs.Ytigkckpjbnflpaa
set_option linter.unusedVariables false
abbrev ka : KTs := ⟨#[97]⟩
abbrev kb : KTs := ⟨#[98]⟩
abbrev kc : KTs := ⟨#[99]⟩
abbrev kd : KTs := ⟨#[100]⟩
theorem show_a : useK zs 2 [] ka = some ([], 0, zs, false) := by decide
theorem show_b : useK zs 2 [(ka, 0)] kb = some ([(ka, 0)], 0, zs, false) := by decide
theorem show_c : useK zs 2 [(ka, 0), (kb, 0)] ka = some ([(kb, 0)], 0, zs, false) := by decide
theorem show_d : useK zs 2 [(kb, 0), (ka, 0)] kc = some ([(ka, 0)], 0, kb, true) := by decide
theorem show_e : useK zs 2 [(ka, 1), (kc, 1)] kd = none := by decide

theorem shown_spec (F : Fm) : Spec Try.prog 10 #[] F [] fun v _ => v = .bool true := by
  refine Spec.of (n := 87) (vs := []) Try.func10 rfl Try.ntmps10 rfl ?_
  refine Vc.seq ?_
  refine Vc.text (List.range 1) (sd [(0, .pure)]) rfl ?_
  refine Rg.pure rfl rfl rfl (Pv.assign rfl) ?_
  refine Rg.nil ?_
  refine Vc.seq ?_
  refine Vc.text (List.range 2) (sd [(0, .eff), (1, .pure)]) rfl ?_
  refine Rg.callH rfl rfl rfl (run_callF rfl) (fun F' hF' => new_specs F' 2 (by omega)) rfl ?_
  rintro _ s1 ⟨cb, rfl, h1⟩
  rw [show (max (2 : Int) 1).toNat = 2 by decide] at h1
  refine Rg.pure rfl rfl rfl (Pv.assign rfl) ?_
  refine Rg.nil ?_
  refine Vc.seq ?_
  refine Vc.seq ?_
  refine Vc.text (List.range 2) (sd [(0, .pure), (1, .pure)]) rfl ?_
  refine Rg.pure rfl rfl rfl (Pv.move rfl) ?_
  refine Rg.pure rfl rfl rfl (Pv.eqlNil rfl rfl) ?_
  refine Rg.nil ?_
  refine Vc.cond rfl (fun h15 => absurd h15 (by simp)) (fun h15 => ?_)
  refine Vc.skip ?_
  refine Vc.seq ?_
  refine Vc.text (List.range 2) (sd [(0, .pure), (1, .eff)]) rfl ?_
  refine Rg.pure rfl rfl rfl (Pv.move rfl) ?_
  refine Rg.callH rfl rfl rfl (run_callF rfl) (fun F' hF' => use_somes F' h1 ka (by omega) (by simp) show_a) rfl ?_
  rintro _ s2 ⟨rfl, h2⟩
  refine Rg.nil ?_
  refine Vc.seq ?_
  refine Vc.text (List.range 2) (sd [(0, .pure), (1, .eff)]) rfl ?_
  refine Rg.pure rfl rfl rfl (Pv.move rfl) ?_
  refine Rg.callH rfl rfl rfl (run_callF rfl) (fun F' hF' => use_somes F' h2 kb (by omega) (by simp) show_b) rfl ?_
  rintro _ s3 ⟨rfl, h3⟩
  refine Rg.nil ?_
  refine Vc.seq ?_
  refine Vc.text (List.range 2) (sd [(0, .pure), (1, .eff)]) rfl ?_
  refine Rg.pure rfl rfl rfl (Pv.move rfl) ?_
  refine Rg.callH rfl rfl rfl (run_callF rfl) (fun F' hF' => use_somes F' h3 ka (by omega) (by simp) show_c) rfl ?_
  rintro _ s4 ⟨rfl, h4⟩
  refine Rg.nil ?_
  refine Vc.seq ?_
  refine Vc.text (List.range 9) (sd [(0, .pure), (1, .eff), (2, .pure), (3, .pure), (4, .pure), (5, .pure), (6, .pure), (7, .pure), (8, .pure)]) rfl ?_
  refine Rg.pure rfl rfl rfl (Pv.move rfl) ?_
  refine Rg.callH rfl rfl rfl (run_callF rfl) (fun F' hF' => use_somes F' h4 kc (by omega) (by simp) show_d) rfl ?_
  rintro _ s5 ⟨rfl, h5⟩
  refine Rg.pure rfl rfl rfl (Pv.move rfl) ?_
  refine Rg.pure rfl rfl rfl (Pv.extract rfl rfl) ?_
  refine Rg.pure rfl rfl rfl (Pv.extract rfl rfl) ?_
  refine Rg.pure rfl rfl rfl (Pv.extract rfl rfl) ?_
  refine Rg.pure rfl rfl rfl (Pv.assign rfl) ?_
  refine Rg.pure rfl rfl rfl (Pv.assign rfl) ?_
  refine Rg.pure rfl rfl rfl (Pv.assign rfl) ?_
  refine Rg.nil ?_
  refine Vc.seq ?_
  refine Vc.text (List.range 3) (sd [(0, .pure), (1, .eff), (2, .pure)]) rfl ?_
  refine Rg.pure rfl rfl rfl (Pv.move rfl) ?_
  refine Rg.callH rfl rfl rfl (run_callF rfl) (fun F' hF' => pin_specs F' h5 ka (by simp)) rfl ?_
  rintro _ s6 ⟨rfl, h6⟩
  have e6 : (if hasK ([(ka, 0)] ++ [(kc, 0)]) ka = true then setK ([(ka, 0)] ++ [(kc, 0)]) ka (pinsK ([(ka, 0)] ++ [(kc, 0)]) ka + 1) else ([(ka, 0)] ++ [(kc, 0)])) = [(ka, 1), (kc, 0)] := by decide
  rw [e6] at h6
  refine Rg.pure rfl rfl rfl (Pv.assign rfl) ?_
  refine Rg.nil ?_
  refine Vc.seq ?_
  refine Vc.text (List.range 3) (sd [(0, .pure), (1, .eff), (2, .pure)]) rfl ?_
  refine Rg.pure rfl rfl rfl (Pv.move rfl) ?_
  refine Rg.callH rfl rfl rfl (run_callF rfl) (fun F' hF' => pin_specs F' h6 kc (by simp)) rfl ?_
  rintro _ s7 ⟨rfl, h7⟩
  have e7 : (if hasK [(ka, 1), (kc, 0)] kc = true then setK [(ka, 1), (kc, 0)] kc (pinsK [(ka, 1), (kc, 0)] kc + 1) else [(ka, 1), (kc, 0)]) = [(ka, 1), (kc, 1)] := by decide
  rw [e7] at h7
  refine Rg.pure rfl rfl rfl (Pv.assign rfl) ?_
  refine Rg.nil ?_
  refine Vc.seq ?_
  refine Vc.text (List.range 9) (sd [(0, .pure), (1, .eff), (2, .pure), (3, .pure), (4, .pure), (5, .pure), (6, .pure), (7, .pure), (8, .pure)]) rfl ?_
  refine Rg.pure rfl rfl rfl (Pv.move rfl) ?_
  refine Rg.callH rfl rfl rfl (run_callF rfl) (fun F' hF' => use_nones F' h7 kd (by omega) (by simp) show_e) rfl ?_
  rintro _ s8 ⟨rfl, h8⟩
  refine Rg.pure rfl rfl rfl (Pv.move rfl) ?_
  refine Rg.pure rfl rfl rfl (Pv.extract rfl rfl) ?_
  refine Rg.pure rfl rfl rfl (Pv.extract rfl rfl) ?_
  refine Rg.pure rfl rfl rfl (Pv.extract rfl rfl) ?_
  refine Rg.pure rfl rfl rfl (Pv.assign rfl) ?_
  refine Rg.pure rfl rfl rfl (Pv.assign rfl) ?_
  refine Rg.pure rfl rfl rfl (Pv.assign rfl) ?_
  refine Rg.nil ?_
  refine Vc.seq ?_
  refine Vc.text (List.range 3) (sd [(0, .pure), (1, .eff), (2, .pure)]) rfl ?_
  refine Rg.pure rfl rfl rfl (Pv.move rfl) ?_
  refine Rg.callH rfl rfl rfl (run_callF rfl) (fun F' hF' => drop_specs F' h8 ka) rfl ?_
  rintro _ s9 ⟨rfl, h9⟩
  have e9 : (if hasK [(ka, 1), (kc, 1)] ka = true then if 0 < pinsK [(ka, 1), (kc, 1)] ka then [(ka, 1), (kc, 1)] else dropK [(ka, 1), (kc, 1)] ka else [(ka, 1), (kc, 1)]) = [(ka, 1), (kc, 1)] := by decide
  rw [e9] at h9
  refine Rg.pure rfl rfl rfl (Pv.assign rfl) ?_
  refine Rg.nil ?_
  refine Vc.seq ?_
  refine Vc.text (List.range 3) (sd [(0, .pure), (1, .eff), (2, .pure)]) rfl ?_
  refine Rg.pure rfl rfl rfl (Pv.move rfl) ?_
  refine Rg.callH rfl rfl rfl (run_callF rfl) (fun F' hF' => unpin_specs F' h9 ka (by simp)) rfl ?_
  rintro _ s10 ⟨rfl, h10⟩
  have e10 : (if hasK [(ka, 1), (kc, 1)] ka = true then setK [(ka, 1), (kc, 1)] ka (pinsK [(ka, 1), (kc, 1)] ka - 1) else [(ka, 1), (kc, 1)]) = [(ka, 0), (kc, 1)] := by decide
  rw [e10] at h10
  refine Rg.pure rfl rfl rfl (Pv.assign rfl) ?_
  refine Rg.nil ?_
  refine Vc.seq ?_
  refine Vc.text (List.range 3) (sd [(0, .pure), (1, .eff), (2, .pure)]) rfl ?_
  refine Rg.pure rfl rfl rfl (Pv.move rfl) ?_
  refine Rg.callH rfl rfl rfl (run_callF rfl) (fun F' hF' => drop_specs F' h10 ka) rfl ?_
  rintro _ s11 ⟨rfl, h11⟩
  have e11 : (if hasK [(ka, 0), (kc, 1)] ka = true then if 0 < pinsK [(ka, 0), (kc, 1)] ka then [(ka, 0), (kc, 1)] else dropK [(ka, 0), (kc, 1)] ka else [(ka, 0), (kc, 1)]) = [(kc, 1)] := by decide
  rw [e11] at h11
  refine Rg.pure rfl rfl rfl (Pv.assign rfl) ?_
  refine Rg.nil ?_
  refine Vc.seq ?_
  refine Vc.text (List.range 44) (sd [(0, .pure), (1, .pure), (2, .pure), (3, .pure), (4, .pure), (5, .pure), (6, .pure), (7, .pure), (8, .pure), (9, .pure), (10, .pure), (11, .pure), (12, .pure), (13, .pure), (14, .pure), (15, .pure), (16, .pure), (17, .pure), (18, .pure), (19, .pure), (20, .pure), (21, .pure), (22, .pure), (23, .pure), (24, .pure), (25, .pure), (26, .pure), (27, .pure), (28, .pure), (29, .pure), (30, .pure), (31, .pure), (32, .pure), (33, .pure), (34, .pure), (35, .eff), (36, .pure), (37, .pure), (38, .pure), (39, .eff), (40, .pure), (41, .pure), (42, .pure), (43, .pure)]) rfl ?_
  refine Rg.pure rfl rfl rfl (Pv.move rfl) ?_
  refine Rg.pure rfl rfl rfl (Pv.eqlS rfl rfl) ?_
  refine Rg.pure rfl rfl rfl (Pv.move rfl) ?_
  refine Rg.split (t := 46) rfl (fun h46 => ?_) (fun h46 => absurd h46 (by decide))
  refine Rg.pure rfl rfl rfl (Pv.move rfl) ?_
  refine Rg.pure rfl rfl rfl (Pv.pickT rfl rfl) ?_
  refine Rg.pure rfl rfl rfl (Pv.move rfl) ?_
  refine Rg.split (t := 49) rfl (fun h49 => ?_) (fun h49 => absurd h49 (by decide))
  refine Rg.pure rfl rfl rfl (Pv.move rfl) ?_
  refine Rg.pure rfl rfl rfl (Pv.eql rfl rfl) ?_
  refine Rg.pure rfl rfl rfl (Pv.pickT rfl rfl) ?_
  refine Rg.pure rfl rfl rfl (Pv.move rfl) ?_
  refine Rg.split (t := 53) rfl (fun h53 => ?_) (fun h53 => absurd h53 (by decide))
  refine Rg.pure rfl rfl rfl (Pv.move rfl) ?_
  refine Rg.pure rfl rfl rfl (Pv.eql rfl rfl) ?_
  refine Rg.pure rfl rfl rfl (Pv.pickT rfl rfl) ?_
  refine Rg.pure rfl rfl rfl (Pv.move rfl) ?_
  refine Rg.split (t := 57) rfl (fun h57 => ?_) (fun h57 => absurd h57 (by decide))
  refine Rg.pure rfl rfl rfl (Pv.move rfl) ?_
  refine Rg.pure rfl rfl rfl (Pv.eql rfl rfl) ?_
  refine Rg.pure rfl rfl rfl (Pv.pickT rfl rfl) ?_
  refine Rg.pure rfl rfl rfl (Pv.move rfl) ?_
  refine Rg.split (t := 61) rfl (fun h61 => ?_) (fun h61 => absurd h61 (by decide))
  refine Rg.pure rfl rfl rfl (Pv.move rfl) ?_
  refine Rg.pure rfl rfl rfl (Pv.eql rfl rfl) ?_
  refine Rg.pure rfl rfl rfl (Pv.pickT rfl rfl) ?_
  refine Rg.pure rfl rfl rfl (Pv.move rfl) ?_
  refine Rg.split (t := 65) rfl (fun h65 => ?_) (fun h65 => absurd h65 (by decide))
  refine Rg.pure rfl rfl rfl (Pv.move rfl) ?_
  refine Rg.pure rfl rfl rfl (Pv.eql rfl rfl) ?_
  refine Rg.pure rfl rfl rfl (Pv.pickT rfl rfl) ?_
  refine Rg.pure rfl rfl rfl (Pv.move rfl) ?_
  refine Rg.split (t := 69) rfl (fun h69 => ?_) (fun h69 => absurd h69 (by decide))
  refine Rg.pure rfl rfl rfl (Pv.move rfl) ?_
  refine Rg.pure rfl rfl rfl (Pv.eql rfl rfl) ?_
  refine Rg.pure rfl rfl rfl (Pv.pickT rfl rfl) ?_
  refine Rg.pure rfl rfl rfl (Pv.move rfl) ?_
  refine Rg.split (t := 73) rfl (fun h73 => ?_) (fun h73 => absurd h73 (by decide))
  refine Rg.pure rfl rfl rfl (Pv.move rfl) ?_
  refine Rg.pure rfl rfl rfl (Pv.eql rfl rfl) ?_
  refine Rg.pure rfl rfl rfl (Pv.pickT rfl rfl) ?_
  refine Rg.pure rfl rfl rfl (Pv.move rfl) ?_
  refine Rg.split (t := 77) rfl (fun h77 => ?_) (fun h77 => absurd h77 (by decide))
  refine Rg.pure rfl rfl rfl (Pv.move rfl) ?_
  refine Rg.callP rfl rfl rfl (run_callF rfl) (has_specs h11 frz_sb kc) ?_
  rintro _ rfl
  refine Rg.pure rfl rfl rfl (Pv.pickT rfl rfl) ?_
  refine Rg.pure rfl rfl rfl (Pv.move rfl) ?_
  refine Rg.split (t := 81) rfl (fun h81 => ?_) (fun h81 => absurd h81 (by decide))
  refine Rg.pure rfl rfl rfl (Pv.move rfl) ?_
  refine Rg.callH rfl rfl rfl (run_callF rfl) (fun F' hF' => keys_specs (F := F') h11 (fun b o h => hF' b o (.inl (Sb.sub (seg := s11) _ h))) (by omega) (by simp)) rfl ?_
  rintro v83 s83 own83
  obtain ⟨pk, ck, rfl⟩ := own83.shape
  refine Rg.pure rfl rfl rfl (Pv.lenS rfl) ?_
  refine Rg.pure rfl rfl rfl (Pv.eql rfl rfl) ?_
  refine Rg.pure rfl rfl rfl (Pv.pickT rfl rfl) ?_
  refine Rg.pure rfl rfl rfl (Pv.assign rfl) ?_
  refine Rg.nil ?_
  refine Vc.ret (Vc.rets rfl (.cons (.tmp rfl) (.nil)) ?_)
  exact congrArg Value.bool (by decide)
end Go.Proofs.Ytigkckpjbnflpaa
