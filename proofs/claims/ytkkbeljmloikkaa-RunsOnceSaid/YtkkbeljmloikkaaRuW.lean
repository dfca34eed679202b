/- What the statements show first. -/
import Derived.Test.YtkkbeljmloikkaaRuO
namespace Go.Proofs.Ytkkbeljmloikkaa
set_option linter.unusedVariables false

theorem sort_is {l zs : List Rc} (h : zs.isPerm l = true) (hr : Rises zs) : sortL l = zs := (sortL_of (List.isPerm_iff.1 h) hr).symm
theorem sh_a : sortedG 1 [⟨2, 5⟩, ⟨1, 1⟩, ⟨2, 3⟩] = [⟨1, 1⟩, ⟨2, 8⟩] := by
  rw [sortedG, sort_is (zs := [⟨1, 1⟩, ⟨2, 3⟩, ⟨2, 5⟩]) (by decide) (by unfold Rises; decide)]
  decide
theorem sh_b : cutG (Int.toNat 2) 0 [⟨2, 0⟩, ⟨1, 0⟩, ⟨0, 0⟩] = [[⟨1, 0⟩, ⟨2, 0⟩], [⟨0, 0⟩]] := by
  have h1 : sortedG 0 [⟨2, 0⟩, ⟨1, 0⟩] = [⟨1, 0⟩, ⟨2, 0⟩] := by rw [sortedG_zero]; exact sort_is (by decide) (by unfold Rises; decide)
  have h2 : sortedG 0 [⟨0, 0⟩] = [⟨0, 0⟩] := by rw [sortedG_zero]; exact sort_is (by decide) (by unfold Rises; decide)
  show [sortedG 0 [⟨2, 0⟩, ⟨1, 0⟩], sortedG 0 [⟨0, 0⟩]] = _
  rw [h1, h2]
theorem sh_c : sortedG 0 ([[⟨1, 0⟩, ⟨2, 0⟩], [⟨0, 0⟩]] : List (List Rc)).flatten = [⟨0, 0⟩, ⟨1, 0⟩, ⟨2, 0⟩] := by
  rw [sortedG_zero]; exact sort_is (by decide) (by unfold Rises; decide)
set_option maxHeartbeats 1000000 in
theorem shown_spec (F : Fm) : Spec Try.prog 11 #[] F [] fun v _ => v = .bool true := by
  refine Spec.of (n := 104) (vs := []) Try.func11 rfl Try.ntmps11 rfl ?_
  refine Vc.seq ?_
  refine Vc.text (List.range 1) (sd [(0, .pure)]) rfl ?_
  refine Rg.pure rfl rfl rfl (Pv.assign rfl) ?_
  refine Rg.nil ?_
  refine Vc.seq ?_
  refine Vc.text (List.range 10) (sd [(0, .pure), (1, .pure), (2, .pure), (3, .eff), (4, .eff), (5, .pure), (6, .pure), (7, .pure), (8, .pure), (9, .pure)]) rfl ?_
  refine Rg.pure rfl rfl rfl (Pv.build (c := #[.int .u64 2, .int .u64 5]) rfl rfl) ?_
  refine Rg.pure rfl rfl rfl (Pv.build (c := #[.int .u64 1, .int .u64 1]) rfl rfl) ?_
  refine Rg.pure rfl rfl rfl (Pv.build (c := #[.int .u64 2, .int .u64 3]) rfl rfl) ?_
  refine Rg.bsliceR (E := recE) (cs := [.int .u64 2, .int .u64 5, .int .u64 1, .int .u64 1, .int .u64 2, .int .u64 3]) [⟨2, 5⟩, ⟨1, 1⟩, ⟨2, 3⟩] rfl rfl rfl rfl rfl rfl rfl (by rfl) rfl (by decide) (fun b15 own15 => ?_)
  refine Rg.callA rfl rfl rfl (run_callF rfl) (sorted_spec (Arg.own own15 frz_sb) (by decide) (by simp [NR]) 1) ?_
  rintro _ s16 ⟨u16, er, rfl, h16⟩
  obtain ⟨_, rfl, own16⟩ := h16.resolve_right (fun h => absurd h.1 (by decide))
  rw [sh_a] at own16
  obtain ⟨b16, c16, sp16, rfl, rfl, _, _⟩ := own16.block (by decide)
  refine Rg.pure rfl rfl rfl (Pv.move rfl) ?_
  refine Rg.pure rfl rfl rfl (Pv.extract rfl rfl) ?_
  refine Rg.pure rfl rfl rfl (Pv.extract rfl rfl) ?_
  refine Rg.pure rfl rfl rfl (Pv.assign rfl) ?_
  refine Rg.pure rfl rfl rfl (Pv.assign rfl) ?_
  refine Rg.nil ?_
  refine Vc.seq ?_
  refine Vc.text (List.range 10) (sd [(0, .pure), (1, .pure), (2, .pure), (3, .eff), (4, .eff), (5, .pure), (6, .pure), (7, .pure), (8, .pure), (9, .pure)]) rfl ?_
  refine Rg.pure rfl rfl rfl (Pv.build (c := #[.int .u64 2, .int .u64 0]) rfl rfl) ?_
  refine Rg.pure rfl rfl rfl (Pv.build (c := #[.int .u64 1, .int .u64 0]) rfl rfl) ?_
  refine Rg.pure rfl rfl rfl (Pv.build (c := #[.int .u64 0, .int .u64 0]) rfl rfl) ?_
  refine Rg.bsliceR (E := recE) (cs := [.int .u64 2, .int .u64 0, .int .u64 1, .int .u64 0, .int .u64 0, .int .u64 0]) [⟨2, 0⟩, ⟨1, 0⟩, ⟨0, 0⟩] rfl rfl rfl rfl rfl rfl rfl (by rfl) rfl (by decide) (fun b23 own23 => ?_)
  refine Rg.callA rfl rfl rfl (run_callF rfl) (cut_spec (Arg.own own23 frz_sb) (by decide) (by simp [NR]) 2 0 (by decide)) ?_
  rintro _ s24 ⟨u24, er, rfl, h24⟩
  obtain ⟨_, _, rfl, vs, s0, s1, own24, owns24, rfl⟩ := h24.resolve_right (fun h => absurd h.1 (by decide))
  rw [sh_b] at owns24
  have hvl : vs.length = 2 := owns24.len
  obtain ⟨b24, c24, sp24, rfl, rfl, _, _⟩ := own24.block (by omega)
  rw [hvl] at own24 ⊢
  rw [List.append_assoc]
  have ha0 := owns24.arg (F := frz F s1) (fun b o hb => Or.inl hb) 0 (by decide)
  obtain ⟨⟨p0, m0, c0⟩, hv0⟩ : ∃ s, vs[0]! = s := ⟨_, rfl⟩
  rw [hv0] at ha0
  obtain ⟨b0, off0, c0', e0, _⟩ := ha0.block (by decide)
  cases e0
  refine Rg.pure rfl rfl rfl (Pv.move rfl) ?_
  refine Rg.pure rfl rfl rfl (Pv.extract rfl rfl) ?_
  refine Rg.pure rfl rfl rfl (Pv.extract rfl rfl) ?_
  refine Rg.pure rfl rfl rfl (Pv.assign rfl) ?_
  refine Rg.pure rfl rfl rfl (Pv.assign rfl) ?_
  refine Rg.nil ?_
  refine Vc.seq ?_
  refine Vc.text (List.range 7) (sd [(0, .pure), (1, .eff), (2, .pure), (3, .pure), (4, .pure), (5, .pure), (6, .pure)]) rfl ?_
  refine Rg.pure rfl rfl rfl (Pv.move rfl) ?_
  refine Rg.callA rfl rfl rfl (run_callF rfl) (merge_spec (ls := vs) (xss := [[⟨1, 0⟩, ⟨2, 0⟩], [⟨0, 0⟩]]) ⟨Arg.own own24 frz_sb, hvl, owns24.arg frz_sb⟩ (by decide) (by decide) (by simp [NR]) 0) ?_
  rintro _ s29 ⟨u29, er, rfl, h29⟩
  obtain ⟨_, rfl, own29⟩ := h29.resolve_right (fun h => absurd h.1 (by decide))
  rw [sh_c] at own29
  obtain ⟨b29, c29, sp29, rfl, rfl, _, _⟩ := own29.block (by decide)
  refine Rg.pure rfl rfl rfl (Pv.move rfl) ?_
  refine Rg.pure rfl rfl rfl (Pv.extract rfl rfl) ?_
  refine Rg.pure rfl rfl rfl (Pv.extract rfl rfl) ?_
  refine Rg.pure rfl rfl rfl (Pv.assign rfl) ?_
  refine Rg.pure rfl rfl rfl (Pv.assign rfl) ?_
  refine Rg.nil ?_
  refine Vc.seq ?_
  refine Vc.text (List.range 6) (sd [(0, .eff), (1, .pure), (2, .pure), (3, .pure), (4, .pure), (5, .pure)]) rfl ?_
  refine Rg.callA rfl rfl rfl (run_callF rfl) (merge_spec (ls := []) (xss := []) ⟨Arg.nil, rfl, fun i hi => by simp at hi⟩ (by decide) (by decide) (by simp [NR]) 3) ?_
  rintro _ s33 ⟨u33, er, rfl, h33⟩
  obtain ⟨_, rfl, rfl⟩ := h33.resolve_left (fun h => absurd h.1 (by decide))
  refine Rg.pure rfl rfl rfl (Pv.move rfl) ?_
  refine Rg.pure rfl rfl rfl (Pv.extract rfl rfl) ?_
  refine Rg.pure rfl rfl rfl (Pv.extract rfl rfl) ?_
  refine Rg.pure rfl rfl rfl (Pv.assign rfl) ?_
  refine Rg.pure rfl rfl rfl (Pv.assign rfl) ?_
  refine Rg.nil ?_
  refine Vc.seq ?_
  refine Vc.text (List.range 6) (sd [(0, .eff), (1, .pure), (2, .pure), (3, .pure), (4, .pure), (5, .pure)]) rfl ?_
  refine Rg.callA rfl rfl rfl (run_callF rfl) (cut_spec (xs := []) Arg.nil (by decide) (by simp [NR]) 0 1 (by decide)) ?_
  rintro _ s37 ⟨u37, er, rfl, h37⟩
  obtain ⟨_, rfl, rfl⟩ := h37.resolve_left (fun h => absurd h.1 (by decide))
  refine Rg.pure rfl rfl rfl (Pv.move rfl) ?_
  refine Rg.pure rfl rfl rfl (Pv.extract rfl rfl) ?_
  refine Rg.pure rfl rfl rfl (Pv.extract rfl rfl) ?_
  refine Rg.pure rfl rfl rfl (Pv.assign rfl) ?_
  refine Rg.pure rfl rfl rfl (Pv.assign rfl) ?_
  refine Rg.nil ?_
  refine Vc.seq ?_
  refine Vc.text (List.range 65) (sd [(0, .pure), (1, .pure), (2, .pure), (3, .pure), (4, .pure), (5, .pure), (6, .pure), (7, .pure), (8, .pure), (9, .pure), (10, .pure), (11, .read), (12, .pure), (13, .pure), (14, .pure), (15, .pure), (16, .pure), (17, .pure), (18, .pure), (19, .pure), (20, .pure), (21, .pure), (22, .pure), (23, .pure), (24, .pure), (25, .pure), (26, .read), (27, .pure), (28, .pure), (29, .read), (30, .pure), (31, .pure), (32, .pure), (33, .pure), (34, .pure), (35, .pure), (36, .pure), (37, .pure), (38, .pure), (39, .pure), (40, .pure), (41, .pure), (42, .pure), (43, .pure), (44, .pure), (45, .read), (46, .pure), (47, .pure), (48, .pure), (49, .pure), (50, .pure), (51, .pure), (52, .pure), (53, .pure), (54, .pure), (55, .pure), (56, .pure), (57, .eff), (58, .pure), (59, .pure), (60, .pure), (61, .eff), (62, .pure), (63, .pure), (64, .pure)]) rfl ?_
  refine Rg.pure rfl rfl rfl (Pv.move rfl) ?_
  refine Rg.pure rfl rfl rfl (Pv.eql rfl rfl) ?_
  refine Rg.pure rfl rfl rfl (Pv.move rfl) ?_
  refine Rg.split (t := 42) rfl (fun h42 => ?_) (fun h42 => absurd h42 (by decide))
  refine Rg.pure rfl rfl rfl (Pv.move rfl) ?_
  refine Rg.pure rfl rfl rfl (Pv.lenS rfl) ?_
  refine Rg.pure rfl rfl rfl (Pv.eql rfl rfl) ?_
  refine Rg.pure rfl rfl rfl (Pv.pickT rfl rfl) ?_
  refine Rg.pure rfl rfl rfl (Pv.move rfl) ?_
  refine Rg.split (t := 47) rfl (fun h47 => ?_) (fun h47 => absurd h47 (by decide))
  refine Rg.pure rfl rfl rfl (Pv.move rfl) ?_
  refine Rg.pure rfl rfl rfl (Pv.ixA 1 rfl rfl (by decide) (by decide)) ?_
  refine Rg.pure rfl rfl rfl (Pv.fa rfl) ?_
  refine Rg.read rfl rfl rfl (Ev.ldRf (E := recE) (u := .int .u64 8) 1 1 rfl rfl (by decide) rfl) ?_
  refine Rg.pure rfl rfl rfl (Pv.eql rfl rfl) ?_
  refine Rg.pure rfl rfl rfl (Pv.pickT rfl rfl) ?_
  refine Rg.pure rfl rfl rfl (Pv.move rfl) ?_
  refine Rg.split (t := 54) rfl (fun h54 => ?_) (fun h54 => absurd h54 (by decide))
  refine Rg.pure rfl rfl rfl (Pv.move rfl) ?_
  refine Rg.pure rfl rfl rfl (Pv.eql rfl rfl) ?_
  refine Rg.pure rfl rfl rfl (Pv.pickT rfl rfl) ?_
  refine Rg.pure rfl rfl rfl (Pv.move rfl) ?_
  refine Rg.split (t := 58) rfl (fun h58 => ?_) (fun h58 => absurd h58 (by decide))
  refine Rg.pure rfl rfl rfl (Pv.move rfl) ?_
  refine Rg.pure rfl rfl rfl (Pv.lenS rfl) ?_
  refine Rg.pure rfl rfl rfl (Pv.eql rfl rfl) ?_
  refine Rg.pure rfl rfl rfl (Pv.pickT rfl rfl) ?_
  refine Rg.pure rfl rfl rfl (Pv.move rfl) ?_
  refine Rg.split (t := 63) rfl (fun h63 => ?_) (fun h63 => absurd h63 (by decide))
  refine Rg.pure rfl rfl rfl (Pv.move rfl) ?_
  refine Rg.pure rfl rfl rfl (Pv.ixA 0 rfl rfl (by decide) (by decide)) ?_
  refine Rg.read rfl rfl rfl (Ev.as (.slice (some ⟨b0, off0, none⟩) 2 c0) (Ev.ldR (E := slE) 0 rfl rfl (by omega)) (congrArg slE.val hv0)) ?_
  refine Rg.pure rfl rfl rfl (Pv.ixA 0 rfl rfl (by decide) (by decide)) ?_
  refine Rg.pure rfl rfl rfl (Pv.fa rfl) ?_
  refine Rg.read rfl rfl rfl (Ev.ldSf (E := recE) (u := .int .u64 1) 0 0 ha0.srcF rfl rfl rfl (by decide) rfl) ?_
  refine Rg.pure rfl rfl rfl (Pv.eql rfl rfl) ?_
  refine Rg.pure rfl rfl rfl (Pv.pickT rfl rfl) ?_
  refine Rg.pure rfl rfl rfl (Pv.move rfl) ?_
  refine Rg.split (t := 72) rfl (fun h72 => ?_) (fun h72 => absurd h72 (by decide))
  refine Rg.pure rfl rfl rfl (Pv.move rfl) ?_
  refine Rg.pure rfl rfl rfl (Pv.eql rfl rfl) ?_
  refine Rg.pure rfl rfl rfl (Pv.pickT rfl rfl) ?_
  refine Rg.pure rfl rfl rfl (Pv.move rfl) ?_
  refine Rg.split (t := 76) rfl (fun h76 => ?_) (fun h76 => absurd h76 (by decide))
  refine Rg.pure rfl rfl rfl (Pv.move rfl) ?_
  refine Rg.pure rfl rfl rfl (Pv.lenS rfl) ?_
  refine Rg.pure rfl rfl rfl (Pv.eql rfl rfl) ?_
  refine Rg.pure rfl rfl rfl (Pv.pickT rfl rfl) ?_
  refine Rg.pure rfl rfl rfl (Pv.move rfl) ?_
  refine Rg.split (t := 81) rfl (fun h81 => ?_) (fun h81 => absurd h81 (by decide))
  refine Rg.pure rfl rfl rfl (Pv.move rfl) ?_
  refine Rg.pure rfl rfl rfl (Pv.ixA 0 rfl rfl (by decide) (by decide)) ?_
  refine Rg.pure rfl rfl rfl (Pv.fa rfl) ?_
  refine Rg.read rfl rfl rfl (Ev.ldRf (E := recE) (u := .int .u64 0) 0 0 rfl rfl (by decide) rfl) ?_
  refine Rg.pure rfl rfl rfl (Pv.eql rfl rfl) ?_
  refine Rg.pure rfl rfl rfl (Pv.pickT rfl rfl) ?_
  refine Rg.pure rfl rfl rfl (Pv.move rfl) ?_
  refine Rg.split (t := 88) rfl (fun h88 => ?_) (fun h88 => absurd h88 (by decide))
  refine Rg.pure rfl rfl rfl (Pv.move rfl) ?_
  refine Rg.pure rfl rfl rfl (Pv.eql rfl rfl) ?_
  refine Rg.pure rfl rfl rfl (Pv.pickT rfl rfl) ?_
  refine Rg.pure rfl rfl rfl (Pv.move rfl) ?_
  refine Rg.split (t := 92) rfl (fun h92 => ?_) (fun h92 => absurd h92 (by decide))
  refine Rg.pure rfl rfl rfl (Pv.move rfl) ?_
  refine Rg.pure rfl rfl rfl (Pv.eql rfl rfl) ?_
  refine Rg.pure rfl rfl rfl (Pv.pickT rfl rfl) ?_
  refine Rg.pure rfl rfl rfl (Pv.move rfl) ?_
  refine Rg.split (t := 96) rfl (fun h96 => ?_) (fun h96 => absurd h96 (by decide))
  refine Rg.callP rfl rfl rfl (run_callF rfl) (combine_spec _ 1 9223372036854775808 9223372036854775808 (by decide) (by decide)) ?_
  rintro _ rfl
  refine Rg.pure rfl rfl rfl (Pv.eql rfl rfl) ?_
  refine Rg.pure rfl rfl rfl (Pv.pickT rfl rfl) ?_
  refine Rg.pure rfl rfl rfl (Pv.move rfl) ?_
  refine Rg.split (t := 100) rfl (fun h100 => ?_) (fun h100 => absurd h100 (by decide))
  refine Rg.callP rfl rfl rfl (run_callF rfl) (combine_spec _ 2 3 2 (by decide) (by decide)) ?_
  rintro _ rfl
  refine Rg.pure rfl rfl rfl (Pv.eql rfl rfl) ?_
  refine Rg.pure rfl rfl rfl (Pv.pickT rfl rfl) ?_
  refine Rg.pure rfl rfl rfl (Pv.assign rfl) ?_
  refine Rg.nil ?_
  refine Vc.ret (Vc.rets rfl (.cons (.tmp rfl) (.nil)) ?_)
  exact congrArg Value.bool (by decide)
end Go.Proofs.Ytkkbeljmloikkaa
