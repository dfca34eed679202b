/- What the statements show first. -/
import Derived.Test.YtjoldkfedmiciaaEdI
namespace Go.Proofs.Ytjoldkfedmiciaa
set_option linter.unusedVariables false

abbrev e017 : Eg := ⟨0, 1, 7⟩
abbrev bs16 : List UInt8 := [1, 0, 0, 0, 0, 0, 0, 0, 1, 0, 0, 0, 0, 0, 0, 0]
theorem show_a : decG (encG (Int.toNat 2) [e017]) = (2, [e017], 0, 0) := by decide
theorem show_b : decG bs16 = (0, [], 8, 1) := by decide
theorem show_c : decG [1] = (0, [], 1, 2) := by decide
theorem shown_spec (F : Fm) : Spec Try.prog 11 #[] F [] fun v _ => v = .bool true := by
  refine Spec.of (n := 96) (vs := []) Try.func11 rfl Try.ntmps11 rfl ?_
  refine Vc.seq ?_
  refine Vc.text (List.range 1) (sd [(0, .pure)]) rfl ?_
  refine Rg.pure rfl rfl rfl (Pv.assign rfl) ?_
  refine Rg.nil ?_
  refine Vc.seq ?_
  refine Vc.text (List.range 9) (sd [(0, .pure), (1, .eff), (2, .pure), (3, .eff), (4, .pure), (5, .pure), (6, .pure), (7, .pure), (8, .pure)]) rfl ?_
  refine Rg.pure rfl rfl rfl (Pv.build rfl rfl) ?_
  refine Rg.bslice1 (vs := egC e017) rfl rfl rfl rfl rfl rfl rfl (fun b14 => ?_)
  refine Rg.pure rfl rfl rfl (Pv.build (c := #[.int .i64 2, .slice (some ⟨b14, 0, none⟩) 1 1]) rfl rfl) ?_
  refine Rg.callA rfl rfl rfl (run_callF rfl) (encode_spec (es := [e017]) (Arg.own (Own.blk' (E := edgeE) b14 1 1 [e017] [] rfl rfl (by decide)) (fun b' o hb => frz_sb (s := [(b14, cellsO (egC e017) 39)]) b' o hb)) (by decide) (by simp [InE]) 2) ?_
  rintro _ s16 (⟨hr, u16, rfl, own16⟩ | ⟨hr, _⟩)
  rotate_left
  · exact absurd hr (by decide)
  have hl16 : (encG (Int.toNat 2) [e017]).length = 16 := by decide
  have hd := show_a
  generalize encG (Int.toNat 2) [e017] = bs at own16 hl16 hd
  obtain ⟨q16, c16, rfl⟩ := own16.shape
  refine Rg.pure rfl rfl rfl (Pv.move rfl) ?_
  refine Rg.pure rfl rfl rfl (Pv.extract rfl rfl) ?_
  refine Rg.pure rfl rfl rfl (Pv.extract rfl rfl) ?_
  refine Rg.pure rfl rfl rfl (Pv.assign rfl) ?_
  refine Rg.pure rfl rfl rfl (Pv.assign rfl) ?_
  refine Rg.nil ?_
  refine Vc.seq ?_
  refine Vc.text (List.range 10) (sd [(0, .pure), (1, .eff), (2, .pure), (3, .pure), (4, .pure), (5, .pure), (6, .eff), (7, .eff), (8, .pure), (9, .pure)]) rfl ?_
  refine Rg.pure rfl rfl rfl (Pv.move rfl) ?_
  refine Rg.callA rfl rfl rfl (run_callF rfl) (decode_spec (Arg.own own16 frz_sb) (by omega)) ?_
  rintro _ s21 ⟨u21, rfl, own21⟩
  simp only [hd] at own21 ⊢
  obtain ⟨b21, c21, sp21, rfl, rfl, _, _⟩ := own21.block (by decide)
  refine Rg.pure rfl rfl rfl (Pv.move rfl) ?_
  refine Rg.pure rfl rfl rfl (Pv.extract rfl rfl) ?_
  refine Rg.pure rfl rfl rfl (Pv.extract rfl rfl) ?_
  refine Rg.pure rfl rfl rfl (Pv.extract rfl rfl) ?_
  refine Rg.alloc rfl rfl rfl rfl (fun b3 => ?_)
  refine Rg.storeA rfl rfl rfl rfl rfl rfl rfl rfl ?_
  refine Rg.pure rfl rfl rfl (Pv.assign rfl) ?_
  refine Rg.pure rfl rfl rfl (Pv.assign rfl) ?_
  refine Rg.nil ?_
  refine Vc.seq ?_
  refine Vc.text (List.range 10) (sd [(0, .eff), (1, .eff), (2, .pure), (3, .pure), (4, .pure), (5, .pure), (6, .eff), (7, .eff), (8, .pure), (9, .pure)]) rfl ?_
  refine Rg.bsliceN (cs := [.int .u8 1, .int .u8 0, .int .u8 0, .int .u8 0, .int .u8 0, .int .u8 0, .int .u8 0, .int .u8 0, .int .u8 1, .int .u8 0, .int .u8 0, .int .u8 0, .int .u8 0, .int .u8 0, .int .u8 0, .int .u8 0]) rfl rfl rfl rfl rfl rfl rfl (fun b26 => ?_)
  refine Rg.callA rfl rfl rfl (run_callF rfl) (decode_spec (bs := bs16) (Arg.own (Own.blk' (E := byteE) b26 16 16 bs16 [] rfl rfl (by decide)) (fun b' o hb => frz_sb (s := [(b26, cellsO [.int .u8 1, .int .u8 0, .int .u8 0, .int .u8 0, .int .u8 0, .int .u8 0, .int .u8 0, .int .u8 0, .int .u8 1, .int .u8 0, .int .u8 0, .int .u8 0, .int .u8 0, .int .u8 0, .int .u8 0, .int .u8 0] 5)]) b' o hb)) (by decide)) ?_
  rintro _ s27 ⟨u27, rfl, own27⟩
  simp only [show_b] at own27 ⊢
  obtain ⟨q27, c27, rfl⟩ := own27.shape
  refine Rg.pure rfl rfl rfl (Pv.move rfl) ?_
  refine Rg.pure rfl rfl rfl (Pv.extract rfl rfl) ?_
  refine Rg.pure rfl rfl rfl (Pv.extract rfl rfl) ?_
  refine Rg.pure rfl rfl rfl (Pv.extract rfl rfl) ?_
  refine Rg.alloc rfl rfl rfl rfl (fun b6 => ?_)
  refine Rg.storeA rfl rfl rfl rfl rfl rfl rfl rfl ?_
  refine Rg.pure rfl rfl rfl (Pv.assign rfl) ?_
  refine Rg.pure rfl rfl rfl (Pv.assign rfl) ?_
  refine Rg.nil ?_
  refine Vc.seq ?_
  refine Vc.text (List.range 10) (sd [(0, .eff), (1, .eff), (2, .pure), (3, .pure), (4, .pure), (5, .pure), (6, .eff), (7, .eff), (8, .pure), (9, .pure)]) rfl ?_
  refine Rg.bslice1 (vs := [.int .u8 1]) rfl rfl rfl rfl rfl rfl rfl (fun b32 => ?_)
  refine Rg.callA rfl rfl rfl (run_callF rfl) (decode_spec (bs := [1]) (Arg.own (Own.blk' (E := byteE) b32 1 1 [1] [] rfl rfl (by decide)) (fun b' o hb => frz_sb (s := [(b32, cellsO [.int .u8 1] 5)]) b' o hb)) (by decide)) ?_
  rintro _ s33 ⟨u33, rfl, own33⟩
  simp only [show_c] at own33 ⊢
  obtain ⟨q33, c33, rfl⟩ := own33.shape
  refine Rg.pure rfl rfl rfl (Pv.move rfl) ?_
  refine Rg.pure rfl rfl rfl (Pv.extract rfl rfl) ?_
  refine Rg.pure rfl rfl rfl (Pv.extract rfl rfl) ?_
  refine Rg.pure rfl rfl rfl (Pv.extract rfl rfl) ?_
  refine Rg.alloc rfl rfl rfl rfl (fun b9 => ?_)
  refine Rg.storeA rfl rfl rfl rfl rfl rfl rfl rfl ?_
  refine Rg.pure rfl rfl rfl (Pv.assign rfl) ?_
  refine Rg.pure rfl rfl rfl (Pv.assign rfl) ?_
  refine Rg.nil ?_
  refine Vc.seq ?_
  refine Vc.text (List.range 60) (sd [(0, .pure), (1, .pure), (2, .pure), (3, .pure), (4, .pure), (5, .pure), (6, .pure), (7, .pure), (8, .pure), (9, .pure), (10, .pure), (11, .pure), (12, .pure), (13, .pure), (14, .pure), (15, .pure), (16, .pure), (17, .read), (18, .pure), (19, .pure), (20, .pure), (21, .pure), (22, .read), (23, .pure), (24, .pure), (25, .pure), (26, .pure), (27, .pure), (28, .read), (29, .pure), (30, .pure), (31, .read), (32, .pure), (33, .pure), (34, .pure), (35, .pure), (36, .pure), (37, .pure), (38, .pure), (39, .pure), (40, .pure), (41, .pure), (42, .pure), (43, .pure), (44, .pure), (45, .pure), (46, .pure), (47, .pure), (48, .pure), (49, .pure), (50, .pure), (51, .read), (52, .eff), (53, .pure), (54, .pure), (55, .read), (56, .read), (57, .eff), (58, .pure), (59, .pure)]) rfl ?_
  refine Rg.pure rfl rfl rfl (Pv.move rfl) ?_
  refine Rg.pure rfl rfl rfl (Pv.eql rfl rfl) ?_
  refine Rg.pure rfl rfl rfl (Pv.move rfl) ?_
  refine Rg.split (t := 39) rfl (fun h39 => ?_) (fun h39 => absurd h39 (by decide))
  refine Rg.pure rfl rfl rfl (Pv.move rfl) ?_
  refine Rg.pure rfl rfl rfl (Pv.lenS rfl) ?_
  refine Rg.pure rfl rfl rfl (Pv.eql rfl rfl) ?_
  refine Rg.pure rfl rfl rfl (Pv.pickT rfl rfl) ?_
  refine Rg.pure rfl rfl rfl (Pv.move rfl) ?_
  refine Rg.split (t := 44) rfl (fun h44 => ?_) (fun h44 => absurd h44 (by simp [hl16]))
  refine Rg.pure rfl rfl rfl (Pv.move rfl) ?_
  refine Rg.pure rfl rfl rfl (Pv.eql rfl rfl) ?_
  refine Rg.pure rfl rfl rfl (Pv.pickT rfl rfl) ?_
  refine Rg.pure rfl rfl rfl (Pv.move rfl) ?_
  refine Rg.split (t := 48) rfl (fun h48 => ?_) (fun h48 => absurd h48 (by decide))
  refine Rg.pure rfl rfl rfl (Pv.move rfl) ?_
  refine Rg.pure rfl rfl rfl (Pv.eql rfl rfl) ?_
  refine Rg.pure rfl rfl rfl (Pv.pickT rfl rfl) ?_
  refine Rg.pure rfl rfl rfl (Pv.move rfl) ?_
  refine Rg.split (t := 52) rfl (fun h52 => ?_) (fun h52 => absurd h52 (by decide))
  refine Rg.pure rfl rfl rfl (Pv.fa rfl) ?_
  refine Rg.read rfl rfl rfl (Ev.ld rfl rfl) ?_
  refine Rg.pure rfl rfl rfl (Pv.eql rfl rfl) ?_
  refine Rg.pure rfl rfl rfl (Pv.pickT rfl rfl) ?_
  refine Rg.pure rfl rfl rfl (Pv.move rfl) ?_
  refine Rg.split (t := 57) rfl (fun h57 => ?_) (fun h57 => absurd h57 (by decide))
  refine Rg.pure rfl rfl rfl (Pv.fa rfl) ?_
  refine Rg.read rfl rfl rfl (Ev.ld rfl rfl) ?_
  refine Rg.pure rfl rfl rfl (Pv.lenS rfl) ?_
  refine Rg.pure rfl rfl rfl (Pv.eql rfl rfl) ?_
  refine Rg.pure rfl rfl rfl (Pv.pickT rfl rfl) ?_
  refine Rg.pure rfl rfl rfl (Pv.move rfl) ?_
  refine Rg.split (t := 63) rfl (fun h63 => ?_) (fun h63 => absurd h63 (by decide))
  refine Rg.pure rfl rfl rfl (Pv.fa rfl) ?_
  refine Rg.read rfl rfl rfl (Ev.ld rfl rfl) ?_
  refine Rg.pure rfl rfl rfl (Pv.ixA 0 rfl rfl (by first | omega | decide | simp) (by first | omega | decide | simp)) ?_
  refine Rg.pure rfl rfl rfl (Pv.fa rfl) ?_
  refine Rg.read rfl rfl rfl (Ev.ldRf (E := edgeE) (u := .int .u32 7) 0 2 rfl rfl (by decide) rfl) ?_
  refine Rg.pure rfl rfl rfl (Pv.eql rfl rfl) ?_
  refine Rg.pure rfl rfl rfl (Pv.pickT rfl rfl) ?_
  refine Rg.pure rfl rfl rfl (Pv.move rfl) ?_
  refine Rg.split (t := 71) rfl (fun h71 => ?_) (fun h71 => absurd h71 (by decide))
  refine Rg.pure rfl rfl rfl (Pv.move rfl) ?_
  refine Rg.pure rfl rfl rfl (Pv.eql rfl rfl) ?_
  refine Rg.pure rfl rfl rfl (Pv.pickT rfl rfl) ?_
  refine Rg.pure rfl rfl rfl (Pv.move rfl) ?_
  refine Rg.split (t := 75) rfl (fun h75 => ?_) (fun h75 => absurd h75 (by decide))
  refine Rg.pure rfl rfl rfl (Pv.move rfl) ?_
  refine Rg.pure rfl rfl rfl (Pv.eql rfl rfl) ?_
  refine Rg.pure rfl rfl rfl (Pv.pickT rfl rfl) ?_
  refine Rg.pure rfl rfl rfl (Pv.move rfl) ?_
  refine Rg.split (t := 79) rfl (fun h79 => ?_) (fun h79 => absurd h79 (by decide))
  refine Rg.pure rfl rfl rfl (Pv.move rfl) ?_
  refine Rg.pure rfl rfl rfl (Pv.eql rfl rfl) ?_
  refine Rg.pure rfl rfl rfl (Pv.pickT rfl rfl) ?_
  refine Rg.pure rfl rfl rfl (Pv.move rfl) ?_
  refine Rg.split (t := 83) rfl (fun h83 => ?_) (fun h83 => absurd h83 (by decide))
  refine Rg.pure rfl rfl rfl (Pv.move rfl) ?_
  refine Rg.pure rfl rfl rfl (Pv.eql rfl rfl) ?_
  refine Rg.pure rfl rfl rfl (Pv.pickT rfl rfl) ?_
  refine Rg.pure rfl rfl rfl (Pv.move rfl) ?_
  refine Rg.split (t := 87) rfl (fun h87 => ?_) (fun h87 => absurd h87 (by decide))
  refine Rg.read rfl rfl rfl (Ev.ldA rfl rfl) ?_
  refine Rg.callP rfl rfl rfl (run_callF rfl) (right_spec (Arg.own own21 frz_sb) (by decide) (by simp [InE]) _) ?_
  rintro _ rfl
  refine Rg.pure rfl rfl rfl (Pv.pickT rfl rfl) ?_
  refine Rg.pure rfl rfl rfl (Pv.move rfl) ?_
  refine Rg.split (t := 91) rfl (fun h91 => ?_) (fun h91 => absurd h91 (by decide))
  refine Rg.read rfl rfl rfl (Ev.ldA rfl rfl) ?_
  refine Rg.read rfl rfl rfl (Ev.ldA rfl rfl) ?_
  refine Rg.callP rfl rfl rfl (run_callF rfl) (same_spec (Arg.own own21 frz_sb) (Arg.own own21 frz_sb) (by decide) (by decide) _ _) ?_
  rintro _ rfl
  refine Rg.pure rfl rfl rfl (Pv.pickT rfl rfl) ?_
  refine Rg.pure rfl rfl rfl (Pv.assign rfl) ?_
  refine Rg.nil ?_
  refine Vc.ret (Vc.rets rfl (.cons (.tmp rfl) (.nil)) ?_)
  exact congrArg Value.bool (by decide)
end Go.Proofs.Ytjoldkfedmiciaa
