/- Bytes: the document's Put and Get. -/
import Derived.Test.YtjoldkfedmiciaaByA
namespace Go.Proofs.Ytjoldkfedmiciaa
set_option linter.unusedVariables false

theorem pow_8 (i : Nat) : 2 ^ (8 * i) = 256 ^ i := by rw [Nat.pow_mul]
theorem rput_spec {F : Fm} {va : Value} {xs : List UInt8} (ha : Arg byteE F va xs) (hN : xs.length < 1073741000) (s n0 : Nat) (hs : s ≤ 8) :
    Spec Try.prog 25 #[va, .int .i64 (s : Int), .int .u64 (n0 : Int)] F [] fun v sg => Own byteE v (xs ++ leBytes s n0) sg := by
  refine Spec.of (n := 31) (vs := [va, .int .i64 (s : Int), .int .u64 (n0 : Int)]) Try.func25 rfl Try.ntmps25 rfl ?_
  refine Vc.seq ?_
  refine Vc.text (List.range 1) (sd [(0, .pure)]) rfl ?_
  refine Rg.pure rfl rfl rfl (Pv.assign rfl) ?_
  refine Rg.nil ?_
  refine Vc.seq ?_
  refine Vc.text (List.range 4) (sd [(0, .eff), (1, .pure), (2, .eff), (3, .pure)]) rfl ?_
  refine Rg.bslice0 (E := byteE) rfl rfl rfl (fun b9 own9 => ?_)
  refine Rg.pure rfl rfl rfl (Pv.move rfl) ?_
  refine Rg.append rfl rfl rfl rfl rfl own9 ha.src (by simp <;> omega) (by simp [maxLen] <;> omega) rfl (fun v11 s11 own11 => ?_)
  refine Rg.pure rfl rfl rfl (Pv.assign rfl) ?_
  refine Rg.nil ?_
  refine Vc.seq ?_
  refine Vc.seq ?_
  refine Vc.text (List.range 1) (sd [(0, .pure)]) rfl ?_
  refine Rg.pure rfl rfl rfl (Pv.assign rfl) ?_
  refine Rg.nil ?_
  refine Vc.block ?_
  refine Vc.loop3 (fun (i : Nat) (v : Value) (sg : Hl) => i ≤ s ∧ Own byteE v (xs ++ leBytes i n0) sg) (fun i v sg => [(1, .int .i64 (s : Int)), (2, .int .u64 (n0 : Int)), (7, v), (8, .int .i64 (i : Int))]) (fun i v sg => sg) (fun i v sg => s - i) 0 v11 s11 ⟨Nat.zero_le _, by simpa [leBytes] using own11⟩ (.cons rfl (.cons rfl (.cons rfl (.cons rfl .nil)))) pulled ?_
  rintro i v sg ⟨hi, own⟩
  refine Vc.seq ?_
  refine Vc.seq ?_
  refine Vc.cut1 (fun (b : Bool) => (b = true → i < s) ∧ (b = false → ¬ i < s)) (fun b => (18, .bool b) :: [(1, .int .i64 (s : Int)), (2, .int .u64 (n0 : Int)), (7, v), (8, .int .i64 (i : Int))]) (fun b => sg) ?_ ?_
  ·
    refine Vc.text (List.range 7) (sd [(0, .pure), (1, .pure), (2, .pure), (3, .pure), (4, .pure), (5, .pure), (6, .pure)]) rfl ?_
    refine Rg.pure rfl rfl rfl (Pv.move rfl) ?_
    refine Rg.pure rfl rfl rfl (Pv.move rfl) ?_
    refine Rg.pure rfl rfl rfl (Pv.lss rfl rfl) ?_
    refine Rg.pure rfl rfl rfl (Pv.move rfl) ?_
    refine Rg.split (t := 15) rfl (fun h15 => ?_) (fun h15 => ?_)
    ·
      simp only [decide_eq_true_eq] at h15
      refine Rg.pure rfl rfl rfl (Pv.move rfl) ?_
      refine Rg.pure rfl rfl rfl (Pv.lss rfl rfl) ?_
      refine Rg.pure rfl rfl rfl (Pv.pickT rfl rfl) ?_
      refine Rg.nil ?_
      exact Vc.inv1 _ ⟨fun hb => (by first | omega | cases hb), fun hb => (by first | (simp only [decide_eq_false_iff_not] at hb; omega) | omega)⟩ (.cons rfl (.cons rfl (.cons rfl (.cons rfl (.cons rfl .nil))))) pulled
    ·
      simp only [decide_eq_false_iff_not] at h15
      iterate 2 (first | refine Rg.skipP rfl rfl rfl ?_ | refine Rg.skipR rfl rfl rfl ?_ | refine Rg.skipE rfl rfl rfl ?_)
      refine Rg.pure rfl rfl rfl (Pv.pickF rfl rfl) ?_
      refine Rg.nil ?_
      exact Vc.inv1 _ ⟨fun hb => (by first | omega | cases hb), fun hb => (by first | (simp only [decide_eq_false_iff_not] at hb; omega) | omega)⟩ (.cons rfl (.cons rfl (.cons rfl (.cons rfl (.cons rfl .nil))))) pulled
  ·
    rintro bb ⟨hb1, hb2⟩
    refine Vc.cond rfl (fun h18 => ?_) (fun h18 => ?_)
    ·
      have hlt := hb1 h18
      refine Vc.skip ?_
      refine Vc.seq ?_
      refine Vc.block ?_
      refine Vc.text (List.range 10) (sd [(0, .pure), (1, .pure), (2, .pure), (3, .pure), (4, .pure), (5, .pure), (6, .pure), (7, .eff), (8, .eff), (9, .pure)]) rfl ?_
      refine Rg.pure rfl rfl rfl (Pv.move rfl) ?_
      refine Rg.pure rfl rfl rfl (Pv.move rfl) ?_
      refine Rg.pure rfl rfl rfl (Pv.move rfl) ?_
      refine Rg.pure rfl rfl rfl (Pv.asI (8 * i) (Pv.mul rfl rfl (by omega)) (by omega)) ?_
      refine Rg.pure rfl rfl rfl (Pv.asI (8 * i) (Pv.convI rfl) (wrap_ult rfl (by show _ < 2 ^ 64; omega))) ?_
      refine Rg.pure rfl rfl rfl (Pv.asI (n0 / 256 ^ i) (Pv.shrN n0 (8 * i) rfl rfl (by show _ ≤ 64; omega)) (by rw [pow_8])) ?_
      refine Rg.pure rfl rfl rfl (Pv.as (.int .u8 ((UInt8.ofNat (n0 / 256 ^ i)).toNat : Int)) (Pv.convI rfl) (congrArg (Value.int .u8) (wrap_u8 _))) ?_
      refine Rg.bslice1 rfl rfl rfl rfl rfl rfl rfl (fun b28 => ?_)
      refine Rg.append rfl rfl rfl rfl rfl own (Src.one (y := UInt8.ofNat (n0 / 256 ^ i)) rfl) (by simp <;> omega) (by simp [maxLen] <;> omega) rfl (fun v29 s29 own29 => ?_)
      refine Rg.pure rfl rfl rfl (Pv.assign rfl) ?_
      refine Rg.nil ?_
      refine Vc.blk ?_
      refine Vc.text (List.range 3) (sd [(0, .pure), (1, .pure), (2, .pure)]) rfl ?_
      refine Rg.pure rfl rfl rfl (Pv.move rfl) ?_
      refine Rg.pure rfl rfl rfl (Pv.asI (i + 1) (Pv.add rfl rfl (by omega)) (by omega)) ?_
      refine Rg.pure rfl rfl rfl (Pv.assign rfl) ?_
      refine Rg.nil ?_
      exact Vc.inv3 (i + 1) v29 s29 ⟨⟨by omega, by rw [leBytes_snoc, ← List.append_assoc]; exact own29⟩, by omega⟩ (.cons rfl (.cons rfl (.cons rfl (.cons rfl .nil)))) pulled
    ·
      have hge := hb2 h18
      refine Vc.exit rfl ?_
      refine Vc.seq ?_
      refine Vc.text (List.range 2) (sd [(0, .pure), (1, .pure)]) rfl ?_
      refine Rg.pure rfl rfl rfl (Pv.move rfl) ?_
      refine Rg.pure rfl rfl rfl (Pv.assign rfl) ?_
      refine Rg.nil ?_
      exact Vc.ret (Vc.retsH rfl (.cons (.tmp rfl) (.nil)) ((by rw [show s = i by omega]; exact own)) pulled)

theorem rget_spec {F : Fm} {va : Value} {xs : List UInt8} (ha : Arg byteE F va xs) (hN : xs.length < 1073741824) (at_ s : Nat) (h1 : 1 ≤ s) (h8 : s ≤ 8) (hat : at_ + s ≤ xs.length) :
    Spec Try.prog 27 #[va, .int .i64 (at_ : Int), .int .i64 (s : Int)] F [] fun v _ => v = .tuple #[.int .u64 (getB xs at_ s : Nat), .bool true] := by
  obtain ⟨b, off, c, rfl, hc⟩ := ha.block (by omega)
  unfold getB
  refine Spec.of (n := 47) (vs := [.slice (some ⟨b, off, none⟩) xs.length c, .int .i64 (at_ : Int), .int .i64 (s : Int)]) Try.func27 rfl Try.ntmps27 rfl ?_
  refine Vc.seq ?_
  refine Vc.text (List.range 2) (sd [(0, .pure), (1, .pure)]) rfl ?_
  refine Rg.pure rfl rfl rfl (Pv.assign rfl) ?_
  refine Rg.pure rfl rfl rfl (Pv.assign rfl) ?_
  refine Rg.nil ?_
  refine Vc.seq ?_
  refine Vc.seq ?_
  refine Vc.text (List.range 18) (sd [(0, .pure), (1, .pure), (2, .pure), (3, .pure), (4, .pure), (5, .pure), (6, .pure), (7, .pure), (8, .pure), (9, .pure), (10, .pure), (11, .pure), (12, .pure), (13, .pure), (14, .pure), (15, .pure), (16, .pure), (17, .pure)]) rfl ?_
  refine Rg.pure rfl rfl rfl (Pv.move rfl) ?_
  refine Rg.pure rfl rfl rfl (Pv.lss rfl rfl) ?_
  refine Rg.pure rfl rfl rfl (Pv.move rfl) ?_
  refine Rg.split (t := 12) rfl (fun h12 => absurd h12 (by simp only [decide_eq_true_eq]; omega)) (fun h12 => ?_)
  refine Rg.pure rfl rfl rfl (Pv.move rfl) ?_
  refine Rg.pure rfl rfl rfl (Pv.gtr rfl rfl) ?_
  refine Rg.pure rfl rfl rfl (Pv.pickF rfl rfl) ?_
  refine Rg.pure rfl rfl rfl (Pv.move rfl) ?_
  refine Rg.split (t := 16) rfl (fun h16 => absurd h16 (by simp only [decide_eq_true_eq]; omega)) (fun h16 => ?_)
  refine Rg.pure rfl rfl rfl (Pv.move rfl) ?_
  refine Rg.pure rfl rfl rfl (Pv.lss rfl rfl) ?_
  refine Rg.pure rfl rfl rfl (Pv.pickF rfl rfl) ?_
  refine Rg.pure rfl rfl rfl (Pv.move rfl) ?_
  refine Rg.split (t := 20) rfl (fun h20 => absurd h20 (by simp only [decide_eq_true_eq]; omega)) (fun h20 => ?_)
  refine Rg.pure rfl rfl rfl (Pv.move rfl) ?_
  refine Rg.pure rfl rfl rfl (Pv.move rfl) ?_
  refine Rg.pure rfl rfl rfl (Pv.lenS rfl) ?_
  refine Rg.pure rfl rfl rfl (Pv.move rfl) ?_
  refine Rg.pure rfl rfl rfl (Pv.sub rfl rfl (by omega)) ?_
  refine Rg.pure rfl rfl rfl (Pv.gtr rfl rfl) ?_
  refine Rg.pure rfl rfl rfl (Pv.pickF rfl rfl) ?_
  refine Rg.nil ?_
  refine Vc.cond rfl (fun h27 => absurd h27 (by simp only [decide_eq_true_eq]; omega)) (fun h27 => ?_)
  refine Vc.skip ?_
  refine Vc.seq ?_
  refine Vc.text (List.range 1) (sd [(0, .pure)]) rfl ?_
  refine Rg.pure rfl rfl rfl (Pv.assign rfl) ?_
  refine Rg.nil ?_
  refine Vc.seq ?_
  refine Vc.seq ?_
  refine Vc.text (List.range 1) (sd [(0, .pure)]) rfl ?_
  refine Rg.pure rfl rfl rfl (Pv.assign rfl) ?_
  refine Rg.nil ?_
  refine Vc.block ?_
  refine Vc.loop1 (fun (i : Nat) => i ≤ s) (fun i => [(0, .slice (some ⟨b, off, none⟩) xs.length c), (1, .int .i64 (at_ : Int)), (2, .int .i64 (s : Int)), (8, .int .u64 ((leNum ((xs.drop at_).take i) : Nat) : Int)), (9, .int .i64 (i : Int))]) (fun i => []) (fun i => s - i) 0 (Nat.zero_le _) (.cons rfl (.cons rfl (.cons rfl (.cons rfl (.cons rfl .nil))))) pulled ?_
  rintro i hi
  refine Vc.seq ?_
  refine Vc.seq ?_
  refine Vc.text (List.range 3) (sd [(0, .pure), (1, .pure), (2, .pure)]) rfl ?_
  refine Rg.pure rfl rfl rfl (Pv.move rfl) ?_
  refine Rg.pure rfl rfl rfl (Pv.move rfl) ?_
  refine Rg.pure rfl rfl rfl (Pv.lss rfl rfl) ?_
  refine Rg.nil ?_
  refine Vc.cond rfl (fun h30 => ?_) (fun h30 => ?_)
  ·
    simp only [decide_eq_true_eq] at h30
    have hli : ((xs.drop at_).take i).length = i := by simp; omega
    have hlt : leNum ((xs.drop at_).take i) < 256 ^ i := by have := leNum_lt ((xs.drop at_).take i); rwa [hli] at this
    have hsn : (xs.drop at_).take (i + 1) = (xs.drop at_).take i ++ [xs[at_ + i]!] := by
      rw [← take_snoc (x := xs[at_ + i]!)]
      rw [List.getElem?_drop, getElem!_pos xs _ (by omega)]
      exact List.getElem?_eq_getElem (by omega)
    have hb8 := (xs[at_ + i]!).toNat_lt
    have hp : 256 ^ i * 256 ≤ 2 ^ 64 := by
      rw [← Nat.pow_succ, show (2 : Nat) ^ 64 = 256 ^ 8 by decide]
      exact Nat.pow_le_pow_right (by decide) (by omega)
    have hm : (xs[at_ + i]!).toNat * 256 ^ i ≤ 255 * 256 ^ i := Nat.mul_le_mul_right _ (by omega)
    refine Vc.skip ?_
    refine Vc.seq ?_
    refine Vc.block ?_
    refine Vc.text (List.range 14) (sd [(0, .pure), (1, .pure), (2, .pure), (3, .pure), (4, .pure), (5, .pure), (6, .read), (7, .pure), (8, .pure), (9, .pure), (10, .pure), (11, .pure), (12, .pure), (13, .pure)]) rfl ?_
    refine Rg.pure rfl rfl rfl (Pv.move rfl) ?_
    refine Rg.pure rfl rfl rfl (Pv.move rfl) ?_
    refine Rg.pure rfl rfl rfl (Pv.move rfl) ?_
    refine Rg.pure rfl rfl rfl (Pv.move rfl) ?_
    refine Rg.pure rfl rfl rfl (Pv.asI (at_ + i) (Pv.add rfl rfl (by omega)) (by omega)) ?_
    refine Rg.pure rfl rfl rfl (Pv.ixA (at_ + i) rfl rfl (by omega) (by omega)) ?_
    refine Rg.read rfl rfl rfl (Ev.ldS (at_ + i) (ha.src) rfl rfl rfl (by omega)) ?_
    refine Rg.pure rfl rfl rfl (Pv.asI (xs[at_ + i]!).toNat (Pv.convI rfl) (wrap_ult rfl (by show (xs[at_ + i]!).toNat < 2 ^ 64; omega))) ?_
    refine Rg.pure rfl rfl rfl (Pv.move rfl) ?_
    refine Rg.pure rfl rfl rfl (Pv.asI (8 * i) (Pv.mul rfl rfl (by omega)) (by omega)) ?_
    refine Rg.pure rfl rfl rfl (Pv.asI (8 * i) (Pv.convI rfl) (wrap_ult rfl (by show _ < 2 ^ 64; omega))) ?_
    refine Rg.pure rfl rfl rfl (Pv.asI ((xs[at_ + i]!).toNat * 256 ^ i) (Pv.shlN (xs[at_ + i]!).toNat (8 * i) rfl rfl rfl (by show _ ≤ 64; omega)) (by rw [pow_8]; exact congrArg _ (Nat.mod_eq_of_lt (by show _ < 2 ^ 64; omega)))) ?_
    refine Rg.pure rfl rfl rfl (Pv.asI (leNum ((xs.drop at_).take (i + 1))) (Pv.addW rfl rfl) (by rw [hsn, leNum_snoc, hli, ← Int.natCast_add]; exact wrap_ult rfl (by show _ < 2 ^ 64; omega))) ?_
    refine Rg.pure rfl rfl rfl (Pv.assign rfl) ?_
    refine Rg.nil ?_
    refine Vc.blk ?_
    refine Vc.text (List.range 3) (sd [(0, .pure), (1, .pure), (2, .pure)]) rfl ?_
    refine Rg.pure rfl rfl rfl (Pv.move rfl) ?_
    refine Rg.pure rfl rfl rfl (Pv.asI (i + 1) (Pv.add rfl rfl (by omega)) (by omega)) ?_
    refine Rg.pure rfl rfl rfl (Pv.assign rfl) ?_
    refine Rg.nil ?_
    exact Vc.inv1 (i + 1) ⟨by omega, by omega⟩ (.cons rfl (.cons rfl (.cons rfl (.cons rfl (.cons rfl .nil))))) pulled
  ·
    simp only [decide_eq_false_iff_not] at h30
    refine Vc.exit rfl ?_
    refine Vc.seq ?_
    refine Vc.text (List.range 3) (sd [(0, .pure), (1, .pure), (2, .pure)]) rfl ?_
    refine Rg.pure rfl rfl rfl (Pv.move rfl) ?_
    refine Rg.pure rfl rfl rfl (Pv.assign rfl) ?_
    refine Rg.pure rfl rfl rfl (Pv.assign rfl) ?_
    refine Rg.nil ?_
    refine Vc.ret (Vc.rets rfl (.cons (.tmp rfl) (.cons (.tmp rfl) (.nil))) ?_)
    exact congrArg (fun x : Nat => Value.tuple #[.int .u64 (x : Int), .bool true]) (by rw [show i = s by omega])
end Go.Proofs.Ytjoldkfedmiciaa
