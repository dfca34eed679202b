/- Graphs: number, Decode. -/
import Derived.Test.YtjoldkfedmiciaaEdD
namespace Go.Proofs.Ytjoldkfedmiciaa
set_option linter.unusedVariables false

def egAt (bs : List UInt8) (i : Nat) : Eg := ⟨getB bs (4 + 12 * i) 4, getB bs (4 + 12 * i + 4) 4, getB bs (4 + 12 * i + 8) 4⟩
/-- Where the first end that is no vertex stands. -/
def scanE (n : Nat) (bs : List UInt8) : Nat → Nat → Option Nat
  | _, 0 => none
  | i, k + 1 => if n ≤ (egAt bs i).f then some (4 + 12 * i) else if n ≤ (egAt bs i).t then some (4 + 12 * i + 4) else scanE n bs (i + 1) k
/-- What bytes are: vertices, edges, a place, an error. -/
def decG (bs : List UInt8) : Nat × List Eg × Nat × Nat :=
  if bs.length % 12 ≠ 4 then (0, [], bs.length, 2)
  else if 1048576 < getB bs 0 4 then (0, [], 0, 1)
  else if 1048576 < bs.length / 12 then (0, [], 4, 1)
  else match scanE (getB bs 0 4) bs 0 (bs.length / 12) with
    | some place => (0, [], place, 1)
    | none => (getB bs 0 4, (List.range (bs.length / 12)).map (egAt bs), 0, 0)
theorem getB_lt (bs : List UInt8) (at_ : Nat) : getB bs at_ 4 < 4294967296 := by
  have h := leNum_lt ((bs.drop at_).take 4)
  have h2 : ((bs.drop at_).take 4).length ≤ 4 := by simp; omega
  have h3 : 256 ^ ((bs.drop at_).take 4).length ≤ 256 ^ 4 := Nat.pow_le_pow_right (by decide) h2
  unfold getB
  omega
theorem set_get {α : Type} [Inhabited α] (ys : List α) {i : Nat} (x : α) (h : i < ys.length) : (ys.set i x)[i]! = x := by
  rw [getElem!_pos _ _ (by simpa using h)]; simp
theorem set_take {α : Type} [Inhabited α] (ys : List α) {i : Nat} (x : α) (h : i < ys.length) : (ys.set i x).take (i + 1) = ys.take i ++ [x] := by
  rw [take_get _ (by simpa using h), set_get ys x h, List.take_set, List.set_eq_of_length_le (by simp; omega)]

theorem number_spec {F : Fm} {va : Value} {bs : List UInt8} (ha : Arg byteE F va bs) (hN : bs.length < 1073741824) (at_ : Nat) (hat : at_ + 4 ≤ bs.length) :
    Spec Try.prog 26 #[va, .int .i64 (at_ : Int)] F [] fun v _ => v = .int .u32 (getB bs at_ 4 : Nat) := by
  have hlt := getB_lt bs at_
  refine Spec.of (n := 15) (vs := [va, .int .i64 (at_ : Int)]) Try.func26 rfl Try.ntmps26 rfl ?_
  refine Vc.seq ?_
  refine Vc.text (List.range 1) (sd [(0, .pure)]) rfl ?_
  refine Rg.pure rfl rfl rfl (Pv.assign rfl) ?_
  refine Rg.nil ?_
  refine Vc.seq ?_
  refine Vc.text (List.range 8) (sd [(0, .pure), (1, .pure), (2, .eff), (3, .pure), (4, .pure), (5, .pure), (6, .pure), (7, .pure)]) rfl ?_
  refine Rg.pure rfl rfl rfl (Pv.move rfl) ?_
  refine Rg.pure rfl rfl rfl (Pv.move rfl) ?_
  refine Rg.callP rfl rfl rfl (run_callF rfl) (get_spec (ha.mono fun b o h => Or.inr h) hN at_ 4 (by decide) (by decide) hat) ?_
  rintro _ rfl
  refine Rg.pure rfl rfl rfl (Pv.move rfl) ?_
  refine Rg.pure rfl rfl rfl (Pv.extract rfl rfl) ?_
  refine Rg.pure rfl rfl rfl (Pv.extract rfl rfl) ?_
  refine Rg.pure rfl rfl rfl (Pv.assign rfl) ?_
  refine Rg.pure rfl rfl rfl (Pv.assign rfl) ?_
  refine Rg.nil ?_
  refine Vc.seq ?_
  refine Vc.text (List.range 3) (sd [(0, .pure), (1, .pure), (2, .pure)]) rfl ?_
  refine Rg.pure rfl rfl rfl (Pv.move rfl) ?_
  refine Rg.pure rfl rfl rfl (Pv.asI (getB bs at_ 4) (Pv.convI rfl) (wrap_ult rfl (by show _ < 2 ^ 32; omega))) ?_
  refine Rg.pure rfl rfl rfl (Pv.assign rfl) ?_
  refine Rg.nil ?_
  refine Vc.ret (Vc.rets rfl (.cons (.tmp rfl) (.nil)) ?_)
  rfl

theorem decode_spec {F : Fm} {va : Value} {bs : List UInt8} (ha : Arg byteE F va bs) (hN : bs.length < 1073741824) :
    Spec Try.prog 18 #[va] F [] fun v s => ∃ u, v = .tuple #[grV ((decG bs).1 : Int) u, .int .i64 ((decG bs).2.2.1 : Int), .int .i64 ((decG bs).2.2.2 : Int)] ∧ Own edgeE u (decG bs).2.1 s := by
  obtain ⟨p, c, rfl⟩ := ha.shape
  refine Spec.of (n := 81) (vs := [.slice p bs.length c]) Try.func18 rfl Try.ntmps18 rfl ?_
  refine Vc.seq ?_
  refine Vc.text (List.range 3) (sd [(0, .eff), (1, .pure), (2, .pure)]) rfl ?_
  refine Rg.alloc rfl rfl rfl rfl (fun b2 => ?_)
  refine Rg.pure rfl rfl rfl (Pv.assign rfl) ?_
  refine Rg.pure rfl rfl rfl (Pv.assign rfl) ?_
  refine Rg.nil ?_
  refine Vc.seq ?_
  refine Vc.seq ?_
  refine Vc.text (List.range 4) (sd [(0, .pure), (1, .pure), (2, .pure), (3, .pure)]) rfl ?_
  refine Rg.pure rfl rfl rfl (Pv.move rfl) ?_
  refine Rg.pure rfl rfl rfl (Pv.lenS rfl) ?_
  refine Rg.pure rfl rfl rfl (Pv.rem rfl rfl (by omega)) ?_
  refine Rg.pure rfl rfl rfl (Pv.neq rfl rfl) ?_
  refine Rg.nil ?_
  refine Vc.cond rfl (fun h13 => ?_) (fun h13 => ?_)
  ·
    simp only [bne_iff_ne, ne_eq] at h13
    have hd : decG bs = (0, [], bs.length, 2) := by
      have : bs.length % 12 ≠ 4 := by omega
      simp [decG, this]
    refine Vc.seq ?_
    refine Vc.text (List.range 6) (sd [(0, .read), (1, .pure), (2, .pure), (3, .eff), (4, .pure), (5, .pure)]) rfl ?_
    refine Rg.read rfl rfl rfl (Ev.ldA rfl rfl) ?_
    refine Rg.pure rfl rfl rfl (Pv.move rfl) ?_
    refine Rg.pure rfl rfl rfl (Pv.lenS rfl) ?_
    refine Rg.storeA rfl rfl rfl rfl rfl rfl rfl rfl ?_
    refine Rg.pure rfl rfl rfl (Pv.assign rfl) ?_
    refine Rg.pure rfl rfl rfl (Pv.assign rfl) ?_
    refine Rg.nil ?_
    exact Vc.ret (Vc.retsH (hl' := []) rfl (.cons (.cellA rfl rfl) (.cons (.tmp rfl) (.cons (.tmp rfl) .nil))) (by rw [hd]; exact ⟨.slice none 0 0, rfl, Own.nil⟩) pulled)
  ·
    simp only [bne_eq_false_iff_eq] at h13
    have hm : bs.length % 12 = 4 := by omega
    have hlt := getB_lt bs 0
    generalize hn : getB bs 0 4 = n at hlt
    refine Vc.skip ?_
    refine Vc.seq ?_
    refine Vc.text (List.range 7) (sd [(0, .pure), (1, .eff), (2, .pure), (3, .pure), (4, .pure), (5, .pure), (6, .pure)]) rfl ?_
    refine Rg.pure rfl rfl rfl (Pv.move rfl) ?_
    refine Rg.callP rfl rfl rfl (run_callF rfl) (number_spec (ha.mono fun b o h => Or.inr h) hN 0 (by omega)) ?_
    rintro _ rfl
    rw [hn]
    refine Rg.pure rfl rfl rfl (Pv.move rfl) ?_
    refine Rg.pure rfl rfl rfl (Pv.lenS rfl) ?_
    refine Rg.pure rfl rfl rfl (Pv.asI (bs.length / 12) (Pv.quo rfl rfl (by omega)) (by omega)) ?_
    refine Rg.pure rfl rfl rfl (Pv.assign rfl) ?_
    refine Rg.pure rfl rfl rfl (Pv.assign rfl) ?_
    refine Rg.nil ?_
    refine Vc.seq ?_
    refine Vc.block ?_
    refine Vc.seq ?_
    refine Vc.text (List.range 3) (sd [(0, .pure), (1, .pure), (2, .pure)]) rfl ?_
    refine Rg.pure rfl rfl rfl (Pv.move rfl) ?_
    refine Rg.pure rfl rfl rfl (Pv.gtr rfl rfl) ?_
    refine Rg.pure rfl rfl rfl (Pv.assign rfl) ?_
    refine Rg.nil ?_
    refine Vc.cond rfl (fun h22 => ?_) (fun h22 => ?_)
    ·
      simp only [decide_eq_true_eq] at h22
      have hd : decG bs = (0, [], 0, 1) := by
        have : 1048576 < n := by omega
        simp [decG, hm, hn, this]
      refine Vc.seq ?_
      refine Vc.text (List.range 4) (sd [(0, .read), (1, .eff), (2, .pure), (3, .pure)]) rfl ?_
      refine Rg.read rfl rfl rfl (Ev.ldA rfl rfl) ?_
      refine Rg.storeA rfl rfl rfl rfl rfl rfl rfl rfl ?_
      refine Rg.pure rfl rfl rfl (Pv.assign rfl) ?_
      refine Rg.pure rfl rfl rfl (Pv.assign rfl) ?_
      refine Rg.nil ?_
      exact Vc.ret (Vc.retsH (hl' := []) rfl (.cons (.cellA rfl rfl) (.cons (.tmp rfl) (.cons (.tmp rfl) .nil))) (by rw [hd]; exact ⟨.slice none 0 0, rfl, Own.nil⟩) pulled)
    ·
      simp only [decide_eq_false_iff_not] at h22
      have hnb : ¬ 1048576 < n := by omega
      refine Vc.seq ?_
      refine Vc.text (List.range 3) (sd [(0, .pure), (1, .pure), (2, .pure)]) rfl ?_
      refine Rg.pure rfl rfl rfl (Pv.move rfl) ?_
      refine Rg.pure rfl rfl rfl (Pv.gtr rfl rfl) ?_
      refine Rg.pure rfl rfl rfl (Pv.assign rfl) ?_
      refine Rg.nil ?_
      refine Vc.cond rfl (fun h26 => ?_) (fun h26 => ?_)
      ·
        simp only [decide_eq_true_eq] at h26
        have hd : decG bs = (0, [], 4, 1) := by
          have : 1048576 < bs.length / 12 := by omega
          simp [decG, hm, hn, this, hnb]
        refine Vc.seq ?_
        refine Vc.text (List.range 4) (sd [(0, .read), (1, .eff), (2, .pure), (3, .pure)]) rfl ?_
        refine Rg.read rfl rfl rfl (Ev.ldA rfl rfl) ?_
        refine Rg.storeA rfl rfl rfl rfl rfl rfl rfl rfl ?_
        refine Rg.pure rfl rfl rfl (Pv.assign rfl) ?_
        refine Rg.pure rfl rfl rfl (Pv.assign rfl) ?_
        refine Rg.nil ?_
        exact Vc.ret (Vc.retsH (hl' := []) rfl (.cons (.cellA rfl rfl) (.cons (.tmp rfl) (.cons (.tmp rfl) .nil))) (by rw [hd]; exact ⟨.slice none 0 0, rfl, Own.nil⟩) pulled)
      ·
        simp only [decide_eq_false_iff_not] at h26
        have hmb : ¬ 1048576 < bs.length / 12 := by omega
        have hlen12 : bs.length = 12 * (bs.length / 12) + 4 := by omega
        generalize hk : bs.length / 12 = many at hmb hlen12
        refine Vc.skip ?_
        refine Vc.blk ?_
        refine Vc.seq ?_
        refine Vc.text (List.range 3) (sd [(0, .pure), (1, .eff), (2, .pure)]) rfl ?_
        refine Rg.pure rfl rfl rfl (Pv.move rfl) ?_
        refine Rg.makeN edgeE ⟨0, 0, 0⟩ (hz := ⟨Try.zeroValue39⟩) rfl rfl rfl rfl rfl (by simp [maxLen] <;> omega) (fun b31 own31 => ?_)
        refine Rg.pure rfl rfl rfl (Pv.assign rfl) ?_
        refine Rg.nil ?_
        refine Vc.seq ?_
        refine Vc.seq ?_
        refine Vc.text (List.range 3) (sd [(0, .pure), (1, .pure), (2, .pure)]) rfl ?_
        refine Rg.pure rfl rfl rfl (Pv.move rfl) ?_
        refine Rg.pure rfl rfl rfl (Pv.lenS rfl) ?_
        refine Rg.pure rfl rfl rfl (Pv.move rfl) ?_
        refine Rg.nil ?_
        refine Vc.block ?_
        refine Vc.loop2 (fun (i : Nat) (ys : List Eg) => i ≤ many ∧ ys.length = many ∧ ys.take i = (List.range i).map (egAt bs) ∧ scanE n bs 0 many = scanE n bs i (many - i)) (fun i ys => [(0, .slice p bs.length c), (2, .pointer (some ⟨b2, 0, none⟩)), (5, .int .u32 (n : Int)), (7, .slice (some ⟨b31, 0, none⟩) many many), (33, .int .i64 (many : Int)), (34, .int .i64 (i : Int))]) (fun i ys => [(b31, rowS edgeE ys []), (b2, cellsO [.int .i64 0, .slice none 0 0] 24)]) (fun i ys => many - i) 0 (List.replicate many ⟨0, 0, 0⟩) ⟨Nat.zero_le _, by simp, by simp, rfl⟩ (.cons rfl (.cons rfl (.cons rfl (.cons rfl (.cons rfl (.cons rfl .nil)))))) pulled ?_
        rintro i ys ⟨h1, h2, h3, h4⟩
        refine Vc.seq ?_
        refine Vc.text (List.range 1) (sd [(0, .pure)]) rfl ?_
        refine Rg.pure rfl rfl rfl (Pv.lss rfl rfl) ?_
        refine Rg.nil ?_
        refine Vc.seq ?_
        refine Vc.cond rfl (fun h35 => ?_) (fun h35 => ?_)
        ·
          simp only [decide_eq_true_eq] at h35
          have hiy : i < ys.length := by omega
          have hg := set_get ys (egAt bs i) hiy
          have hst := set_take ys (egAt bs i) hiy
          rw [show many - i = (many - (i + 1)) + 1 by omega, scanE] at h4
          refine Vc.skip ?_
          refine Vc.seq ?_
          refine Vc.block ?_
          refine Vc.seq ?_
          refine Vc.text (List.range 2) (sd [(0, .pure), (1, .pure)]) rfl ?_
          refine Rg.pure rfl rfl rfl (Pv.move rfl) ?_
          refine Rg.pure rfl rfl rfl (Pv.assign rfl) ?_
          refine Rg.nil ?_
          refine Vc.seq ?_
          refine Vc.text (List.range 4) (sd [(0, .pure), (1, .pure), (2, .pure), (3, .pure)]) rfl ?_
          refine Rg.pure rfl rfl rfl (Pv.move rfl) ?_
          refine Rg.pure rfl rfl rfl (Pv.asI (12 * i) (Pv.mul rfl rfl (by omega)) (by omega)) ?_
          refine Rg.pure rfl rfl rfl (Pv.asI (4 + 12 * i) (Pv.add rfl rfl (by omega)) (by omega)) ?_
          refine Rg.pure rfl rfl rfl (Pv.assign rfl) ?_
          refine Rg.nil ?_
          refine Vc.seq ?_
          refine Vc.text (List.range 16) (sd [(0, .pure), (1, .pure), (2, .pure), (3, .pure), (4, .eff), (5, .pure), (6, .pure), (7, .pure), (8, .eff), (9, .pure), (10, .pure), (11, .pure), (12, .eff), (13, .pure), (14, .pure), (15, .eff)]) rfl ?_
          refine Rg.pure rfl rfl rfl (Pv.move rfl) ?_
          refine Rg.pure rfl rfl rfl (Pv.move rfl) ?_
          refine Rg.pure rfl rfl rfl (Pv.move rfl) ?_
          refine Rg.pure rfl rfl rfl (Pv.move rfl) ?_
          refine Rg.callP rfl rfl rfl (run_callF rfl) (number_spec (ha.mono fun b o h => Or.inr h) hN (4 + 12 * i) (by omega)) ?_
          rintro _ rfl
          refine Rg.pure rfl rfl rfl (Pv.move rfl) ?_
          refine Rg.pure rfl rfl rfl (Pv.move rfl) ?_
          refine Rg.pure rfl rfl rfl (Pv.asI (4 + 12 * i + 4) (Pv.add rfl rfl (by omega)) (by omega)) ?_
          refine Rg.callP rfl rfl rfl (run_callF rfl) (number_spec (ha.mono fun b o h => Or.inr h) hN (4 + 12 * i + 4) (by omega)) ?_
          rintro _ rfl
          refine Rg.pure rfl rfl rfl (Pv.move rfl) ?_
          refine Rg.pure rfl rfl rfl (Pv.move rfl) ?_
          refine Rg.pure rfl rfl rfl (Pv.asI (4 + 12 * i + 8) (Pv.add rfl rfl (by omega)) (by omega)) ?_
          refine Rg.callP rfl rfl rfl (run_callF rfl) (number_spec (ha.mono fun b o h => Or.inr h) hN (4 + 12 * i + 8) (by omega)) ?_
          rintro _ rfl
          refine Rg.pure rfl rfl rfl (Pv.build rfl rfl) ?_
          refine Rg.pure rfl rfl rfl (Pv.ixA (i) rfl rfl (by omega) (by omega)) ?_
          refine Rg.storeR (z := egAt bs i) (i) rfl rfl rfl rfl rfl rfl (Nat.zero_add _) hiy rfl ?_
          refine Rg.nil ?_
          refine Vc.block ?_
          refine Vc.seq ?_
          refine Vc.text (List.range 8) (sd [(0, .pure), (1, .pure), (2, .pure), (3, .pure), (4, .read), (5, .pure), (6, .pure), (7, .pure)]) rfl ?_
          refine Rg.pure rfl rfl rfl (Pv.move rfl) ?_
          refine Rg.pure rfl rfl rfl (Pv.move rfl) ?_
          refine Rg.pure rfl rfl rfl (Pv.ixA (i) rfl rfl (by omega) (by omega)) ?_
          refine Rg.pure rfl rfl rfl (Pv.fa rfl) ?_
          refine Rg.read rfl rfl rfl (Ev.ldRf (E := edgeE) (u := .int .u32 ((egAt bs i).f : Int)) i 0 rfl (by rw [Nat.zero_add]; rfl) (by simpa using hiy) (by rw [hg]; rfl)) ?_
          refine Rg.pure rfl rfl rfl (Pv.move rfl) ?_
          refine Rg.pure rfl rfl rfl (Pv.geq rfl rfl) ?_
          refine Rg.pure rfl rfl rfl (Pv.assign rfl) ?_
          refine Rg.nil ?_
          refine Vc.cond rfl (fun h55 => ?_) (fun h55 => ?_)
          ·
            simp only [decide_eq_true_eq] at h55
            rw [if_pos (by omega)] at h4
            have hd : decG bs = (0, [], 4 + 12 * i, 1) := by
              simp [decG, hm, hn, hnb, hk, hmb, h4]
            refine Vc.seq ?_
            refine Vc.text (List.range 5) (sd [(0, .read), (1, .pure), (2, .eff), (3, .pure), (4, .pure)]) rfl ?_
            refine Rg.read rfl rfl rfl (Ev.ldA rfl rfl) ?_
            refine Rg.pure rfl rfl rfl (Pv.move rfl) ?_
            refine Rg.storeA rfl rfl rfl rfl rfl rfl rfl rfl ?_
            refine Rg.pure rfl rfl rfl (Pv.assign rfl) ?_
            refine Rg.pure rfl rfl rfl (Pv.assign rfl) ?_
            refine Rg.nil ?_
            exact Vc.ret (Vc.retsH (hl' := []) rfl (.cons (.cellA rfl rfl) (.cons (.tmp rfl) (.cons (.tmp rfl) .nil))) (by rw [hd]; exact ⟨.slice none 0 0, rfl, Own.nil⟩) pulled)
          ·
            simp only [decide_eq_false_iff_not] at h55
            rw [if_neg (by omega)] at h4
            refine Vc.seq ?_
            refine Vc.text (List.range 8) (sd [(0, .pure), (1, .pure), (2, .pure), (3, .pure), (4, .read), (5, .pure), (6, .pure), (7, .pure)]) rfl ?_
            refine Rg.pure rfl rfl rfl (Pv.move rfl) ?_
            refine Rg.pure rfl rfl rfl (Pv.move rfl) ?_
            refine Rg.pure rfl rfl rfl (Pv.ixA (i) rfl rfl (by omega) (by omega)) ?_
            refine Rg.pure rfl rfl rfl (Pv.fa rfl) ?_
            refine Rg.read rfl rfl rfl (Ev.ldRf (E := edgeE) (u := .int .u32 ((egAt bs i).t : Int)) i 1 rfl (by rw [Nat.zero_add]; rfl) (by simpa using hiy) (by rw [hg]; rfl)) ?_
            refine Rg.pure rfl rfl rfl (Pv.move rfl) ?_
            refine Rg.pure rfl rfl rfl (Pv.geq rfl rfl) ?_
            refine Rg.pure rfl rfl rfl (Pv.assign rfl) ?_
            refine Rg.nil ?_
            refine Vc.cond rfl (fun h65 => ?_) (fun h65 => ?_)
            ·
              simp only [decide_eq_true_eq] at h65
              rw [if_pos (by omega)] at h4
              have hd : decG bs = (0, [], 4 + 12 * i + 4, 1) := by
                simp [decG, hm, hn, hnb, hk, hmb, h4]
              refine Vc.seq ?_
              refine Vc.text (List.range 6) (sd [(0, .read), (1, .pure), (2, .pure), (3, .eff), (4, .pure), (5, .pure)]) rfl ?_
              refine Rg.read rfl rfl rfl (Ev.ldA rfl rfl) ?_
              refine Rg.pure rfl rfl rfl (Pv.move rfl) ?_
              refine Rg.pure rfl rfl rfl (Pv.asI (4 + 12 * i + 4) (Pv.add rfl rfl (by omega)) (by omega)) ?_
              refine Rg.storeA rfl rfl rfl rfl rfl rfl rfl rfl ?_
              refine Rg.pure rfl rfl rfl (Pv.assign rfl) ?_
              refine Rg.pure rfl rfl rfl (Pv.assign rfl) ?_
              refine Rg.nil ?_
              exact Vc.ret (Vc.retsH (hl' := []) rfl (.cons (.cellA rfl rfl) (.cons (.tmp rfl) (.cons (.tmp rfl) .nil))) (by rw [hd]; exact ⟨.slice none 0 0, rfl, Own.nil⟩) pulled)
            ·
              simp only [decide_eq_false_iff_not] at h65
              rw [if_neg (by omega)] at h4
              refine Vc.skip ?_
              refine Vc.blk ?_
              refine Vc.blk ?_
              refine Vc.text (List.range 2) (sd [(0, .pure), (1, .pure)]) rfl ?_
              refine Rg.pure rfl rfl rfl (Pv.asI (i + 1) (Pv.add rfl rfl (by omega)) (by omega)) ?_
              refine Rg.pure rfl rfl rfl (Pv.move rfl) ?_
              refine Rg.nil ?_
              exact Vc.inv2 (i + 1) (ys.set i (egAt bs i)) ⟨⟨by omega, by simpa using h2, by rw [hst, h3, List.range_succ, List.map_append]; rfl, h4⟩, by omega⟩ (.cons rfl (.cons rfl (.cons rfl (.cons rfl (.cons rfl (.cons rfl .nil)))))) pulled
        ·
          simp only [decide_eq_false_iff_not] at h35
          obtain rfl : i = many := by omega
          rw [List.take_of_length_le (by omega)] at h3
          rw [Nat.sub_self, scanE] at h4
          have hd : decG bs = (n, ys, 0, 0) := by
            simp [decG, hm, hn, hnb, hk, hmb, h4, h3]
          refine Vc.exit rfl ?_
          refine Vc.seq ?_
          refine Vc.text (List.range 7) (sd [(0, .pure), (1, .pure), (2, .pure), (3, .pure), (4, .eff), (5, .pure), (6, .pure)]) rfl ?_
          refine Rg.pure rfl rfl rfl (Pv.move rfl) ?_
          refine Rg.pure rfl rfl rfl (Pv.asI n (Pv.convI rfl) (i64_wrap (by omega))) ?_
          refine Rg.pure rfl rfl rfl (Pv.move rfl) ?_
          refine Rg.pure rfl rfl rfl (Pv.build rfl rfl) ?_
          refine Rg.storeA rfl rfl rfl rfl rfl rfl rfl rfl ?_
          refine Rg.pure rfl rfl rfl (Pv.assign rfl) ?_
          refine Rg.pure rfl rfl rfl (Pv.assign rfl) ?_
          refine Rg.nil ?_
          exact Vc.ret (Vc.retsH (hl' := [(b31, rowS edgeE ys [])]) rfl (.cons (.cellA rfl rfl) (.cons (.tmp rfl) (.cons (.tmp rfl) .nil))) (by rw [hd]; exact ⟨_, rfl, Own.blk' b31 i i ys [] h2.symm (by simp) (by simp [maxLen]; omega)⟩) pulled)
end Go.Proofs.Ytjoldkfedmiciaa
