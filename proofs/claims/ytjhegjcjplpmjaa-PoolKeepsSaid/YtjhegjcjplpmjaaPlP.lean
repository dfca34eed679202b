/- Pools: PoolDrops, PoolDown. -/
import Derived.Test.YtjhegjcjplpmjaaPlO
namespace Go.Proofs.Ytjhegjcjplpmjaa
set_option linter.unusedVariables false

theorem Arg.upTo {α : Type} {E : Enc α} {F : Fm} {p : Option Addr} {c : Nat} {xs : List α} (h : Arg E F (.slice p xs.length c) xs) (k : Nat) : ∃ b : List α, b.length = min xs.length k ∧ b = xs.take k ∧ min xs.length k ≤ c ∧ Arg E F (.slice p (min xs.length k) c) b :=
  ⟨xs.take k, by simp; omega, rfl, by have := h.cap.2; omega, by
    have := h.take (k := min xs.length k) (Nat.min_le_left _ _)
    rwa [show xs.take (min xs.length k) = xs.take k by rw [List.take_eq_take_iff]; omega] at this⟩
theorem put_one {Y : List UInt8} {i : Nat} {z : UInt8} (h : i < Y.length) : putAt Y i [z] = Y.set i z := by
  apply List.ext_getElem?
  intro j
  rw [putAt_getP (by omega), List.getElem?_set]
  by_cases c1 : j < i
  · rw [if_pos c1, if_neg (by omega)]
  · rw [if_neg c1]
    by_cases c2 : i = j
    · subst c2
      simp [h]
    · rw [if_neg (by simp; omega), if_neg c2]
theorem put_set {own bs : List UInt8} {at_ i : Nat} (h : at_ + bs.length ≤ own.length) (hi : i < bs.length) : (putAt own at_ (bs.take i)).set (at_ + i) bs[i]! = putAt own at_ (bs.take (i + 1)) := by
  have h1 := put_step (d := i) (m := 1) h (by omega)
  have h2 : (bs.drop i).take 1 = [bs[i]!] := by rw [getElem!_pos bs i hi, List.drop_eq_getElem_cons hi]; rfl
  rw [h2, put_one (by rw [put_len (by rw [List.length_take]; omega)]; omega)] at h1
  exact h1
def pgs5 : List Pl := [⟨fA, 0⟩, ⟨fA, 1⟩, ⟨fA, 2⟩, ⟨fA, 3⟩, ⟨fA, 4⟩]
theorem pgs5_all {xa xb : List UInt8} (ha : xa.length ≤ 300) (hb : xb.length = 0) : ∀ nm own k, oAB xa xb nm = some own → 64 * k < own.length → (⟨nm, k⟩ : Pl) ∈ pgs5 := fun nm own k h hk => by
  unfold oAB at h
  split at h
  · next e =>
    cases h
    subst e
    have : k = 0 ∨ k = 1 ∨ k = 2 ∨ k = 3 ∨ k = 4 := by omega
    rcases this with rfl | rfl | rfl | rfl | rfl <;> simp [pgs5]
  · split at h
    · cases h; omega
    · cases h
theorem few5 {xa xb : List UInt8} {fr : Nat} (ha : xa.length ≤ 300) (hb : xb.length = 0) (hf : 5 ≤ fr) : Few (oAB xa xb) fr := ⟨pgs5, hf, pgs5_all ha hb⟩
theorem PInv.count {O : List UInt8 → Option (List UInt8)} {fr : Nat} {D : Dk} {L : List Pl} {P : List (Pl × Pg)} (h : PInv O fr D L P) {all : List Pl} (ha : ∀ nm own k, O nm = some own → 64 * k < own.length → (⟨nm, k⟩ : Pl) ∈ all) : P.length ≤ all.length := by
  have := nodup_le h.keys (m := all) fun q hq => by
    obtain ⟨p, hp, rfl⟩ := List.mem_map.1 hq
    obtain ⟨own, h1, h2, _⟩ := h.pg p.1 p.2 hp
    exact ha _ _ _ h1 h2
  simpa using this

set_option maxHeartbeats 4000000 in
theorem PoolDrops_spec (F : Fm) (v0 v1 : Value) (xs ys : List UInt8) (h0 : Arg byteE F v0 xs) (h1 : Arg byteE F v1 ys) : Spec Try.prog 6 #[v0, v1] F [] fun v _ => v = .bool true := by
  obtain ⟨p0, c0, rfl⟩ := h0.shape
  obtain ⟨p1, c1, rfl⟩ := h1.shape
  obtain ⟨b, hbl, _, hbc, hb⟩ := h0.upTo 100
  obtain ⟨k1, hk1, _, hkc1, hka1⟩ := h1.upTo 100
  rw [← hbl] at hb hbc
  rw [← hk1] at hka1 hkc1
  have hA : (seqA 300).length = 300 := seqA_len 300
  generalize hAe : seqA 300 = A at hA
  have hB : (seqB 0).length = 0 := seqB_len 0
  have hA1 : (putAt A 0 b).length = 300 := by rw [put_len (by omega)]; exact hA
  have hA2 : (putAt (putAt A 0 b) 100 k1).length = 300 := by rw [put_len (by omega)]; exact hA1
  refine Spec.of (n := 95) (vs := [.slice p0 xs.length c0, .slice p1 ys.length c1]) Try.func6 rfl Try.ntmps6 rfl ?_
  refine Vc.seq ?_
  refine Vc.text (List.range 1) (sd [(0, .pure)]) rfl ?_
  refine Rg.pure rfl rfl rfl (Pv.assign rfl) ?_
  refine Rg.nil ?_
  refine Vc.seq ?_
  refine Vc.text (List.range 2) (sd [(0, .eff), (1, .pure)]) rfl ?_
  refine Rg.callA rfl rfl rfl (run_callF rfl) (shown_spec _) ?_
  rintro _ s16 rfl
  refine Rg.pure rfl rfl rfl (Pv.assign rfl) ?_
  refine Rg.nil ?_
  refine Vc.seq ?_
  refine Vc.text (List.range 6) (sd [(0, .pure), (1, .pure), (2, .pure), (3, .pure), (4, .pure), (5, .pure)]) rfl ?_
  refine Rg.pure rfl rfl rfl (Pv.move rfl) ?_
  refine Rg.pure rfl rfl rfl (Pv.move rfl) ?_
  refine Rg.pure rfl rfl rfl (Pv.lenS rfl) ?_
  refine Rg.pure rfl rfl rfl (Pv.asI (b.length) (Pv.min rfl rfl) (by omega)) ?_
  refine Rg.pure rfl rfl rfl (Pv.slTo (b.length) rfl rfl (by omega)) ?_
  refine Rg.pure rfl rfl rfl (Pv.assign rfl) ?_
  refine Rg.nil ?_
  refine Vc.seq ?_
  refine Vc.text (List.range 6) (sd [(0, .pure), (1, .pure), (2, .pure), (3, .pure), (4, .pure), (5, .pure)]) rfl ?_
  refine Rg.pure rfl rfl rfl (Pv.move rfl) ?_
  refine Rg.pure rfl rfl rfl (Pv.move rfl) ?_
  refine Rg.pure rfl rfl rfl (Pv.lenS rfl) ?_
  refine Rg.pure rfl rfl rfl (Pv.asI (k1.length) (Pv.min rfl rfl) (by omega)) ?_
  refine Rg.pure rfl rfl rfl (Pv.slTo (k1.length) rfl rfl (by omega)) ?_
  refine Rg.pure rfl rfl rfl (Pv.assign rfl) ?_
  refine Rg.nil ?_
  refine Vc.seq ?_
  refine Vc.text (List.range 2) (sd [(0, .eff), (1, .pure)]) rfl ?_
  refine Rg.callA rfl rfl rfl (run_callF rfl) (made_spec _ 300 0 (by omega) (by omega)) ?_
  rintro _ s27 ⟨db, rfl, hD27, hw27⟩
  rw [hAe] at hD27 hw27
  refine Rg.pure rfl rfl rfl (Pv.assign rfl) ?_
  refine Rg.nil ?_
  refine Vc.seq ?_
  refine Vc.seq ?_
  refine Vc.text (List.range 2) (sd [(0, .pure), (1, .pure)]) rfl ?_
  refine Rg.pure rfl rfl rfl (Pv.move rfl) ?_
  refine Rg.pure rfl rfl rfl (Pv.eqlNil rfl rfl) ?_
  refine Rg.nil ?_
  refine Vc.cond rfl (fun h29 => absurd h29 (by (intro h; cases h))) (fun h29 => ?_)
  refine Vc.skip ?_
  refine Vc.seq ?_
  refine Vc.text (List.range 3) (sd [(0, .pure), (1, .eff), (2, .pure)]) rfl ?_
  refine Rg.pure rfl rfl rfl (Pv.move rfl) ?_
  refine Rg.callA rfl rfl rfl (run_callF rfl) (newPool_spec _ db 10 (by decide)) ?_
  rintro _ s31 ⟨pb, rfl, hP31⟩
  have hI31 := oAB_init A (seqB 0) (used := mB 300 0) (ops := 4) (fr := (max (10 : Int) 1).toNat) (by decide)
  refine Rg.pure rfl rfl rfl (Pv.assign rfl) ?_
  refine Rg.nil ?_
  refine Vc.seq ?_
  refine Vc.seq ?_
  refine Vc.text (List.range 2) (sd [(0, .pure), (1, .pure)]) rfl ?_
  refine Rg.pure rfl rfl rfl (Pv.move rfl) ?_
  refine Rg.pure rfl rfl rfl (Pv.eqlNil rfl rfl) ?_
  refine Rg.nil ?_
  refine Vc.cond rfl (fun h33 => absurd h33 (by (intro h; cases h))) (fun h33 => ?_)
  refine Vc.skip ?_
  refine Vc.seq ?_
  refine Vc.text (List.range 6) (sd [(0, .eff), (1, .pure), (2, .pure), (3, .pure), (4, .pure), (5, .pure)]) rfl ?_
  refine Rg.callA rfl rfl rfl (run_callF rfl) (bytes_spec _ 300 0 (by omega) (by omega)) ?_
  rintro _ _ ⟨u1, u2, su1, su2, rfl, o1, o2, rfl⟩
  rw [hAe] at o1
  simp only [List.append_assoc]
  refine Rg.pure rfl rfl rfl (Pv.move rfl) ?_
  refine Rg.pure rfl rfl rfl (Pv.extract rfl rfl) ?_
  refine Rg.pure rfl rfl rfl (Pv.extract rfl rfl) ?_
  refine Rg.pure rfl rfl rfl (Pv.assign rfl) ?_
  refine Rg.pure rfl rfl rfl (Pv.assign rfl) ?_
  refine Rg.nil ?_
  refine Vc.seq ?_
  refine Vc.text (List.range 4) (sd [(0, .pure), (1, .pure), (2, .eff), (3, .pure)]) rfl ?_
  refine Rg.pure rfl rfl rfl (Pv.move rfl) ?_
  refine Rg.pure rfl rfl rfl (Pv.move rfl) ?_
  refine Rg.callH rfl rfl rfl (run_callF rfl) (fun F' hF' => write_good (F := F') hP31 hD27 hw27 (by omega) hI31 (by omega) (by decide) (oAB_small (by omega) (by omega)) (oAB_a _ _) 0 (hb.mono fun b o h => hF' b o (.inr h)) (by omega)) rfl ?_
  rintro _ _ ⟨h1', h2', L1, P1, D1, ck1, n1, rfl, rfl, hP40, hD40, hw40, hn40, hck40, hI40, _, _, hf40⟩
  rw [oAB_setA] at hI40
  simp only [List.append_assoc]
  refine Rg.pure rfl rfl rfl (Pv.assign rfl) ?_
  refine Rg.nil ?_
  refine Vc.seq ?_
  refine Vc.text (List.range 3) (sd [(0, .pure), (1, .eff), (2, .pure)]) rfl ?_
  refine Rg.pure rfl rfl rfl (Pv.move rfl) ?_
  refine Rg.callH rfl rfl rfl (run_callF rfl) (fun F' hF' => flush_spec (F := F') hP40 hD40 hw40 (by show n1 + 10 < 990; omega) hI40 (oAB_small (by omega) (by omega)) fA) rfl ?_
  rintro _ _ ⟨h3, h4, P2, D2, rfl, rfl, hP42, hD42, hw42, hI42, hl42, hd42⟩
  simp only [List.append_assoc]
  obtain ⟨f2, hf2, hf2n⟩ := hI42.flushed (oAB_a _ _) fun q x hx e => by
    cases h : x.dirty with
    | false => rfl
    | true => exact absurd e (hd42 q x hx h).1
  refine Rg.pure rfl rfl rfl (Pv.assign rfl) ?_
  refine Rg.nil ?_
  refine Vc.seq ?_
  refine Vc.seq ?_
  refine Vc.text (List.range 1) (sd [(0, .pure)]) rfl ?_
  refine Rg.pure rfl rfl rfl (Pv.assign rfl) ?_
  refine Rg.nil ?_
  refine Vc.block ?_
  refine Vc.loop3 (fun (i : Nat) (v : Value) (s : Hl) => i ≤ b.length ∧ Own byteE v (putAt A 0 (b.take i)) s) (fun i v s => [(0, .slice p0 b.length c0), (1, .slice p1 k1.length c1), (5, .bool true), (7, .pointer (some ⟨pb, 0, none⟩)), (8, v), (10, .int .i64 0), (11, .int .i64 0), (12, .int .i64 (i : Int))]) (fun i v s => h3 ++ (h4 ++ s)) (fun i v s => b.length - i) 0 u1 su1 ⟨Nat.zero_le _, by rw [List.take_zero, put_nil]; exact o1⟩ (.cons rfl (.cons rfl (.cons rfl (.cons rfl (.cons rfl (.cons rfl (.cons rfl (.cons rfl .nil)))))))) pulled ?_
  rintro i v s ⟨hi, oo⟩
  have hYl : (putAt A 0 (b.take i)).length = 300 := by rw [put_len (by rw [List.length_take]; omega)]; exact hA
  obtain ⟨bk, cap, sp, rfl, rfl, hcap, hcm⟩ := oo.block (by omega)
  refine Vc.seq ?_
  refine Vc.seq ?_
  refine Vc.text (List.range 4) (sd [(0, .pure), (1, .pure), (2, .pure), (3, .pure)]) rfl ?_
  refine Rg.pure rfl rfl rfl (Pv.move rfl) ?_
  refine Rg.pure rfl rfl rfl (Pv.move rfl) ?_
  refine Rg.pure rfl rfl rfl (Pv.lenS rfl) ?_
  refine Rg.pure rfl rfl rfl (Pv.lss rfl rfl) ?_
  refine Rg.nil ?_
  refine Vc.cond rfl (fun h46 => ?_) (fun h46 => ?_)
  ·
    simp only [decide_eq_true_eq] at h46
    have hi1 : i < b.length := by omega
    obtain ⟨bb, off, c', e, _⟩ := hb.block (by omega)
    cases e
    have hps := put_set (own := A) (bs := b) (at_ := 0) (i := i) (by omega) hi1
    rw [Nat.zero_add] at hps
    refine Vc.skip ?_
    refine Vc.seq ?_
    refine Vc.block ?_
    refine Vc.text (List.range 8) (sd [(0, .pure), (1, .pure), (2, .pure), (3, .pure), (4, .pure), (5, .read), (6, .pure), (7, .eff)]) rfl ?_
    refine Rg.pure rfl rfl rfl (Pv.move rfl) ?_
    refine Rg.pure rfl rfl rfl (Pv.move rfl) ?_
    refine Rg.pure rfl rfl rfl (Pv.move rfl) ?_
    refine Rg.pure rfl rfl rfl (Pv.move rfl) ?_
    refine Rg.pure rfl rfl rfl (Pv.ixA (i) rfl rfl (by omega) (by omega)) ?_
    refine Rg.read rfl rfl rfl (Ev.ldS (i) (hb.src) rfl rfl rfl (by omega)) ?_
    refine Rg.pure rfl rfl rfl (Pv.ixA (i) rfl rfl (by omega) (by omega)) ?_
    refine Rg.storeR (i) rfl rfl rfl rfl rfl rfl (Nat.zero_add _) (by omega) rfl ?_
    refine Rg.nil ?_
    refine Vc.blk ?_
    refine Vc.text (List.range 3) (sd [(0, .pure), (1, .pure), (2, .pure)]) rfl ?_
    refine Rg.pure rfl rfl rfl (Pv.move rfl) ?_
    refine Rg.pure rfl rfl rfl (Pv.asI (i + 1) (Pv.add rfl rfl (by omega)) (by omega)) ?_
    refine Rg.pure rfl rfl rfl (Pv.assign rfl) ?_
    refine Rg.nil ?_
    exact Vc.inv3 (i + 1) (.slice (some ⟨bk, 0, none⟩) (putAt A 0 (b.take i)).length cap) [(bk, rowS byteE (putAt A 0 (b.take (i + 1))) sp)] ⟨⟨by omega, Own.blk' bk cap _ _ sp (by rw [hYl, put_len (by rw [List.length_take]; omega)]; exact hA.symm) hcap hcm⟩, by omega⟩ (.cons rfl (.cons rfl (.cons rfl (.cons rfl (.cons rfl (.cons rfl (.cons rfl (.cons rfl .nil)))))))) (by rw [← hps]; exact pulled)
  ·
    simp only [decide_eq_false_iff_not] at h46
    obtain rfl : i = b.length := by omega
    rw [List.take_length] at oo hYl hcap ⊢
    refine Vc.exit rfl ?_
    refine Vc.seq ?_
    refine Vc.text (List.range 4) (sd [(0, .pure), (1, .pure), (2, .eff), (3, .pure)]) rfl ?_
    refine Rg.pure rfl rfl rfl (Pv.move rfl) ?_
    refine Rg.pure rfl rfl rfl (Pv.move rfl) ?_
    refine Rg.callH rfl rfl rfl (run_callF rfl) (fun F' hF' => write_good (F := F') hP42 hD42 hw42 (by show n1 + 10 < 980; omega) hI42 (by show ck1 ≤ n1 + 10; omega) (by decide) (oAB_small (by omega) (by omega)) (oAB_a _ _) 100 (hka1.mono fun b o h => hF' b o (.inr h)) (by omega)) rfl ?_
    rintro _ _ ⟨h5, h6, L3, P3, D3, ck3, n3, rfl, rfl, hP58, hD58, hw58, hn58, hck58, hI58, _, _, hf58⟩
    rw [oAB_setA] at hI58
    obtain ⟨hD3f, _⟩ := hf58 (few5 (by omega) hB (by decide))
    have hf3 : findF D3.files fA = some f2 := by rw [hD3f]; exact hf2
    simp only [List.append_assoc]
    refine Rg.pure rfl rfl rfl (Pv.assign rfl) ?_
    refine Rg.nil ?_
    refine Vc.seq ?_
    refine Vc.text (List.range 2) (sd [(0, .pure), (1, .eff)]) rfl ?_
    refine Rg.pure rfl rfl rfl (Pv.move rfl) ?_
    refine Rg.callH rfl rfl rfl (run_callF rfl) (fun F' hF' => dropP_spec (F := F') hP58 (by have := hI58.cap; have : (max (10 : Int) 1).toNat = 10 := rfl; omega) hI58.keys hI58.perm fA) rfl ?_
    rintro _ s60 ⟨L4, P4, hP60, hk60, hL60, hm60⟩
    have hI60 := hI58.dropped hf3 hk60 hL60 hm60
    rw [hf2n, oAB_setA] at hI60
    have hP40 : ∀ q x, (q, x) ∈ P4 → False := fun q x hx => by
      obtain ⟨own, a1, a2, _⟩ := hI60.pg q x hx
      have hq := ((hm60 q x).1 hx).2
      unfold oAB at a1
      rw [if_neg hq] at a1
      split at a1
      · cases a1; rw [hB] at a2; omega
      · cases a1
    refine Rg.nil ?_
    refine Vc.seq ?_
    refine Vc.text (List.range 7) (sd [(0, .pure), (1, .eff), (2, .pure), (3, .pure), (4, .pure), (5, .pure), (6, .pure)]) rfl ?_
    refine Rg.pure rfl rfl rfl (Pv.move rfl) ?_
    refine Rg.callH rfl rfl rfl (run_callF rfl) (fun F' hF' => read_good (F := F') hP60 hD58 hw58 (by show n3 < 980; have : n3 ≤ n1 + 10 + 11 := hn58; omega) hI60 hck58 (by decide) (oAB_small (by omega) (by omega)) (oAB_a _ _) 0 300 (by omega)) rfl ?_
    rintro _ _ ⟨u, su, h7, h8, L5, P5, D5, ck5, n5, rfl, ou, rfl, hP63, hD63, hw63, hn63, hck63, hI63, _, hdy63, _⟩
    simp only [List.append_assoc]
    rw [List.drop_zero, List.take_of_length_le (by omega)] at ou
    have hcl : ∀ q x, (q, x) ∈ P5 → x.dirty = false := fun q x hx => by
      cases h : x.dirty with
      | false => rfl
      | true =>
        rcases hdy63 q x hx h with ⟨x0, a, _⟩ | h
        · exact (hP40 q x0 a).elim
        · exact h.elim
    refine Rg.pure rfl rfl rfl (Pv.move rfl) ?_
    refine Rg.pure rfl rfl rfl (Pv.extract rfl rfl) ?_
    refine Rg.pure rfl rfl rfl (Pv.extract rfl rfl) ?_
    refine Rg.pure rfl rfl rfl (Pv.assign rfl) ?_
    refine Rg.pure rfl rfl rfl (Pv.assign rfl) ?_
    refine Rg.nil ?_
    refine Vc.seq ?_
    refine Vc.text (List.range 30) (sd [(0, .pure), (1, .pure), (2, .pure), (3, .pure), (4, .pure), (5, .pure), (6, .pure), (7, .pure), (8, .pure), (9, .pure), (10, .pure), (11, .pure), (12, .pure), (13, .pure), (14, .pure), (15, .pure), (16, .pure), (17, .pure), (18, .pure), (19, .read), (20, .pure), (21, .read), (22, .pure), (23, .pure), (24, .pure), (25, .pure), (26, .eff), (27, .pure), (28, .pure), (29, .pure)]) rfl ?_
    refine Rg.pure rfl rfl rfl (Pv.move rfl) ?_
    refine Rg.pure rfl rfl rfl (Pv.move rfl) ?_
    refine Rg.split (t := 67) rfl (fun h67 => ?_) (fun h67 => absurd h67 (by decide))
    refine Rg.pure rfl rfl rfl (Pv.move rfl) ?_
    refine Rg.pure rfl rfl rfl (Pv.eql rfl rfl) ?_
    refine Rg.pure rfl rfl rfl (Pv.pickT rfl rfl) ?_
    refine Rg.pure rfl rfl rfl (Pv.move rfl) ?_
    refine Rg.split (t := 71) rfl (fun h71 => ?_) (fun h71 => absurd h71 (by decide))
    refine Rg.pure rfl rfl rfl (Pv.move rfl) ?_
    refine Rg.pure rfl rfl rfl (Pv.eql rfl rfl) ?_
    refine Rg.pure rfl rfl rfl (Pv.pickT rfl rfl) ?_
    refine Rg.pure rfl rfl rfl (Pv.move rfl) ?_
    refine Rg.split (t := 75) rfl (fun h75 => ?_) (fun h75 => absurd h75 (by decide))
    refine Rg.pure rfl rfl rfl (Pv.move rfl) ?_
    refine Rg.pure rfl rfl rfl (Pv.eql rfl rfl) ?_
    refine Rg.pure rfl rfl rfl (Pv.pickT rfl rfl) ?_
    refine Rg.pure rfl rfl rfl (Pv.move rfl) ?_
    refine Rg.split (t := 79) rfl (fun h79 => ?_) (fun h79 => absurd h79 (by decide))
    refine Rg.pure rfl rfl rfl (Pv.move rfl) ?_
    refine Rg.pure rfl rfl rfl (Pv.eql rfl rfl) ?_
    refine Rg.pure rfl rfl rfl (Pv.pickT rfl rfl) ?_
    refine Rg.pure rfl rfl rfl (Pv.move rfl) ?_
    refine Rg.split (t := 83) rfl (fun h83 => ?_) (fun h83 => absurd h83 (by decide))
    refine Rg.pure rfl rfl rfl (Pv.move rfl) ?_
    refine Rg.read rfl rfl rfl (Ev.str (Src.own (rest := []) ou Sb.sub) rfl) ?_
    refine Rg.pure rfl rfl rfl (Pv.move rfl) ?_
    refine Rg.read rfl rfl rfl (Ev.str (Src.own (rest := []) oo Sb.sub) rfl) ?_
    refine Rg.pure rfl rfl rfl (Pv.eqlS rfl rfl) ?_
    refine Rg.pure rfl rfl rfl (Pv.pickT rfl rfl) ?_
    refine Rg.pure rfl rfl rfl (Pv.move rfl) ?_
    refine Rg.split (t := 90) rfl (fun h90 => ?_) (fun h90 => absurd h90 (by simp))
    refine Rg.pure rfl rfl rfl (Pv.move rfl) ?_
    refine Rg.callP rfl rfl rfl (run_callF rfl) (dirty_spec hP63 frz_sb (by have := hI63.cap; have : (max (10 : Int) 1).toNat = 10 := rfl; omega)) ?_
    rintro _ rfl
    refine Rg.pure rfl rfl rfl (Pv.eql rfl rfl) ?_
    refine Rg.pure rfl rfl rfl (Pv.pickT rfl rfl) ?_
    refine Rg.pure rfl rfl rfl (Pv.assign rfl) ?_
    refine Rg.nil ?_
    refine Vc.ret (Vc.rets rfl (.cons (.tmp rfl) (.nil)) ?_)
    exact congrArg Value.bool (by rw [dirtyN_zero hcl]; decide)
end Go.Proofs.Ytjhegjcjplpmjaa
