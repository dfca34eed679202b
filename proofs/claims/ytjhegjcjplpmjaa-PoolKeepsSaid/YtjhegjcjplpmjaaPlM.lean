/- Pools: the disks that the laws make; what is flushed, what is dropped. -/
import Derived.Test.YtjhegjcjplpmjaaPlL
import Derived.Test.YtjhegjcjplpmjaaByP
namespace Go.Proofs.Ytjhegjcjplpmjaa
set_option linter.unusedVariables false

section
variable {O : List UInt8 → Option (List UInt8)} {fr : Nat} {D : Dk} {L : List Pl} {P : List (Pl × Pg)}
theorem PInv.flushed (h : PInv O fr D L P) {nm own : List UInt8} (ho : O nm = some own) (hc : ∀ q x, (q, x) ∈ P → q.nm = nm → x.dirty = false) : ∃ f, findF D.files nm = some f ∧ f.now = own := by
  obtain ⟨f, hf, hl⟩ := h.file nm own ho
  exact ⟨f, hf, chunks_ext hl fun k => h.cl nm own f k ho hf fun x hx => hc _ x hx rfl⟩
theorem PInv.readF (h : PInv O fr D L P) {nm own : List UInt8} {f : Fl} (hf : findF D.files nm = some f) (hn : f.now = own) {at_ q : Nat} (hq : at_ + q ≤ own.length) : readD D nm (at_ : Int) (q : Int) = ((own.drop at_).take q, 0) ∧ (beginsD D).2 = { D with ops := D.ops + 1 } := by
  have hb := begins_up h.arm h.up
  refine ⟨?_, by rw [hb]⟩
  simp only [readD, hb]
  rw [if_neg (show ¬ (0 : Int) = 7 by decide), hf]
  simp only []
  rw [if_neg (by rw [hn]; omega), hn]
  rfl
theorem dirtyN_le (P : List (Pl × Pg)) : dirtyN P ≤ P.length := List.length_filter_le _ _
theorem dirtyN_zero {P : List (Pl × Pg)} (h : ∀ q x, (q, x) ∈ P → x.dirty = false) : dirtyN P = 0 := by
  rw [dirtyN, List.length_eq_zero_iff, List.filter_eq_nil_iff]
  intro p hp
  simp [h p.1 p.2 hp]
theorem PInv.dropped (h : PInv O fr D L P) {nm : List UInt8} {f : Fl} (hf : findF D.files nm = some f) {L' : List Pl} {P' : List (Pl × Pg)} (hk : (P'.map (·.1)).Nodup) (hL : L'.Perm (P'.map (·.1))) (hm : ∀ q x, (q, x) ∈ P' ↔ (q, x) ∈ P ∧ q.nm ≠ nm) : PInv (setO O nm f.now) fr D L' P' := by
  refine ⟨h.up, h.arm, h.room, ?_, ?_, hk, hL, ?_, ?_, ?_⟩
  · intro n o hn
    unfold setO at hn
    by_cases e : n = nm
    · rw [if_pos e] at hn; cases hn; exact ⟨f, by rw [e]; exact hf, rfl⟩
    · rw [if_neg e] at hn; exact h.file n o hn
  · intro n hn
    unfold setO at hn
    by_cases e : n = nm
    · rw [if_pos e] at hn; cases hn
    · rw [if_neg e] at hn; exact h.nof n hn
  · have := nodup_le hk (m := P.map (·.1)) fun q hq => by
      obtain ⟨p, hp, rfl⟩ := List.mem_map.1 hq
      exact List.mem_map.2 ⟨p, ((hm p.1 p.2).1 hp).1, rfl⟩
    simp only [List.length_map] at this
    exact Nat.le_trans this h.cap
  · intro p x hx
    obtain ⟨h1, h2⟩ := (hm p x).1 hx
    obtain ⟨o, a1, a2, a3⟩ := h.pg p x h1
    exact ⟨o, by simp [setO, h2, a1], a2, a3⟩
  · intro n o g k hn hg hall
    unfold setO at hn
    by_cases e : n = nm
    · rw [if_pos e] at hn
      cases hn
      subst e
      rw [hf] at hg
      cases hg
      rfl
    · rw [if_neg e] at hn
      exact h.cl n o g k hn hg fun x hx => hall x ((hm _ x).2 ⟨hx, e⟩)
end

/-! ### Disks with two files -/
abbrev fA : List UInt8 := [97]
abbrev fB : List UInt8 := [98]
def oAB (xa xb : List UInt8) : List UInt8 → Option (List UInt8) := fun n => if n = fA then some xa else if n = fB then some xb else none
abbrev dAB (xa xb : List UInt8) (used ops : Int) : Dk := ⟨[(fA, ⟨xa, []⟩), (fB, ⟨xb, []⟩)], 1000, used, ops, 0, [], false⟩
theorem oAB_a (xa xb : List UInt8) : oAB xa xb fA = some xa := by simp [oAB]
theorem oAB_b (xa xb : List UInt8) : oAB xa xb fB = some xb := by simp [oAB]
theorem oAB_setA (xa xb ya : List UInt8) : setO (oAB xa xb) fA ya = oAB ya xb := by
  funext n; unfold setO oAB; split <;> rfl
theorem oAB_setB (xa xb yb : List UInt8) : setO (oAB xa xb) fB yb = oAB xa yb := by
  funext n; unfold setO oAB
  by_cases h1 : n = fB
  · rw [if_pos h1, if_neg (by rw [h1]; decide), if_pos h1]
  · rw [if_neg h1, if_neg h1, if_neg h1]
theorem oAB_small {xa xb : List UInt8} (h1 : xa.length ≤ 300) (h2 : xb.length ≤ 300) : ∀ nm own, oAB xa xb nm = some own → own.length ≤ 300 := fun nm own h => by
  unfold oAB at h
  split at h
  · cases h; exact h1
  · split at h
    · cases h; exact h2
    · cases h
theorem oAB_init (xa xb : List UInt8) {used ops : Int} {fr : Nat} (hu : used ≤ 1000) : PInv (oAB xa xb) fr (dAB xa xb used ops) [] [] := by
  have h2 : findF (dAB xa xb used ops).files fB = some ⟨xb, []⟩ := by simp [findF]
  have h1 : findF (dAB xa xb used ops).files fA = some ⟨xa, []⟩ := by simp [findF]
  have key : ∀ nm own, oAB xa xb nm = some own → ∃ f, findF (dAB xa xb used ops).files nm = some f ∧ f.now = own := fun nm own h => by
    unfold oAB at h
    split at h
    · next e => cases h; exact ⟨_, by rw [e]; exact h1, rfl⟩
    · split at h
      · next e => cases h; exact ⟨_, by rw [e]; exact h2, rfl⟩
      · cases h
  refine ⟨rfl, rfl, hu, fun nm own h => ?_, fun nm h => ?_, .nil, .nil, Nat.zero_le _, fun p x h => (by cases h), fun nm own f k h hf _ => ?_⟩
  · obtain ⟨f, a, b⟩ := key nm own h; exact ⟨f, a, by rw [b]⟩
  · unfold oAB at h
    split at h
    · cases h
    · next e =>
      split at h
      · cases h
      · next e2 => simp [findF, Ne.symm e, Ne.symm e2]
  · obtain ⟨f', a, b⟩ := key nm own h
    rw [a] at hf
    cases hf
    rw [b]
theorem createAB : createD (d1 fA ⟨[], []⟩ 1000 1 false) fB = (0, dAB [] [] 0 2) := by
  have hb := begins1 (k := fA) (f := ⟨[], []⟩) (room := 1000) (ops := 1)
  simp only [createD, hb]
  rfl
theorem wr0 {used : Int} {bs : List UInt8} (h : used + (secs bs.length : Nat) ≤ 1000) : wrG 1000 used [] (([] : List UInt8).length : Nat) bs = (0, used + (secs bs.length : Nat), bs) := by
  have h0 : secs 0 = 0 := rfl
  unfold wrG
  simp only [List.length_nil, Int.toNat_natCast, Nat.zero_add, Nat.zero_max, h0]
  rw [if_neg (by omega), if_neg (by omega)]
  simp [putAt]
theorem appA (xa : List UInt8) (ops : Int) (h : xa.length ≤ 300) : writeD (dAB [] [] 0 ops) fA none xa = (0, dAB xa [] (0 + (secs xa.length : Nat)) (ops + 1)) := by
  have hb : beginsD (dAB [] [] 0 ops) = (0, dAB [] [] 0 (ops + 1)) := begins_up rfl rfl
  have hf : findF (dAB [] [] 0 (ops + 1)).files fA = some ⟨[], []⟩ := by simp [findF]
  simp only [writeD, hb]
  rw [if_neg (show ¬ (0 : Int) = 7 by decide), hf]
  simp only [Option.getD_none]
  rw [wr0 (by unfold secs; omega)]
  simp [setF]
theorem appB (xa xb : List UInt8) (ops : Int) (ha : xa.length ≤ 300) (h : xb.length ≤ 300) : writeD (dAB xa [] (0 + (secs xa.length : Nat)) ops) fB none xb = (0, dAB xa xb (0 + (secs xa.length : Nat) + (secs xb.length : Nat)) (ops + 1)) := by
  have hb : beginsD (dAB xa [] (0 + (secs xa.length : Nat)) ops) = (0, dAB xa [] (0 + (secs xa.length : Nat)) (ops + 1)) := begins_up rfl rfl
  have hf : findF (dAB xa [] (0 + (secs xa.length : Nat)) (ops + 1)).files fB = some ⟨[], []⟩ := by simp [findF]
  simp only [writeD, hb]
  rw [if_neg (show ¬ (0 : Int) = 7 by decide), hf]
  simp only [Option.getD_none]
  rw [wr0 (by unfold secs; omega)]
  simp [setF]
def seqA (a : Nat) : List UInt8 := (List.range a).map fun i => UInt8.ofNat i
def seqB (b : Nat) : List UInt8 := (List.range b).map fun i => UInt8.ofNat (7 * i)
theorem seqA_len (a : Nat) : (seqA a).length = a := by simp [seqA]
theorem seqB_len (a : Nat) : (seqB a).length = a := by simp [seqB]
theorem fill_step {f : Nat → UInt8} {a i : Nat} (h : i < a) : (((List.range i).map f) ++ List.replicate (a - i) 0).set i (f i) = ((List.range (i + 1)).map f) ++ List.replicate (a - (i + 1)) 0 := by
  rw [List.range_succ, List.map_append, List.append_assoc, List.set_append_right _ _ (by simp)]
  congr 1
  rw [show a - i = (a - (i + 1)) + 1 from by omega, List.replicate_succ]
  simp
def mB (a b : Nat) : Int := 0 + (secs a : Nat) + (secs b : Nat)
theorem made_spec (F : Fm) (a b : Nat) (ha : a ≤ 300) (hb : b ≤ 300) : Spec Try.prog 10 #[.int .i64 (a : Int), .int .i64 (b : Int)] F [] fun v s => ∃ db, v = .pointer (some ⟨db, 0, none⟩) ∧ DiskAt db (dAB (seqA a) (seqB b) (mB a b) 4) s ∧ Dq 4 (dAB (seqA a) (seqB b) (mB a b) 4) := by
  refine Spec.of (n := 59) (vs := [.int .i64 (a : Int), .int .i64 (b : Int)]) Try.func10 rfl Try.ntmps10 rfl ?_
  refine Vc.seq ?_
  refine Vc.text (List.range 1) (sd [(0, .pure)]) rfl ?_
  refine Rg.pure rfl rfl rfl (Pv.assign rfl) ?_
  refine Rg.nil ?_
  refine Vc.seq ?_
  refine Vc.text (List.range 2) (sd [(0, .eff), (1, .pure)]) rfl ?_
  refine Rg.callA rfl rfl rfl (run_callF rfl) (new_w _ 1000 1000 (by decide)) ?_
  rintro _ s10 ⟨db, rfl, hD, hw⟩
  refine Rg.pure rfl rfl rfl (Pv.assign rfl) ?_
  refine Rg.nil ?_
  refine Vc.seq ?_
  refine Vc.seq ?_
  refine Vc.text (List.range 2) (sd [(0, .pure), (1, .pure)]) rfl ?_
  refine Rg.pure rfl rfl rfl (Pv.move rfl) ?_
  refine Rg.pure rfl rfl rfl (Pv.eqlNil rfl rfl) ?_
  refine Rg.nil ?_
  refine Vc.cond rfl (fun h12 => absurd h12 (by (intro h; cases h))) (fun h12 => ?_)
  refine Vc.skip ?_
  refine Vc.seq ?_
  refine Vc.text (List.range 3) (sd [(0, .pure), (1, .eff), (2, .pure)]) rfl ?_
  refine Rg.pure rfl rfl rfl (Pv.move rfl) ?_
  refine Rg.makeN byteE 0 (m := a) rfl rfl rfl rfl rfl (by simp [maxLen] <;> omega) (fun b14 own14 => ?_)
  refine Rg.pure rfl rfl rfl (Pv.assign rfl) ?_
  refine Rg.nil ?_
  refine Vc.seq ?_
  refine Vc.seq ?_
  refine Vc.text (List.range 1) (sd [(0, .pure)]) rfl ?_
  refine Rg.pure rfl rfl rfl (Pv.assign rfl) ?_
  refine Rg.nil ?_
  refine Vc.block ?_
  refine Vc.loop2 (fun (i : Nat) (xs : List UInt8) => i ≤ a ∧ xs = (List.range i).map (fun i => UInt8.ofNat i) ++ List.replicate (a - i) 0) (fun i xs => [(0, .int .i64 (a : Int)), (1, .int .i64 (b : Int)), (5, .pointer (some ⟨db, 0, none⟩)), (6, .slice (some ⟨b14, 0, none⟩) a a), (7, .int .i64 (i : Int))]) (fun i xs => (b14, rowS byteE xs []) :: s10) (fun i xs => a - i) 0 (List.replicate a 0) ⟨Nat.zero_le _, by simp⟩ (.cons rfl (.cons rfl (.cons rfl (.cons rfl (.cons rfl .nil))))) pulled ?_
  rintro i xs ⟨hi, hxs⟩
  refine Vc.seq ?_
  refine Vc.seq ?_
  refine Vc.text (List.range 3) (sd [(0, .pure), (1, .pure), (2, .pure)]) rfl ?_
  refine Rg.pure rfl rfl rfl (Pv.move rfl) ?_
  refine Rg.pure rfl rfl rfl (Pv.move rfl) ?_
  refine Rg.pure rfl rfl rfl (Pv.lss rfl rfl) ?_
  refine Rg.nil ?_
  refine Vc.cond rfl (fun h17 => ?_) (fun h17 => ?_)
  ·
    simp only [decide_eq_true_eq] at h17
    have hi1 : i < a := by omega
    have hll : xs.length = a := by rw [hxs]; simp; omega
    refine Vc.skip ?_
    refine Vc.seq ?_
    refine Vc.block ?_
    refine Vc.text (List.range 6) (sd [(0, .pure), (1, .pure), (2, .pure), (3, .pure), (4, .pure), (5, .eff)]) rfl ?_
    refine Rg.pure rfl rfl rfl (Pv.move rfl) ?_
    refine Rg.pure rfl rfl rfl (Pv.move rfl) ?_
    refine Rg.pure rfl rfl rfl (Pv.move rfl) ?_
    refine Rg.pure rfl rfl rfl (Pv.as (.int .u8 ((UInt8.ofNat i).toNat : Int)) (Pv.convI rfl) (congrArg (Value.int .u8) (wrap_u8 _))) ?_
    refine Rg.pure rfl rfl rfl (Pv.ixA (i) rfl rfl (by omega) (by omega)) ?_
    refine Rg.storeR (i) rfl rfl rfl rfl rfl rfl (Nat.zero_add _) (by omega) rfl ?_
    refine Rg.nil ?_
    refine Vc.blk ?_
    refine Vc.text (List.range 3) (sd [(0, .pure), (1, .pure), (2, .pure)]) rfl ?_
    refine Rg.pure rfl rfl rfl (Pv.move rfl) ?_
    refine Rg.pure rfl rfl rfl (Pv.asI (i + 1) (Pv.add rfl rfl (by omega)) (by omega)) ?_
    refine Rg.pure rfl rfl rfl (Pv.assign rfl) ?_
    refine Rg.nil ?_
    exact Vc.inv2 (i + 1) (xs.set i (UInt8.ofNat i)) ⟨⟨by omega, by rw [hxs, fill_step (f := fun i => UInt8.ofNat i) hi1]⟩, by omega⟩ (.cons rfl (.cons rfl (.cons rfl (.cons rfl (.cons rfl .nil))))) pulled
  ·
    simp only [decide_eq_false_iff_not] at h17
    obtain rfl : a = i := by omega
    rw [Nat.sub_self, List.replicate_zero, List.append_nil] at hxs
    replace hxs : xs = seqA a := hxs
    subst hxs
    have hoa : Own byteE (.slice (some ⟨b14, 0, none⟩) a a) (seqA a) [(b14, rowS byteE (seqA a) [])] := Own.blk' b14 a a _ [] (by rw [seqA_len]) (by simp) (by simp [maxLen]; omega)
    refine Vc.exit rfl ?_
    refine Vc.seq ?_
    refine Vc.text (List.range 3) (sd [(0, .pure), (1, .eff), (2, .pure)]) rfl ?_
    refine Rg.pure rfl rfl rfl (Pv.move rfl) ?_
    refine Rg.makeN byteE 0 (m := b) rfl rfl rfl rfl rfl (by simp [maxLen] <;> omega) (fun b26 own26 => ?_)
    refine Rg.pure rfl rfl rfl (Pv.assign rfl) ?_
    refine Rg.nil ?_
    refine Vc.seq ?_
    refine Vc.seq ?_
    refine Vc.text (List.range 1) (sd [(0, .pure)]) rfl ?_
    refine Rg.pure rfl rfl rfl (Pv.assign rfl) ?_
    refine Rg.nil ?_
    refine Vc.block ?_
    refine Vc.loop2 (fun (j : Nat) (xs : List UInt8) => j ≤ b ∧ xs = (List.range j).map (fun i => UInt8.ofNat (7 * i)) ++ List.replicate (b - j) 0) (fun j xs => [(1, .int .i64 (b : Int)), (5, .pointer (some ⟨db, 0, none⟩)), (6, .slice (some ⟨b14, 0, none⟩) a a), (8, .slice (some ⟨b26, 0, none⟩) b b), (9, .int .i64 (j : Int))]) (fun j xs => (b26, rowS byteE xs []) :: (b14, rowS byteE (seqA a) []) :: s10) (fun j xs => b - j) 0 (List.replicate b 0) ⟨Nat.zero_le _, by simp⟩ (.cons rfl (.cons rfl (.cons rfl (.cons rfl (.cons rfl .nil))))) pulled ?_
    rintro j xs ⟨hj, hxs⟩
    refine Vc.seq ?_
    refine Vc.seq ?_
    refine Vc.text (List.range 3) (sd [(0, .pure), (1, .pure), (2, .pure)]) rfl ?_
    refine Rg.pure rfl rfl rfl (Pv.move rfl) ?_
    refine Rg.pure rfl rfl rfl (Pv.move rfl) ?_
    refine Rg.pure rfl rfl rfl (Pv.lss rfl rfl) ?_
    refine Rg.nil ?_
    refine Vc.cond rfl (fun h29 => ?_) (fun h29 => ?_)
    ·
      simp only [decide_eq_true_eq] at h29
      have hj1 : j < b := by omega
      have hll : xs.length = b := by rw [hxs]; simp; omega
      refine Vc.skip ?_
      refine Vc.seq ?_
      refine Vc.block ?_
      refine Vc.text (List.range 7) (sd [(0, .pure), (1, .pure), (2, .pure), (3, .pure), (4, .pure), (5, .pure), (6, .eff)]) rfl ?_
      refine Rg.pure rfl rfl rfl (Pv.move rfl) ?_
      refine Rg.pure rfl rfl rfl (Pv.move rfl) ?_
      refine Rg.pure rfl rfl rfl (Pv.move rfl) ?_
      refine Rg.pure rfl rfl rfl (Pv.asI (7 * j) (Pv.mul rfl rfl (by omega)) (by omega)) ?_
      refine Rg.pure rfl rfl rfl (Pv.as (.int .u8 ((UInt8.ofNat (7 * j)).toNat : Int)) (Pv.convI rfl) (congrArg (Value.int .u8) (wrap_u8 _))) ?_
      refine Rg.pure rfl rfl rfl (Pv.ixA (j) rfl rfl (by omega) (by omega)) ?_
      refine Rg.storeR (j) rfl rfl rfl rfl rfl rfl (Nat.zero_add _) (by omega) rfl ?_
      refine Rg.nil ?_
      refine Vc.blk ?_
      refine Vc.text (List.range 3) (sd [(0, .pure), (1, .pure), (2, .pure)]) rfl ?_
      refine Rg.pure rfl rfl rfl (Pv.move rfl) ?_
      refine Rg.pure rfl rfl rfl (Pv.asI (j + 1) (Pv.add rfl rfl (by omega)) (by omega)) ?_
      refine Rg.pure rfl rfl rfl (Pv.assign rfl) ?_
      refine Rg.nil ?_
      exact Vc.inv2 (j + 1) (xs.set j (UInt8.ofNat (7 * j))) ⟨⟨by omega, by rw [hxs, fill_step (f := fun i => UInt8.ofNat (7 * i)) hj1]⟩, by omega⟩ (.cons rfl (.cons rfl (.cons rfl (.cons rfl (.cons rfl .nil))))) pulled
    ·
      simp only [decide_eq_false_iff_not] at h29
      obtain rfl : b = j := by omega
      rw [Nat.sub_self, List.replicate_zero, List.append_nil] at hxs
      replace hxs : xs = seqB b := hxs
      subst hxs
      have hob : Own byteE (.slice (some ⟨b26, 0, none⟩) b b) (seqB b) [(b26, rowS byteE (seqB b) [])] := Own.blk' b26 b b _ [] (by rw [seqB_len]) (by simp) (by simp [maxLen]; omega)
      refine Vc.exit rfl ?_
      refine Vc.seq ?_
      refine Vc.seq ?_
      refine Vc.text (List.range 20) (sd [(0, .pure), (1, .eff), (2, .pure), (3, .pure), (4, .pure), (5, .eff), (6, .pure), (7, .pure), (8, .pure), (9, .pure), (10, .pure), (11, .eff), (12, .pure), (13, .pure), (14, .pure), (15, .pure), (16, .pure), (17, .eff), (18, .pure), (19, .pure)]) rfl ?_
      refine Rg.pure rfl rfl rfl (Pv.move rfl) ?_
      refine Rg.callH rfl rfl rfl (run_callF rfl) (fun F' hF' => create_w (F := F') hD hw (by omega) (by omega) fA (create1 (by decide))) rfl ?_
      rintro _ s39 ⟨rfl, hD39, hw39⟩
      refine Rg.pure rfl rfl rfl (Pv.neq rfl rfl) ?_
      refine Rg.pure rfl rfl rfl (Pv.move rfl) ?_
      refine Rg.split (t := 41) rfl (fun h41 => absurd h41 (by decide)) (fun h41 => ?_)
      refine Rg.pure rfl rfl rfl (Pv.move rfl) ?_
      refine Rg.callH rfl rfl rfl (run_callF rfl) (fun F' hF' => create_w (F := F') hD39 hw39 (by omega) (by omega) fB createAB) rfl ?_
      rintro _ s43 ⟨rfl, hD43, hw43⟩
      refine Rg.pure rfl rfl rfl (Pv.neq rfl rfl) ?_
      refine Rg.pure rfl rfl rfl (Pv.pickF rfl rfl) ?_
      refine Rg.pure rfl rfl rfl (Pv.move rfl) ?_
      refine Rg.split (t := 46) rfl (fun h46 => absurd h46 (by decide)) (fun h46 => ?_)
      refine Rg.pure rfl rfl rfl (Pv.move rfl) ?_
      refine Rg.pure rfl rfl rfl (Pv.move rfl) ?_
      refine Rg.callH rfl rfl rfl (run_callF rfl) (fun F' hF' => append_w (F := F') hD43 hw43 (by omega) (by omega) fA (Arg.own hoa fun b o hb => hF' b o (.inl (by simp only [List.mem_singleton] at hb; simp [hb]))) (by rw [seqA_len]; omega) (appA (seqA a) 2 (by rw [seqA_len]; exact ha))) rfl ?_
      rintro _ s49 ⟨rfl, hD49, hw49⟩
      refine Rg.pure rfl rfl rfl (Pv.neq rfl rfl) ?_
      refine Rg.pure rfl rfl rfl (Pv.pickF rfl rfl) ?_
      refine Rg.pure rfl rfl rfl (Pv.move rfl) ?_
      refine Rg.split (t := 52) rfl (fun h52 => absurd h52 (by decide)) (fun h52 => ?_)
      refine Rg.pure rfl rfl rfl (Pv.move rfl) ?_
      refine Rg.pure rfl rfl rfl (Pv.move rfl) ?_
      refine Rg.callH rfl rfl rfl (run_callF rfl) (fun F' hF' => append_w (F := F') hD49 hw49 (by omega) (by rw [seqA_len]; omega) fB (Arg.own hob fun b o hb => hF' b o (.inl (by simp only [List.mem_singleton] at hb; simp [hb]))) (by rw [seqB_len]; omega) (appB (seqA a) (seqB b) 3 (by rw [seqA_len]; exact ha) (by rw [seqB_len]; exact hb))) rfl ?_
      rintro _ s55 ⟨rfl, hD55, hw55⟩
      rw [seqA_len, seqB_len] at hD55 hw55
      refine Rg.pure rfl rfl rfl (Pv.neq rfl rfl) ?_
      refine Rg.pure rfl rfl rfl (Pv.pickF rfl rfl) ?_
      refine Rg.nil ?_
      refine Vc.cond rfl (fun h57 => absurd h57 (by decide)) (fun h57 => ?_)
      refine Vc.skip ?_
      refine Vc.seq ?_
      refine Vc.text (List.range 2) (sd [(0, .pure), (1, .pure)]) rfl ?_
      refine Rg.pure rfl rfl rfl (Pv.move rfl) ?_
      refine Rg.pure rfl rfl rfl (Pv.assign rfl) ?_
      refine Rg.nil ?_
      exact Vc.ret (Vc.retsH rfl (.cons (.tmp rfl) (.nil)) (⟨db, rfl, hD55, hw55.mono (by omega) (by omega)⟩) pulled)
theorem bytes_spec (F : Fm) (a b : Nat) (ha : a ≤ 300) (hb : b ≤ 300) : Spec Try.prog 12 #[.int .i64 (a : Int), .int .i64 (b : Int)] F [] fun v s => ∃ u1 u2 s1 s2, v = .tuple #[u1, u2] ∧ Own byteE u1 (seqA a) s1 ∧ Own byteE u2 (seqB b) s2 ∧ s = s1 ++ s2 := by
  refine Spec.of (n := 33) (vs := [.int .i64 (a : Int), .int .i64 (b : Int)]) Try.func12 rfl Try.ntmps12 rfl ?_
  refine Vc.seq ?_
  refine Vc.text (List.range 2) (sd [(0, .pure), (1, .pure)]) rfl ?_
  refine Rg.pure rfl rfl rfl (Pv.assign rfl) ?_
  refine Rg.pure rfl rfl rfl (Pv.assign rfl) ?_
  refine Rg.nil ?_
  refine Vc.seq ?_
  refine Vc.text (List.range 1) (sd [(0, .pure)]) rfl ?_
  refine Rg.pure rfl rfl rfl (Pv.assign rfl) ?_
  refine Rg.nil ?_
  refine Vc.seq ?_
  refine Vc.text (List.range 1) (sd [(0, .pure)]) rfl ?_
  refine Rg.pure rfl rfl rfl (Pv.assign rfl) ?_
  refine Rg.nil ?_
  refine Vc.seq ?_
  refine Vc.seq ?_
  refine Vc.text (List.range 1) (sd [(0, .pure)]) rfl ?_
  refine Rg.pure rfl rfl rfl (Pv.assign rfl) ?_
  refine Rg.nil ?_
  refine Vc.block ?_
  refine Vc.loop3 (fun (i : Nat) (v : Value) (s : Hl) => i ≤ a ∧ Own byteE v (seqA i) s) (fun i v s => [(0, .int .i64 (a : Int)), (1, .int .i64 (b : Int)), (6, v), (7, .slice none 0 0), (8, .int .i64 (i : Int))]) (fun i v s => s) (fun i v s => a - i) 0 (.slice none 0 0) [] ⟨Nat.zero_le _, Own.nil⟩ (.cons rfl (.cons rfl (.cons rfl (.cons rfl (.cons rfl .nil))))) pulled ?_
  rintro i v s ⟨hi, oo⟩
  have hsl := seqA_len i
  refine Vc.seq ?_
  refine Vc.seq ?_
  refine Vc.text (List.range 3) (sd [(0, .pure), (1, .pure), (2, .pure)]) rfl ?_
  refine Rg.pure rfl rfl rfl (Pv.move rfl) ?_
  refine Rg.pure rfl rfl rfl (Pv.move rfl) ?_
  refine Rg.pure rfl rfl rfl (Pv.lss rfl rfl) ?_
  refine Rg.nil ?_
  refine Vc.cond rfl (fun h12 => ?_) (fun h12 => ?_)
  ·
    simp only [decide_eq_true_eq] at h12
    refine Vc.skip ?_
    refine Vc.seq ?_
    refine Vc.block ?_
    refine Vc.text (List.range 6) (sd [(0, .pure), (1, .pure), (2, .pure), (3, .eff), (4, .eff), (5, .pure)]) rfl ?_
    refine Rg.pure rfl rfl rfl (Pv.move rfl) ?_
    refine Rg.pure rfl rfl rfl (Pv.move rfl) ?_
    refine Rg.pure rfl rfl rfl (Pv.as (.int .u8 ((UInt8.ofNat i).toNat : Int)) (Pv.convI rfl) (congrArg (Value.int .u8) (wrap_u8 _))) ?_
    refine Rg.bslice1 rfl rfl rfl rfl rfl rfl rfl (fun b18 => ?_)
    refine Rg.append rfl rfl rfl rfl rfl oo (Src.one (y := UInt8.ofNat i) rfl) (by simp <;> omega) (by simp [maxLen] <;> omega) rfl (fun v19 s19 own19 => ?_)
    refine Rg.pure rfl rfl rfl (Pv.assign rfl) ?_
    refine Rg.nil ?_
    refine Vc.blk ?_
    refine Vc.text (List.range 3) (sd [(0, .pure), (1, .pure), (2, .pure)]) rfl ?_
    refine Rg.pure rfl rfl rfl (Pv.move rfl) ?_
    refine Rg.pure rfl rfl rfl (Pv.asI (i + 1) (Pv.add rfl rfl (by omega)) (by omega)) ?_
    refine Rg.pure rfl rfl rfl (Pv.assign rfl) ?_
    refine Rg.nil ?_
    exact Vc.inv3 (i + 1) v19 s19 ⟨⟨by omega, by rw [seqA, List.range_succ, List.map_append]; exact own19⟩, by omega⟩ (.cons rfl (.cons rfl (.cons rfl (.cons rfl (.cons rfl .nil))))) pulled
  ·
    simp only [decide_eq_false_iff_not] at h12
    obtain rfl : a = i := by omega
    refine Vc.exit rfl ?_
    refine Vc.seq ?_
    refine Vc.seq ?_
    refine Vc.text (List.range 1) (sd [(0, .pure)]) rfl ?_
    refine Rg.pure rfl rfl rfl (Pv.assign rfl) ?_
    refine Rg.nil ?_
    refine Vc.block ?_
    refine Vc.loop3 (fun (j : Nat) (v2 : Value) (s2 : Hl) => j ≤ b ∧ Own byteE v2 (seqB j) s2) (fun j v2 s2 => [(1, .int .i64 (b : Int)), (6, v), (7, v2), (9, .int .i64 (j : Int))]) (fun j v2 s2 => s ++ s2) (fun j v2 s2 => b - j) 0 (.slice none 0 0) [] ⟨Nat.zero_le _, Own.nil⟩ (.cons rfl (.cons rfl (.cons rfl (.cons rfl .nil)))) pulled ?_
    rintro j v2 s2 ⟨hj, o2⟩
    have hsl2 := seqB_len j
    refine Vc.seq ?_
    refine Vc.seq ?_
    refine Vc.text (List.range 3) (sd [(0, .pure), (1, .pure), (2, .pure)]) rfl ?_
    refine Rg.pure rfl rfl rfl (Pv.move rfl) ?_
    refine Rg.pure rfl rfl rfl (Pv.move rfl) ?_
    refine Rg.pure rfl rfl rfl (Pv.lss rfl rfl) ?_
    refine Rg.nil ?_
    refine Vc.cond rfl (fun h22 => ?_) (fun h22 => ?_)
    ·
      simp only [decide_eq_true_eq] at h22
      refine Vc.skip ?_
      refine Vc.seq ?_
      refine Vc.block ?_
      refine Vc.text (List.range 7) (sd [(0, .pure), (1, .pure), (2, .pure), (3, .pure), (4, .eff), (5, .eff), (6, .pure)]) rfl ?_
      refine Rg.pure rfl rfl rfl (Pv.move rfl) ?_
      refine Rg.pure rfl rfl rfl (Pv.move rfl) ?_
      refine Rg.pure rfl rfl rfl (Pv.asI (7 * j) (Pv.mul rfl rfl (by omega)) (by omega)) ?_
      refine Rg.pure rfl rfl rfl (Pv.as (.int .u8 ((UInt8.ofNat (7 * j)).toNat : Int)) (Pv.convI rfl) (congrArg (Value.int .u8) (wrap_u8 _))) ?_
      refine Rg.bslice1 rfl rfl rfl rfl rfl rfl rfl (fun b29 => ?_)
      refine Rg.append rfl rfl rfl rfl rfl o2 (Src.one (y := UInt8.ofNat (7 * j)) rfl) (by simp <;> omega) (by simp [maxLen] <;> omega) rfl (fun v30 s30 own30 => ?_)
      refine Rg.pure rfl rfl rfl (Pv.assign rfl) ?_
      refine Rg.nil ?_
      refine Vc.blk ?_
      refine Vc.text (List.range 3) (sd [(0, .pure), (1, .pure), (2, .pure)]) rfl ?_
      refine Rg.pure rfl rfl rfl (Pv.move rfl) ?_
      refine Rg.pure rfl rfl rfl (Pv.asI (j + 1) (Pv.add rfl rfl (by omega)) (by omega)) ?_
      refine Rg.pure rfl rfl rfl (Pv.assign rfl) ?_
      refine Rg.nil ?_
      exact Vc.inv3 (j + 1) v30 s30 ⟨⟨by omega, by rw [seqB, List.range_succ, List.map_append]; exact own30⟩, by omega⟩ (.cons rfl (.cons rfl (.cons rfl (.cons rfl .nil)))) pulled
    ·
      simp only [decide_eq_false_iff_not] at h22
      obtain rfl : b = j := by omega
      refine Vc.exit rfl ?_
      refine Vc.seq ?_
      refine Vc.text (List.range 4) (sd [(0, .pure), (1, .pure), (2, .pure), (3, .pure)]) rfl ?_
      refine Rg.pure rfl rfl rfl (Pv.move rfl) ?_
      refine Rg.pure rfl rfl rfl (Pv.move rfl) ?_
      refine Rg.pure rfl rfl rfl (Pv.assign rfl) ?_
      refine Rg.pure rfl rfl rfl (Pv.assign rfl) ?_
      refine Rg.nil ?_
      exact Vc.ret (Vc.retsH rfl (.cons (.tmp rfl) (.cons (.tmp rfl) (.nil))) (⟨v, v2, s, s2, rfl, oo, o2, rfl⟩) pulled)
end Go.Proofs.Ytjhegjcjplpmjaa
