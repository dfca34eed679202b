/- Disks: a file behind a crash: torn. -/
import Derived.Test.YtmocncadncgaaaaDkC
namespace Go.Proofs.Ytmocncadncgaaaa
set_option linter.unusedVariables false

/-- where a sector ends -/
def secTo (now : List UInt8) (i : Nat) : Nat := min (16 * i + 16) now.length
/-- a piece of bytes -/
def piece (l : List UInt8) (a b : Nat) : List UInt8 := (l.drop a).take (b - a)
/-- does a sector stay as it was synced? -/
def sameSec (now synced : List UInt8) (i : Nat) : Bool := decide (secTo now i ≤ synced.length) && decide (piece now (16 * i) (secTo now i) = piece synced (16 * i) (secTo now i))
/-- so many bytes at least -/
def padTo (l : List UInt8) (n : Nat) : List UInt8 := l ++ List.replicate (n - l.length) 0
def tornStep (now synced : List UInt8) (st : List UInt8 × List Bool) (i : Nat) : List UInt8 × List Bool :=
  if sameSec now synced i = true then st
  else if hdB st.2 = true then (putAt (padTo st.1 (secTo now i)) (16 * i) (piece now (16 * i) (secTo now i)), st.2.drop 1) else (st.1, st.2.drop 1)
def tornG (now synced : List UInt8) (ks : List Bool) (n : Nat) : List UInt8 × List Bool := (List.range n).foldl (tornStep now synced) (synced, ks)
theorem tornG_succ (now synced : List UInt8) (ks : List Bool) (n : Nat) : tornG now synced ks (n + 1) = tornStep now synced (tornG now synced ks n) n := by simp [tornG, List.range_succ]
theorem tornStep_len {now synced : List UInt8} {st : List UInt8 × List Bool} {i m : Nat} (h : st.1.length ≤ m) (hm : now.length ≤ m) (hi : 16 * i ≤ now.length) : (tornStep now synced st i).1.length ≤ m := by
  unfold tornStep
  split
  · exact h
  · split
    · have ht : secTo now i ≤ now.length := Nat.min_le_right _ _
      have hp : 16 * i ≤ (padTo st.1 (secTo now i)).length := by simp [padTo, secTo]; omega
      rw [putAt_length hp]
      simp [padTo, piece, secTo]
      omega
    · exact h
theorem tornG_len {now synced : List UInt8} {ks : List Bool} {m : Nat} (hs : synced.length ≤ m) (hm : now.length ≤ m) : ∀ n, (n = 0 ∨ 16 * (n - 1) ≤ now.length) → (tornG now synced ks n).1.length ≤ m
  | 0, _ => hs
  | n + 1, h => by
    have h' : 16 * n ≤ now.length := by simpa using h
    rw [tornG_succ]
    exact tornStep_len (tornG_len hs hm n (by omega)) hm h'

set_option maxHeartbeats 2000000 in
theorem torn_spec {F : Fm} {fb kb : Nat} {vn vs kv : Value} {now synced : List UInt8} {ks : List Bool} {s1 s2 : Hl} (own1 : Own byteE vn now s1) (own2 : Own byteE vs synced s2) (K : Fm → Prop) (hKF : ∀ F' : Fm, (∀ b o, F.at_ b o → F'.at_ b o) → K F') (hk : ∀ F', K F' → Arg boolE F' kv ks)
    (hn : now.length < 1073741824) (hs : synced.length < 1073741824) :
    Spec Try.prog 56 #[.pointer (some ⟨fb, 0, none⟩), .func (.func 53) #[] #[.pointer (some ⟨kb, 0, none⟩)]] F ((fb, cellsO [vn, vs] 81) :: (kb, cellsO [kv] 38) :: (s1 ++ s2))
      fun _ s => ∃ vn' vs' kv' s1' s2', Own byteE vn' (tornG now synced ks (secs now.length)).1 s1' ∧ Own byteE vs' (tornG now synced ks (secs now.length)).1 s2' ∧ (∀ F' : Fm, K F' → Arg boolE F' kv' (tornG now synced ks (secs now.length)).2) ∧
        s = (fb, cellsO [vn', vs'] 81) :: (kb, cellsO [kv'] 38) :: (s1' ++ s2') := by
  obtain ⟨pn, cn, rfl⟩ := own1.shape
  obtain ⟨ps, cs, rfl⟩ := own2.shape
  have hcn : now.length ≤ cn := (Arg.own (F := frz F s1) own1 fun b o hb => Or.inl hb).cap.2
  have hcs : synced.length ≤ cs := (Arg.own (F := frz F s2) own2 fun b o hb => Or.inl hb).cap.2
  refine Spec.of (n := 88) (vs := [.pointer (some ⟨fb, 0, none⟩), .func (.func 53) #[] #[.pointer (some ⟨kb, 0, none⟩)]]) Try.func56 rfl Try.ntmps56 rfl ?_
  refine Vc.seq ?_
  refine Vc.text (List.range 6) (sd [(0, .pure), (1, .pure), (2, .pure), (3, .read), (4, .eff), (5, .pure)]) rfl ?_
  refine Rg.pure rfl rfl rfl (Pv.move rfl) ?_
  refine Rg.pure rfl rfl rfl (Pv.nilp rfl) ?_
  refine Rg.pure rfl rfl rfl (Pv.fa rfl) ?_
  refine Rg.read rfl rfl rfl (Ev.ld rfl rfl) ?_
  refine Rg.callA rfl rfl rfl (run_callF rfl) (clone_spec (Arg.own own2 frz_sb) (by omega)) ?_
  rintro _ s11 own11
  refine Rg.pure rfl rfl rfl (Pv.assign rfl) ?_
  refine Rg.nil ?_
  refine Vc.seq ?_
  refine Vc.seq ?_
  refine Vc.text (List.range 1) (sd [(0, .pure)]) rfl ?_
  refine Rg.pure rfl rfl rfl (Pv.assign rfl) ?_
  refine Rg.nil ?_
  refine Vc.block ?_
  refine Vc.loop5 (fun (i : Nat) (kv v : Value) (sg : Hl) (st : List UInt8 × List Bool) => st = tornG now synced ks i ∧ (i = 0 ∨ 16 * (i - 1) < now.length) ∧ (∀ F' : Fm, K F' → Arg boolE F' kv st.2) ∧ Own byteE v st.1 sg ∧ st.1.length < 1073741824) (fun i kv v sg st => [(0, .pointer (some ⟨fb, 0, none⟩)), (1, .func (.func 53) #[] #[.pointer (some ⟨kb, 0, none⟩)]), (4, v), (5, .int .i64 ((16 * i : Nat) : Int))]) (fun i kv v sg st => (fb, cellsO [.slice pn now.length cn, .slice ps synced.length cs] 81) :: (kb, cellsO [kv] 38) :: (sg ++ (s1 ++ s2))) (fun i kv v sg st => now.length + 16 - 16 * i) 0 kv _ s11 (synced, ks) ⟨rfl, .inl rfl, hk, own11, hs⟩ (.cons rfl (.cons rfl (.cons rfl (.cons rfl .nil)))) pulled ?_
  rintro i kv v sg st ⟨hst, hi0, hkv, own, hsl⟩
  obtain ⟨pv, cv, rfl⟩ := own.shape
  refine Vc.seq ?_
  refine Vc.seq ?_
  refine Vc.text (List.range 7) (sd [(0, .pure), (1, .pure), (2, .pure), (3, .pure), (4, .read), (5, .pure), (6, .pure)]) rfl ?_
  refine Rg.pure rfl rfl rfl (Pv.move rfl) ?_
  refine Rg.pure rfl rfl rfl (Pv.move rfl) ?_
  refine Rg.pure rfl rfl rfl (Pv.nilp rfl) ?_
  refine Rg.pure rfl rfl rfl (Pv.fa rfl) ?_
  refine Rg.read rfl rfl rfl (Ev.ld rfl rfl) ?_
  refine Rg.pure rfl rfl rfl (Pv.lenS rfl) ?_
  refine Rg.pure rfl rfl rfl (Pv.lss rfl rfl) ?_
  refine Rg.nil ?_
  refine Vc.cond rfl (fun h18 => ?_) (fun h18 => ?_)
  ·
    simp only [decide_eq_true_eq] at h18
    have hi : 16 * i < now.length := by omega
    have hto : secTo now i ≤ now.length ∧ 16 * i ≤ secTo now i := by unfold secTo; omega
    have hsucc := tornG_succ now synced ks i
    have hlen := tornG_len (now := now) (synced := synced) (ks := ks) (m := 1073741823) (by omega) (by omega) (i + 1) (.inr (by simp; omega))
    rw [hsucc, ← hst] at hlen
    rw [← hst] at hsucc
    have hkb := hkv
    refine Vc.skip ?_
    refine Vc.seq ?_
    refine Vc.block ?_
    refine Vc.seq ?_
    refine Vc.text (List.range 9) (sd [(0, .pure), (1, .pure), (2, .pure), (3, .pure), (4, .pure), (5, .read), (6, .pure), (7, .pure), (8, .pure)]) rfl ?_
    refine Rg.pure rfl rfl rfl (Pv.move rfl) ?_
    refine Rg.pure rfl rfl rfl (Pv.asI (16 * i + 16) (Pv.add rfl rfl (by omega)) (by omega)) ?_
    refine Rg.pure rfl rfl rfl (Pv.move rfl) ?_
    refine Rg.pure rfl rfl rfl (Pv.nilp rfl) ?_
    refine Rg.pure rfl rfl rfl (Pv.fa rfl) ?_
    refine Rg.read rfl rfl rfl (Ev.ld rfl rfl) ?_
    refine Rg.pure rfl rfl rfl (Pv.lenS rfl) ?_
    refine Rg.pure rfl rfl rfl (Pv.asI (secTo now i) (Pv.min rfl rfl) (by unfold secTo; omega)) ?_
    refine Rg.pure rfl rfl rfl (Pv.assign rfl) ?_
    refine Rg.nil ?_
    refine Vc.seq ?_
    refine Vc.seq ?_
    refine Vc.cut3 (fun (bb : Bool) (kv' : Value) (ks' : List Bool) => (bb = true → tornStep now synced st i = (st.1, ks')) ∧ (bb = false → tornStep now synced st i = (putAt (padTo st.1 (secTo now i)) (16 * i) (piece now (16 * i) (secTo now i)), ks')) ∧ (∀ F' : Fm, K F' → Arg boolE F' kv' ks')) (fun bb kv' ks' => [(57, .bool bb), (0, .pointer (some ⟨fb, 0, none⟩)), (1, .func (.func 53) #[] #[.pointer (some ⟨kb, 0, none⟩)]), (4, .slice pv st.1.length cv), (5, .int .i64 ((16 * i : Nat) : Int)), (6, .int .i64 ((secTo now i : Nat) : Int))]) (fun bb kv' ks' => (fb, cellsO [.slice pn now.length cn, .slice ps synced.length cs] 81) :: (kb, cellsO [kv'] 38) :: (sg ++ (s1 ++ s2))) ?_ ?_
    ·
      refine Vc.draw [26] (sd [(0, .pure), (1, .pure), (2, .pure), (3, .pure), (4, .read), (5, .pure), (6, .pure), (7, .pure), (8, .pure), (9, .pure), (10, .pure), (11, .read), (12, .pure), (13, .pure), (14, .pure), (15, .pure), (16, .pure), (17, .pure), (18, .read), (19, .pure), (20, .pure), (21, .pure), (22, .eff), (23, .pure), (24, .pure), (25, .pure), (26, .eff), (27, .pure), (28, .pure)]) mixed (by kernel_rfl) ?_
      refine Rg.pure rfl rfl rfl (Pv.move rfl) ?_
      refine Rg.pure rfl rfl rfl (Pv.move rfl) ?_
      refine Rg.pure rfl rfl rfl (Pv.nilp rfl) ?_
      refine Rg.pure rfl rfl rfl (Pv.fa rfl) ?_
      refine Rg.read rfl rfl rfl (Ev.ld rfl rfl) ?_
      refine Rg.pure rfl rfl rfl (Pv.lenS rfl) ?_
      refine Rg.pure rfl rfl rfl (Pv.leq rfl rfl) ?_
      refine Rg.pure rfl rfl rfl (Pv.move rfl) ?_
      refine Rg.split (t := 36) rfl (fun h36 => ?_) (fun h36 => ?_)
      ·
        simp only [decide_eq_true_eq] at h36
        have hle : secTo now i ≤ synced.length := by omega
        refine Rg.pure rfl rfl rfl (Pv.move rfl) ?_
        refine Rg.pure rfl rfl rfl (Pv.nilp rfl) ?_
        refine Rg.pure rfl rfl rfl (Pv.fa rfl) ?_
        refine Rg.read rfl rfl rfl (Ev.ld rfl rfl) ?_
        refine Rg.pure rfl rfl rfl (Pv.move rfl) ?_
        refine Rg.pure rfl rfl rfl (Pv.move rfl) ?_
        refine Rg.pure rfl rfl rfl (Pv.sl (lv := some (.int .i64 ((16 * i : Nat) : Int))) (hv := some (.int .i64 ((secTo now i : Nat) : Int))) (16 * i) (secTo now i) rfl rfl rfl (by omega) (by omega) (by simp)) ?_
        refine Rg.pure rfl rfl rfl (Pv.move rfl) ?_
        refine Rg.pure rfl rfl rfl (Pv.nilp rfl) ?_
        refine Rg.pure rfl rfl rfl (Pv.fa rfl) ?_
        refine Rg.read rfl rfl rfl (Ev.ld rfl rfl) ?_
        refine Rg.pure rfl rfl rfl (Pv.move rfl) ?_
        refine Rg.pure rfl rfl rfl (Pv.move rfl) ?_
        refine Rg.pure rfl rfl rfl (Pv.sl (lv := some (.int .i64 ((16 * i : Nat) : Int))) (hv := some (.int .i64 ((secTo now i : Nat) : Int))) (16 * i) (secTo now i) rfl rfl rfl (by omega) (by omega) (by simp)) ?_
        refine Rg.callP rfl rfl rfl (run_callF rfl) (equal_spec (((Arg.own own1 frz_sb).from (i := 16 * i) (by omega)).take (k := secTo now i - 16 * i) (by simp; omega)) (((Arg.own own2 frz_sb).from (i := 16 * i) (by omega)).take (k := secTo now i - 16 * i) (by simp; omega))) ?_
        rintro _ rfl
        refine Rg.pure rfl rfl rfl (Pv.pickT rfl rfl) ?_
        refine Rg.pure rfl rfl rfl (Pv.move rfl) ?_
        refine Rg.split (t := 53) rfl (fun h53 => ?_) (fun h53 => ?_)
        ·
          iterate 3 (first | refine Rg.skipP rfl rfl rfl ?_ | refine Rg.skipR rfl rfl rfl ?_ | refine Rg.skipE rfl rfl rfl ?_)
          refine Rg.pure rfl rfl rfl (Pv.pickT rfl rfl) ?_
          refine Rg.nil ?_
          exact Vc.inv3 true kv st.2 ⟨fun _ => by rw [tornStep, if_pos (by rw [sameSec, decide_eq_true hle, Bool.true_and]; exact h53)], fun h => (by cases h), hkv⟩ (.cons rfl (.cons rfl (.cons rfl (.cons rfl (.cons rfl (.cons rfl .nil)))))) pulled
        ·
          refine Rg.pure rfl rfl rfl (Pv.move rfl) ?_
          refine Rg.callH rfl rfl rfl (run_callV rfl rfl) (fun F' hF' => next_spec (F := F') K (hKF F' fun b o h => hF' b o (.inr h)) hkv) rfl ?_
          rintro _ _ ⟨rfl, kv2, hkv2, rfl⟩
          refine Rg.pure rfl rfl rfl (Pv.not rfl) ?_
          refine Rg.pure rfl rfl rfl (Pv.pickF rfl rfl) ?_
          refine Rg.nil ?_
          exact Vc.inv3 (!hdB st.2) kv2 (st.2.drop 1) ⟨fun h => by rw [tornStep, if_neg (by rw [sameSec, decide_eq_true hle, Bool.true_and]; intro hh; rw [show decide (piece now (16 * i) (secTo now i) = piece synced (16 * i) (secTo now i)) = false from h53] at hh; cases hh), if_neg (by simpa using h)], fun h => by rw [tornStep, if_neg (by rw [sameSec, decide_eq_true hle, Bool.true_and]; intro hh; rw [show decide (piece now (16 * i) (secTo now i) = piece synced (16 * i) (secTo now i)) = false from h53] at hh; cases hh), if_pos (by simpa using h)], hkv2⟩ (.cons rfl (.cons rfl (.cons rfl (.cons rfl (.cons rfl (.cons rfl .nil)))))) pulled
      ·
        simp only [decide_eq_false_iff_not] at h36
        iterate 15 (first | refine Rg.skipP rfl rfl rfl ?_ | refine Rg.skipR rfl rfl rfl ?_ | refine Rg.skipE rfl rfl rfl ?_)
        refine Rg.pure rfl rfl rfl (Pv.pickF rfl rfl) ?_
        refine Rg.pure rfl rfl rfl (Pv.move rfl) ?_
        refine Rg.pure rfl rfl rfl (Pv.move rfl) ?_
        refine Rg.callH rfl rfl rfl (run_callV rfl rfl) (fun F' hF' => next_spec (F := F') K (hKF F' fun b o h => hF' b o (.inr h)) hkv) rfl ?_
        rintro _ _ ⟨rfl, kv2, hkv2, rfl⟩
        refine Rg.pure rfl rfl rfl (Pv.not rfl) ?_
        refine Rg.pure rfl rfl rfl (Pv.pickF rfl rfl) ?_
        refine Rg.nil ?_
        exact Vc.inv3 (!hdB st.2) kv2 (st.2.drop 1) ⟨fun h => by rw [tornStep, if_neg (by rw [sameSec, decide_eq_false (by omega)]; simp), if_neg (by simpa using h)], fun h => by rw [tornStep, if_neg (by rw [sameSec, decide_eq_false (by omega)]; simp), if_pos (by simpa using h)], hkv2⟩ (.cons rfl (.cons rfl (.cons rfl (.cons rfl (.cons rfl (.cons rfl .nil)))))) pulled
    ·
      rintro bb kv2 ks2 ⟨hb1, hb2, hkv2⟩
      refine Vc.cond rfl (fun h57 => ?_) (fun h57 => ?_)
      ·
        rw [hb1 h57] at hsucc
        refine Vc.exit rfl ?_
        refine Vc.text (List.range 3) (sd [(0, .pure), (1, .pure), (2, .pure)]) rfl ?_
        refine Rg.pure rfl rfl rfl (Pv.move rfl) ?_
        refine Rg.pure rfl rfl rfl (Pv.asI (16 * (i + 1)) (Pv.add rfl rfl (by omega)) (by omega)) ?_
        refine Rg.pure rfl rfl rfl (Pv.assign rfl) ?_
        refine Rg.nil ?_
        exact Vc.inv5 (i + 1) kv2 _ sg (st.1, ks2) ⟨⟨hsucc.symm, .inr (by simpa using hi), hkv2, own, hsl⟩, by omega⟩ (.cons rfl (.cons rfl (.cons rfl (.cons rfl .nil)))) pulled
      ·
        have hst2 := hb2 h57
        rw [hst2] at hsucc hlen
        have hzl : (piece now (16 * i) (secTo now i)).length = secTo now i - 16 * i := by simp [piece]; omega
        refine Vc.skip ?_
        refine Vc.seq ?_
        refine Vc.seq ?_
        refine Vc.text (List.range 4) (sd [(0, .pure), (1, .pure), (2, .pure), (3, .pure)]) rfl ?_
        refine Rg.pure rfl rfl rfl (Pv.move rfl) ?_
        refine Rg.pure rfl rfl rfl (Pv.move rfl) ?_
        refine Rg.pure rfl rfl rfl (Pv.lenS rfl) ?_
        refine Rg.pure rfl rfl rfl (Pv.gtr rfl rfl) ?_
        refine Rg.nil ?_
        refine Vc.cut2 (fun (v : Value) (sg : Hl) => Own byteE v (padTo st.1 (secTo now i)) sg) (fun v sg => [(0, .pointer (some ⟨fb, 0, none⟩)), (1, .func (.func 53) #[] #[.pointer (some ⟨kb, 0, none⟩)]), (4, v), (5, .int .i64 ((16 * i : Nat) : Int)), (6, .int .i64 ((secTo now i : Nat) : Int))]) (fun v sg => (fb, cellsO [.slice pn now.length cn, .slice ps synced.length cs] 81) :: (kb, cellsO [kv2] 38) :: (sg ++ (s1 ++ s2))) ?_ ?_
        ·
          refine Vc.cond rfl (fun h61 => ?_) (fun h61 => ?_)
          ·
            simp only [decide_eq_true_eq] at h61
            refine Vc.text (List.range 7) (sd [(0, .pure), (1, .pure), (2, .pure), (3, .pure), (4, .pure), (5, .eff), (6, .pure)]) rfl ?_
            refine Rg.pure rfl rfl rfl (Pv.move rfl) ?_
            refine Rg.pure rfl rfl rfl (Pv.move rfl) ?_
            refine Rg.pure rfl rfl rfl (Pv.move rfl) ?_
            refine Rg.pure rfl rfl rfl (Pv.lenS rfl) ?_
            refine Rg.pure rfl rfl rfl (Pv.asI (secTo now i - st.1.length) (Pv.sub rfl rfl (by omega)) (by omega)) ?_
            refine Rg.appendZ (E := byteE) 0 (secTo now i - st.1.length) rfl rfl rfl rfl rfl own (by omega) (by rw [show maxLen = 9223372036854775807 from rfl]; omega) rfl (fun v67 s67 own67 => ?_)
            refine Rg.pure rfl rfl rfl (Pv.assign rfl) ?_
            refine Rg.nil ?_
            exact Vc.inv2 v67 s67 own67 (.cons rfl (.cons rfl (.cons rfl (.cons rfl (.cons rfl .nil))))) pulled
          ·
            simp only [decide_eq_false_iff_not] at h61
            refine Vc.skip ?_
            exact Vc.inv2 _ sg (by rw [padTo, show secTo now i - st.1.length = 0 by omega, List.replicate_zero, List.append_nil]; exact own) (.cons rfl (.cons rfl (.cons rfl (.cons rfl (.cons rfl .nil))))) pulled
        ·
          rintro v sg ownp
          obtain ⟨pp, cp, rfl⟩ := ownp.shape
          have hpl : secTo now i ≤ (padTo st.1 (secTo now i)).length := by simp [padTo]; omega
          have hcp : (padTo st.1 (secTo now i)).length ≤ cp := (Arg.own (F := frz F sg) ownp fun b o hb => Or.inl hb).cap.2
          have hput : (padTo st.1 (secTo now i)).take (16 * i) ++ (piece now (16 * i) (secTo now i)).take (min (piece now (16 * i) (secTo now i)).length ((padTo st.1 (secTo now i)).length - 16 * i)) ++ (padTo st.1 (secTo now i)).drop (16 * i + min (piece now (16 * i) (secTo now i)).length ((padTo st.1 (secTo now i)).length - 16 * i)) = putAt (padTo st.1 (secTo now i)) (16 * i) (piece now (16 * i) (secTo now i)) := by
            rw [Nat.min_eq_left (by omega), List.take_length, putAt]
          refine Vc.draw [10] (sd [(0, .pure), (1, .pure), (2, .pure), (3, .pure), (4, .pure), (5, .pure), (6, .read), (7, .pure), (8, .pure), (9, .pure), (10, .eff)]) mixed (by kernel_rfl) ?_
          refine Rg.pure rfl rfl rfl (Pv.move rfl) ?_
          refine Rg.pure rfl rfl rfl (Pv.move rfl) ?_
          refine Rg.pure rfl rfl rfl (Pv.sl (lv := none) (hv := none) (16 * i) (padTo st.1 (secTo now i)).length rfl rfl rfl (by omega) hcp (fun _ => hcp)) ?_
          refine Rg.pure rfl rfl rfl (Pv.move rfl) ?_
          refine Rg.pure rfl rfl rfl (Pv.nilp rfl) ?_
          refine Rg.pure rfl rfl rfl (Pv.fa rfl) ?_
          refine Rg.read rfl rfl rfl (Ev.ld rfl rfl) ?_
          refine Rg.pure rfl rfl rfl (Pv.move rfl) ?_
          refine Rg.pure rfl rfl rfl (Pv.move rfl) ?_
          refine Rg.pure rfl rfl rfl (Pv.sl (lv := some (.int .i64 ((16 * i : Nat) : Int))) (hv := some (.int .i64 ((secTo now i : Nat) : Int))) (16 * i) (secTo now i) rfl rfl rfl (by omega) (by omega) (by simp)) ?_
          refine Rg.copyTo (E := byteE) (zs := piece now (16 * i) (secTo now i)) (16 * i) rfl rfl rfl rfl rfl ownp (((Arg.own (F := frz F s1) own1 fun b o hb => Or.inl hb).from (i := 16 * i) (by omega)).take (k := secTo now i - 16 * i) (by simp; omega)).srcF (by omega) rfl (fun s78 own78 => ?_)
          rw [hput] at own78
          have hplen : (padTo st.1 (secTo now i)).length = (putAt (padTo st.1 (secTo now i)) (16 * i) (piece now (16 * i) (secTo now i))).length := by rw [putAt_length (by omega)]; omega
          refine Rg.nil ?_
          refine Vc.blk ?_
          refine Vc.text (List.range 3) (sd [(0, .pure), (1, .pure), (2, .pure)]) rfl ?_
          refine Rg.pure rfl rfl rfl (Pv.move rfl) ?_
          refine Rg.pure rfl rfl rfl (Pv.asI (16 * (i + 1)) (Pv.add rfl rfl (by omega)) (by omega)) ?_
          refine Rg.pure rfl rfl rfl (Pv.assign rfl) ?_
          refine Rg.nil ?_
          exact Vc.inv5 (i + 1) kv2 _ s78 (putAt (padTo st.1 (secTo now i)) (16 * i) (piece now (16 * i) (secTo now i)), ks2) ⟨⟨hsucc.symm, .inr (by simpa using hi), hkv2, own78, by omega⟩, by omega⟩ (.cons rfl (.cons rfl (.cons rfl (.cons rfl .nil)))) pulled
  ·
    simp only [decide_eq_false_iff_not] at h18
    have hsec : i = secs now.length := by unfold secs; omega
    rw [hsec] at hst
    refine Vc.exit rfl ?_
    refine Vc.text (List.range 11) (sd [(0, .pure), (1, .pure), (2, .pure), (3, .pure), (4, .eff), (5, .pure), (6, .pure), (7, .eff), (8, .pure), (9, .pure), (10, .eff)]) rfl ?_
    refine Rg.pure rfl rfl rfl (Pv.move rfl) ?_
    refine Rg.pure rfl rfl rfl (Pv.move rfl) ?_
    refine Rg.pure rfl rfl rfl (Pv.move rfl) ?_
    refine Rg.pure rfl rfl rfl (Pv.move rfl) ?_
    refine Rg.callA rfl rfl rfl (run_callF rfl) (clone_spec (Arg.own own frz_sb) (by omega)) ?_
    rintro v83 s83 own83
    refine Rg.pure rfl rfl rfl (Pv.nilp rfl) ?_
    refine Rg.pure rfl rfl rfl (Pv.fa rfl) ?_
    refine Rg.store rfl rfl rfl rfl rfl rfl rfl rfl ?_
    refine Rg.pure rfl rfl rfl (Pv.nilp rfl) ?_
    refine Rg.pure rfl rfl rfl (Pv.fa rfl) ?_
    refine Rg.store rfl rfl rfl rfl rfl own83.one rfl rfl ?_
    refine Rg.nil ?_
    exact Vc.fin (Vc.retsH rfl .nil (⟨_, v83, kv, sg, s83, by rw [← hst]; exact own, by rw [← hst]; exact own83, by rw [← hst]; exact hkv, rfl⟩) pulled)
end Go.Proofs.Ytmocncadncgaaaa
