/- Disks: Clone; names that may be; bytes are written into a file. -/
import Derived.Test.YtmocncadncgaaaaDkA
namespace Go.Proofs.Ytmocncadncgaaaa
set_option linter.unusedVariables false

abbrev byteE : Enc UInt8 := byteEnc 5
instance : RowTy Try.prog byteE 5 := ⟨Try.sizeOf5, .inr ⟨Try.isAgg5, rfl, fun _ => rfl⟩⟩
instance : TySl Try.prog 29 byteE 1 := ⟨Try.underlying29, Try.t5, .int .u8 0, by kernel_rfl, by kernel_rfl, rfl, rfl, rfl⟩
instance : TyZero Try.prog byteE.tid (byteE.val 0) := inferInstanceAs (TyZero Try.prog 5 (.int .u8 0))
def boolE : Enc Bool where
  k := 1
  tid := 4
  cells := fun b => [.bool b]
  val := fun b => .bool b
  pos := by decide
  len := fun _ => rfl
  one := fun x v hv => by simp at hv; subst hv; rfl
  vc := fun _ => rfl
instance : RowTy Try.prog boolE 4 := ⟨Try.sizeOf4, .inr ⟨Try.isAgg4, rfl, fun _ => rfl⟩⟩
instance : TySl Try.prog 38 boolE 1 := ⟨Try.underlying38, Try.t4, .bool false, by kernel_rfl, by kernel_rfl, rfl, rfl, rfl⟩

theorem clone_spec {F : Fm} {va : Value} {xs : List UInt8} (ha : Arg byteE F va xs) (hN : xs.length < 4294967296) :
    Spec Try.prog 58 #[va] F [] fun v s => Own byteE v xs s := by
  obtain ⟨p, c, rfl⟩ := ha.shape
  refine Spec.of (n := 8) (vs := [.slice p xs.length c]) Try.func58 rfl Try.ntmps58 rfl ?_
  refine Vc.seq ?_
  refine Vc.text (List.range 1) (sd [(0, .pure)]) rfl ?_
  refine Rg.pure rfl rfl rfl (Pv.assign rfl) ?_
  refine Rg.nil ?_
  refine Vc.seq ?_
  refine Vc.seq ?_
  refine Vc.text (List.range 2) (sd [(0, .pure), (1, .pure)]) rfl ?_
  refine Rg.pure rfl rfl rfl (Pv.move rfl) ?_
  refine Rg.pure rfl rfl rfl (Pv.eqlNilS rfl rfl) ?_
  refine Rg.nil ?_
  refine Vc.cond rfl (fun h4 => ?_) (fun h4 => ?_)
  ·
    obtain rfl : p = none := by cases p with | none => rfl | some a => cases h4
    obtain rfl : xs = [] := by
      rcases ha with ⟨_, e⟩ | ⟨_, _, _, e, _⟩
      · exact e
      · cases e
    refine Vc.seq ?_
    refine Vc.text (List.range 1) (sd [(0, .pure)]) rfl ?_
    refine Rg.pure rfl rfl rfl (Pv.assign rfl) ?_
    refine Rg.nil ?_
    refine Vc.ret (Vc.rets rfl (.cons (.tmp rfl) (.nil)) ?_)
    exact Own.nil
  ·
    refine Vc.skip ?_
    refine Vc.seq ?_
    refine Vc.text (List.range 4) (sd [(0, .eff), (1, .pure), (2, .eff), (3, .pure)]) rfl ?_
    refine Rg.bslice0 (E := byteE) rfl rfl rfl (fun b5 own5 => ?_)
    refine Rg.pure rfl rfl rfl (Pv.move rfl) ?_
    refine Rg.append rfl rfl rfl rfl rfl own5 ha.src (by simp <;> omega) (by simp [maxLen] <;> omega) rfl (fun v7 s7 own7 => ?_)
    refine Rg.pure rfl rfl rfl (Pv.assign rfl) ?_
    refine Rg.nil ?_
    exact Vc.ret (Vc.retsH rfl (.cons (.tmp rfl) (.nil)) (own7) pulled)
theorem cloneB_spec {F : Fm} {va : Value} {xs : List Bool} (ha : Arg boolE F va xs) (hN : xs.length < 4294967296) :
    Spec Try.prog 48 #[va] F [] fun v s => Own boolE v xs s := by
  obtain ⟨p, c, rfl⟩ := ha.shape
  refine Spec.of (n := 8) (vs := [.slice p xs.length c]) Try.func48 rfl Try.ntmps48 rfl ?_
  refine Vc.seq ?_
  refine Vc.text (List.range 1) (sd [(0, .pure)]) rfl ?_
  refine Rg.pure rfl rfl rfl (Pv.assign rfl) ?_
  refine Rg.nil ?_
  refine Vc.seq ?_
  refine Vc.seq ?_
  refine Vc.text (List.range 2) (sd [(0, .pure), (1, .pure)]) rfl ?_
  refine Rg.pure rfl rfl rfl (Pv.move rfl) ?_
  refine Rg.pure rfl rfl rfl (Pv.eqlNilS rfl rfl) ?_
  refine Rg.nil ?_
  refine Vc.cond rfl (fun h4 => ?_) (fun h4 => ?_)
  ·
    obtain rfl : p = none := by cases p with | none => rfl | some a => cases h4
    obtain rfl : xs = [] := by
      rcases ha with ⟨_, e⟩ | ⟨_, _, _, e, _⟩
      · exact e
      · cases e
    refine Vc.seq ?_
    refine Vc.text (List.range 1) (sd [(0, .pure)]) rfl ?_
    refine Rg.pure rfl rfl rfl (Pv.assign rfl) ?_
    refine Rg.nil ?_
    refine Vc.ret (Vc.rets rfl (.cons (.tmp rfl) (.nil)) ?_)
    exact Own.nil
  ·
    refine Vc.skip ?_
    refine Vc.seq ?_
    refine Vc.text (List.range 4) (sd [(0, .eff), (1, .pure), (2, .eff), (3, .pure)]) rfl ?_
    refine Rg.bslice0 (E := boolE) rfl rfl rfl (fun b5 own5 => ?_)
    refine Rg.pure rfl rfl rfl (Pv.move rfl) ?_
    refine Rg.append rfl rfl rfl rfl rfl own5 ha.src (by simp <;> omega) (by simp [maxLen] <;> omega) rfl (fun v7 s7 own7 => ?_)
    refine Rg.pure rfl rfl rfl (Pv.assign rfl) ?_
    refine Rg.nil ?_
    exact Vc.ret (Vc.retsH rfl (.cons (.tmp rfl) (.nil)) (own7) pulled)

/-- may a name be? -/
def mayN (s : ByteArray) : Bool := decide (1 ≤ s.size) && decide (s.size ≤ 24)
theorem size_zero {s : ByteArray} : s = ⟨#[]⟩ ↔ s.size = 0 := by
  obtain ⟨a⟩ := s
  constructor
  · intro h; cases h; rfl
  · intro h
    have : a = #[] := Array.eq_empty_of_size_eq_zero h
    rw [this]
theorem may_spec (F : Fm) (s : ByteArray) : Spec Try.prog 46 #[.string s] F [] fun v _ => v = .bool (mayN s) := by
  refine Spec.of (n := 10) (vs := [.string s]) Try.func46 rfl Try.ntmps46 rfl ?_
  refine Vc.seq ?_
  refine Vc.text (List.range 1) (sd [(0, .pure)]) rfl ?_
  refine Rg.pure rfl rfl rfl (Pv.assign rfl) ?_
  refine Rg.nil ?_
  refine Vc.seq ?_
  refine Vc.text (List.range 8) (sd [(0, .pure), (1, .pure), (2, .pure), (3, .pure), (4, .pure), (5, .pure), (6, .pure), (7, .pure)]) rfl ?_
  refine Rg.pure rfl rfl rfl (Pv.move rfl) ?_
  refine Rg.pure rfl rfl rfl (Pv.neqS rfl rfl) ?_
  refine Rg.pure rfl rfl rfl (Pv.move rfl) ?_
  refine Rg.split (t := 5) rfl (fun h5 => ?_) (fun h5 => ?_)
  ·
    simp only [Bool.not_eq_true', decide_eq_false_iff_not] at h5
    rw [size_zero] at h5
    refine Rg.pure rfl rfl rfl (Pv.move rfl) ?_
    refine Rg.pure rfl rfl rfl (Pv.lenStr rfl) ?_
    refine Rg.pure rfl rfl rfl (Pv.leq rfl rfl) ?_
    refine Rg.pure rfl rfl rfl (Pv.pickT rfl rfl) ?_
    refine Rg.pure rfl rfl rfl (Pv.assign rfl) ?_
    refine Rg.nil ?_
    refine Vc.ret (Vc.rets rfl (.cons (.tmp rfl) (.nil)) ?_)
    exact congrArg Value.bool (by rw [mayN, decide_eq_true (show 1 ≤ s.size by omega), Bool.true_and]; rw [Bool.eq_iff_iff]; simp; omega)
  ·
    simp only [Bool.not_eq_false', decide_eq_true_eq] at h5
    rw [size_zero] at h5
    iterate 3 (first | refine Rg.skipP rfl rfl rfl ?_ | refine Rg.skipR rfl rfl rfl ?_ | refine Rg.skipE rfl rfl rfl ?_)
    refine Rg.pure rfl rfl rfl (Pv.pickF rfl rfl) ?_
    refine Rg.pure rfl rfl rfl (Pv.assign rfl) ?_
    refine Rg.nil ?_
    refine Vc.ret (Vc.rets rfl (.cons (.tmp rfl) (.nil)) ?_)
    exact congrArg Value.bool (by rw [mayN, decide_eq_false (show ¬ 1 ≤ s.size by omega)]; rfl)

/-- bytes at a place -/
def putAt (now : List UInt8) (k : Nat) (bs : List UInt8) : List UInt8 := now.take k ++ bs ++ now.drop (k + bs.length)
theorem putAt_length {now bs : List UInt8} {k : Nat} (hk : k ≤ now.length) : (putAt now k bs).length = max now.length (k + bs.length) := by
  simp [putAt]; omega
theorem putAt_of {now bs : List UInt8} {k : Nat} (hk : k ≤ now.length) :
    let ys := now ++ List.replicate (max now.length (k + bs.length) - now.length) 0
    ys.take k ++ bs.take (min bs.length (ys.length - k)) ++ ys.drop (k + min bs.length (ys.length - k)) = putAt now k bs := by
  intro ys
  have hyl : ys.length = max now.length (k + bs.length) := by simp [ys]; omega
  have hm : min bs.length (ys.length - k) = bs.length := by rw [hyl]; omega
  rw [hm, List.take_length, putAt]
  have h1 : ys.take k = now.take k := by simp [ys, List.take_append_of_le_length hk]
  rw [h1]
  congr 1
  by_cases h : k + bs.length ≤ now.length
  · have : max now.length (k + bs.length) - now.length = 0 := by omega
    simp [ys, this]
  · rw [List.drop_eq_nil_of_le (by omega), List.drop_eq_nil_of_le (by omega)]
/-- What writing answers, and makes: an error, how many sectors are used, the file's bytes. -/
def wrG (room used : Int) (now : List UInt8) (at_ : Int) (bs : List UInt8) : Int × Int × List UInt8 :=
  if at_ < 0 ∨ (now.length : Int) < at_ then (1, used, now)
  else if room < used + ((secs (max now.length (at_.toNat + bs.length)) : Int) - (secs now.length : Int)) then (6, used, now)
  else (0, used + ((secs (max now.length (at_.toNat + bs.length)) : Int) - (secs now.length : Int)), putAt now at_.toNat bs)

set_option maxHeartbeats 1000000 in
theorem writes_spec {F : Fm} {db mb fb : Nat} {room used ops armed : Int} {keep vn vs : Value} {down : Bool} {now bs : List UInt8} {s1 : Hl} {vb : Value} (own : Own byteE vn now s1) (hb : Arg byteE F vb bs) (at_ : Int)
    (hn : now.length < 1073741824) (hbl : bs.length < 1073741824) (hu : 0 ≤ used ∧ used ≤ 1099511627776) :
    Spec Try.prog 47 #[.pointer (some ⟨db, 0, none⟩), .pointer (some ⟨fb, 0, none⟩), .int .i64 at_, vb] F ((db, dkO mb room used ops armed keep down) :: (fb, cellsO [vn, vs] 81) :: s1)
      fun v s => v = .int .i64 (wrG room used now at_ bs).1 ∧ ∃ vn' s1', Own byteE vn' (wrG room used now at_ bs).2.2 s1' ∧ s = (db, dkO mb room (wrG room used now at_ bs).2.1 ops armed keep down) :: (fb, cellsO [vn', vs] 81) :: s1' := by
  obtain ⟨pb, cb, rfl⟩ := hb.shape
  obtain ⟨pn, cn, rfl⟩ := own.shape
  refine Spec.of (n := 83) (vs := [.pointer (some ⟨db, 0, none⟩), .pointer (some ⟨fb, 0, none⟩), .int .i64 at_, .slice pb bs.length cb]) Try.func47 rfl Try.ntmps47 rfl ?_
  refine Vc.seq ?_
  refine Vc.text (List.range 1) (sd [(0, .pure)]) rfl ?_
  refine Rg.pure rfl rfl rfl (Pv.assign rfl) ?_
  refine Rg.nil ?_
  refine Vc.seq ?_
  refine Vc.seq ?_
  refine Vc.text (List.range 11) (sd [(0, .pure), (1, .pure), (2, .pure), (3, .pure), (4, .pure), (5, .pure), (6, .pure), (7, .read), (8, .pure), (9, .pure), (10, .pure)]) rfl ?_
  refine Rg.pure rfl rfl rfl (Pv.move rfl) ?_
  refine Rg.pure rfl rfl rfl (Pv.lss rfl rfl) ?_
  refine Rg.pure rfl rfl rfl (Pv.move rfl) ?_
  refine Rg.split (t := 13) rfl (fun h13 => ?_) (fun h13 => ?_)
  ·
    simp only [decide_eq_true_eq] at h13
    iterate 7 (first | refine Rg.skipP rfl rfl rfl ?_ | refine Rg.skipR rfl rfl rfl ?_ | refine Rg.skipE rfl rfl rfl ?_)
    refine Rg.pure rfl rfl rfl (Pv.pickT rfl rfl) ?_
    refine Rg.nil ?_
    refine Vc.condT rfl ?_
    refine Vc.seq ?_
    refine Vc.text (List.range 1) (sd [(0, .pure)]) rfl ?_
    refine Rg.pure rfl rfl rfl (Pv.assign rfl) ?_
    refine Rg.nil ?_
    exact Vc.ret (Vc.retsH rfl (.cons (.tmp rfl) (.nil)) (⟨congrArg (Value.int .i64) (by rw [wrG, if_pos (.inl h13)]), _, s1, by rw [wrG, if_pos (.inl h13)]; exact own, by rw [wrG, if_pos (.inl h13)]⟩) pulled)
  ·
    simp only [decide_eq_false_iff_not] at h13
    refine Rg.pure rfl rfl rfl (Pv.move rfl) ?_
    refine Rg.pure rfl rfl rfl (Pv.move rfl) ?_
    refine Rg.pure rfl rfl rfl (Pv.nilp rfl) ?_
    refine Rg.pure rfl rfl rfl (Pv.fa rfl) ?_
    refine Rg.read rfl rfl rfl (Ev.ld rfl rfl) ?_
    refine Rg.pure rfl rfl rfl (Pv.lenS rfl) ?_
    refine Rg.pure rfl rfl rfl (Pv.gtr rfl rfl) ?_
    refine Rg.pure rfl rfl rfl (Pv.pickF rfl rfl) ?_
    refine Rg.nil ?_
    refine Vc.cond rfl (fun h21 => ?_) (fun h21 => ?_)
    ·
      simp only [decide_eq_true_eq] at h21
      refine Vc.seq ?_
      refine Vc.text (List.range 1) (sd [(0, .pure)]) rfl ?_
      refine Rg.pure rfl rfl rfl (Pv.assign rfl) ?_
      refine Rg.nil ?_
      exact Vc.ret (Vc.retsH rfl (.cons (.tmp rfl) (.nil)) (⟨congrArg (Value.int .i64) (by rw [wrG, if_pos (.inr h21)]), _, s1, by rw [wrG, if_pos (.inr h21)]; exact own, by rw [wrG, if_pos (.inr h21)]⟩) pulled)
    ·
      simp only [decide_eq_false_iff_not] at h21
      obtain ⟨k, rfl⟩ : ∃ k : Nat, at_ = k := ⟨at_.toNat, by omega⟩
      have hk : k ≤ now.length := by omega
      obtain ⟨size, hsz⟩ : ∃ s, s = max now.length (k + bs.length) := ⟨_, rfl⟩
      have hpa := putAt_of (bs := bs) hk
      have hpl := putAt_length (bs := bs) hk
      rw [← hsz] at hpa hpl
      refine Vc.skip ?_
      refine Vc.seq ?_
      refine Vc.text (List.range 11) (sd [(0, .pure), (1, .pure), (2, .pure), (3, .read), (4, .pure), (5, .pure), (6, .pure), (7, .pure), (8, .pure), (9, .pure), (10, .pure)]) rfl ?_
      refine Rg.pure rfl rfl rfl (Pv.move rfl) ?_
      refine Rg.pure rfl rfl rfl (Pv.nilp rfl) ?_
      refine Rg.pure rfl rfl rfl (Pv.fa rfl) ?_
      refine Rg.read rfl rfl rfl (Ev.ld rfl rfl) ?_
      refine Rg.pure rfl rfl rfl (Pv.lenS rfl) ?_
      refine Rg.pure rfl rfl rfl (Pv.move rfl) ?_
      refine Rg.pure rfl rfl rfl (Pv.move rfl) ?_
      refine Rg.pure rfl rfl rfl (Pv.lenS rfl) ?_
      refine Rg.pure rfl rfl rfl (Pv.add rfl rfl (by omega)) ?_
      refine Rg.pure rfl rfl rfl (Pv.asI (size) (Pv.max rfl rfl) (by omega)) ?_
      refine Rg.pure rfl rfl rfl (Pv.assign rfl) ?_
      refine Rg.nil ?_
      refine Vc.seq ?_
      refine Vc.draw [] (sd [(0, .pure), (2, .pure), (3, .pure), (4, .pure), (5, .read), (6, .pure), (1, .eff), (7, .eff), (8, .pure), (9, .pure)]) mixed (by kernel_rfl) ?_
      refine Rg.pure rfl rfl rfl (Pv.move rfl) ?_
      refine Rg.pure rfl rfl rfl (Pv.move rfl) ?_
      refine Rg.pure rfl rfl rfl (Pv.nilp rfl) ?_
      refine Rg.pure rfl rfl rfl (Pv.fa rfl) ?_
      refine Rg.read rfl rfl rfl (Ev.ld rfl rfl) ?_
      refine Rg.pure rfl rfl rfl (Pv.lenS rfl) ?_
      refine Rg.callP rfl rfl rfl (run_callF rfl) (sectors_spec _ size (by omega)) ?_
      rintro _ rfl
      refine Rg.callP rfl rfl rfl (run_callF rfl) (sectors_spec _ now.length (by omega)) ?_
      rintro _ rfl
      refine Rg.pure rfl rfl rfl (Pv.sub rfl rfl (by have : secs size ≤ 1099511627776 := (by unfold secs; omega); have : secs now.length ≤ 1099511627776 := (by unfold secs; omega); omega)) ?_
      have hs1 : secs size ≤ 1099511627776 := by unfold secs; omega
      have hs2 : secs now.length ≤ 1099511627776 := by unfold secs; omega
      refine Rg.pure rfl rfl rfl (Pv.assign rfl) ?_
      refine Rg.nil ?_
      refine Vc.seq ?_
      refine Vc.seq ?_
      refine Vc.draw [] (sd [(0, .pure), (1, .pure), (2, .pure), (3, .read), (4, .pure), (5, .pure), (6, .pure), (7, .pure), (8, .pure), (9, .read), (10, .pure)]) mixed (by kernel_rfl) ?_
      refine Rg.pure rfl rfl rfl (Pv.move rfl) ?_
      refine Rg.pure rfl rfl rfl (Pv.nilp rfl) ?_
      refine Rg.pure rfl rfl rfl (Pv.fa rfl) ?_
      refine Rg.read rfl rfl rfl (Ev.ld rfl rfl) ?_
      refine Rg.pure rfl rfl rfl (Pv.move rfl) ?_
      refine Rg.pure rfl rfl rfl (Pv.add rfl rfl (by omega)) ?_
      refine Rg.pure rfl rfl rfl (Pv.move rfl) ?_
      refine Rg.pure rfl rfl rfl (Pv.nilp rfl) ?_
      refine Rg.pure rfl rfl rfl (Pv.fa rfl) ?_
      refine Rg.read rfl rfl rfl (Ev.ld rfl rfl) ?_
      refine Rg.pure rfl rfl rfl (Pv.gtr rfl rfl) ?_
      refine Rg.nil ?_
      refine Vc.cond rfl (fun h51 => ?_) (fun h51 => ?_)
      ·
        simp only [decide_eq_true_eq] at h51
        refine Vc.seq ?_
        refine Vc.text (List.range 1) (sd [(0, .pure)]) rfl ?_
        refine Rg.pure rfl rfl rfl (Pv.assign rfl) ?_
        refine Rg.nil ?_
        exact Vc.ret (Vc.retsH rfl (.cons (.tmp rfl) (.nil)) (⟨congrArg (Value.int .i64) (by rw [wrG, if_neg (by omega), Int.toNat_natCast, ← hsz, if_pos h51]), _, s1, by rw [wrG, if_neg (by omega), Int.toNat_natCast, ← hsz, if_pos h51]; exact own, by rw [wrG, if_neg (by omega), Int.toNat_natCast, ← hsz, if_pos h51]⟩) pulled)
      ·
        simp only [decide_eq_false_iff_not] at h51
        refine Vc.skip ?_
        refine Vc.seq ?_
        refine Vc.text (List.range 9) (sd [(0, .pure), (1, .pure), (2, .pure), (3, .read), (4, .pure), (5, .pure), (6, .pure), (7, .pure), (8, .eff)]) rfl ?_
        refine Rg.pure rfl rfl rfl (Pv.move rfl) ?_
        refine Rg.pure rfl rfl rfl (Pv.nilp rfl) ?_
        refine Rg.pure rfl rfl rfl (Pv.fa rfl) ?_
        refine Rg.read rfl rfl rfl (Ev.ld rfl rfl) ?_
        refine Rg.pure rfl rfl rfl (Pv.move rfl) ?_
        refine Rg.pure rfl rfl rfl (Pv.add rfl rfl (by omega)) ?_
        refine Rg.pure rfl rfl rfl (Pv.nilp rfl) ?_
        refine Rg.pure rfl rfl rfl (Pv.fa rfl) ?_
        refine Rg.store rfl rfl rfl rfl rfl rfl rfl rfl ?_
        refine Rg.nil ?_
        refine Vc.seq ?_
        refine Vc.draw [12, 15] (sd [(0, .pure), (1, .pure), (2, .pure), (3, .pure), (4, .read), (5, .pure), (6, .pure), (7, .pure), (8, .pure), (9, .read), (10, .pure), (11, .pure), (12, .eff), (13, .pure), (14, .pure), (15, .eff)]) mixed (by kernel_rfl) ?_
        refine Rg.pure rfl rfl rfl (Pv.move rfl) ?_
        refine Rg.pure rfl rfl rfl (Pv.move rfl) ?_
        refine Rg.pure rfl rfl rfl (Pv.nilp rfl) ?_
        refine Rg.pure rfl rfl rfl (Pv.fa rfl) ?_
        refine Rg.read rfl rfl rfl (Ev.ld rfl rfl) ?_
        refine Rg.pure rfl rfl rfl (Pv.move rfl) ?_
        refine Rg.pure rfl rfl rfl (Pv.move rfl) ?_
        refine Rg.pure rfl rfl rfl (Pv.nilp rfl) ?_
        refine Rg.pure rfl rfl rfl (Pv.fa rfl) ?_
        refine Rg.read rfl rfl rfl (Ev.ld rfl rfl) ?_
        refine Rg.pure rfl rfl rfl (Pv.lenS rfl) ?_
        refine Rg.pure rfl rfl rfl (Pv.asI (size - now.length) (Pv.sub rfl rfl (by omega)) (by omega)) ?_
        refine Rg.appendZ (E := byteE) 0 (size - now.length) rfl rfl rfl rfl rfl own (by omega) (by rw [show maxLen = 9223372036854775807 from rfl]; omega) rfl (fun v72 s72 own72 => ?_)
        have hyl : (now ++ List.replicate (size - now.length) (0 : UInt8)).length = size := by simp; omega
        obtain ⟨p72, c72, rfl⟩ := own72.shape
        refine Rg.pure rfl rfl rfl (Pv.nilp rfl) ?_
        refine Rg.pure rfl rfl rfl (Pv.fa rfl) ?_
        refine Rg.store rfl rfl rfl rfl rfl rfl rfl rfl ?_
        refine Rg.nil ?_
        refine Vc.seq ?_
        refine Vc.text (List.range 8) (sd [(0, .pure), (1, .pure), (2, .pure), (3, .read), (4, .pure), (5, .pure), (6, .pure), (7, .eff)]) rfl ?_
        refine Rg.pure rfl rfl rfl (Pv.move rfl) ?_
        refine Rg.pure rfl rfl rfl (Pv.nilp rfl) ?_
        refine Rg.pure rfl rfl rfl (Pv.fa rfl) ?_
        refine Rg.read rfl rfl rfl (Ev.ld rfl rfl) ?_
        refine Rg.pure rfl rfl rfl (Pv.move rfl) ?_
        refine Rg.pure rfl rfl rfl (Pv.sl (lv := none) (hv := none) k (now ++ List.replicate (size - now.length) (0 : UInt8)).length rfl rfl rfl (by omega) (Arg.own (F := frz F s72) own72 fun b o hb => Or.inl hb).cap.2 (fun _ => (Arg.own (F := frz F s72) own72 fun b o hb => Or.inl hb).cap.2)) ?_
        refine Rg.pure rfl rfl rfl (Pv.move rfl) ?_
        refine Rg.copyTo (E := byteE) (zs := bs) k rfl rfl rfl rfl rfl own72 hb.src (by omega) rfl (fun s82 own82 => ?_)
        rw [hpa] at own82
        refine Rg.nil ?_
        refine Vc.seq ?_
        refine Vc.text (List.range 1) (sd [(0, .pure)]) rfl ?_
        refine Rg.pure rfl rfl rfl (Pv.assign rfl) ?_
        refine Rg.nil ?_
        exact Vc.ret (Vc.retsH rfl (.cons (.tmp rfl) (.nil)) (⟨congrArg (Value.int .i64) (by rw [wrG, if_neg (by omega), Int.toNat_natCast, ← hsz, if_neg h51]), _, s82, by rw [wrG, if_neg (by omega), Int.toNat_natCast, ← hsz, if_neg h51]; exact own82, by rw [wrG, if_neg (by omega), Int.toNat_natCast, ← hsz, if_neg h51]⟩) pulled)
end Go.Proofs.Ytmocncadncgaaaa
