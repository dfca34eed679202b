/- Bytes: Clone, Put, Backward, Get. -/
import Derived.Test.YtjoldkfedmiciaaByP
namespace Go.Proofs.Ytjoldkfedmiciaa
set_option linter.unusedVariables false

abbrev byteE : Enc UInt8 := byteEnc 5
instance : RowTy Try.prog byteE 5 := ⟨Try.sizeOf5, .inr ⟨Try.isAgg5, rfl, fun _ => rfl⟩⟩
instance : TySl Try.prog 27 byteE 1 := ⟨Try.underlying27, Try.t5, .int .u8 0, by kernel_rfl, by kernel_rfl, rfl, rfl, rfl⟩
theorem mixed : Try.prog.follows .mixedOrders = true := by kernel_rfl

theorem clone_spec {F : Fm} {va : Value} {xs : List UInt8} (ha : Arg byteE F va xs) (hN : xs.length < 1073741824) :
    Spec Try.prog 31 #[va] F [] fun v s => Own byteE v xs s := by
  obtain ⟨p, c, rfl⟩ := ha.shape
  refine Spec.of (n := 8) (vs := [.slice p xs.length c]) Try.func31 rfl Try.ntmps31 rfl ?_
  refine Vc.seq ?_
  refine Vc.text (List.range 1) (sd [(0, .pure)]) rfl ?_
  refine Rg.pure rfl rfl rfl (Pv.assign rfl) ?_
  refine Rg.nil ?_
  refine Vc.seq ?_
  refine Vc.seq ?_
  refine Vc.text (List.range 2) (sd [(0, .pure), (1, .pure)]) rfl ?_
  refine Rg.pure rfl rfl rfl (Pv.move rfl) ?_
  refine Rg.pure rfl rfl rfl (Pv.eqlNilS rfl rfl) ?_
  refine Rg.nil ?_
  refine Vc.cond rfl (fun h4 => ?_) (fun h4 => ?_)
  ·
    obtain rfl : p = none := by cases p with | none => rfl | some a => cases h4
    obtain rfl : xs = [] := by
      rcases ha with ⟨_, e⟩ | ⟨_, _, _, e, _⟩
      · exact e
      · cases e
    refine Vc.seq ?_
    refine Vc.text (List.range 1) (sd [(0, .pure)]) rfl ?_
    refine Rg.pure rfl rfl rfl (Pv.assign rfl) ?_
    refine Rg.nil ?_
    refine Vc.ret (Vc.rets rfl (.cons (.tmp rfl) (.nil)) ?_)
    exact Own.nil
  ·
    refine Vc.skip ?_
    refine Vc.seq ?_
    refine Vc.text (List.range 4) (sd [(0, .eff), (1, .pure), (2, .eff), (3, .pure)]) rfl ?_
    refine Rg.bslice0 (E := byteE) rfl rfl rfl (fun b5 own5 => ?_)
    refine Rg.pure rfl rfl rfl (Pv.move rfl) ?_
    refine Rg.append rfl rfl rfl rfl rfl own5 ha.src (by simp <;> omega) (by simp [maxLen] <;> omega) rfl (fun v7 s7 own7 => ?_)
    refine Rg.pure rfl rfl rfl (Pv.assign rfl) ?_
    refine Rg.nil ?_
    exact Vc.ret (Vc.retsH rfl (.cons (.tmp rfl) (.nil)) (own7) pulled)

theorem put_spec {F : Fm} {va : Value} {xs : List UInt8} (ha : Arg byteE F va xs) (hN : xs.length < 1073741000) (s n0 : Nat) (hs : s ≤ 8) :
    Spec Try.prog 22 #[va, .int .i64 (s : Int), .int .u64 (n0 : Int)] F [] fun v sg => Own byteE v (xs ++ leBytes s n0) sg := by
  refine Spec.of (n := 24) (vs := [va, .int .i64 (s : Int), .int .u64 (n0 : Int)]) Try.func22 rfl Try.ntmps22 rfl ?_
  refine Vc.seq ?_
  refine Vc.text (List.range 1) (sd [(0, .pure)]) rfl ?_
  refine Rg.pure rfl rfl rfl (Pv.assign rfl) ?_
  refine Rg.nil ?_
  refine Vc.seq ?_
  refine Vc.text (List.range 3) (sd [(0, .pure), (1, .eff), (2, .pure)]) rfl ?_
  refine Rg.pure rfl rfl rfl (Pv.move rfl) ?_
  refine Rg.callA rfl rfl rfl (run_callF rfl) (clone_spec (ha.mono fun b o h => Or.inr h) (by omega)) ?_
  rintro v9 s9 own9
  refine Rg.pure rfl rfl rfl (Pv.assign rfl) ?_
  refine Rg.nil ?_
  refine Vc.seq ?_
  refine Vc.seq ?_
  refine Vc.text (List.range 4) (sd [(0, .pure), (1, .pure), (2, .pure), (3, .pure)]) rfl ?_
  refine Rg.pure rfl rfl rfl (Pv.move rfl) ?_
  refine Rg.pure rfl rfl rfl (Pv.max rfl rfl) ?_
  refine Rg.pure rfl rfl rfl (Pv.asI (s) (Pv.min rfl rfl) (by omega)) ?_
  refine Rg.pure rfl rfl rfl (Pv.move rfl) ?_
  refine Rg.nil ?_
  refine Vc.block ?_
  refine Vc.loop3 (fun (i : Nat) (v : Value) (sg : Hl) => i ≤ s ∧ Own byteE v (xs ++ leBytes i n0) sg) (fun i v sg => [(2, .int .u64 ((n0 / 256 ^ i : Nat) : Int)), (7, v), (12, .int .i64 (s : Int)), (13, .int .i64 (i : Int))]) (fun i v sg => sg) (fun i v sg => s - i) 0 v9 s9 ⟨Nat.zero_le _, by simpa [leBytes] using own9⟩ (.cons (congrArg (fun x : Nat => some (Value.int .u64 (x : Int))) (by simp)) (.cons rfl (.cons rfl (.cons rfl .nil)))) pulled ?_
  rintro i v sg ⟨hi, own⟩
  refine Vc.seq ?_
  refine Vc.text (List.range 1) (sd [(0, .pure)]) rfl ?_
  refine Rg.pure rfl rfl rfl (Pv.lss rfl rfl) ?_
  refine Rg.nil ?_
  refine Vc.seq ?_
  refine Vc.cond rfl (fun h14 => ?_) (fun h14 => ?_)
  ·
    simp only [decide_eq_true_eq] at h14
    refine Vc.skip ?_
    refine Vc.seq ?_
    refine Vc.block ?_
    refine Vc.seq ?_
    refine Vc.text (List.range 6) (sd [(0, .pure), (1, .pure), (2, .pure), (3, .eff), (4, .eff), (5, .pure)]) rfl ?_
    refine Rg.pure rfl rfl rfl (Pv.move rfl) ?_
    refine Rg.pure rfl rfl rfl (Pv.move rfl) ?_
    refine Rg.pure rfl rfl rfl (Pv.as (.int .u8 ((UInt8.ofNat (n0 / 256 ^ i)).toNat : Int)) (Pv.convI rfl) (congrArg (Value.int .u8) (wrap_u8 _))) ?_
    refine Rg.bslice1 rfl rfl rfl rfl rfl rfl rfl (fun b18 => ?_)
    refine Rg.append rfl rfl rfl rfl rfl own (Src.one (y := UInt8.ofNat (n0 / 256 ^ i)) rfl) (by simp <;> omega) (by simp [maxLen] <;> omega) rfl (fun v19 s19 own19 => ?_)
    refine Rg.pure rfl rfl rfl (Pv.assign rfl) ?_
    refine Rg.nil ?_
    refine Vc.text (List.range 3) (sd [(0, .pure), (1, .pure), (2, .pure)]) rfl ?_
    refine Rg.pure rfl rfl rfl (Pv.move rfl) ?_
    refine Rg.pure rfl rfl rfl (Pv.asI (n0 / 256 ^ (i + 1)) (Pv.shrN (n0 / 256 ^ i) 8 rfl rfl (by decide)) (by rw [Nat.div_div_eq_div_mul, show (2 : Nat) ^ 8 = 256 by decide, ← Nat.pow_succ])) ?_
    refine Rg.pure rfl rfl rfl (Pv.assign rfl) ?_
    refine Rg.nil ?_
    refine Vc.blk ?_
    refine Vc.text (List.range 2) (sd [(0, .pure), (1, .pure)]) rfl ?_
    refine Rg.pure rfl rfl rfl (Pv.asI (i + 1) (Pv.add rfl rfl (by omega)) (by omega)) ?_
    refine Rg.pure rfl rfl rfl (Pv.move rfl) ?_
    refine Rg.nil ?_
    exact Vc.inv3 (i + 1) v19 s19 ⟨⟨by omega, by rw [leBytes_snoc, ← List.append_assoc]; exact own19⟩, by omega⟩ (.cons rfl (.cons rfl (.cons rfl (.cons rfl .nil)))) pulled
  ·
    simp only [decide_eq_false_iff_not] at h14
    refine Vc.exit rfl ?_
    refine Vc.seq ?_
    refine Vc.text (List.range 2) (sd [(0, .pure), (1, .pure)]) rfl ?_
    refine Rg.pure rfl rfl rfl (Pv.move rfl) ?_
    refine Rg.pure rfl rfl rfl (Pv.assign rfl) ?_
    refine Rg.nil ?_
    exact Vc.ret (Vc.retsH rfl (.cons (.tmp rfl) (.nil)) ((by rw [show s = i by omega]; exact own)) pulled)

def encB (x : Nat × UInt8) : List Value := [.int .i64 (x.1 : Int), .int .u8 (x.2.toNat : Int)]
theorem bwd_iter {F : Fm} {va : Value} {xs : List UInt8} (ha : Arg byteE F va xs) (hN : xs.length < 1073741824) (bs : Nat) :
    Iter Try.prog 45 [.pointer (some ⟨bs, 0, none⟩)] F encB (fun p => p <+: bwd xs) (fun p => p = bwd xs) [(bs, cellsO [va] 27)] := by
  intro lr J F1 hF1 hY hc0 hJ0
  obtain ⟨p, c, rfl⟩ := ha.shape
  have ha1 := ha.mono hF1
  refine Spec.of (n := 19) (vs := [.func (.yield lr) #[] #[], .pointer (some ⟨bs, 0, none⟩)]) Try.func45 rfl Try.ntmps45 rfl ?_
  refine Vc.seq ?_
  refine Vc.text (List.range 4) (sd [(0, .read), (1, .pure), (2, .pure), (3, .pure)]) rfl ?_
  refine Rg.read rfl rfl rfl (Ev.ld rfl rfl) ?_
  refine Rg.pure rfl rfl rfl (Pv.lenS rfl) ?_
  refine Rg.pure rfl rfl rfl (Pv.as (.int .i64 ((xs.length : Int) - 1 - ((0 : Nat) : Int))) (Pv.sub rfl rfl (by omega)) (congrArg (Value.int .i64) (by omega))) ?_
  refine Rg.pure rfl rfl rfl (Pv.assign rfl) ?_
  refine Rg.nil ?_
  refine Vc.block ?_
  refine Vc.loop2 (fun (k : Nat) (hc : Hl) => k ≤ xs.length ∧ J ((bwd xs).take k) hc) (fun k hc => [(0, .func (.yield lr) #[] #[]), (1, .pointer (some ⟨bs, 0, none⟩)), (3, .int .i64 ((xs.length : Int) - 1 - (k : Int)))]) (fun k hc => (bs, cellsO [.slice p xs.length c] 27) :: hc) (fun k hc => xs.length - k) 0 hc0 ⟨Nat.zero_le _, by simpa using hJ0⟩ (.cons rfl (.cons rfl (.cons rfl .nil))) pulled ?_
  rintro k hc ⟨hk, hJ⟩
  refine Vc.seq ?_
  refine Vc.seq ?_
  refine Vc.text (List.range 2) (sd [(0, .pure), (1, .pure)]) rfl ?_
  refine Rg.pure rfl rfl rfl (Pv.move rfl) ?_
  refine Rg.pure rfl rfl rfl (Pv.geq rfl rfl) ?_
  refine Rg.nil ?_
  refine Vc.cond rfl (fun h8 => ?_) (fun h8 => ?_)
  ·
    simp only [decide_eq_true_eq] at h8
    have hk1 : k < xs.length := by omega
    obtain ⟨b, off, c', e, hcc⟩ := ha1.block (by omega)
    cases e
    have hsn := take_snoc (bwd_get xs hk1)
    have hpre : (bwd xs).take k ++ [(xs.length - 1 - k, xs[xs.length - 1 - k]!)] <+: bwd xs := by rw [hsn]; exact List.take_prefix _ _
    refine Vc.skip ?_
    refine Vc.seq ?_
    refine Vc.block ?_
    refine Vc.seq ?_
    refine Vc.text (List.range 8) (sd [(0, .pure), (1, .pure), (2, .read), (3, .pure), (4, .pure), (5, .read), (6, .eff), (7, .pure)]) rfl ?_
    refine Rg.pure rfl rfl rfl (Pv.move rfl) ?_
    refine Rg.pure rfl rfl rfl (Pv.asI (xs.length - 1 - k) (Pv.move rfl) (by omega)) ?_
    refine Rg.read rfl rfl rfl (Ev.ld rfl rfl) ?_
    refine Rg.pure rfl rfl rfl (Pv.asI (xs.length - 1 - k) (Pv.move rfl) (by omega)) ?_
    refine Rg.pure rfl rfl rfl (Pv.ixA (xs.length - 1 - k) rfl rfl (by omega) (by omega)) ?_
    refine Rg.read rfl rfl rfl (Ev.ldS (xs.length - 1 - k) (ha1.src) rfl rfl rfl (by omega)) ?_
    refine Rg.yieldH rfl rfl rfl rfl rfl (fun F' hF' => hY _ (xs.length - 1 - k, xs[xs.length - 1 - k]!) hpre hc hJ F' (fun b o h => hF' b o (.inr h))) rfl ?_
    rintro _ hc' ⟨rfl, hJ'⟩
    rw [hsn] at hJ'
    refine Rg.pure rfl rfl rfl (Pv.not rfl) ?_
    refine Rg.nil ?_
    refine Vc.cond rfl (fun h18 => absurd h18 (by simp)) (fun h18 => ?_)
    refine Vc.skip ?_
    refine Vc.blk ?_
    refine Vc.text (List.range 3) (sd [(0, .pure), (1, .pure), (2, .pure)]) rfl ?_
    refine Rg.pure rfl rfl rfl (Pv.move rfl) ?_
    refine Rg.pure rfl rfl rfl (Pv.as (.int .i64 ((xs.length : Int) - 1 - ((k + 1 : Nat) : Int))) (Pv.sub rfl rfl (by omega)) (congrArg (Value.int .i64) (by omega))) ?_
    refine Rg.pure rfl rfl rfl (Pv.assign rfl) ?_
    refine Rg.nil ?_
    exact Vc.inv2 (k + 1) hc' ⟨⟨by omega, hJ'⟩, by omega⟩ (.cons rfl (.cons rfl (.cons rfl .nil))) pulled
  ·
    simp only [decide_eq_false_iff_not] at h8
    have hJf : J (bwd xs) hc := by rwa [List.take_of_length_le (by rw [bwd_length]; omega)] at hJ
    refine Vc.exit rfl ?_
    exact Vc.fin (Vc.retsH rfl .nil (⟨bwd xs, rfl, hJf⟩) pulled)

theorem backward_spec {F : Fm} {p : Option Addr} {m c : Nat} :
    Spec Try.prog 40 #[.slice p m c] F [] fun v s => ∃ bs, v = .func (.func 45) #[] #[.pointer (some ⟨bs, 0, none⟩)] ∧ s = [(bs, cellsO [.slice p m c] 27)] := by
  refine Spec.of (n := 4) (vs := [.slice p m c]) Try.func40 rfl Try.ntmps40 rfl ?_
  refine Vc.seq ?_
  refine Vc.text (List.range 2) (sd [(0, .eff), (1, .pure)]) rfl ?_
  refine Rg.box rfl rfl rfl rfl rfl (fun b1 => ?_)
  refine Rg.pure rfl rfl rfl (Pv.assign rfl) ?_
  refine Rg.nil ?_
  refine Vc.seq ?_
  refine Vc.text (List.range 2) (sd [(0, .pure), (1, .pure)]) rfl ?_
  refine Rg.pure rfl rfl rfl (Pv.mkF rfl rfl) ?_
  refine Rg.pure rfl rfl rfl (Pv.assign rfl) ?_
  refine Rg.nil ?_
  exact Vc.ret (Vc.retsH rfl (.cons (.tmp rfl) (.nil)) (⟨b1, rfl, rfl⟩) pulled)

/-- The number in so many bytes from a place on. -/
def getB (xs : List UInt8) (at_ s : Nat) : Nat := leNum ((xs.drop at_).take s)
theorem get_spec {F : Fm} {va : Value} {xs : List UInt8} (ha : Arg byteE F va xs) (hN : xs.length < 1073741824) (at_ s : Nat) (h1 : 1 ≤ s) (h8 : s ≤ 8) (hat : at_ + s ≤ xs.length) :
    Spec Try.prog 33 #[va, .int .i64 (at_ : Int), .int .i64 (s : Int)] F [] fun v _ => v = .tuple #[.int .u64 (getB xs at_ s : Nat), .bool true] := by
  obtain ⟨b, off, c, rfl, hc⟩ := ha.block (by omega)
  have ha2 := Arg.sub ha at_ (at_ + s) (by omega) (by omega)
  rw [show at_ + s - at_ = s by omega] at ha2
  unfold getB
  have hly : ((xs.drop at_).take s).length = s := by simp; omega
  generalize (xs.drop at_).take s = ys at ha2 hly
  refine Spec.of (n := 44) (vs := [.slice (some ⟨b, off, none⟩) xs.length c, .int .i64 (at_ : Int), .int .i64 (s : Int)]) Try.func33 rfl Try.ntmps33 rfl ?_
  refine Vc.seq ?_
  refine Vc.text (List.range 2) (sd [(0, .pure), (1, .pure)]) rfl ?_
  refine Rg.pure rfl rfl rfl (Pv.assign rfl) ?_
  refine Rg.pure rfl rfl rfl (Pv.assign rfl) ?_
  refine Rg.nil ?_
  refine Vc.seq ?_
  refine Vc.seq ?_
  refine Vc.text (List.range 18) (sd [(0, .pure), (1, .pure), (2, .pure), (3, .pure), (4, .pure), (5, .pure), (6, .pure), (7, .pure), (8, .pure), (9, .pure), (10, .pure), (11, .pure), (12, .pure), (13, .pure), (14, .pure), (15, .pure), (16, .pure), (17, .pure)]) rfl ?_
  refine Rg.pure rfl rfl rfl (Pv.move rfl) ?_
  refine Rg.pure rfl rfl rfl (Pv.lss rfl rfl) ?_
  refine Rg.pure rfl rfl rfl (Pv.move rfl) ?_
  refine Rg.split (t := 13) rfl (fun h13 => absurd h13 (by simp only [decide_eq_true_eq]; omega)) (fun h13 => ?_)
  refine Rg.pure rfl rfl rfl (Pv.move rfl) ?_
  refine Rg.pure rfl rfl rfl (Pv.gtr rfl rfl) ?_
  refine Rg.pure rfl rfl rfl (Pv.pickF rfl rfl) ?_
  refine Rg.pure rfl rfl rfl (Pv.move rfl) ?_
  refine Rg.split (t := 17) rfl (fun h17 => absurd h17 (by simp only [decide_eq_true_eq]; omega)) (fun h17 => ?_)
  refine Rg.pure rfl rfl rfl (Pv.move rfl) ?_
  refine Rg.pure rfl rfl rfl (Pv.lss rfl rfl) ?_
  refine Rg.pure rfl rfl rfl (Pv.pickF rfl rfl) ?_
  refine Rg.pure rfl rfl rfl (Pv.move rfl) ?_
  refine Rg.split (t := 21) rfl (fun h21 => absurd h21 (by simp only [decide_eq_true_eq]; omega)) (fun h21 => ?_)
  refine Rg.pure rfl rfl rfl (Pv.move rfl) ?_
  refine Rg.pure rfl rfl rfl (Pv.move rfl) ?_
  refine Rg.pure rfl rfl rfl (Pv.lenS rfl) ?_
  refine Rg.pure rfl rfl rfl (Pv.move rfl) ?_
  refine Rg.pure rfl rfl rfl (Pv.sub rfl rfl (by omega)) ?_
  refine Rg.pure rfl rfl rfl (Pv.gtr rfl rfl) ?_
  refine Rg.pure rfl rfl rfl (Pv.pickF rfl rfl) ?_
  refine Rg.nil ?_
  refine Vc.cond rfl (fun h28 => absurd h28 (by simp only [decide_eq_true_eq]; omega)) (fun h28 => ?_)
  refine Vc.skip ?_
  refine Vc.seq ?_
  refine Vc.text (List.range 2) (sd [(0, .eff), (1, .eff)]) rfl ?_
  refine Rg.alloc rfl rfl rfl rfl (fun b8 => ?_)
  refine Rg.store rfl rfl rfl rfl rfl rfl rfl rfl ?_
  refine Rg.nil ?_
  refine Vc.seq ?_
  refine Vc.seq ?_
  refine Vc.text (List.range 7) (sd [(0, .pure), (1, .pure), (2, .pure), (3, .pure), (4, .pure), (5, .pure), (6, .eff)]) rfl ?_
  refine Rg.pure rfl rfl rfl (Pv.move rfl) ?_
  refine Rg.pure rfl rfl rfl (Pv.move rfl) ?_
  refine Rg.pure rfl rfl rfl (Pv.move rfl) ?_
  refine Rg.pure rfl rfl rfl (Pv.move rfl) ?_
  refine Rg.pure rfl rfl rfl (Pv.asI (at_ + s) (Pv.add rfl rfl (by omega)) (by omega)) ?_
  refine Rg.pure rfl rfl rfl (Pv.slAt (at_) (at_ + s) rfl rfl rfl (by omega) (by omega)) ?_
  refine Rg.callA rfl rfl rfl (run_callF rfl) backward_spec ?_
  rintro _ _ ⟨bs, rfl, rfl⟩
  refine Rg.nil ?_
  refine Vc.block ?_
  refine Vc.rangeFunc (enc := encB) (Sp := fun p => p <+: bwd ys) (S := fun p => p = bwd ys) (hi := [(bs, cellsO [.slice (some ⟨b, if c = at_ then off else off + at_ * 1, none⟩) (at_ + s - at_) (c - at_)] 27)]) (rest := []) (fun pre hc => hc = [(b8, cellsO [.int .u64 ((leNum (ys.drop (ys.length - pre.length)) : Nat) : Int)] 47)]) [(b8, cellsO [.int .u64 0] 47)] rfl rfl (fun _ => rfl) rfl pulled (fun F1 hF1 => bwd_iter (by rw [show at_ + s - at_ = s by omega]; exact ha2.mono fun b o h => hF1 b o (.inr h)) (by omega) bs) (by simp [leNum]) ?_ ?_
  ·
    rintro lr rc pre x hc F1 hF1 hpre rfl
    have hk := (prefix_take hpre).1
    have hx := prefix_get hpre
    rw [bwd_length] at hk
    rw [bwd_get ys hk, Option.some.injEq] at hx
    subst hx
    have hd : ys.drop (ys.length - (pre.length + 1)) = ys[ys.length - 1 - pre.length]! :: ys.drop (ys.length - pre.length) := by
      rw [getElem!_pos ys _ (by omega), show ys.length - pre.length = ys.length - 1 - pre.length + 1 by omega, show ys.length - (pre.length + 1) = ys.length - 1 - pre.length by omega]
      exact List.drop_eq_getElem_cons (by omega)
    have hlt : leNum (ys.drop (ys.length - pre.length)) < 2 ^ 56 := Nat.lt_of_lt_of_le (leNum_lt _) (by
      rw [List.length_drop, show (2 : Nat) ^ 56 = 256 ^ 7 by decide]
      exact Nat.pow_le_pow_right (by decide) (by omega))
    have hb8 := (ys[ys.length - 1 - pre.length]!).toNat_lt
    refine Vc.text (List.range 1) (sd [(0, .pure)]) rfl ?_
    refine Rg.pure rfl rfl rfl (Pv.assign rfl) ?_
    refine Rg.nil ?_
    refine Vc.begin ?_
    refine Vc.block ?_
    refine Vc.text (List.range 6) (sd [(0, .read), (1, .pure), (2, .pure), (3, .pure), (4, .pure), (5, .eff)]) rfl ?_
    refine Rg.read rfl rfl rfl (Ev.ld rfl rfl) ?_
    refine Rg.pure rfl rfl rfl (Pv.shlN (leNum (ys.drop (ys.length - pre.length))) (8) rfl rfl rfl (by decide)) ?_
    refine Rg.pure rfl rfl rfl (Pv.move rfl) ?_
    refine Rg.pure rfl rfl rfl (Pv.asI (ys[ys.length - 1 - pre.length]!).toNat (Pv.convI rfl) (wrap_ult rfl (by show (ys[ys.length - 1 - pre.length]!).toNat < 2 ^ 64; omega))) ?_
    refine Rg.pure rfl rfl rfl (Pv.asI (leNum (ys.drop (ys.length - (pre.length + 1)))) (Pv.orN (leNum (ys.drop (ys.length - pre.length)) * 2 ^ 8 % 2 ^ IntKind.u64.bits) (ys[ys.length - 1 - pre.length]!).toNat rfl rfl rfl (by show _ < 2 ^ 64; exact Nat.mod_lt _ (by decide)) (by show _ < 2 ^ 64; omega)) (by rw [hd, leNum]; exact congrArg _ (leNum_step hlt hb8))) ?_
    refine Rg.store rfl rfl rfl rfl rfl rfl rfl rfl ?_
    refine Rg.nil ?_
    refine Vc.blk ?_
    exact Vc.finR [(b8, cellsO [.int .u64 ((leNum (ys.drop (ys.length - (pre.length + 1))) : Nat) : Int)] 47)] (by rw [List.length_append]; rfl) pulled
  ·
    rintro D pre hc hD rfl rfl
    rw [bwd_length, Nat.sub_self, List.drop_zero]
    refine Vc.blk ?_
    refine Vc.seq ?_
    refine Vc.text (List.range 3) (sd [(0, .read), (1, .pure), (2, .pure)]) rfl ?_
    refine Rg.read rfl rfl rfl (Ev.ld rfl rfl) ?_
    refine Rg.pure rfl rfl rfl (Pv.assign rfl) ?_
    refine Rg.pure rfl rfl rfl (Pv.assign rfl) ?_
    refine Rg.nil ?_
    exact Vc.ret (Vc.retsM (hl' := []) (Mk.one hD) rfl (.cons (.tmp rfl) (.cons (.tmp rfl) .nil)) rfl pulled)
end Go.Proofs.Ytjoldkfedmiciaa
