/- Bytes: Put, Backward, Get; a sum over bytes (Crc). Bytes: the document's Put, Get and Crc. Bytes: Grow, Concat; blocks: Encode, Decode, and the document's. -/
import Derived.Test.YtbhaahohaccecaaDkI
import Derived.Test.YtbhaahohaccecaaByP
import Derived.Test.YtbhaahohaccecaaSlF
namespace Go.Proofs.Ytbhaahohaccecaa
set_option linter.unusedVariables false

section
variable {P : Program} {n : Nf} {F : Fm} {l : Env} {hl : Hl} {d : Option Tmp} {ty : TypeId} {pos : String} {af : Array Edge} {g : Option (Nat × Bool)}
theorem Pv.negI {t : TypeId} {x : Operand} {k : IntKind} {z : Int} (hx : ev l x = some (.int k z)) : Pv P n l ⟨d, .unOp .neg t x, ty, pos, af, g⟩ (.int k (k.wrap (0 - z))) := fun a w hf => by
  simp [execOp, hf.ev hx, Op.unary, Op.intArith]
theorem Pv.cpl32 {t : TypeId} {x : Operand} (p : Nat) (hx : ev l x = some (.int .u32 (p : Int))) (hp : p < 4294967296) : Pv P n l ⟨d, .unOp .xor t x, ty, pos, af, g⟩ (.int .u32 ((4294967295 ^^^ p : Nat) : Int)) := fun a w hf => by
  have h : (Op.intBits .xor .u32 (IntKind.u32.max) (p : Int)).run P w = .ok (.int .u32 ((4294967295 ^^^ p : Nat) : Int)) w := by
    show Result.ok (Value.int .u32 (IntKind.u32.wrap ((BitVec.ofInt 32 ((4294967295 : Nat) : Int) ^^^ BitVec.ofInt 32 (p : Int)).toNat : Nat))) w = _
    rw [ofInt_nat, ofInt_nat, BitVec.toNat_xor, BitVec.toNat_ofNat, BitVec.toNat_ofNat, Nat.mod_eq_of_lt (by decide), Nat.mod_eq_of_lt (by omega), wrap_ult rfl (Nat.xor_lt_two_pow (by decide) (by show p < 2 ^ 32; omega))]
  simp only [execOp, hf.ev hx, Op.unary, IntKind.signed, Bool.false_eq_true, if_false, Sem.run_bind, h, Result.andThen_ok, Sem.run_pure]
theorem Pv.cap {x : Operand} {t : TypeId} {e : TypeId} {p : Option Addr} {m c : Nat} [ht : TyUnder P t (.slice e)] (hx : ev l x = some (.slice p m c)) : Pv P n l ⟨d, .call { callee := .builtin .cap, args := #[x], argTypes := #[t] }, ty, pos, af, g⟩ (.int .i64 c) := fun a w hf => by
  simp [execOp, resolve, invoke, builtin, Builtin.cap_, run_underlying ht.under, hf.ev hx, goInt]
end
theorem put_spec {F : Fm} {va : Value} {xs : List UInt8} (ha : Arg byteE F va xs) (hN : xs.length < 1073741000) (s n0 : Nat) (hs : s ≤ 8) :
    Spec Try.prog 38 #[va, .int .i64 (s : Int), .int .u64 (n0 : Int)] F [] fun v sg => Own byteE v (xs ++ leBytes s n0) sg := by
  refine Spec.of (n := 24) (vs := [va, .int .i64 (s : Int), .int .u64 (n0 : Int)]) Try.func38 rfl Try.ntmps38 rfl ?_
  refine Vc.seq ?_
  refine Vc.text (List.range 1) (sd [(0, .pure)]) rfl ?_
  refine Rg.pure rfl rfl rfl (Pv.assign rfl) ?_
  refine Rg.nil ?_
  refine Vc.seq ?_
  refine Vc.text (List.range 3) (sd [(0, .pure), (1, .eff), (2, .pure)]) rfl ?_
  refine Rg.pure rfl rfl rfl (Pv.move rfl) ?_
  refine Rg.callA rfl rfl rfl (run_callF rfl) (clone_spec (ha.mono fun b o h => Or.inr h) (by omega)) ?_
  rintro v9 s9 own9
  refine Rg.pure rfl rfl rfl (Pv.assign rfl) ?_
  refine Rg.nil ?_
  refine Vc.seq ?_
  refine Vc.seq ?_
  refine Vc.text (List.range 4) (sd [(0, .pure), (1, .pure), (2, .pure), (3, .pure)]) rfl ?_
  refine Rg.pure rfl rfl rfl (Pv.move rfl) ?_
  refine Rg.pure rfl rfl rfl (Pv.max rfl rfl) ?_
  refine Rg.pure rfl rfl rfl (Pv.asI (s) (Pv.min rfl rfl) (by omega)) ?_
  refine Rg.pure rfl rfl rfl (Pv.move rfl) ?_
  refine Rg.nil ?_
  refine Vc.block ?_
  refine Vc.loop3 (fun (i : Nat) (v : Value) (sg : Hl) => i ≤ s ∧ Own byteE v (xs ++ leBytes i n0) sg) (fun i v sg => [(2, .int .u64 ((n0 / 256 ^ i : Nat) : Int)), (7, v), (12, .int .i64 (s : Int)), (13, .int .i64 (i : Int))]) (fun i v sg => sg) (fun i v sg => s - i) 0 v9 s9 ⟨Nat.zero_le _, by simpa [leBytes] using own9⟩ (.cons (congrArg (fun x : Nat => some (Value.int .u64 (x : Int))) (by simp)) (.cons rfl (.cons rfl (.cons rfl .nil)))) pulled ?_
  rintro i v sg ⟨hi, own⟩
  refine Vc.seq ?_
  refine Vc.text (List.range 1) (sd [(0, .pure)]) rfl ?_
  refine Rg.pure rfl rfl rfl (Pv.lss rfl rfl) ?_
  refine Rg.nil ?_
  refine Vc.seq ?_
  refine Vc.cond rfl (fun h14 => ?_) (fun h14 => ?_)
  ·
    simp only [decide_eq_true_eq] at h14
    refine Vc.skip ?_
    refine Vc.seq ?_
    refine Vc.block ?_
    refine Vc.seq ?_
    refine Vc.text (List.range 6) (sd [(0, .pure), (1, .pure), (2, .pure), (3, .eff), (4, .eff), (5, .pure)]) rfl ?_
    refine Rg.pure rfl rfl rfl (Pv.move rfl) ?_
    refine Rg.pure rfl rfl rfl (Pv.move rfl) ?_
    refine Rg.pure rfl rfl rfl (Pv.as (.int .u8 ((UInt8.ofNat (n0 / 256 ^ i)).toNat : Int)) (Pv.convI rfl) (congrArg (Value.int .u8) (wrap_u8 _))) ?_
    refine Rg.bslice1 rfl rfl rfl rfl rfl rfl rfl (fun b18 => ?_)
    refine Rg.append rfl rfl rfl rfl rfl own (Src.one (y := UInt8.ofNat (n0 / 256 ^ i)) rfl) (by simp <;> omega) (by simp [maxLen] <;> omega) rfl (fun v19 s19 own19 => ?_)
    refine Rg.pure rfl rfl rfl (Pv.assign rfl) ?_
    refine Rg.nil ?_
    refine Vc.text (List.range 3) (sd [(0, .pure), (1, .pure), (2, .pure)]) rfl ?_
    refine Rg.pure rfl rfl rfl (Pv.move rfl) ?_
    refine Rg.pure rfl rfl rfl (Pv.asI (n0 / 256 ^ (i + 1)) (Pv.shrN (n0 / 256 ^ i) 8 rfl rfl (by decide)) (by rw [Nat.div_div_eq_div_mul, show (2 : Nat) ^ 8 = 256 by decide, ← Nat.pow_succ])) ?_
    refine Rg.pure rfl rfl rfl (Pv.assign rfl) ?_
    refine Rg.nil ?_
    refine Vc.blk ?_
    refine Vc.text (List.range 2) (sd [(0, .pure), (1, .pure)]) rfl ?_
    refine Rg.pure rfl rfl rfl (Pv.asI (i + 1) (Pv.add rfl rfl (by omega)) (by omega)) ?_
    refine Rg.pure rfl rfl rfl (Pv.move rfl) ?_
    refine Rg.nil ?_
    exact Vc.inv3 (i + 1) v19 s19 ⟨⟨by omega, by rw [leBytes_snoc, ← List.append_assoc]; exact own19⟩, by omega⟩ (.cons rfl (.cons rfl (.cons rfl (.cons rfl .nil)))) pulled
  ·
    simp only [decide_eq_false_iff_not] at h14
    refine Vc.exit rfl ?_
    refine Vc.seq ?_
    refine Vc.text (List.range 2) (sd [(0, .pure), (1, .pure)]) rfl ?_
    refine Rg.pure rfl rfl rfl (Pv.move rfl) ?_
    refine Rg.pure rfl rfl rfl (Pv.assign rfl) ?_
    refine Rg.nil ?_
    exact Vc.ret (Vc.retsH rfl (.cons (.tmp rfl) (.nil)) ((by rw [show s = i by omega]; exact own)) pulled)

def encB (x : Nat × UInt8) : List Value := [.int .i64 (x.1 : Int), .int .u8 (x.2.toNat : Int)]
theorem bwd_iter {F : Fm} {va : Value} {xs : List UInt8} (ha : Arg byteE F va xs) (hN : xs.length < 1073741824) (bs : Nat) :
    Iter Try.prog 68 [.pointer (some ⟨bs, 0, none⟩)] F encB (fun p => p <+: bwd xs) (fun p => p = bwd xs) [(bs, cellsO [va] 22)] := by
  intro lr J F1 hF1 hY hc0 hJ0
  obtain ⟨p, c, rfl⟩ := ha.shape
  have ha1 := ha.mono hF1
  refine Spec.of (n := 19) (vs := [.func (.yield lr) #[] #[], .pointer (some ⟨bs, 0, none⟩)]) Try.func68 rfl Try.ntmps68 rfl ?_
  refine Vc.seq ?_
  refine Vc.text (List.range 4) (sd [(0, .read), (1, .pure), (2, .pure), (3, .pure)]) rfl ?_
  refine Rg.read rfl rfl rfl (Ev.ld rfl rfl) ?_
  refine Rg.pure rfl rfl rfl (Pv.lenS rfl) ?_
  refine Rg.pure rfl rfl rfl (Pv.as (.int .i64 ((xs.length : Int) - 1 - ((0 : Nat) : Int))) (Pv.sub rfl rfl (by omega)) (congrArg (Value.int .i64) (by omega))) ?_
  refine Rg.pure rfl rfl rfl (Pv.assign rfl) ?_
  refine Rg.nil ?_
  refine Vc.block ?_
  refine Vc.loop2 (fun (k : Nat) (hc : Hl) => k ≤ xs.length ∧ J ((bwd xs).take k) hc) (fun k hc => [(0, .func (.yield lr) #[] #[]), (1, .pointer (some ⟨bs, 0, none⟩)), (3, .int .i64 ((xs.length : Int) - 1 - (k : Int)))]) (fun k hc => (bs, cellsO [.slice p xs.length c] 22) :: hc) (fun k hc => xs.length - k) 0 hc0 ⟨Nat.zero_le _, by simpa using hJ0⟩ (.cons rfl (.cons rfl (.cons rfl .nil))) pulled ?_
  rintro k hc ⟨hk, hJ⟩
  refine Vc.seq ?_
  refine Vc.seq ?_
  refine Vc.text (List.range 2) (sd [(0, .pure), (1, .pure)]) rfl ?_
  refine Rg.pure rfl rfl rfl (Pv.move rfl) ?_
  refine Rg.pure rfl rfl rfl (Pv.geq rfl rfl) ?_
  refine Rg.nil ?_
  refine Vc.cond rfl (fun h8 => ?_) (fun h8 => ?_)
  ·
    simp only [decide_eq_true_eq] at h8
    have hk1 : k < xs.length := by omega
    obtain ⟨b, off, c', e, hcc⟩ := ha1.block (by omega)
    cases e
    have hsn := take_snoc (bwd_get xs hk1)
    have hpre : (bwd xs).take k ++ [(xs.length - 1 - k, xs[xs.length - 1 - k]!)] <+: bwd xs := by rw [hsn]; exact List.take_prefix _ _
    refine Vc.skip ?_
    refine Vc.seq ?_
    refine Vc.block ?_
    refine Vc.seq ?_
    refine Vc.text (List.range 8) (sd [(0, .pure), (1, .pure), (2, .read), (3, .pure), (4, .pure), (5, .read), (6, .eff), (7, .pure)]) rfl ?_
    refine Rg.pure rfl rfl rfl (Pv.move rfl) ?_
    refine Rg.pure rfl rfl rfl (Pv.asI (xs.length - 1 - k) (Pv.move rfl) (by omega)) ?_
    refine Rg.read rfl rfl rfl (Ev.ld rfl rfl) ?_
    refine Rg.pure rfl rfl rfl (Pv.asI (xs.length - 1 - k) (Pv.move rfl) (by omega)) ?_
    refine Rg.pure rfl rfl rfl (Pv.ixA (xs.length - 1 - k) rfl rfl (by omega) (by omega)) ?_
    refine Rg.read rfl rfl rfl (Ev.ldS (xs.length - 1 - k) (ha1.src) rfl rfl rfl (by omega)) ?_
    refine Rg.yieldH rfl rfl rfl rfl rfl (fun F' hF' => hY _ (xs.length - 1 - k, xs[xs.length - 1 - k]!) hpre hc hJ F' (fun b o h => hF' b o (.inr h))) rfl ?_
    rintro _ hc' ⟨rfl, hJ'⟩
    rw [hsn] at hJ'
    refine Rg.pure rfl rfl rfl (Pv.not rfl) ?_
    refine Rg.nil ?_
    refine Vc.cond rfl (fun h18 => absurd h18 (by simp)) (fun h18 => ?_)
    refine Vc.skip ?_
    refine Vc.blk ?_
    refine Vc.text (List.range 3) (sd [(0, .pure), (1, .pure), (2, .pure)]) rfl ?_
    refine Rg.pure rfl rfl rfl (Pv.move rfl) ?_
    refine Rg.pure rfl rfl rfl (Pv.as (.int .i64 ((xs.length : Int) - 1 - ((k + 1 : Nat) : Int))) (Pv.sub rfl rfl (by omega)) (congrArg (Value.int .i64) (by omega))) ?_
    refine Rg.pure rfl rfl rfl (Pv.assign rfl) ?_
    refine Rg.nil ?_
    exact Vc.inv2 (k + 1) hc' ⟨⟨by omega, hJ'⟩, by omega⟩ (.cons rfl (.cons rfl (.cons rfl .nil))) pulled
  ·
    simp only [decide_eq_false_iff_not] at h8
    have hJf : J (bwd xs) hc := by rwa [List.take_of_length_le (by rw [bwd_length]; omega)] at hJ
    refine Vc.exit rfl ?_
    exact Vc.fin (Vc.retsH rfl .nil (⟨bwd xs, rfl, hJf⟩) pulled)

theorem backward_spec {F : Fm} {p : Option Addr} {m c : Nat} :
    Spec Try.prog 55 #[.slice p m c] F [] fun v s => ∃ bs, v = .func (.func 68) #[] #[.pointer (some ⟨bs, 0, none⟩)] ∧ s = [(bs, cellsO [.slice p m c] 22)] := by
  refine Spec.of (n := 4) (vs := [.slice p m c]) Try.func55 rfl Try.ntmps55 rfl ?_
  refine Vc.seq ?_
  refine Vc.text (List.range 2) (sd [(0, .eff), (1, .pure)]) rfl ?_
  refine Rg.box rfl rfl rfl rfl rfl (fun b1 => ?_)
  refine Rg.pure rfl rfl rfl (Pv.assign rfl) ?_
  refine Rg.nil ?_
  refine Vc.seq ?_
  refine Vc.text (List.range 2) (sd [(0, .pure), (1, .pure)]) rfl ?_
  refine Rg.pure rfl rfl rfl (Pv.mkF rfl rfl) ?_
  refine Rg.pure rfl rfl rfl (Pv.assign rfl) ?_
  refine Rg.nil ?_
  exact Vc.ret (Vc.retsH rfl (.cons (.tmp rfl) (.nil)) (⟨b1, rfl, rfl⟩) pulled)

/-- The number in so many bytes from a place on. -/
def getB (xs : List UInt8) (at_ s : Nat) : Nat := leNum ((xs.drop at_).take s)
theorem get_spec {F : Fm} {va : Value} {xs : List UInt8} (ha : Arg byteE F va xs) (hN : xs.length < 1073741824) (at_ s : Nat) (h1 : 1 ≤ s) (h8 : s ≤ 8) (hat : at_ + s ≤ xs.length) :
    Spec Try.prog 37 #[va, .int .i64 (at_ : Int), .int .i64 (s : Int)] F [] fun v _ => v = .tuple #[.int .u64 (getB xs at_ s : Nat), .bool true] := by
  obtain ⟨b, off, c, rfl, hc⟩ := ha.block (by omega)
  have ha2 := Arg.sub ha at_ (at_ + s) (by omega) (by omega)
  rw [show at_ + s - at_ = s by omega] at ha2
  unfold getB
  have hly : ((xs.drop at_).take s).length = s := by simp; omega
  generalize (xs.drop at_).take s = ys at ha2 hly
  refine Spec.of (n := 44) (vs := [.slice (some ⟨b, off, none⟩) xs.length c, .int .i64 (at_ : Int), .int .i64 (s : Int)]) Try.func37 rfl Try.ntmps37 rfl ?_
  refine Vc.seq ?_
  refine Vc.text (List.range 2) (sd [(0, .pure), (1, .pure)]) rfl ?_
  refine Rg.pure rfl rfl rfl (Pv.assign rfl) ?_
  refine Rg.pure rfl rfl rfl (Pv.assign rfl) ?_
  refine Rg.nil ?_
  refine Vc.seq ?_
  refine Vc.seq ?_
  refine Vc.text (List.range 18) (sd [(0, .pure), (1, .pure), (2, .pure), (3, .pure), (4, .pure), (5, .pure), (6, .pure), (7, .pure), (8, .pure), (9, .pure), (10, .pure), (11, .pure), (12, .pure), (13, .pure), (14, .pure), (15, .pure), (16, .pure), (17, .pure)]) rfl ?_
  refine Rg.pure rfl rfl rfl (Pv.move rfl) ?_
  refine Rg.pure rfl rfl rfl (Pv.lss rfl rfl) ?_
  refine Rg.pure rfl rfl rfl (Pv.move rfl) ?_
  refine Rg.split (t := 13) rfl (fun h13 => absurd h13 (by simp only [decide_eq_true_eq]; omega)) (fun h13 => ?_)
  refine Rg.pure rfl rfl rfl (Pv.move rfl) ?_
  refine Rg.pure rfl rfl rfl (Pv.gtr rfl rfl) ?_
  refine Rg.pure rfl rfl rfl (Pv.pickF rfl rfl) ?_
  refine Rg.pure rfl rfl rfl (Pv.move rfl) ?_
  refine Rg.split (t := 17) rfl (fun h17 => absurd h17 (by simp only [decide_eq_true_eq]; omega)) (fun h17 => ?_)
  refine Rg.pure rfl rfl rfl (Pv.move rfl) ?_
  refine Rg.pure rfl rfl rfl (Pv.lss rfl rfl) ?_
  refine Rg.pure rfl rfl rfl (Pv.pickF rfl rfl) ?_
  refine Rg.pure rfl rfl rfl (Pv.move rfl) ?_
  refine Rg.split (t := 21) rfl (fun h21 => absurd h21 (by simp only [decide_eq_true_eq]; omega)) (fun h21 => ?_)
  refine Rg.pure rfl rfl rfl (Pv.move rfl) ?_
  refine Rg.pure rfl rfl rfl (Pv.move rfl) ?_
  refine Rg.pure rfl rfl rfl (Pv.lenS rfl) ?_
  refine Rg.pure rfl rfl rfl (Pv.move rfl) ?_
  refine Rg.pure rfl rfl rfl (Pv.sub rfl rfl (by omega)) ?_
  refine Rg.pure rfl rfl rfl (Pv.gtr rfl rfl) ?_
  refine Rg.pure rfl rfl rfl (Pv.pickF rfl rfl) ?_
  refine Rg.nil ?_
  refine Vc.cond rfl (fun h28 => absurd h28 (by simp only [decide_eq_true_eq]; omega)) (fun h28 => ?_)
  refine Vc.skip ?_
  refine Vc.seq ?_
  refine Vc.text (List.range 2) (sd [(0, .eff), (1, .eff)]) rfl ?_
  refine Rg.alloc rfl rfl rfl rfl (fun b8 => ?_)
  refine Rg.store rfl rfl rfl rfl rfl rfl rfl rfl ?_
  refine Rg.nil ?_
  refine Vc.seq ?_
  refine Vc.seq ?_
  refine Vc.text (List.range 7) (sd [(0, .pure), (1, .pure), (2, .pure), (3, .pure), (4, .pure), (5, .pure), (6, .eff)]) rfl ?_
  refine Rg.pure rfl rfl rfl (Pv.move rfl) ?_
  refine Rg.pure rfl rfl rfl (Pv.move rfl) ?_
  refine Rg.pure rfl rfl rfl (Pv.move rfl) ?_
  refine Rg.pure rfl rfl rfl (Pv.move rfl) ?_
  refine Rg.pure rfl rfl rfl (Pv.asI (at_ + s) (Pv.add rfl rfl (by omega)) (by omega)) ?_
  refine Rg.pure rfl rfl rfl (Pv.slAt (at_) (at_ + s) rfl rfl rfl (by omega) (by omega)) ?_
  refine Rg.callA rfl rfl rfl (run_callF rfl) backward_spec ?_
  rintro _ _ ⟨bs, rfl, rfl⟩
  refine Rg.nil ?_
  refine Vc.block ?_
  refine Vc.rangeFunc (enc := encB) (Sp := fun p => p <+: bwd ys) (S := fun p => p = bwd ys) (hi := [(bs, cellsO [.slice (some ⟨b, if c = at_ then off else off + at_ * 1, none⟩) (at_ + s - at_) (c - at_)] 22)]) (rest := []) (fun pre hc => hc = [(b8, cellsO [.int .u64 ((leNum (ys.drop (ys.length - pre.length)) : Nat) : Int)] 37)]) [(b8, cellsO [.int .u64 0] 37)] rfl rfl (fun _ => rfl) rfl pulled (fun F1 hF1 => bwd_iter (by rw [show at_ + s - at_ = s by omega]; exact ha2.mono fun b o h => hF1 b o (.inr h)) (by omega) bs) (by simp [leNum]) ?_ ?_
  ·
    rintro lr rc pre x hc F1 hF1 hpre rfl
    have hk := (prefix_take hpre).1
    have hx := prefix_get hpre
    rw [bwd_length] at hk
    rw [bwd_get ys hk, Option.some.injEq] at hx
    subst hx
    have hd : ys.drop (ys.length - (pre.length + 1)) = ys[ys.length - 1 - pre.length]! :: ys.drop (ys.length - pre.length) := by
      rw [getElem!_pos ys _ (by omega), show ys.length - pre.length = ys.length - 1 - pre.length + 1 by omega, show ys.length - (pre.length + 1) = ys.length - 1 - pre.length by omega]
      exact List.drop_eq_getElem_cons (by omega)
    have hlt : leNum (ys.drop (ys.length - pre.length)) < 2 ^ 56 := Nat.lt_of_lt_of_le (leNum_lt _) (by
      rw [List.length_drop, show (2 : Nat) ^ 56 = 256 ^ 7 by decide]
      exact Nat.pow_le_pow_right (by decide) (by omega))
    have hb8 := (ys[ys.length - 1 - pre.length]!).toNat_lt
    refine Vc.text (List.range 1) (sd [(0, .pure)]) rfl ?_
    refine Rg.pure rfl rfl rfl (Pv.assign rfl) ?_
    refine Rg.nil ?_
    refine Vc.begin ?_
    refine Vc.block ?_
    refine Vc.text (List.range 6) (sd [(0, .read), (1, .pure), (2, .pure), (3, .pure), (4, .pure), (5, .eff)]) rfl ?_
    refine Rg.read rfl rfl rfl (Ev.ld rfl rfl) ?_
    refine Rg.pure rfl rfl rfl (Pv.shlN (leNum (ys.drop (ys.length - pre.length))) (8) rfl rfl rfl (by decide)) ?_
    refine Rg.pure rfl rfl rfl (Pv.move rfl) ?_
    refine Rg.pure rfl rfl rfl (Pv.asI (ys[ys.length - 1 - pre.length]!).toNat (Pv.convI rfl) (wrap_ult rfl (by show (ys[ys.length - 1 - pre.length]!).toNat < 2 ^ 64; omega))) ?_
    refine Rg.pure rfl rfl rfl (Pv.asI (leNum (ys.drop (ys.length - (pre.length + 1)))) (Pv.orN (leNum (ys.drop (ys.length - pre.length)) * 2 ^ 8 % 2 ^ IntKind.u64.bits) (ys[ys.length - 1 - pre.length]!).toNat rfl rfl rfl (by show _ < 2 ^ 64; exact Nat.mod_lt _ (by decide)) (by show _ < 2 ^ 64; omega)) (by rw [hd, leNum]; exact congrArg _ (leNum_step hlt hb8))) ?_
    refine Rg.store rfl rfl rfl rfl rfl rfl rfl rfl ?_
    refine Rg.nil ?_
    refine Vc.blk ?_
    exact Vc.finR [(b8, cellsO [.int .u64 ((leNum (ys.drop (ys.length - (pre.length + 1))) : Nat) : Int)] 37)] (by rw [List.length_append]; rfl) pulled
  ·
    rintro D pre hc hD rfl rfl
    rw [bwd_length, Nat.sub_self, List.drop_zero]
    refine Vc.blk ?_
    refine Vc.seq ?_
    refine Vc.text (List.range 3) (sd [(0, .read), (1, .pure), (2, .pure)]) rfl ?_
    refine Rg.read rfl rfl rfl (Ev.ld rfl rfl) ?_
    refine Rg.pure rfl rfl rfl (Pv.assign rfl) ?_
    refine Rg.pure rfl rfl rfl (Pv.assign rfl) ?_
    refine Rg.nil ?_
    exact Vc.ret (Vc.retsM (hl' := []) (Mk.one hD) rfl (.cons (.tmp rfl) (.cons (.tmp rfl) .nil)) rfl pulled)

theorem get_none {F : Fm} {va : Value} {xs : List UInt8} (ha : Arg byteE F va xs) (hN : xs.length < 1073741824) (at_ s : Nat) (h1 : 1 ≤ s) (h8 : s ≤ 8) (hat : xs.length < at_ + s) (h4 : at_ < 1073741824) :
    Spec Try.prog 37 #[va, .int .i64 (at_ : Int), .int .i64 (s : Int)] F [] fun v _ => v = .tuple #[.int .u64 0, .bool false] := by
  obtain ⟨p, c, rfl⟩ := ha.shape
  refine Spec.of (n := 44) (vs := [.slice p xs.length c, .int .i64 (at_ : Int), .int .i64 (s : Int)]) Try.func37 rfl Try.ntmps37 rfl ?_
  refine Vc.seq ?_
  refine Vc.text (List.range 2) (sd [(0, .pure), (1, .pure)]) rfl ?_
  refine Rg.pure rfl rfl rfl (Pv.assign rfl) ?_
  refine Rg.pure rfl rfl rfl (Pv.assign rfl) ?_
  refine Rg.nil ?_
  refine Vc.seq ?_
  refine Vc.seq ?_
  refine Vc.text (List.range 18) (sd [(0, .pure), (1, .pure), (2, .pure), (3, .pure), (4, .pure), (5, .pure), (6, .pure), (7, .pure), (8, .pure), (9, .pure), (10, .pure), (11, .pure), (12, .pure), (13, .pure), (14, .pure), (15, .pure), (16, .pure), (17, .pure)]) rfl ?_
  refine Rg.pure rfl rfl rfl (Pv.move rfl) ?_
  refine Rg.pure rfl rfl rfl (Pv.lss rfl rfl) ?_
  refine Rg.pure rfl rfl rfl (Pv.move rfl) ?_
  refine Rg.split (t := 13) rfl (fun h13 => absurd h13 (by simp only [decide_eq_true_eq]; omega)) (fun h13 => ?_)
  refine Rg.pure rfl rfl rfl (Pv.move rfl) ?_
  refine Rg.pure rfl rfl rfl (Pv.gtr rfl rfl) ?_
  refine Rg.pure rfl rfl rfl (Pv.pickF rfl rfl) ?_
  refine Rg.pure rfl rfl rfl (Pv.move rfl) ?_
  refine Rg.split (t := 17) rfl (fun h17 => absurd h17 (by simp only [decide_eq_true_eq]; omega)) (fun h17 => ?_)
  refine Rg.pure rfl rfl rfl (Pv.move rfl) ?_
  refine Rg.pure rfl rfl rfl (Pv.lss rfl rfl) ?_
  refine Rg.pure rfl rfl rfl (Pv.pickF rfl rfl) ?_
  refine Rg.pure rfl rfl rfl (Pv.move rfl) ?_
  refine Rg.split (t := 21) rfl (fun h21 => absurd h21 (by simp only [decide_eq_true_eq]; omega)) (fun h21 => ?_)
  refine Rg.pure rfl rfl rfl (Pv.move rfl) ?_
  refine Rg.pure rfl rfl rfl (Pv.move rfl) ?_
  refine Rg.pure rfl rfl rfl (Pv.lenS rfl) ?_
  refine Rg.pure rfl rfl rfl (Pv.move rfl) ?_
  refine Rg.pure rfl rfl rfl (Pv.sub rfl rfl (by omega)) ?_
  refine Rg.pure rfl rfl rfl (Pv.gtr rfl rfl) ?_
  refine Rg.pure rfl rfl rfl (Pv.pickF rfl rfl) ?_
  refine Rg.nil ?_
  refine Vc.cond rfl (fun h28 => ?_) (fun h28 => absurd h28 (by simp only [decide_eq_false_iff_not]; omega))
  refine Vc.seq ?_
  refine Vc.text (List.range 2) (sd [(0, .pure), (1, .pure)]) rfl ?_
  refine Rg.pure rfl rfl rfl (Pv.assign rfl) ?_
  refine Rg.pure rfl rfl rfl (Pv.assign rfl) ?_
  refine Rg.nil ?_
  refine Vc.ret (Vc.rets rfl (.cons (.tmp rfl) (.cons (.tmp rfl) (.nil))) ?_)
  rfl

/-! ### A sum over bytes -/
def crcBit (c : Nat) : Nat := (c / 2) ^^^ (if c % 2 = 1 then 3988292384 else 0)
def crcBits : Nat → Nat → Nat
  | 0, c => c
  | k + 1, c => crcBit (crcBits k c)
def crcByte (c : Nat) (x : UInt8) : Nat := crcBits 8 (c ^^^ x.toNat)
def crcAll (xs : List UInt8) : Nat := xs.foldl crcByte 4294967295
def crcG (xs : List UInt8) : Nat := 4294967295 ^^^ crcAll xs
theorem crcBit_lt {c : Nat} (h : c < 2 ^ 32) : crcBit c < 2 ^ 32 := by
  unfold crcBit
  refine Nat.xor_lt_two_pow (by omega) ?_
  split <;> decide
theorem crcBits_lt {c : Nat} (h : c < 2 ^ 32) : ∀ k, crcBits k c < 2 ^ 32
  | 0 => h
  | k + 1 => crcBit_lt (crcBits_lt h k)
theorem crcByte_lt {c : Nat} (h : c < 2 ^ 32) (x : UInt8) : crcByte c x < 2 ^ 32 := crcBits_lt (Nat.xor_lt_two_pow h (by have := x.toNat_lt; omega)) 8
theorem crcAll_snoc (xs : List UInt8) (x : UInt8) : crcAll (xs ++ [x]) = crcByte (crcAll xs) x := by simp [crcAll]
theorem crcAll_lt (xs : List UInt8) : crcAll xs < 2 ^ 32 := by
  suffices h : ∀ c, c < 2 ^ 32 → xs.foldl crcByte c < 2 ^ 32 from h _ (by decide)
  induction xs with
  | nil => exact fun c h => h
  | cons x xs ih => exact fun c h => ih _ (crcByte_lt h x)
theorem crcG_lt (xs : List UInt8) : crcG xs < 2 ^ 32 := Nat.xor_lt_two_pow (by decide) (crcAll_lt xs)
theorem take_snoc1 {xs : List UInt8} {i : Nat} (h : i < xs.length) : xs.take (i + 1) = xs.take i ++ [xs[i]!] := by
  rw [List.take_succ_eq_append_getElem h, getElem!_pos xs i h]
theorem neg_bit (c : Nat) : IntKind.u32.wrap (0 - ((c % 2 : Nat) : Int)) = (((if c % 2 = 1 then 4294967295 else 0) : Nat) : Int) := by
  have : c % 2 = 0 ∨ c % 2 = 1 := by omega
  rcases this with h | h <;> rw [h] <;> rfl
theorem and_bit (c : Nat) : 3988292384 &&& (if c % 2 = 1 then 4294967295 else 0) = if c % 2 = 1 then 3988292384 else 0 := by
  split <;> rfl
theorem low_bit (c : Nat) : c &&& 1 = c % 2 := by rw [Nat.and_one_is_mod]
theorem crc_spec {F : Fm} {va : Value} {xs : List UInt8} (ha : Arg byteE F va xs) (hN : xs.length < 1073741824) :
    Spec Try.prog 67 #[va] F [] fun v _ => v = .int .u32 ((crcG xs : Nat) : Int) := by
  obtain ⟨p, c0, rfl⟩ := ha.shape
  refine Spec.of (n := 29) (vs := [.slice p xs.length c0]) Try.func67 rfl Try.ntmps67 rfl ?_
  refine Vc.seq ?_
  refine Vc.text (List.range 1) (sd [(0, .pure)]) rfl ?_
  refine Rg.pure rfl rfl rfl (Pv.assign rfl) ?_
  refine Rg.nil ?_
  refine Vc.seq ?_
  refine Vc.text (List.range 1) (sd [(0, .pure)]) rfl ?_
  refine Rg.pure rfl rfl rfl (Pv.assign rfl) ?_
  refine Rg.nil ?_
  refine Vc.seq ?_
  refine Vc.seq ?_
  refine Vc.text (List.range 3) (sd [(0, .pure), (1, .pure), (2, .pure)]) rfl ?_
  refine Rg.pure rfl rfl rfl (Pv.move rfl) ?_
  refine Rg.pure rfl rfl rfl (Pv.lenS rfl) ?_
  refine Rg.pure rfl rfl rfl (Pv.move rfl) ?_
  refine Rg.nil ?_
  refine Vc.block ?_
  refine Vc.loop1 (fun (i : Nat) => i ≤ xs.length) (fun i => [(3, .int .u32 ((crcAll (xs.take i) : Nat) : Int)), (6, .slice p xs.length c0), (7, .int .i64 (xs.length : Int)), (8, .int .i64 (i : Int))]) (fun i => []) (fun i => xs.length - i) 0 (Nat.zero_le _) (.cons rfl (.cons rfl (.cons rfl (.cons rfl .nil)))) pulled ?_
  rintro i hi
  obtain ⟨c, hc⟩ : ∃ c, c = crcAll (xs.take i) := ⟨_, rfl⟩
  have hcl : c < 2 ^ 32 := hc ▸ crcAll_lt _
  refine Vc.seq ?_
  refine Vc.text (List.range 1) (sd [(0, .pure)]) rfl ?_
  refine Rg.pure rfl rfl rfl (Pv.lss rfl rfl) ?_
  refine Rg.nil ?_
  refine Vc.seq ?_
  refine Vc.cond rfl (fun h9 => ?_) (fun h9 => ?_)
  ·
    simp only [decide_eq_true_eq] at h9
    obtain ⟨b, off, c1, e, _⟩ := ha.block (by omega)
    cases e
    have hb8 := (xs[i]!).toNat_lt
    have hx := take_snoc1 (xs := xs) (i := i) (by omega)
    rw [← hc]
    refine Vc.skip ?_
    refine Vc.seq ?_
    refine Vc.block ?_
    refine Vc.seq ?_
    refine Vc.text (List.range 3) (sd [(0, .pure), (1, .read), (2, .pure)]) rfl ?_
    refine Rg.pure rfl rfl rfl (Pv.ixA (i) rfl rfl (by omega) (by omega)) ?_
    refine Rg.read rfl rfl rfl (Ev.as (.int .u8 ((xs[i]!).toNat : Int)) (Ev.ldS (E := byteE) i ha.src rfl rfl rfl (by omega)) rfl) ?_
    refine Rg.pure rfl rfl rfl (Pv.assign rfl) ?_
    refine Rg.nil ?_
    refine Vc.seq ?_
    refine Vc.text (List.range 5) (sd [(0, .pure), (1, .pure), (2, .pure), (3, .pure), (4, .pure)]) rfl ?_
    refine Rg.pure rfl rfl rfl (Pv.move rfl) ?_
    refine Rg.pure rfl rfl rfl (Pv.move rfl) ?_
    refine Rg.pure rfl rfl rfl (Pv.asI (xs[i]!).toNat (Pv.convI rfl) (wrap_ult rfl (by show (xs[i]!).toNat < 2 ^ 32; omega))) ?_
    refine Rg.pure rfl rfl rfl (Pv.xorN c (xs[i]!).toNat rfl rfl rfl (by show c < 2 ^ 32; omega) (by show _ < 2 ^ 32; omega)) ?_
    refine Rg.pure rfl rfl rfl (Pv.assign rfl) ?_
    refine Rg.nil ?_
    refine Vc.seq ?_
    refine Vc.text (List.range 1) (sd [(0, .pure)]) rfl ?_
    refine Rg.pure rfl rfl rfl (Pv.move rfl) ?_
    refine Rg.nil ?_
    refine Vc.block ?_
    refine Vc.loop1 (fun (k : Nat) => k ≤ 8) (fun k => [(3, .int .u32 ((crcBits k (c ^^^ (xs[i]!).toNat) : Nat) : Int)), (6, .slice (some ⟨b, off, none⟩) xs.length c0), (7, .int .i64 (xs.length : Int)), (8, .int .i64 (i : Int)), (16, .int .i64 (k : Int))]) (fun k => []) (fun k => 8 - k) 0 (Nat.zero_le _) (.cons rfl (.cons rfl (.cons rfl (.cons rfl (.cons rfl .nil))))) pulled ?_
    rintro k hk
    have hql : crcBits k (c ^^^ (xs[i]!).toNat) < 2 ^ 32 := crcBits_lt (Nat.xor_lt_two_pow hcl (by omega)) k
    obtain ⟨q, hq⟩ : ∃ q, q = crcBits k (c ^^^ (xs[i]!).toNat) := ⟨_, rfl⟩
    rw [← hq] at hql ⊢
    refine Vc.seq ?_
    refine Vc.text (List.range 1) (sd [(0, .pure)]) rfl ?_
    refine Rg.pure rfl rfl rfl (Pv.lss rfl rfl) ?_
    refine Rg.nil ?_
    refine Vc.seq ?_
    refine Vc.cond rfl (fun h17 => ?_) (fun h17 => ?_)
    ·
      simp only [decide_eq_true_eq] at h17
      have hqn : crcBits (k + 1) (c ^^^ (xs[i]!).toNat) = crcBit q := by rw [crcBits, ← hq]
      refine Vc.skip ?_
      refine Vc.seq ?_
      refine Vc.block ?_
      refine Vc.text (List.range 8) (sd [(0, .pure), (1, .pure), (2, .pure), (3, .pure), (4, .pure), (5, .pure), (6, .pure), (7, .pure)]) rfl ?_
      refine Rg.pure rfl rfl rfl (Pv.move rfl) ?_
      refine Rg.pure rfl rfl rfl (Pv.shrN q 1 rfl rfl (by decide)) ?_
      refine Rg.pure rfl rfl rfl (Pv.move rfl) ?_
      refine Rg.pure rfl rfl rfl (Pv.asI (q % 2) (Pv.andN' q 1 rfl rfl rfl (by show q < 2 ^ 32; omega) (by decide)) (by rw [low_bit])) ?_
      refine Rg.pure rfl rfl rfl (Pv.asI (if q % 2 = 1 then 4294967295 else 0) (Pv.negI rfl) (neg_bit q)) ?_
      refine Rg.pure rfl rfl rfl (Pv.asI (if q % 2 = 1 then 3988292384 else 0) (Pv.andN' 3988292384 (if q % 2 = 1 then 4294967295 else 0) rfl rfl rfl (by decide) (by show _ < 2 ^ 32; split <;> decide)) (by rw [and_bit])) ?_
      refine Rg.pure rfl rfl rfl (Pv.asI (crcBits (k + 1) (c ^^^ (xs[i]!).toNat)) (Pv.xorN (q / 2 ^ 1) (if q % 2 = 1 then 3988292384 else 0) rfl rfl rfl (by show _ < 2 ^ 32; omega) (by show _ < 2 ^ 32; split <;> decide)) (by rw [hqn, crcBit, Nat.pow_one])) ?_
      refine Rg.pure rfl rfl rfl (Pv.assign rfl) ?_
      refine Rg.nil ?_
      refine Vc.blk ?_
      refine Vc.text (List.range 2) (sd [(0, .pure), (1, .pure)]) rfl ?_
      refine Rg.pure rfl rfl rfl (Pv.asI (k + 1) (Pv.add rfl rfl (by omega)) (by omega)) ?_
      refine Rg.pure rfl rfl rfl (Pv.move rfl) ?_
      refine Rg.nil ?_
      exact Vc.inv1 (k + 1) ⟨by omega, by omega⟩ (.cons rfl (.cons rfl (.cons rfl (.cons rfl (.cons rfl .nil))))) pulled
    ·
      simp only [decide_eq_false_iff_not] at h17
      obtain rfl : k = 8 := by omega
      refine Vc.exit rfl ?_
      refine Vc.blk ?_
      refine Vc.text (List.range 2) (sd [(0, .pure), (1, .pure)]) rfl ?_
      refine Rg.pure rfl rfl rfl (Pv.asI (i + 1) (Pv.add rfl rfl (by omega)) (by omega)) ?_
      refine Rg.pure rfl rfl rfl (Pv.move rfl) ?_
      refine Rg.nil ?_
      exact Vc.inv1 (i + 1) ⟨by omega, by omega⟩ (.cons (by rw [hx, crcAll_snoc, ← hc, hq]; rfl) (.cons rfl (.cons rfl (.cons rfl .nil)))) pulled
  ·
    simp only [decide_eq_false_iff_not] at h9
    have hfin : xs.take i = xs := List.take_of_length_le (by omega)
    rw [hfin] at hc
    rw [hfin, ← hc]
    refine Vc.exit rfl ?_
    refine Vc.seq ?_
    refine Vc.text (List.range 3) (sd [(0, .pure), (1, .pure), (2, .pure)]) rfl ?_
    refine Rg.pure rfl rfl rfl (Pv.move rfl) ?_
    refine Rg.pure rfl rfl rfl (Pv.cpl32 c rfl (by omega)) ?_
    refine Rg.pure rfl rfl rfl (Pv.assign rfl) ?_
    refine Rg.nil ?_
    refine Vc.ret (Vc.rets rfl (.cons (.tmp rfl) (.nil)) ?_)
    exact congrArg (fun x : Nat => Value.int .u32 (x : Int)) (by rw [crcG, ← hc])
end Go.Proofs.Ytbhaahohaccecaa

namespace Go.Proofs.Ytbhaahohaccecaa
set_option linter.unusedVariables false

theorem pow_8 (i : Nat) : 2 ^ (8 * i) = 256 ^ i := by rw [Nat.pow_mul]
theorem rput_spec {F : Fm} {va : Value} {xs : List UInt8} (ha : Arg byteE F va xs) (hN : xs.length < 1073741000) (s n0 : Nat) (hs : s ≤ 8) :
    Spec Try.prog 42 #[va, .int .i64 (s : Int), .int .u64 (n0 : Int)] F [] fun v sg => Own byteE v (xs ++ leBytes s n0) sg := by
  refine Spec.of (n := 31) (vs := [va, .int .i64 (s : Int), .int .u64 (n0 : Int)]) Try.func42 rfl Try.ntmps42 rfl ?_
  refine Vc.seq ?_
  refine Vc.text (List.range 1) (sd [(0, .pure)]) rfl ?_
  refine Rg.pure rfl rfl rfl (Pv.assign rfl) ?_
  refine Rg.nil ?_
  refine Vc.seq ?_
  refine Vc.text (List.range 4) (sd [(0, .eff), (1, .pure), (2, .eff), (3, .pure)]) rfl ?_
  refine Rg.bslice0 (E := byteE) rfl rfl rfl (fun b9 own9 => ?_)
  refine Rg.pure rfl rfl rfl (Pv.move rfl) ?_
  refine Rg.append rfl rfl rfl rfl rfl own9 ha.src (by simp <;> omega) (by simp [maxLen] <;> omega) rfl (fun v11 s11 own11 => ?_)
  refine Rg.pure rfl rfl rfl (Pv.assign rfl) ?_
  refine Rg.nil ?_
  refine Vc.seq ?_
  refine Vc.seq ?_
  refine Vc.text (List.range 1) (sd [(0, .pure)]) rfl ?_
  refine Rg.pure rfl rfl rfl (Pv.assign rfl) ?_
  refine Rg.nil ?_
  refine Vc.block ?_
  refine Vc.loop3 (fun (i : Nat) (v : Value) (sg : Hl) => i ≤ s ∧ Own byteE v (xs ++ leBytes i n0) sg) (fun i v sg => [(1, .int .i64 (s : Int)), (2, .int .u64 (n0 : Int)), (7, v), (8, .int .i64 (i : Int))]) (fun i v sg => sg) (fun i v sg => s - i) 0 v11 s11 ⟨Nat.zero_le _, by simpa [leBytes] using own11⟩ (.cons rfl (.cons rfl (.cons rfl (.cons rfl .nil)))) pulled ?_
  rintro i v sg ⟨hi, own⟩
  refine Vc.seq ?_
  refine Vc.seq ?_
  refine Vc.cut1 (fun (b : Bool) => (b = true → i < s) ∧ (b = false → ¬ i < s)) (fun b => (18, .bool b) :: [(1, .int .i64 (s : Int)), (2, .int .u64 (n0 : Int)), (7, v), (8, .int .i64 (i : Int))]) (fun b => sg) ?_ ?_
  ·
    refine Vc.text (List.range 7) (sd [(0, .pure), (1, .pure), (2, .pure), (3, .pure), (4, .pure), (5, .pure), (6, .pure)]) rfl ?_
    refine Rg.pure rfl rfl rfl (Pv.move rfl) ?_
    refine Rg.pure rfl rfl rfl (Pv.move rfl) ?_
    refine Rg.pure rfl rfl rfl (Pv.lss rfl rfl) ?_
    refine Rg.pure rfl rfl rfl (Pv.move rfl) ?_
    refine Rg.split (t := 15) rfl (fun h15 => ?_) (fun h15 => ?_)
    ·
      simp only [decide_eq_true_eq] at h15
      refine Rg.pure rfl rfl rfl (Pv.move rfl) ?_
      refine Rg.pure rfl rfl rfl (Pv.lss rfl rfl) ?_
      refine Rg.pure rfl rfl rfl (Pv.pickT rfl rfl) ?_
      refine Rg.nil ?_
      exact Vc.inv1 _ ⟨fun hb => (by first | omega | cases hb), fun hb => (by first | (simp only [decide_eq_false_iff_not] at hb; omega) | omega)⟩ (.cons rfl (.cons rfl (.cons rfl (.cons rfl (.cons rfl .nil))))) pulled
    ·
      simp only [decide_eq_false_iff_not] at h15
      iterate 2 (first | refine Rg.skipP rfl rfl rfl ?_ | refine Rg.skipR rfl rfl rfl ?_ | refine Rg.skipE rfl rfl rfl ?_)
      refine Rg.pure rfl rfl rfl (Pv.pickF rfl rfl) ?_
      refine Rg.nil ?_
      exact Vc.inv1 _ ⟨fun hb => (by first | omega | cases hb), fun hb => (by first | (simp only [decide_eq_false_iff_not] at hb; omega) | omega)⟩ (.cons rfl (.cons rfl (.cons rfl (.cons rfl (.cons rfl .nil))))) pulled
  ·
    rintro bb ⟨hb1, hb2⟩
    refine Vc.cond rfl (fun h18 => ?_) (fun h18 => ?_)
    ·
      have hlt := hb1 h18
      refine Vc.skip ?_
      refine Vc.seq ?_
      refine Vc.block ?_
      refine Vc.text (List.range 10) (sd [(0, .pure), (1, .pure), (2, .pure), (3, .pure), (4, .pure), (5, .pure), (6, .pure), (7, .eff), (8, .eff), (9, .pure)]) rfl ?_
      refine Rg.pure rfl rfl rfl (Pv.move rfl) ?_
      refine Rg.pure rfl rfl rfl (Pv.move rfl) ?_
      refine Rg.pure rfl rfl rfl (Pv.move rfl) ?_
      refine Rg.pure rfl rfl rfl (Pv.asI (8 * i) (Pv.mul rfl rfl (by omega)) (by omega)) ?_
      refine Rg.pure rfl rfl rfl (Pv.asI (8 * i) (Pv.convI rfl) (wrap_ult rfl (by show _ < 2 ^ 64; omega))) ?_
      refine Rg.pure rfl rfl rfl (Pv.asI (n0 / 256 ^ i) (Pv.shrN n0 (8 * i) rfl rfl (by show _ ≤ 64; omega)) (by rw [pow_8])) ?_
      refine Rg.pure rfl rfl rfl (Pv.as (.int .u8 ((UInt8.ofNat (n0 / 256 ^ i)).toNat : Int)) (Pv.convI rfl) (congrArg (Value.int .u8) (wrap_u8 _))) ?_
      refine Rg.bslice1 rfl rfl rfl rfl rfl rfl rfl (fun b28 => ?_)
      refine Rg.append rfl rfl rfl rfl rfl own (Src.one (y := UInt8.ofNat (n0 / 256 ^ i)) rfl) (by simp <;> omega) (by simp [maxLen] <;> omega) rfl (fun v29 s29 own29 => ?_)
      refine Rg.pure rfl rfl rfl (Pv.assign rfl) ?_
      refine Rg.nil ?_
      refine Vc.blk ?_
      refine Vc.text (List.range 3) (sd [(0, .pure), (1, .pure), (2, .pure)]) rfl ?_
      refine Rg.pure rfl rfl rfl (Pv.move rfl) ?_
      refine Rg.pure rfl rfl rfl (Pv.asI (i + 1) (Pv.add rfl rfl (by omega)) (by omega)) ?_
      refine Rg.pure rfl rfl rfl (Pv.assign rfl) ?_
      refine Rg.nil ?_
      exact Vc.inv3 (i + 1) v29 s29 ⟨⟨by omega, by rw [leBytes_snoc, ← List.append_assoc]; exact own29⟩, by omega⟩ (.cons rfl (.cons rfl (.cons rfl (.cons rfl .nil)))) pulled
    ·
      have hge := hb2 h18
      refine Vc.exit rfl ?_
      refine Vc.seq ?_
      refine Vc.text (List.range 2) (sd [(0, .pure), (1, .pure)]) rfl ?_
      refine Rg.pure rfl rfl rfl (Pv.move rfl) ?_
      refine Rg.pure rfl rfl rfl (Pv.assign rfl) ?_
      refine Rg.nil ?_
      exact Vc.ret (Vc.retsH rfl (.cons (.tmp rfl) (.nil)) ((by rw [show s = i by omega]; exact own)) pulled)

theorem rget_spec {F : Fm} {va : Value} {xs : List UInt8} (ha : Arg byteE F va xs) (hN : xs.length < 1073741824) (at_ s : Nat) (h1 : 1 ≤ s) (h8 : s ≤ 8) (hat : at_ + s ≤ xs.length) :
    Spec Try.prog 35 #[va, .int .i64 (at_ : Int), .int .i64 (s : Int)] F [] fun v _ => v = .tuple #[.int .u64 (getB xs at_ s : Nat), .bool true] := by
  obtain ⟨b, off, c, rfl, hc⟩ := ha.block (by omega)
  unfold getB
  refine Spec.of (n := 47) (vs := [.slice (some ⟨b, off, none⟩) xs.length c, .int .i64 (at_ : Int), .int .i64 (s : Int)]) Try.func35 rfl Try.ntmps35 rfl ?_
  refine Vc.seq ?_
  refine Vc.text (List.range 2) (sd [(0, .pure), (1, .pure)]) rfl ?_
  refine Rg.pure rfl rfl rfl (Pv.assign rfl) ?_
  refine Rg.pure rfl rfl rfl (Pv.assign rfl) ?_
  refine Rg.nil ?_
  refine Vc.seq ?_
  refine Vc.seq ?_
  refine Vc.text (List.range 18) (sd [(0, .pure), (1, .pure), (2, .pure), (3, .pure), (4, .pure), (5, .pure), (6, .pure), (7, .pure), (8, .pure), (9, .pure), (10, .pure), (11, .pure), (12, .pure), (13, .pure), (14, .pure), (15, .pure), (16, .pure), (17, .pure)]) rfl ?_
  refine Rg.pure rfl rfl rfl (Pv.move rfl) ?_
  refine Rg.pure rfl rfl rfl (Pv.lss rfl rfl) ?_
  refine Rg.pure rfl rfl rfl (Pv.move rfl) ?_
  refine Rg.split (t := 12) rfl (fun h12 => absurd h12 (by simp only [decide_eq_true_eq]; omega)) (fun h12 => ?_)
  refine Rg.pure rfl rfl rfl (Pv.move rfl) ?_
  refine Rg.pure rfl rfl rfl (Pv.gtr rfl rfl) ?_
  refine Rg.pure rfl rfl rfl (Pv.pickF rfl rfl) ?_
  refine Rg.pure rfl rfl rfl (Pv.move rfl) ?_
  refine Rg.split (t := 16) rfl (fun h16 => absurd h16 (by simp only [decide_eq_true_eq]; omega)) (fun h16 => ?_)
  refine Rg.pure rfl rfl rfl (Pv.move rfl) ?_
  refine Rg.pure rfl rfl rfl (Pv.lss rfl rfl) ?_
  refine Rg.pure rfl rfl rfl (Pv.pickF rfl rfl) ?_
  refine Rg.pure rfl rfl rfl (Pv.move rfl) ?_
  refine Rg.split (t := 20) rfl (fun h20 => absurd h20 (by simp only [decide_eq_true_eq]; omega)) (fun h20 => ?_)
  refine Rg.pure rfl rfl rfl (Pv.move rfl) ?_
  refine Rg.pure rfl rfl rfl (Pv.move rfl) ?_
  refine Rg.pure rfl rfl rfl (Pv.lenS rfl) ?_
  refine Rg.pure rfl rfl rfl (Pv.move rfl) ?_
  refine Rg.pure rfl rfl rfl (Pv.sub rfl rfl (by omega)) ?_
  refine Rg.pure rfl rfl rfl (Pv.gtr rfl rfl) ?_
  refine Rg.pure rfl rfl rfl (Pv.pickF rfl rfl) ?_
  refine Rg.nil ?_
  refine Vc.cond rfl (fun h27 => absurd h27 (by simp only [decide_eq_true_eq]; omega)) (fun h27 => ?_)
  refine Vc.skip ?_
  refine Vc.seq ?_
  refine Vc.text (List.range 1) (sd [(0, .pure)]) rfl ?_
  refine Rg.pure rfl rfl rfl (Pv.assign rfl) ?_
  refine Rg.nil ?_
  refine Vc.seq ?_
  refine Vc.seq ?_
  refine Vc.text (List.range 1) (sd [(0, .pure)]) rfl ?_
  refine Rg.pure rfl rfl rfl (Pv.assign rfl) ?_
  refine Rg.nil ?_
  refine Vc.block ?_
  refine Vc.loop1 (fun (i : Nat) => i ≤ s) (fun i => [(0, .slice (some ⟨b, off, none⟩) xs.length c), (1, .int .i64 (at_ : Int)), (2, .int .i64 (s : Int)), (8, .int .u64 ((leNum ((xs.drop at_).take i) : Nat) : Int)), (9, .int .i64 (i : Int))]) (fun i => []) (fun i => s - i) 0 (Nat.zero_le _) (.cons rfl (.cons rfl (.cons rfl (.cons rfl (.cons rfl .nil))))) pulled ?_
  rintro i hi
  refine Vc.seq ?_
  refine Vc.seq ?_
  refine Vc.text (List.range 3) (sd [(0, .pure), (1, .pure), (2, .pure)]) rfl ?_
  refine Rg.pure rfl rfl rfl (Pv.move rfl) ?_
  refine Rg.pure rfl rfl rfl (Pv.move rfl) ?_
  refine Rg.pure rfl rfl rfl (Pv.lss rfl rfl) ?_
  refine Rg.nil ?_
  refine Vc.cond rfl (fun h30 => ?_) (fun h30 => ?_)
  ·
    simp only [decide_eq_true_eq] at h30
    have hli : ((xs.drop at_).take i).length = i := by simp; omega
    have hlt : leNum ((xs.drop at_).take i) < 256 ^ i := by have := leNum_lt ((xs.drop at_).take i); rwa [hli] at this
    have hsn : (xs.drop at_).take (i + 1) = (xs.drop at_).take i ++ [xs[at_ + i]!] := by
      rw [← take_snoc (x := xs[at_ + i]!)]
      rw [List.getElem?_drop, getElem!_pos xs _ (by omega)]
      exact List.getElem?_eq_getElem (by omega)
    have hb8 := (xs[at_ + i]!).toNat_lt
    have hp : 256 ^ i * 256 ≤ 2 ^ 64 := by
      rw [← Nat.pow_succ, show (2 : Nat) ^ 64 = 256 ^ 8 by decide]
      exact Nat.pow_le_pow_right (by decide) (by omega)
    have hm : (xs[at_ + i]!).toNat * 256 ^ i ≤ 255 * 256 ^ i := Nat.mul_le_mul_right _ (by omega)
    refine Vc.skip ?_
    refine Vc.seq ?_
    refine Vc.block ?_
    refine Vc.text (List.range 14) (sd [(0, .pure), (1, .pure), (2, .pure), (3, .pure), (4, .pure), (5, .pure), (6, .read), (7, .pure), (8, .pure), (9, .pure), (10, .pure), (11, .pure), (12, .pure), (13, .pure)]) rfl ?_
    refine Rg.pure rfl rfl rfl (Pv.move rfl) ?_
    refine Rg.pure rfl rfl rfl (Pv.move rfl) ?_
    refine Rg.pure rfl rfl rfl (Pv.move rfl) ?_
    refine Rg.pure rfl rfl rfl (Pv.move rfl) ?_
    refine Rg.pure rfl rfl rfl (Pv.asI (at_ + i) (Pv.add rfl rfl (by omega)) (by omega)) ?_
    refine Rg.pure rfl rfl rfl (Pv.ixA (at_ + i) rfl rfl (by omega) (by omega)) ?_
    refine Rg.read rfl rfl rfl (Ev.ldS (at_ + i) (ha.src) rfl rfl rfl (by omega)) ?_
    refine Rg.pure rfl rfl rfl (Pv.asI (xs[at_ + i]!).toNat (Pv.convI rfl) (wrap_ult rfl (by show (xs[at_ + i]!).toNat < 2 ^ 64; omega))) ?_
    refine Rg.pure rfl rfl rfl (Pv.move rfl) ?_
    refine Rg.pure rfl rfl rfl (Pv.asI (8 * i) (Pv.mul rfl rfl (by omega)) (by omega)) ?_
    refine Rg.pure rfl rfl rfl (Pv.asI (8 * i) (Pv.convI rfl) (wrap_ult rfl (by show _ < 2 ^ 64; omega))) ?_
    refine Rg.pure rfl rfl rfl (Pv.asI ((xs[at_ + i]!).toNat * 256 ^ i) (Pv.shlN (xs[at_ + i]!).toNat (8 * i) rfl rfl rfl (by show _ ≤ 64; omega)) (by rw [pow_8]; exact congrArg _ (Nat.mod_eq_of_lt (by show _ < 2 ^ 64; omega)))) ?_
    refine Rg.pure rfl rfl rfl (Pv.asI (leNum ((xs.drop at_).take (i + 1))) (Pv.addW rfl rfl) (by rw [hsn, leNum_snoc, hli, ← Int.natCast_add]; exact wrap_ult rfl (by show _ < 2 ^ 64; omega))) ?_
    refine Rg.pure rfl rfl rfl (Pv.assign rfl) ?_
    refine Rg.nil ?_
    refine Vc.blk ?_
    refine Vc.text (List.range 3) (sd [(0, .pure), (1, .pure), (2, .pure)]) rfl ?_
    refine Rg.pure rfl rfl rfl (Pv.move rfl) ?_
    refine Rg.pure rfl rfl rfl (Pv.asI (i + 1) (Pv.add rfl rfl (by omega)) (by omega)) ?_
    refine Rg.pure rfl rfl rfl (Pv.assign rfl) ?_
    refine Rg.nil ?_
    exact Vc.inv1 (i + 1) ⟨by omega, by omega⟩ (.cons rfl (.cons rfl (.cons rfl (.cons rfl (.cons rfl .nil))))) pulled
  ·
    simp only [decide_eq_false_iff_not] at h30
    refine Vc.exit rfl ?_
    refine Vc.seq ?_
    refine Vc.text (List.range 3) (sd [(0, .pure), (1, .pure), (2, .pure)]) rfl ?_
    refine Rg.pure rfl rfl rfl (Pv.move rfl) ?_
    refine Rg.pure rfl rfl rfl (Pv.assign rfl) ?_
    refine Rg.pure rfl rfl rfl (Pv.assign rfl) ?_
    refine Rg.nil ?_
    refine Vc.ret (Vc.rets rfl (.cons (.tmp rfl) (.cons (.tmp rfl) (.nil))) ?_)
    exact congrArg (fun x : Nat => Value.tuple #[.int .u64 (x : Int), .bool true]) (by rw [show i = s by omega])

theorem rget_none {F : Fm} {va : Value} {xs : List UInt8} (ha : Arg byteE F va xs) (hN : xs.length < 1073741824) (at_ s : Nat) (h1 : 1 ≤ s) (h8 : s ≤ 8) (hat : xs.length < at_ + s) (h4 : at_ < 1073741824) :
    Spec Try.prog 35 #[va, .int .i64 (at_ : Int), .int .i64 (s : Int)] F [] fun v _ => v = .tuple #[.int .u64 0, .bool false] := by
  obtain ⟨p, c, rfl⟩ := ha.shape
  refine Spec.of (n := 47) (vs := [.slice p xs.length c, .int .i64 (at_ : Int), .int .i64 (s : Int)]) Try.func35 rfl Try.ntmps35 rfl ?_
  refine Vc.seq ?_
  refine Vc.text (List.range 2) (sd [(0, .pure), (1, .pure)]) rfl ?_
  refine Rg.pure rfl rfl rfl (Pv.assign rfl) ?_
  refine Rg.pure rfl rfl rfl (Pv.assign rfl) ?_
  refine Rg.nil ?_
  refine Vc.seq ?_
  refine Vc.seq ?_
  refine Vc.text (List.range 18) (sd [(0, .pure), (1, .pure), (2, .pure), (3, .pure), (4, .pure), (5, .pure), (6, .pure), (7, .pure), (8, .pure), (9, .pure), (10, .pure), (11, .pure), (12, .pure), (13, .pure), (14, .pure), (15, .pure), (16, .pure), (17, .pure)]) rfl ?_
  refine Rg.pure rfl rfl rfl (Pv.move rfl) ?_
  refine Rg.pure rfl rfl rfl (Pv.lss rfl rfl) ?_
  refine Rg.pure rfl rfl rfl (Pv.move rfl) ?_
  refine Rg.split (t := 12) rfl (fun h12 => absurd h12 (by simp only [decide_eq_true_eq]; omega)) (fun h12 => ?_)
  refine Rg.pure rfl rfl rfl (Pv.move rfl) ?_
  refine Rg.pure rfl rfl rfl (Pv.gtr rfl rfl) ?_
  refine Rg.pure rfl rfl rfl (Pv.pickF rfl rfl) ?_
  refine Rg.pure rfl rfl rfl (Pv.move rfl) ?_
  refine Rg.split (t := 16) rfl (fun h16 => absurd h16 (by simp only [decide_eq_true_eq]; omega)) (fun h16 => ?_)
  refine Rg.pure rfl rfl rfl (Pv.move rfl) ?_
  refine Rg.pure rfl rfl rfl (Pv.lss rfl rfl) ?_
  refine Rg.pure rfl rfl rfl (Pv.pickF rfl rfl) ?_
  refine Rg.pure rfl rfl rfl (Pv.move rfl) ?_
  refine Rg.split (t := 20) rfl (fun h20 => absurd h20 (by simp only [decide_eq_true_eq]; omega)) (fun h20 => ?_)
  refine Rg.pure rfl rfl rfl (Pv.move rfl) ?_
  refine Rg.pure rfl rfl rfl (Pv.move rfl) ?_
  refine Rg.pure rfl rfl rfl (Pv.lenS rfl) ?_
  refine Rg.pure rfl rfl rfl (Pv.move rfl) ?_
  refine Rg.pure rfl rfl rfl (Pv.sub rfl rfl (by omega)) ?_
  refine Rg.pure rfl rfl rfl (Pv.gtr rfl rfl) ?_
  refine Rg.pure rfl rfl rfl (Pv.pickF rfl rfl) ?_
  refine Rg.nil ?_
  refine Vc.cond rfl (fun h27 => ?_) (fun h27 => absurd h27 (by simp only [decide_eq_false_iff_not]; omega))
  refine Vc.seq ?_
  refine Vc.text (List.range 2) (sd [(0, .pure), (1, .pure)]) rfl ?_
  refine Rg.pure rfl rfl rfl (Pv.assign rfl) ?_
  refine Rg.pure rfl rfl rfl (Pv.assign rfl) ?_
  refine Rg.nil ?_
  refine Vc.ret (Vc.rets rfl (.cons (.tmp rfl) (.cons (.tmp rfl) (.nil))) ?_)
  rfl
theorem rcrc_spec {F : Fm} {va : Value} {xs : List UInt8} (ha : Arg byteE F va xs) (hN : xs.length < 1073741824) :
    Spec Try.prog 57 #[va] F [] fun v _ => v = .int .u32 ((crcG xs : Nat) : Int) := by
  obtain ⟨p, c0, rfl⟩ := ha.shape
  refine Spec.of (n := 34) (vs := [.slice p xs.length c0]) Try.func57 rfl Try.ntmps57 rfl ?_
  refine Vc.seq ?_
  refine Vc.text (List.range 1) (sd [(0, .pure)]) rfl ?_
  refine Rg.pure rfl rfl rfl (Pv.assign rfl) ?_
  refine Rg.nil ?_
  refine Vc.seq ?_
  refine Vc.text (List.range 1) (sd [(0, .pure)]) rfl ?_
  refine Rg.pure rfl rfl rfl (Pv.assign rfl) ?_
  refine Rg.nil ?_
  refine Vc.seq ?_
  refine Vc.seq ?_
  refine Vc.text (List.range 1) (sd [(0, .pure)]) rfl ?_
  refine Rg.pure rfl rfl rfl (Pv.assign rfl) ?_
  refine Rg.nil ?_
  refine Vc.block ?_
  refine Vc.loop1 (fun (i : Nat) => i ≤ xs.length) (fun i => [(0, .slice p xs.length c0), (3, .int .u32 ((crcAll (xs.take i) : Nat) : Int)), (4, .int .i64 (i : Int))]) (fun i => []) (fun i => xs.length - i) 0 (Nat.zero_le _) (.cons rfl (.cons rfl (.cons rfl .nil))) pulled ?_
  rintro i hi
  obtain ⟨c, hc⟩ : ∃ c, c = crcAll (xs.take i) := ⟨_, rfl⟩
  have hcl : c < 2 ^ 32 := hc ▸ crcAll_lt _
  refine Vc.seq ?_
  refine Vc.seq ?_
  refine Vc.text (List.range 4) (sd [(0, .pure), (1, .pure), (2, .pure), (3, .pure)]) rfl ?_
  refine Rg.pure rfl rfl rfl (Pv.move rfl) ?_
  refine Rg.pure rfl rfl rfl (Pv.move rfl) ?_
  refine Rg.pure rfl rfl rfl (Pv.lenS rfl) ?_
  refine Rg.pure rfl rfl rfl (Pv.lss rfl rfl) ?_
  refine Rg.nil ?_
  refine Vc.cond rfl (fun h10 => ?_) (fun h10 => ?_)
  ·
    simp only [decide_eq_true_eq] at h10
    obtain ⟨b, off, c1, e, _⟩ := ha.block (by omega)
    cases e
    have hb8 := (xs[i]!).toNat_lt
    have hx := take_snoc1 (xs := xs) (i := i) (by omega)
    rw [← hc]
    refine Vc.skip ?_
    refine Vc.seq ?_
    refine Vc.block ?_
    refine Vc.seq ?_
    refine Vc.text (List.range 8) (sd [(0, .pure), (1, .pure), (2, .pure), (3, .pure), (4, .read), (5, .pure), (6, .pure), (7, .pure)]) rfl ?_
    refine Rg.pure rfl rfl rfl (Pv.move rfl) ?_
    refine Rg.pure rfl rfl rfl (Pv.move rfl) ?_
    refine Rg.pure rfl rfl rfl (Pv.move rfl) ?_
    refine Rg.pure rfl rfl rfl (Pv.ixA (i) rfl rfl (by omega) (by omega)) ?_
    refine Rg.read rfl rfl rfl (Ev.as (.int .u8 ((xs[i]!).toNat : Int)) (Ev.ldS (E := byteE) i ha.src rfl rfl rfl (by omega)) rfl) ?_
    refine Rg.pure rfl rfl rfl (Pv.asI (xs[i]!).toNat (Pv.convI rfl) (wrap_ult rfl (by show (xs[i]!).toNat < 2 ^ 32; omega))) ?_
    refine Rg.pure rfl rfl rfl (Pv.xorN c (xs[i]!).toNat rfl rfl rfl (by show c < 2 ^ 32; omega) (by show _ < 2 ^ 32; omega)) ?_
    refine Rg.pure rfl rfl rfl (Pv.assign rfl) ?_
    refine Rg.nil ?_
    refine Vc.seq ?_
    refine Vc.text (List.range 1) (sd [(0, .pure)]) rfl ?_
    refine Rg.pure rfl rfl rfl (Pv.assign rfl) ?_
    refine Rg.nil ?_
    refine Vc.block ?_
    refine Vc.loop1 (fun (k : Nat) => k ≤ 8) (fun k => [(0, .slice (some ⟨b, off, none⟩) xs.length c0), (3, .int .u32 ((crcBits k (c ^^^ (xs[i]!).toNat) : Nat) : Int)), (4, .int .i64 (i : Int)), (5, .int .i64 (k : Int))]) (fun k => []) (fun k => 8 - k) 0 (Nat.zero_le _) (.cons rfl (.cons rfl (.cons rfl (.cons rfl .nil)))) pulled ?_
    rintro k hk
    have hql : crcBits k (c ^^^ (xs[i]!).toNat) < 2 ^ 32 := crcBits_lt (Nat.xor_lt_two_pow hcl (by omega)) k
    obtain ⟨q, hq⟩ : ∃ q, q = crcBits k (c ^^^ (xs[i]!).toNat) := ⟨_, rfl⟩
    rw [← hq] at hql ⊢
    refine Vc.seq ?_
    refine Vc.seq ?_
    refine Vc.text (List.range 2) (sd [(0, .pure), (1, .pure)]) rfl ?_
    refine Rg.pure rfl rfl rfl (Pv.move rfl) ?_
    refine Rg.pure rfl rfl rfl (Pv.lss rfl rfl) ?_
    refine Rg.nil ?_
    refine Vc.cond rfl (fun h21 => ?_) (fun h21 => ?_)
    ·
      simp only [decide_eq_true_eq] at h21
      have hqn : crcBits (k + 1) (c ^^^ (xs[i]!).toNat) = crcBit q := by rw [crcBits, ← hq]
      refine Vc.skip ?_
      refine Vc.seq ?_
      refine Vc.block ?_
      refine Vc.seq ?_
      refine Vc.text (List.range 3) (sd [(0, .pure), (1, .pure), (2, .pure)]) rfl ?_
      refine Rg.pure rfl rfl rfl (Pv.move rfl) ?_
      refine Rg.pure rfl rfl rfl (Pv.asI (q % 2) (Pv.andN' q 1 rfl rfl rfl (by show q < 2 ^ 32; omega) (by decide)) (by rw [low_bit])) ?_
      refine Rg.pure rfl rfl rfl (Pv.assign rfl) ?_
      refine Rg.nil ?_
      refine Vc.seq ?_
      refine Vc.text (List.range 3) (sd [(0, .pure), (1, .pure), (2, .pure)]) rfl ?_
      refine Rg.pure rfl rfl rfl (Pv.move rfl) ?_
      refine Rg.pure rfl rfl rfl (Pv.shrN q 1 rfl rfl (by decide)) ?_
      refine Rg.pure rfl rfl rfl (Pv.assign rfl) ?_
      refine Rg.nil ?_
      refine Vc.seq ?_
      refine Vc.text (List.range 2) (sd [(0, .pure), (1, .pure)]) rfl ?_
      refine Rg.pure rfl rfl rfl (Pv.move rfl) ?_
      refine Rg.pure rfl rfl rfl (Pv.eql rfl rfl) ?_
      refine Rg.nil ?_
      refine Vc.cut1 (fun (r : Nat) => r = crcBit q) (fun r => [(0, .slice (some ⟨b, off, none⟩) xs.length c0), (3, .int .u32 (r : Int)), (4, .int .i64 (i : Int)), (5, .int .i64 (k : Int))]) (fun r => []) ?_ ?_
      ·
        refine Vc.cond rfl (fun h29 => ?_) (fun h29 => ?_)
        ·
          simp only [beq_iff_eq] at h29
          refine Vc.text (List.range 3) (sd [(0, .pure), (1, .pure), (2, .pure)]) rfl ?_
          refine Rg.pure rfl rfl rfl (Pv.move rfl) ?_
          refine Rg.pure rfl rfl rfl (Pv.xorN (q / 2 ^ 1) 3988292384 rfl rfl rfl (by show _ < 2 ^ 32; omega) (by decide)) ?_
          refine Rg.pure rfl rfl rfl (Pv.assign rfl) ?_
          refine Rg.nil ?_
          exact Vc.inv1 _ (by rw [crcBit, if_pos (by omega), Nat.pow_one]) (.cons rfl (.cons rfl (.cons rfl (.cons rfl .nil)))) pulled
        ·
          simp only [beq_eq_false_iff_ne, ne_eq] at h29
          refine Vc.skip ?_
          exact Vc.inv1 (q / 2 ^ 1) (by rw [crcBit, if_neg (by omega), Nat.pow_one, Nat.xor_zero]) (.cons rfl (.cons rfl (.cons rfl (.cons rfl .nil)))) pulled
      ·
        rintro r rfl
        rw [← hqn]
        refine Vc.blk ?_
        refine Vc.text (List.range 3) (sd [(0, .pure), (1, .pure), (2, .pure)]) rfl ?_
        refine Rg.pure rfl rfl rfl (Pv.move rfl) ?_
        refine Rg.pure rfl rfl rfl (Pv.asI (k + 1) (Pv.add rfl rfl (by omega)) (by omega)) ?_
        refine Rg.pure rfl rfl rfl (Pv.assign rfl) ?_
        refine Rg.nil ?_
        exact Vc.inv1 (k + 1) ⟨by omega, by omega⟩ (.cons rfl (.cons rfl (.cons rfl (.cons rfl .nil)))) pulled
    ·
      simp only [decide_eq_false_iff_not] at h21
      obtain rfl : k = 8 := by omega
      refine Vc.exit rfl ?_
      refine Vc.blk ?_
      refine Vc.text (List.range 3) (sd [(0, .pure), (1, .pure), (2, .pure)]) rfl ?_
      refine Rg.pure rfl rfl rfl (Pv.move rfl) ?_
      refine Rg.pure rfl rfl rfl (Pv.asI (i + 1) (Pv.add rfl rfl (by omega)) (by omega)) ?_
      refine Rg.pure rfl rfl rfl (Pv.assign rfl) ?_
      refine Rg.nil ?_
      exact Vc.inv1 (i + 1) ⟨by omega, by omega⟩ (.cons rfl (.cons (by rw [hx, crcAll_snoc, ← hc, hq]; rfl) (.cons rfl .nil))) pulled
  ·
    simp only [decide_eq_false_iff_not] at h10
    have hfin : xs.take i = xs := List.take_of_length_le (by omega)
    rw [hfin] at hc
    rw [hfin, ← hc]
    refine Vc.exit rfl ?_
    refine Vc.seq ?_
    refine Vc.text (List.range 3) (sd [(0, .pure), (1, .pure), (2, .pure)]) rfl ?_
    refine Rg.pure rfl rfl rfl (Pv.move rfl) ?_
    refine Rg.pure rfl rfl rfl (Pv.xorN c 4294967295 rfl rfl rfl (by show c < 2 ^ 32; omega) (by decide)) ?_
    refine Rg.pure rfl rfl rfl (Pv.assign rfl) ?_
    refine Rg.nil ?_
    refine Vc.ret (Vc.rets rfl (.cons (.tmp rfl) (.nil)) ?_)
    exact congrArg (fun x : Nat => Value.int .u32 (x : Int)) (by rw [crcG, ← hc, Nat.xor_comm])
end Go.Proofs.Ytbhaahohaccecaa

namespace Go.Proofs.Ytbhaahohaccecaa
set_option linter.unusedVariables false

/-! ### A row of rows of bytes -/
structure Sv where
  p : Option Addr
  m : Nat
  c : Nat
  deriving Inhabited
abbrev Sv.v (s : Sv) : Value := .slice s.p s.m s.c
def slE : Enc Sv where
  k := 1
  tid := 22
  cells := fun s => [s.v]
  val := fun s => s.v
  pos := by decide
  len := fun _ => rfl
  one := fun x v hv => by simp at hv; subst hv; rfl
  vc := fun _ => rfl
instance : RowTy Try.prog slE 22 := ⟨Try.sizeOf22, .inr ⟨Try.isAgg22, rfl, fun _ => rfl⟩⟩
/-- A row of rows that may be read. -/
structure ArgRB (F : Fm) (v : Value) (vs : List Sv) (xss : List (List UInt8)) : Prop where
  top : Arg slE F v vs
  len : vs.length = xss.length
  rows : ∀ i, i < xss.length → Arg byteE F vs[i]!.v xss[i]!
theorem Own.cut0 {α : Type} {E : Enc α} {p : Option Addr} {m c : Nat} {xs : List α} {seg : Hl} (h : Own E (.slice p m c) xs seg) : Own E (.slice p 0 c) [] seg := by
  generalize hv : Value.slice p m c = v at h
  cases h with
  | nil => cases hv; exact .nil
  | blk b cap _ sp hc hm =>
    cases hv
    have := Own.blk (E := E) b c [] (flat E xs ++ sp) (by rw [List.length_append, flat_length]; simp; omega) hm
    have e : rowS E xs sp = rowS E [] (flat E xs ++ sp) := by unfold rowS; simp [flat]
    rw [e]
    exact this
theorem grow_spec {F : Fm} (m : Nat) (hm : m < 1073741824) : Spec Try.prog 74 #[.slice none 0 0, .int .i64 (m : Int)] F [] fun v s => Own byteE v [] s := by
  refine Spec.of (n := 27) (vs := [.slice none 0 0, .int .i64 (m : Int)]) Try.func74 rfl Try.ntmps74 rfl ?_
  refine Vc.seq ?_
  refine Vc.text (List.range 1) (sd [(0, .pure)]) rfl ?_
  refine Rg.pure rfl rfl rfl (Pv.assign rfl) ?_
  refine Rg.nil ?_
  refine Vc.seq ?_
  refine Vc.seq ?_
  refine Vc.text (List.range 2) (sd [(0, .pure), (1, .pure)]) rfl ?_
  refine Rg.pure rfl rfl rfl (Pv.move rfl) ?_
  refine Rg.pure rfl rfl rfl (Pv.lss rfl rfl) ?_
  refine Rg.nil ?_
  refine Vc.cond rfl (fun h6 => absurd h6 (by simp only [decide_eq_true_eq]; omega)) (fun h6 => ?_)
  refine Vc.skip ?_
  refine Vc.seq ?_
  refine Vc.seq ?_
  refine Vc.text (List.range 8) (sd [(0, .pure), (1, .pure), (2, .pure), (3, .pure), (4, .pure), (5, .pure), (6, .pure), (7, .pure)]) rfl ?_
  refine Rg.pure rfl rfl rfl (Pv.move rfl) ?_
  refine Rg.pure rfl rfl rfl (Pv.move rfl) ?_
  refine Rg.pure rfl rfl rfl (Pv.cap rfl) ?_
  refine Rg.pure rfl rfl rfl (Pv.move rfl) ?_
  refine Rg.pure rfl rfl rfl (Pv.lenS rfl) ?_
  refine Rg.pure rfl rfl rfl (Pv.sub rfl rfl (by omega)) ?_
  refine Rg.pure rfl rfl rfl (Pv.asI (m) (Pv.sub rfl rfl (by omega)) (by omega)) ?_
  refine Rg.pure rfl rfl rfl (Pv.assign rfl) ?_
  refine Rg.nil ?_
  refine Vc.seq ?_
  refine Vc.text (List.range 2) (sd [(0, .pure), (1, .pure)]) rfl ?_
  refine Rg.pure rfl rfl rfl (Pv.move rfl) ?_
  refine Rg.pure rfl rfl rfl (Pv.gtr rfl rfl) ?_
  refine Rg.nil ?_
  refine Vc.cond rfl (fun h16 => ?_) (fun h16 => ?_)
  ·
    refine Vc.text (List.range 10) (sd [(0, .pure), (1, .pure), (2, .pure), (3, .pure), (4, .pure), (5, .eff), (6, .pure), (7, .pure), (8, .pure), (9, .pure)]) rfl ?_
    refine Rg.pure rfl rfl rfl (Pv.move rfl) ?_
    refine Rg.pure rfl rfl rfl (Pv.move rfl) ?_
    refine Rg.pure rfl rfl rfl (Pv.cap rfl) ?_
    refine Rg.pure rfl rfl rfl (Pv.sl (lv := none) (hv := some (.int .i64 ((0 : Nat) : Int))) 0 0 rfl rfl rfl (by omega) (by omega) (by simp)) ?_
    refine Rg.pure rfl rfl rfl (Pv.move rfl) ?_
    refine Rg.appendZ (E := byteE) 0 m rfl rfl rfl rfl rfl (Own.nil (E := byteE)) (by simp; omega) (by rw [show maxLen = 9223372036854775807 from rfl]; simp; omega) rfl (fun v22 s22 own22 => ?_)
    obtain ⟨p22, c22, rfl⟩ := own22.shape
    refine Rg.pure rfl rfl rfl (Pv.move rfl) ?_
    refine Rg.pure rfl rfl rfl (Pv.lenS rfl) ?_
    refine Rg.pure rfl rfl rfl (Pv.slTo (0) rfl rfl (by omega)) ?_
    refine Rg.pure rfl rfl rfl (Pv.assign rfl) ?_
    refine Rg.nil ?_
    refine Vc.seq ?_
    refine Vc.text (List.range 2) (sd [(0, .pure), (1, .pure)]) rfl ?_
    refine Rg.pure rfl rfl rfl (Pv.move rfl) ?_
    refine Rg.pure rfl rfl rfl (Pv.assign rfl) ?_
    refine Rg.nil ?_
    exact Vc.ret (Vc.retsH rfl (.cons (.tmp rfl) (.nil)) (own22.cut0) pulled)
  ·
    refine Vc.skip ?_
    refine Vc.seq ?_
    refine Vc.text (List.range 2) (sd [(0, .pure), (1, .pure)]) rfl ?_
    refine Rg.pure rfl rfl rfl (Pv.move rfl) ?_
    refine Rg.pure rfl rfl rfl (Pv.assign rfl) ?_
    refine Rg.nil ?_
    exact Vc.ret (Vc.retsH rfl (.cons (.tmp rfl) (.nil)) (Own.nil) pulled)
theorem flatten_take {xss : List (List UInt8)} {i : Nat} (h : i < xss.length) : (xss.take (i + 1)).flatten = (xss.take i).flatten ++ xss[i]! := by
  rw [List.take_succ_eq_append_getElem h, getElem!_pos xss i h, List.flatten_append]
  simp
theorem flatten_le {xss : List (List UInt8)} (i : Nat) : (xss.take i).flatten.length ≤ xss.flatten.length := by
  have : xss.flatten = (xss.take i).flatten ++ (xss.drop i).flatten := by rw [← List.flatten_append, List.take_append_drop]
  rw [this, List.length_append]
  omega
theorem concat_spec {F : Fm} {v : Value} {vs : List Sv} {xss : List (List UInt8)} (ha : ArgRB F v vs xss) (hN : xss.length < 1000000) (hT : xss.flatten.length < 1073741824) :
    Spec Try.prog 69 #[v] F [] fun v s => Own byteE v xss.flatten s := by
  obtain ⟨p, c, rfl⟩ := ha.top.shape
  have hl := ha.len
  have hat := ha.top
  refine Spec.of (n := 36) (vs := [.slice p vs.length c]) Try.func69 rfl Try.ntmps69 rfl ?_
  refine Vc.seq ?_
  refine Vc.text (List.range 1) (sd [(0, .pure)]) rfl ?_
  refine Rg.pure rfl rfl rfl (Pv.assign rfl) ?_
  refine Rg.nil ?_
  refine Vc.seq ?_
  refine Vc.text (List.range 1) (sd [(0, .pure)]) rfl ?_
  refine Rg.pure rfl rfl rfl (Pv.assign rfl) ?_
  refine Rg.nil ?_
  refine Vc.seq ?_
  refine Vc.seq ?_
  refine Vc.text (List.range 3) (sd [(0, .pure), (1, .pure), (2, .pure)]) rfl ?_
  refine Rg.pure rfl rfl rfl (Pv.move rfl) ?_
  refine Rg.pure rfl rfl rfl (Pv.lenS rfl) ?_
  refine Rg.pure rfl rfl rfl (Pv.move rfl) ?_
  refine Rg.nil ?_
  refine Vc.block ?_
  refine Vc.loop1 (fun (i : Nat) => i ≤ vs.length) (fun i => [(0, .slice p vs.length c), (3, .int .i64 ((xss.take i).flatten.length : Int)), (9, .slice p vs.length c), (10, .int .i64 (vs.length : Int)), (11, .int .i64 (i : Int))]) (fun i => []) (fun i => vs.length - i) 0 (Nat.zero_le _) (.cons rfl (.cons rfl (.cons rfl (.cons rfl (.cons rfl .nil))))) pulled ?_
  rintro i hi
  have hfl := flatten_le (xss := xss) i
  refine Vc.seq ?_
  refine Vc.text (List.range 1) (sd [(0, .pure)]) rfl ?_
  refine Rg.pure rfl rfl rfl (Pv.lss rfl rfl) ?_
  refine Rg.nil ?_
  refine Vc.seq ?_
  refine Vc.cond rfl (fun h12 => ?_) (fun h12 => ?_)
  ·
    simp only [decide_eq_true_eq] at h12
    obtain ⟨b, off, c1, e, _⟩ := hat.block (by omega)
    cases e
    have hft := flatten_take (xss := xss) (i := i) (by omega)
    have hfl2 := flatten_le (xss := xss) (i + 1)
    have hfll := congrArg List.length hft
    rw [List.length_append] at hfll
    have hr := ha.rows i (by omega)
    obtain ⟨⟨pk, mk, ck⟩, hs⟩ : ∃ s, vs[i]! = s := ⟨_, rfl⟩
    rw [hs] at hr
    obtain rfl : mk = xss[i]!.length := hr.cap.1
    refine Vc.skip ?_
    refine Vc.seq ?_
    refine Vc.block ?_
    refine Vc.seq ?_
    refine Vc.text (List.range 3) (sd [(0, .pure), (1, .read), (2, .pure)]) rfl ?_
    refine Rg.pure rfl rfl rfl (Pv.ixA (i) rfl rfl (by omega) (by omega)) ?_
    refine Rg.read rfl rfl rfl (Ev.as (.slice pk xss[i]!.length ck) (Ev.ldS (E := slE) i hat.src rfl rfl rfl (by omega)) (congrArg slE.val hs)) ?_
    refine Rg.pure rfl rfl rfl (Pv.assign rfl) ?_
    refine Rg.nil ?_
    refine Vc.seq ?_
    refine Vc.text (List.range 5) (sd [(0, .pure), (1, .pure), (2, .pure), (3, .pure), (4, .pure)]) rfl ?_
    refine Rg.pure rfl rfl rfl (Pv.move rfl) ?_
    refine Rg.pure rfl rfl rfl (Pv.move rfl) ?_
    refine Rg.pure rfl rfl rfl (Pv.lenS rfl) ?_
    refine Rg.pure rfl rfl rfl (Pv.asI ((xss.take (i + 1)).flatten.length) (Pv.add rfl rfl (by omega)) (by omega)) ?_
    refine Rg.pure rfl rfl rfl (Pv.assign rfl) ?_
    refine Rg.nil ?_
    refine Vc.seq ?_
    refine Vc.text (List.range 2) (sd [(0, .pure), (1, .pure)]) rfl ?_
    refine Rg.pure rfl rfl rfl (Pv.move rfl) ?_
    refine Rg.pure rfl rfl rfl (Pv.lss rfl rfl) ?_
    refine Rg.nil ?_
    refine Vc.cond rfl (fun h20 => absurd h20 (by simp only [decide_eq_true_eq]; omega)) (fun h20 => ?_)
    refine Vc.skip ?_
    refine Vc.blk ?_
    refine Vc.text (List.range 2) (sd [(0, .pure), (1, .pure)]) rfl ?_
    refine Rg.pure rfl rfl rfl (Pv.asI (i + 1) (Pv.add rfl rfl (by omega)) (by omega)) ?_
    refine Rg.pure rfl rfl rfl (Pv.move rfl) ?_
    refine Rg.nil ?_
    exact Vc.inv1 (i + 1) ⟨by omega, by omega⟩ (.cons rfl (.cons rfl (.cons rfl (.cons rfl (.cons rfl .nil))))) pulled
  ·
    simp only [decide_eq_false_iff_not] at h12
    obtain rfl : i = vs.length := by omega
    rw [List.take_of_length_le (by omega)] at hfl ⊢
    refine Vc.exit rfl ?_
    refine Vc.seq ?_
    refine Vc.text (List.range 3) (sd [(0, .pure), (1, .eff), (2, .pure)]) rfl ?_
    refine Rg.pure rfl rfl rfl (Pv.move rfl) ?_
    refine Rg.callA rfl rfl rfl (run_callF rfl) (grow_spec xss.flatten.length hT) ?_
    rintro v24 s24 own24
    refine Rg.pure rfl rfl rfl (Pv.assign rfl) ?_
    refine Rg.nil ?_
    refine Vc.seq ?_
    refine Vc.seq ?_
    refine Vc.text (List.range 3) (sd [(0, .pure), (1, .pure), (2, .pure)]) rfl ?_
    refine Rg.pure rfl rfl rfl (Pv.move rfl) ?_
    refine Rg.pure rfl rfl rfl (Pv.lenS rfl) ?_
    refine Rg.pure rfl rfl rfl (Pv.move rfl) ?_
    refine Rg.nil ?_
    refine Vc.block ?_
    refine Vc.loop3 (fun (i : Nat) (w : Value) (sg : Hl) => i ≤ vs.length ∧ Own byteE w (xss.take i).flatten sg) (fun i w sg => [(6, w), (25, .slice p vs.length c), (26, .int .i64 (vs.length : Int)), (27, .int .i64 (i : Int))]) (fun i w sg => sg) (fun i w sg => vs.length - i) 0 v24 s24 ⟨Nat.zero_le _, own24⟩ (.cons rfl (.cons rfl (.cons rfl (.cons rfl .nil)))) pulled ?_
    rintro i w sg ⟨hi, own⟩
    have hfl := flatten_le (xss := xss) i
    refine Vc.seq ?_
    refine Vc.text (List.range 1) (sd [(0, .pure)]) rfl ?_
    refine Rg.pure rfl rfl rfl (Pv.lss rfl rfl) ?_
    refine Rg.nil ?_
    refine Vc.seq ?_
    refine Vc.cond rfl (fun h28 => ?_) (fun h28 => ?_)
    ·
      simp only [decide_eq_true_eq] at h28
      obtain ⟨b, off, c1, e, _⟩ := hat.block (by omega)
      cases e
      have hft := flatten_take (xss := xss) (i := i) (by omega)
      have hfl2 := flatten_le (xss := xss) (i + 1)
      have hfll := congrArg List.length hft
      rw [List.length_append] at hfll
      have hr := ha.rows i (by omega)
      obtain ⟨⟨pk, mk, ck⟩, hs⟩ : ∃ s, vs[i]! = s := ⟨_, rfl⟩
      rw [hs] at hr
      obtain rfl : mk = xss[i]!.length := hr.cap.1
      refine Vc.skip ?_
      refine Vc.seq ?_
      refine Vc.block ?_
      refine Vc.seq ?_
      refine Vc.text (List.range 3) (sd [(0, .pure), (1, .read), (2, .pure)]) rfl ?_
      refine Rg.pure rfl rfl rfl (Pv.ixA (i) rfl rfl (by omega) (by omega)) ?_
      refine Rg.read rfl rfl rfl (Ev.as (.slice pk xss[i]!.length ck) (Ev.ldS (E := slE) i hat.src rfl rfl rfl (by omega)) (congrArg slE.val hs)) ?_
      refine Rg.pure rfl rfl rfl (Pv.assign rfl) ?_
      refine Rg.nil ?_
      refine Vc.text (List.range 4) (sd [(0, .pure), (1, .pure), (2, .eff), (3, .pure)]) rfl ?_
      refine Rg.pure rfl rfl rfl (Pv.move rfl) ?_
      refine Rg.pure rfl rfl rfl (Pv.move rfl) ?_
      refine Rg.append rfl rfl rfl rfl rfl own hr.src (by omega) (by rw [show maxLen = 9223372036854775807 from rfl]; omega) rfl (fun v33 s33 own33 => ?_)
      refine Rg.pure rfl rfl rfl (Pv.assign rfl) ?_
      refine Rg.nil ?_
      refine Vc.blk ?_
      refine Vc.text (List.range 2) (sd [(0, .pure), (1, .pure)]) rfl ?_
      refine Rg.pure rfl rfl rfl (Pv.asI (i + 1) (Pv.add rfl rfl (by omega)) (by omega)) ?_
      refine Rg.pure rfl rfl rfl (Pv.move rfl) ?_
      refine Rg.nil ?_
      exact Vc.inv3 (i + 1) v33 s33 ⟨⟨by omega, by rw [hft]; exact own33⟩, by omega⟩ (.cons rfl (.cons rfl (.cons rfl (.cons rfl .nil)))) pulled
    ·
      simp only [decide_eq_false_iff_not] at h28
      rw [List.take_of_length_le (by omega)] at own
      refine Vc.exit rfl ?_
      refine Vc.seq ?_
      refine Vc.text (List.range 2) (sd [(0, .pure), (1, .pure)]) rfl ?_
      refine Rg.pure rfl rfl rfl (Pv.move rfl) ?_
      refine Rg.pure rfl rfl rfl (Pv.assign rfl) ?_
      refine Rg.nil ?_
      exact Vc.ret (Vc.retsH rfl (.cons (.tmp rfl) (.nil)) (own) pulled)

/-! ### Blocks -/
/-- a text's block but for its sum -/
def hdG (t : List UInt8) : List UInt8 := leBytes 2 t.length ++ t
def encG (t : List UInt8) : List UInt8 := hdG t ++ leBytes 4 (crcG (hdG t))
theorem hdG_length (t : List UInt8) : (hdG t).length = t.length + 2 := by simp [hdG]; omega
theorem encG_length (t : List UInt8) : (encG t).length = t.length + 6 := by simp [encG, hdG_length]
theorem encode_spec {F : Fm} {v : Value} {t : List UInt8} (ha : Arg byteE F v t) (hN : t.length ≤ 1000) :
    Spec Try.prog 56 #[v] F [] fun v s => ∃ u, v = .tuple #[u, .int .i64 0] ∧ Own byteE u (encG t) s := by
  obtain ⟨p, c, rfl⟩ := ha.shape
  refine Spec.of (n := 20) (vs := [.slice p t.length c]) Try.func56 rfl Try.ntmps56 rfl ?_
  have hlt := crcG_lt (hdG t)
  refine Vc.seq ?_
  refine Vc.text (List.range 2) (sd [(0, .pure), (1, .pure)]) rfl ?_
  refine Rg.pure rfl rfl rfl (Pv.assign rfl) ?_
  refine Rg.pure rfl rfl rfl (Pv.assign rfl) ?_
  refine Rg.nil ?_
  refine Vc.seq ?_
  refine Vc.seq ?_
  refine Vc.text (List.range 3) (sd [(0, .pure), (1, .pure), (2, .pure)]) rfl ?_
  refine Rg.pure rfl rfl rfl (Pv.move rfl) ?_
  refine Rg.pure rfl rfl rfl (Pv.lenS rfl) ?_
  refine Rg.pure rfl rfl rfl (Pv.gtr rfl rfl) ?_
  refine Rg.nil ?_
  refine Vc.cond rfl (fun h7 => absurd h7 (by simp only [decide_eq_true_eq]; omega)) (fun h7 => ?_)
  refine Vc.skip ?_
  refine Vc.seq ?_
  refine Vc.text (List.range 8) (sd [(0, .pure), (1, .pure), (2, .pure), (3, .eff), (4, .pure), (5, .eff), (6, .eff), (7, .pure)]) rfl ?_
  refine Rg.pure rfl rfl rfl (Pv.move rfl) ?_
  refine Rg.pure rfl rfl rfl (Pv.lenS rfl) ?_
  refine Rg.pure rfl rfl rfl (Pv.asI t.length (Pv.convI rfl) (wrap_ult rfl (by show _ < 2 ^ 64; omega))) ?_
  refine Rg.callA rfl rfl rfl (run_callF rfl) (put_spec (Arg.nil (E := byteE)) (by simp) 2 t.length (by omega)) ?_
  rintro v11 s11 own11
  obtain ⟨p11, c11, rfl⟩ := own11.shape
  refine Rg.pure rfl rfl rfl (Pv.move rfl) ?_
  refine Rg.bsliceR (E := slE) (e := 22) (cs := [.slice p11 _ c11, .slice p t.length c]) [⟨p11, _, c11⟩, ⟨p, t.length, c⟩] rfl rfl rfl rfl rfl rfl rfl (by rfl) rfl (by decide) (fun b13 own13 => ?_)
  refine Rg.callA rfl rfl rfl (run_callF rfl) (concat_spec (xss := [[] ++ leBytes 2 t.length, t]) ⟨Arg.own own13 frz_sb, rfl, fun j hj => by
    have : j = 0 ∨ j = 1 := by simp at hj; omega
    rcases this with rfl | rfl
    · exact Arg.own own11 frz_sb
    · exact ha.mono fun b o h => Or.inr h⟩ (by simp) (by simp; omega)) ?_
  rintro v14 s14 own14
  rw [show ([[] ++ leBytes 2 t.length, t] : List (List UInt8)).flatten = hdG t by simp [hdG]] at own14
  refine Rg.pure rfl rfl rfl (Pv.assign rfl) ?_
  refine Rg.nil ?_
  refine Vc.seq ?_
  refine Vc.text (List.range 7) (sd [(0, .pure), (1, .pure), (2, .eff), (3, .pure), (4, .eff), (5, .pure), (6, .pure)]) rfl ?_
  refine Rg.pure rfl rfl rfl (Pv.move rfl) ?_
  refine Rg.pure rfl rfl rfl (Pv.move rfl) ?_
  refine Rg.callP rfl rfl rfl (run_callF rfl) (crc_spec (Arg.own own14 frz_sb) (by rw [hdG_length]; omega)) ?_
  rintro _ rfl
  refine Rg.pure rfl rfl rfl (Pv.asI (crcG (hdG t)) (Pv.convI rfl) (wrap_ult rfl (by show _ < 2 ^ 64; omega))) ?_
  refine Rg.callA rfl rfl rfl (run_callF rfl) (put_spec (Arg.own own14 frz_sb) (by rw [hdG_length]; omega) 4 (crcG (hdG t)) (by omega)) ?_
  rintro v19 s19 own19
  refine Rg.pure rfl rfl rfl (Pv.assign rfl) ?_
  refine Rg.pure rfl rfl rfl (Pv.assign rfl) ?_
  refine Rg.nil ?_
  exact Vc.ret (Vc.retsH rfl (.cons (.tmp rfl) (.cons (.tmp rfl) (.nil))) (⟨v19, rfl, own19⟩) pulled)
/-- the block that bytes begin with: its text, its size, an error -/
def decG (b : List UInt8) : List UInt8 × Nat × Nat :=
  if b.length < 2 then ([], 0, 2)
  else if 1000 < leNum (b.take 2) ∨ b.length < leNum (b.take 2) + 6 then ([], 0, 2)
  else if getB b (2 + leNum (b.take 2)) 4 ≠ crcG (b.take (2 + leNum (b.take 2))) then ([], 0, 3)
  else ((b.drop 2).take (leNum (b.take 2)), leNum (b.take 2) + 6, 0)
theorem getB_front (b : List UInt8) (s : Nat) : getB b 0 s = leNum (b.take s) := by rw [getB, List.drop_zero]
theorem getB_lt {b : List UInt8} {a : Nat} (h : a + 4 ≤ b.length) : getB b a 4 < 2 ^ 32 := by
  have h1 := leNum_lt ((b.drop a).take 4)
  have h2 : ((b.drop a).take 4).length = 4 := by simp; omega
  rw [h2] at h1
  exact h1
theorem num2_lt {b : List UInt8} (h : 2 ≤ b.length) : leNum (b.take 2) < 65536 := by
  have h1 := leNum_lt (b.take 2)
  rwa [show (b.take 2).length = 2 by simp; omega] at h1
theorem decode_spec {F : Fm} {v : Value} {b : List UInt8} (ha : Arg byteE F v b) (hN : b.length < 1000000) :
    Spec Try.prog 54 #[v] F [] fun v s => ∃ u, v = .tuple #[u, .int .i64 ((decG b).2.1 : Int), .int .i64 ((decG b).2.2 : Int)] ∧ Own byteE u (decG b).1 s := by
  obtain ⟨p, c, rfl⟩ := ha.shape
  by_cases h2 : b.length < 2
  · have hd : decG b = ([], 0, 2) := by rw [decG, if_pos h2]
    rw [hd]
    refine Spec.of (n := 50) (vs := [.slice p b.length c]) Try.func54 rfl Try.ntmps54 rfl ?_
    refine Vc.seq ?_
    refine Vc.text (List.range 3) (sd [(0, .pure), (1, .pure), (2, .pure)]) rfl ?_
    refine Rg.pure rfl rfl rfl (Pv.assign rfl) ?_
    refine Rg.pure rfl rfl rfl (Pv.assign rfl) ?_
    refine Rg.pure rfl rfl rfl (Pv.assign rfl) ?_
    refine Rg.nil ?_
    refine Vc.seq ?_
    refine Vc.text (List.range 7) (sd [(0, .pure), (1, .eff), (2, .pure), (3, .pure), (4, .pure), (5, .pure), (6, .pure)]) rfl ?_
    refine Rg.pure rfl rfl rfl (Pv.move rfl) ?_
    refine Rg.callP rfl rfl rfl (run_callF rfl) (get_none (ha.mono fun b o h => Or.inr h) (by omega) 0 2 (by omega) (by omega) (by omega) (by omega)) ?_
    rintro _ rfl
    refine Rg.pure rfl rfl rfl (Pv.move rfl) ?_
    refine Rg.pure rfl rfl rfl (Pv.extract rfl rfl) ?_
    refine Rg.pure rfl rfl rfl (Pv.extract rfl rfl) ?_
    refine Rg.pure rfl rfl rfl (Pv.assign rfl) ?_
    refine Rg.pure rfl rfl rfl (Pv.assign rfl) ?_
    refine Rg.nil ?_
    refine Vc.seq ?_
    refine Vc.text (List.range 4) (sd [(0, .pure), (1, .pure), (2, .pure), (3, .pure)]) rfl ?_
    refine Rg.pure rfl rfl rfl (Pv.move rfl) ?_
    refine Rg.pure rfl rfl rfl (Pv.asI 0 (Pv.convI rfl) (i64_wrap (by omega))) ?_
    refine Rg.pure rfl rfl rfl (Pv.asI (2) (Pv.add rfl rfl (by omega)) (by omega)) ?_
    refine Rg.pure rfl rfl rfl (Pv.assign rfl) ?_
    refine Rg.nil ?_
    refine Vc.seq ?_
    refine Vc.seq ?_
    refine Vc.text (List.range 13) (sd [(0, .pure), (1, .pure), (2, .pure), (3, .pure), (4, .pure), (5, .pure), (6, .pure), (7, .pure), (8, .pure), (9, .pure), (10, .pure), (11, .pure), (12, .pure)]) rfl ?_
    refine Rg.pure rfl rfl rfl (Pv.move rfl) ?_
    refine Rg.pure rfl rfl rfl (Pv.not rfl) ?_
    refine Rg.pure rfl rfl rfl (Pv.move rfl) ?_
    refine Rg.split (t := 20) rfl (fun h20 => ?_) (fun h20 => absurd h20 (by decide))
    iterate 2 (first | refine Rg.skipP rfl rfl rfl ?_ | refine Rg.skipR rfl rfl rfl ?_ | refine Rg.skipE rfl rfl rfl ?_)
    refine Rg.pure rfl rfl rfl (Pv.pickT rfl rfl) ?_
    refine Rg.pure rfl rfl rfl (Pv.move rfl) ?_
    iterate 5 (first | refine Rg.skipP rfl rfl rfl ?_ | refine Rg.skipR rfl rfl rfl ?_ | refine Rg.skipE rfl rfl rfl ?_)
    refine Rg.pure rfl rfl rfl (Pv.pickT rfl rfl) ?_
    refine Rg.nil ?_
    refine Vc.cond rfl (fun h30 => ?_) (fun h30 => absurd h30 (by decide))
    refine Vc.seq ?_
    refine Vc.text (List.range 3) (sd [(0, .pure), (1, .pure), (2, .pure)]) rfl ?_
    refine Rg.pure rfl rfl rfl (Pv.assign rfl) ?_
    refine Rg.pure rfl rfl rfl (Pv.assign rfl) ?_
    refine Rg.pure rfl rfl rfl (Pv.assign rfl) ?_
    refine Rg.nil ?_
    exact Vc.ret (Vc.retsH rfl (.cons (.tmp rfl) (.cons (.tmp rfl) (.cons (.tmp rfl) (.nil)))) (⟨_, rfl, Own.nil⟩) pulled)
  · have hn := num2_lt (b := b) (by omega)
    obtain ⟨n, hnn⟩ : ∃ n, n = leNum (b.take 2) := ⟨_, rfl⟩
    have hd : decG b = if 1000 < n ∨ b.length < n + 6 then ([], 0, 2) else if getB b (2 + n) 4 ≠ crcG (b.take (2 + n)) then ([], 0, 3) else ((b.drop 2).take n, n + 6, 0) := by rw [decG, if_neg h2, hnn]
    have hcap : b.length ≤ c := ha.cap.2
    refine Spec.of (n := 50) (vs := [.slice p b.length c]) Try.func54 rfl Try.ntmps54 rfl ?_
    refine Vc.seq ?_
    refine Vc.text (List.range 3) (sd [(0, .pure), (1, .pure), (2, .pure)]) rfl ?_
    refine Rg.pure rfl rfl rfl (Pv.assign rfl) ?_
    refine Rg.pure rfl rfl rfl (Pv.assign rfl) ?_
    refine Rg.pure rfl rfl rfl (Pv.assign rfl) ?_
    refine Rg.nil ?_
    refine Vc.seq ?_
    refine Vc.text (List.range 7) (sd [(0, .pure), (1, .eff), (2, .pure), (3, .pure), (4, .pure), (5, .pure), (6, .pure)]) rfl ?_
    refine Rg.pure rfl rfl rfl (Pv.move rfl) ?_
    refine Rg.callP rfl rfl rfl (run_callF rfl) (get_spec (ha.mono fun b o h => Or.inr h) (by omega) 0 2 (by omega) (by omega) (by omega)) ?_
    rintro _ rfl
    rw [getB_front, ← hnn]
    refine Rg.pure rfl rfl rfl (Pv.move rfl) ?_
    refine Rg.pure rfl rfl rfl (Pv.extract rfl rfl) ?_
    refine Rg.pure rfl rfl rfl (Pv.extract rfl rfl) ?_
    refine Rg.pure rfl rfl rfl (Pv.assign rfl) ?_
    refine Rg.pure rfl rfl rfl (Pv.assign rfl) ?_
    refine Rg.nil ?_
    refine Vc.seq ?_
    refine Vc.text (List.range 4) (sd [(0, .pure), (1, .pure), (2, .pure), (3, .pure)]) rfl ?_
    refine Rg.pure rfl rfl rfl (Pv.move rfl) ?_
    refine Rg.pure rfl rfl rfl (Pv.asI n (Pv.convI rfl) (i64_wrap (by omega))) ?_
    refine Rg.pure rfl rfl rfl (Pv.asI (2 + n) (Pv.add rfl rfl (by omega)) (by omega)) ?_
    refine Rg.pure rfl rfl rfl (Pv.assign rfl) ?_
    refine Rg.nil ?_
    refine Vc.seq ?_
    refine Vc.seq ?_
    refine Vc.text (List.range 13) (sd [(0, .pure), (1, .pure), (2, .pure), (3, .pure), (4, .pure), (5, .pure), (6, .pure), (7, .pure), (8, .pure), (9, .pure), (10, .pure), (11, .pure), (12, .pure)]) rfl ?_
    refine Rg.pure rfl rfl rfl (Pv.move rfl) ?_
    refine Rg.pure rfl rfl rfl (Pv.not rfl) ?_
    refine Rg.pure rfl rfl rfl (Pv.move rfl) ?_
    refine Rg.split (t := 20) rfl (fun h20 => absurd h20 (by decide)) (fun h20 => ?_)
    refine Rg.pure rfl rfl rfl (Pv.move rfl) ?_
    refine Rg.pure rfl rfl rfl (Pv.gtr rfl rfl) ?_
    refine Rg.pure rfl rfl rfl (Pv.pickF rfl rfl) ?_
    refine Rg.pure rfl rfl rfl (Pv.move rfl) ?_
    refine Rg.split (t := 24) rfl (fun h24 => ?_) (fun h24 => ?_)
    ·
      simp only [decide_eq_true_eq] at h24
      iterate 5 (first | refine Rg.skipP rfl rfl rfl ?_ | refine Rg.skipR rfl rfl rfl ?_ | refine Rg.skipE rfl rfl rfl ?_)
      refine Rg.pure rfl rfl rfl (Pv.pickT rfl rfl) ?_
      refine Rg.nil ?_
      refine Vc.cond rfl (fun h30 => ?_) (fun h30 => absurd h30 (by decide))
      try simp only [decide_eq_true_eq] at h30
      have hd1 : decG b = ([], 0, 2) := by rw [hd, if_pos (by first | exact .inl (by omega) | exact .inr (by omega))]
      refine Vc.seq ?_
      refine Vc.text (List.range 3) (sd [(0, .pure), (1, .pure), (2, .pure)]) rfl ?_
      refine Rg.pure rfl rfl rfl (Pv.assign rfl) ?_
      refine Rg.pure rfl rfl rfl (Pv.assign rfl) ?_
      refine Rg.pure rfl rfl rfl (Pv.assign rfl) ?_
      refine Rg.nil ?_
      exact Vc.ret (Vc.retsH rfl (.cons (.tmp rfl) (.cons (.tmp rfl) (.cons (.tmp rfl) (.nil)))) (⟨_, by rw [hd1]; rfl, by rw [hd1]; exact Own.nil⟩) pulled)
    ·
      simp only [decide_eq_false_iff_not] at h24
      refine Rg.pure rfl rfl rfl (Pv.move rfl) ?_
      refine Rg.pure rfl rfl rfl (Pv.lenS rfl) ?_
      refine Rg.pure rfl rfl rfl (Pv.move rfl) ?_
      refine Rg.pure rfl rfl rfl (Pv.asI (2 + n + 4) (Pv.add rfl rfl (by omega)) (by omega)) ?_
      refine Rg.pure rfl rfl rfl (Pv.lss rfl rfl) ?_
      refine Rg.pure rfl rfl rfl (Pv.pickF rfl rfl) ?_
      refine Rg.nil ?_
      refine Vc.cond rfl (fun h30 => ?_) (fun h30 => ?_)
      ·
        try simp only [decide_eq_true_eq] at h30
        have hd1 : decG b = ([], 0, 2) := by rw [hd, if_pos (by first | exact .inl (by omega) | exact .inr (by omega))]
        refine Vc.seq ?_
        refine Vc.text (List.range 3) (sd [(0, .pure), (1, .pure), (2, .pure)]) rfl ?_
        refine Rg.pure rfl rfl rfl (Pv.assign rfl) ?_
        refine Rg.pure rfl rfl rfl (Pv.assign rfl) ?_
        refine Rg.pure rfl rfl rfl (Pv.assign rfl) ?_
        refine Rg.nil ?_
        exact Vc.ret (Vc.retsH rfl (.cons (.tmp rfl) (.cons (.tmp rfl) (.cons (.tmp rfl) (.nil)))) (⟨_, by rw [hd1]; rfl, by rw [hd1]; exact Own.nil⟩) pulled)
      ·
        simp only [decide_eq_false_iff_not] at h30
        have hb4 : 2 + n + 4 ≤ b.length := by omega
        have hg4 := getB_lt hb4
        have hcl := crcG_lt (b.take (2 + n))
        rw [if_neg (by omega)] at hd
        refine Vc.skip ?_
        refine Vc.seq ?_
        refine Vc.seq ?_
        refine Vc.text (List.range 8) (sd [(0, .pure), (1, .pure), (2, .eff), (3, .pure), (4, .pure), (5, .pure), (6, .pure), (7, .pure)]) rfl ?_
        refine Rg.pure rfl rfl rfl (Pv.move rfl) ?_
        refine Rg.pure rfl rfl rfl (Pv.move rfl) ?_
        refine Rg.callP rfl rfl rfl (run_callF rfl) (get_spec (ha.mono fun b o h => Or.inr h) (by omega) (2 + n) 4 (by omega) (by omega) (by omega)) ?_
        rintro _ rfl
        refine Rg.pure rfl rfl rfl (Pv.move rfl) ?_
        refine Rg.pure rfl rfl rfl (Pv.extract rfl rfl) ?_
        refine Rg.pure rfl rfl rfl (Pv.extract rfl rfl) ?_
        refine Rg.pure rfl rfl rfl (Pv.assign rfl) ?_
        refine Rg.pure rfl rfl rfl (Pv.assign rfl) ?_
        refine Rg.nil ?_
        refine Vc.seq ?_
        refine Vc.text (List.range 7) (sd [(0, .pure), (1, .pure), (2, .pure), (3, .pure), (4, .pure), (5, .eff), (6, .pure)]) rfl ?_
        refine Rg.pure rfl rfl rfl (Pv.move rfl) ?_
        refine Rg.pure rfl rfl rfl (Pv.asI (getB b (2 + n) 4) (Pv.convI rfl) (wrap_ult rfl (by show _ < 2 ^ 32; omega))) ?_
        refine Rg.pure rfl rfl rfl (Pv.move rfl) ?_
        refine Rg.pure rfl rfl rfl (Pv.move rfl) ?_
        refine Rg.pure rfl rfl rfl (Pv.slTo (2 + n) rfl rfl (by omega)) ?_
        refine Rg.callP rfl rfl rfl (run_callF rfl) (crc_spec ((ha.take (k := 2 + n) (by omega)).mono fun b o h => Or.inr h) (by simp; omega)) ?_
        rintro _ rfl
        refine Rg.pure rfl rfl rfl (Pv.neq rfl rfl) ?_
        refine Rg.nil ?_
        refine Vc.cond rfl (fun h43 => ?_) (fun h43 => ?_)
        ·
          simp only [bne_iff_ne, ne_eq] at h43
          rw [if_pos (by intro h; exact h43 (by rw [h]))] at hd
          refine Vc.seq ?_
          refine Vc.text (List.range 3) (sd [(0, .pure), (1, .pure), (2, .pure)]) rfl ?_
          refine Rg.pure rfl rfl rfl (Pv.assign rfl) ?_
          refine Rg.pure rfl rfl rfl (Pv.assign rfl) ?_
          refine Rg.pure rfl rfl rfl (Pv.assign rfl) ?_
          refine Rg.nil ?_
          exact Vc.ret (Vc.retsH rfl (.cons (.tmp rfl) (.cons (.tmp rfl) (.cons (.tmp rfl) (.nil)))) (⟨_, by rw [hd]; rfl, by rw [hd]; exact Own.nil⟩) pulled)
        ·
          simp only [bne_eq_false_iff_eq] at h43
          rw [if_neg (by simp only [ne_eq, Classical.not_not]; omega)] at hd
          refine Vc.skip ?_
          refine Vc.seq ?_
          refine Vc.text (List.range 9) (sd [(0, .pure), (1, .pure), (2, .pure), (3, .eff), (4, .pure), (5, .pure), (6, .pure), (7, .pure), (8, .pure)]) rfl ?_
          refine Rg.pure rfl rfl rfl (Pv.move rfl) ?_
          refine Rg.pure rfl rfl rfl (Pv.move rfl) ?_
          refine Rg.pure rfl rfl rfl (Pv.sl (lv := some (.int .i64 ((2 : Nat) : Int))) (hv := some (.int .i64 ((2 + n : Nat) : Int))) 2 (2 + n) rfl rfl rfl (by omega) (by omega) (by simp)) ?_
          refine Rg.callA rfl rfl rfl (run_callF rfl) (clone_spec (((ha.from (i := 2) (by omega)).take (k := 2 + n - 2) (by simp; omega)).mono fun b o h => Or.inr h) (by simp; omega)) ?_
          rintro v47 s47 own47
          rw [show 2 + n - 2 = n by omega] at own47
          refine Rg.pure rfl rfl rfl (Pv.move rfl) ?_
          refine Rg.pure rfl rfl rfl (Pv.asI (n + 6) (Pv.add rfl rfl (by omega)) (by omega)) ?_
          refine Rg.pure rfl rfl rfl (Pv.assign rfl) ?_
          refine Rg.pure rfl rfl rfl (Pv.assign rfl) ?_
          refine Rg.pure rfl rfl rfl (Pv.assign rfl) ?_
          refine Rg.nil ?_
          exact Vc.ret (Vc.retsH rfl (.cons (.tmp rfl) (.cons (.tmp rfl) (.cons (.tmp rfl) (.nil)))) (⟨v47, by rw [hd]; rfl, by rw [hd]; exact own47⟩) pulled)
end Go.Proofs.Ytbhaahohaccecaa
